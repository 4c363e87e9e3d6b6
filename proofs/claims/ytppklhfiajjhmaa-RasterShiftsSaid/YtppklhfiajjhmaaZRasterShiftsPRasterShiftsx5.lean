/- What is proved: texts of the law RasterShifts, written by program, anew in fewer bytes. Conditions: none but those in each statement. -/
import Derived.Test.YtppklhfiajjhmaaZRasterShiftsPRasterShiftsx0
import Derived.Test.YtppklhfiajjhmaaZRasterShiftsPRasterShiftsx3
import Derived.Test.YtppklhfiajjhmaaZRasterShiftsPRasterShiftsx4
import Derived.Test.YtppklhfiajjhmaaZRasterShiftsRsX
namespace Go.Proofs.Ytppklhfiajjhmaa.PRasterShifts
open Go.RowKit Go.Proofs.YtppklhfiajjhmaaW.PrintWords Go.Proofs.YtppklhfiajjhmaaW.PrintLast Go.Proofs.YtppklhfiajjhmaaW.PrintMore
attribute [local go_sem] max2_int min2_int max_two min_two max_three min_three max_four min_four   -- for this text's walks alone
set_option linter.unusedVariables false
set_option linter.unusedSimpArgs false

/-! ### decoupagelaw28_RasterShifts: function 9 -/
mutual
def decoupagelaw28_RasterShifts.j0 : Nat → List (S39) → Int → Int → Bool → Int → Int → Int → Int → Int → Option (Bool)
 | 0, _, _, _, _, _, _, _, _, _ => none
 | k + 1, x0, x2, x3, x37, x167000, x167001, x167002, x167003, x167004 => if x37 = true then ((decoupagelaw28_awake.f k).bind fun t169 => (some t169)) else (decoupagelaw28_RasterShifts.l0 k x0 x2 x3 ([] : List (S39)) (x0.length : Int) 0 x167000 x167001 x167002 x167003 x167004)
def decoupagelaw28_RasterShifts.l0 : Nat → List (S39) → Int → Int → List (S39) → Int → Int → Int → Int → Int → Int → Int → Option (Bool)
 | 0, _, _, _, _, _, _, _, _, _, _, _ => none
 | k + 1, x0, x2, x3, x9, x40, x41, x167000, x167001, x167002, x167003, x167004 => if x41 < x40 then (if 0 ≤ x41 then (if x41 < (x0.length : Int) then ((decoupagelaw28_near.f ((rd_T39 x0 x41).f2.f0) ((rd_T39 x0 x41).f2.f1) ((rd_T39 x0 x41).f2.f2) ((rd_T39 x0 x41).f2.f3)).bind fun t172 => (if t172 = true then ((decoupagelaw28_near.f ((rd_T39 x0 x41).f3.f0) ((rd_T39 x0 x41).f3.f1) ((rd_T39 x0 x41).f3.f2) ((rd_T39 x0 x41).f3.f3)).bind fun t173 => (if t173 = true then ((decoupagelaw28_near.f ((rd_T39 x0 x41).f4.f0) ((rd_T39 x0 x41).f4.f1) ((rd_T39 x0 x41).f4.f2) ((rd_T39 x0 x41).f4.f3)).bind fun t174 => (decoupagelaw28_RasterShifts.j2 k x0 x2 x3 x9 x40 x41 (!t174) x167000 x167001 x167002 x167003 x167004 ((rd_T39 x0 x41).f0) ((rd_T39 x0 x41).f1) ((rd_T39 x0 x41).f2.f0) ((rd_T39 x0 x41).f2.f1) ((rd_T39 x0 x41).f2.f2) ((rd_T39 x0 x41).f2.f3) ((rd_T39 x0 x41).f3.f0) ((rd_T39 x0 x41).f3.f1) ((rd_T39 x0 x41).f3.f2) ((rd_T39 x0 x41).f3.f3) ((rd_T39 x0 x41).f4.f0) ((rd_T39 x0 x41).f4.f1) ((rd_T39 x0 x41).f4.f2) ((rd_T39 x0 x41).f4.f3) ((rd_T39 x0 x41).f5))) else (decoupagelaw28_RasterShifts.j2 k x0 x2 x3 x9 x40 x41 true x167000 x167001 x167002 x167003 x167004 ((rd_T39 x0 x41).f0) ((rd_T39 x0 x41).f1) ((rd_T39 x0 x41).f2.f0) ((rd_T39 x0 x41).f2.f1) ((rd_T39 x0 x41).f2.f2) ((rd_T39 x0 x41).f2.f3) ((rd_T39 x0 x41).f3.f0) ((rd_T39 x0 x41).f3.f1) ((rd_T39 x0 x41).f3.f2) ((rd_T39 x0 x41).f3.f3) ((rd_T39 x0 x41).f4.f0) ((rd_T39 x0 x41).f4.f1) ((rd_T39 x0 x41).f4.f2) ((rd_T39 x0 x41).f4.f3) ((rd_T39 x0 x41).f5)))) else (decoupagelaw28_RasterShifts.j2 k x0 x2 x3 x9 x40 x41 true x167000 x167001 x167002 x167003 x167004 ((rd_T39 x0 x41).f0) ((rd_T39 x0 x41).f1) ((rd_T39 x0 x41).f2.f0) ((rd_T39 x0 x41).f2.f1) ((rd_T39 x0 x41).f2.f2) ((rd_T39 x0 x41).f2.f3) ((rd_T39 x0 x41).f3.f0) ((rd_T39 x0 x41).f3.f1) ((rd_T39 x0 x41).f3.f2) ((rd_T39 x0 x41).f3.f3) ((rd_T39 x0 x41).f4.f0) ((rd_T39 x0 x41).f4.f1) ((rd_T39 x0 x41).f4.f2) ((rd_T39 x0 x41).f4.f3) ((rd_T39 x0 x41).f5)))) else (none)) else (none)) else ((raster_Draw.f k x0 x167000 x167001 x167002 x167003 x167004).bind fun bt191 => ((raster_Draw.f k x9 (wrap64 (x167000 + (wrap64 (x2)))) (wrap64 (x167001 + (wrap64 (x3)))) x167002 x167003 x167004).bind fun bt195 => (if bt195.2 = 0 then (if bt191.2 = 0 then (decoupagelaw28_RasterShifts.j3 k bt191.1 bt195.1 ((bt191.1.length : Int) != (bt195.1.length : Int))) else (decoupagelaw28_RasterShifts.j3 k bt191.1 bt195.1 true)) else (if bt191.2 = 0 then ((decoupageref28_Right.f (wrap64 (x167000 + (wrap64 (x2)))) (wrap64 (x167001 + (wrap64 (x3)))) x167002 x167003 x167004).bind fun t199 => (some (!t199))) else (some false)))))
def decoupagelaw28_RasterShifts.j2 : Nat → List (S39) → Int → Int → List (S39) → Int → Int → Bool → Int → Int → Int → Int → Int → Int → Int → Int → Int → Int → Int → Int → Int → Int → Int → Int → Int → Int → Int → Int → Option (Bool)
 | 0, _, _, _, _, _, _, _, _, _, _, _, _, _, _, _, _, _, _, _, _, _, _, _, _, _, _, _ => none
 | k + 1, x0, x2, x3, x9, x40, x41, x63, x167000, x167001, x167002, x167003, x167004, x172000, x172001, x172002, x172003, x172004, x172005, x172006, x172007, x172008, x172009, x172010, x172011, x172012, x172013, x172014 => if x63 = true then (some true) else ((decoupagelaw28_shift.f x172002 x172003 x172004 x172005 x2 x3).bind fun bt175 => ((decoupagelaw28_shift.f x172006 x172007 x172008 x172009 x2 x3).bind fun bt179 => ((decoupagelaw28_shift.f x172010 x172011 x172012 x172013 x2 x3).bind fun bt183 => (if x9.length < 1172812402961 then (decoupagelaw28_RasterShifts.l0 k x0 x2 x3 (x9 ++ [(⟨x172000, x172001, (⟨bt175.1, bt175.2.1, bt175.2.2.1, bt175.2.2.2⟩ : S37), (⟨bt179.1, bt179.2.1, bt179.2.2.1, bt179.2.2.2⟩ : S37), (⟨bt183.1, bt183.2.1, bt183.2.2.1, bt183.2.2.2⟩ : S37), x172014⟩ : S39)]) x40 (wrap64 (x41 + 1)) x167000 x167001 x167002 x167003 x167004) else (none)))))
def decoupagelaw28_RasterShifts.j3 : Nat → List Int → List Int → Bool → Option (Bool)
 | 0, _, _, _ => none
 | k + 1, x13, x15, x129 => if x129 = true then (some false) else (decoupagelaw28_RasterShifts.l1 k x13 x15 (x13.length : Int) 0)
def decoupagelaw28_RasterShifts.l1 : Nat → List Int → List Int → Int → Int → Option (Bool)
 | 0, _, _, _, _ => none
 | k + 1, x13, x15, x131, x132 => if x132 < x131 then (if 0 ≤ x132 then (if x132 < (x13.length : Int) then (if x132 < (x15.length : Int) then (if (rd x13 x132) = (rd x15 x132) then (decoupagelaw28_RasterShifts.l1 k x13 x15 x131 (wrap64 (x132 + 1))) else (some false)) else (none)) else (none)) else (none)) else (some true)
end
def decoupagelaw28_RasterShifts.f (k : Nat) (l0 : List (S39)) (a1_0 : Int) (a1_1 : Int) (a1_2 : Int) (a1_3 : Int) (a1_4 : Int) (a2 : Int) (a3 : Int) : Option (Bool) := (decoupagelaw28_awake.f k).bind fun t167 => (if t167 = true then (if (l0.length : Int) > 20 then (decoupagelaw28_RasterShifts.j0 k l0 a2 a3 true a1_0 a1_1 a1_2 a1_3 a1_4) else ((decoupageref28_Right.f a1_0 a1_1 a1_2 a1_3 a1_4).bind fun t168 => (if t168 = true then (decoupagelaw28_RasterShifts.j0 k l0 a2 a3 (decide ((wrap64 (a1_3 * a1_4)) > 400)) a1_0 a1_1 a1_2 a1_3 a1_4) else (decoupagelaw28_RasterShifts.j0 k l0 a2 a3 true a1_0 a1_1 a1_2 a1_3 a1_4)))) else (decoupagelaw28_RasterShifts.j0 k l0 a2 a3 true a1_0 a1_1 a1_2 a1_3 a1_4))
theorem decoupagelaw28_RasterShifts.mono_l : ∀ k, (∀ y0 y1 y2 y3 y4 y5 y6 y7 y8, LeO (decoupagelaw28_RasterShifts.j0 k y0 y1 y2 y3 y4 y5 y6 y7 y8) (decoupagelaw28_RasterShifts.j0 (k + 1) y0 y1 y2 y3 y4 y5 y6 y7 y8)) ∧ (∀ y0 y1 y2 y3 y4 y5 y6 y7 y8 y9 y10, LeO (decoupagelaw28_RasterShifts.l0 k y0 y1 y2 y3 y4 y5 y6 y7 y8 y9 y10) (decoupagelaw28_RasterShifts.l0 (k + 1) y0 y1 y2 y3 y4 y5 y6 y7 y8 y9 y10)) ∧ (∀ y0 y1 y2 y3 y4 y5 y6 y7 y8 y9 y10 y11 y12 y13 y14 y15 y16 y17 y18 y19 y20 y21 y22 y23 y24 y25 y26, LeO (decoupagelaw28_RasterShifts.j2 k y0 y1 y2 y3 y4 y5 y6 y7 y8 y9 y10 y11 y12 y13 y14 y15 y16 y17 y18 y19 y20 y21 y22 y23 y24 y25 y26) (decoupagelaw28_RasterShifts.j2 (k + 1) y0 y1 y2 y3 y4 y5 y6 y7 y8 y9 y10 y11 y12 y13 y14 y15 y16 y17 y18 y19 y20 y21 y22 y23 y24 y25 y26)) ∧ (∀ y0 y1 y2, LeO (decoupagelaw28_RasterShifts.j3 k y0 y1 y2) (decoupagelaw28_RasterShifts.j3 (k + 1) y0 y1 y2)) ∧ (∀ y0 y1 y2 y3, LeO (decoupagelaw28_RasterShifts.l1 k y0 y1 y2 y3) (decoupagelaw28_RasterShifts.l1 (k + 1) y0 y1 y2 y3))
 | 0 => ⟨fun _ _ _ _ _ _ _ _ _ r h => by simp [decoupagelaw28_RasterShifts.j0] at h, fun _ _ _ _ _ _ _ _ _ _ _ r h => by simp [decoupagelaw28_RasterShifts.l0] at h, fun _ _ _ _ _ _ _ _ _ _ _ _ _ _ _ _ _ _ _ _ _ _ _ _ _ _ _ r h => by simp [decoupagelaw28_RasterShifts.j2] at h, fun _ _ _ r h => by simp [decoupagelaw28_RasterShifts.j3] at h, fun _ _ _ _ r h => by simp [decoupagelaw28_RasterShifts.l1] at h⟩
 | k + 1 => by
  obtain ⟨ih0, ih1, ih2, ih3, ih4⟩ := decoupagelaw28_RasterShifts.mono_l k
  refine ⟨?_, ?_, ?_, ?_, ?_⟩
  ·intro y0 y1 y2 y3 y4 y5 y6 y7 y8
   unfold decoupagelaw28_RasterShifts.j0
   repeat' first
   | (with_reducible exact ih0 _ _ _ _ _ _ _ _ _)
   | (with_reducible exact ih1 _ _ _ _ _ _ _ _ _ _ _)
   | (with_reducible exact ih2 _ _ _ _ _ _ _ _ _ _ _ _ _ _ _ _ _ _ _ _ _ _ _ _ _ _ _)
   | (with_reducible exact ih3 _ _ _)
   | (with_reducible exact ih4 _ _ _ _)
   | (with_reducible exact decoupagelaw28_awake.mono _)
   | (with_reducible exact raster_Draw.mono _ _ _ _ _ _ _)
   | (with_reducible exact LeO.refl _)
   | (with_reducible exact LeO.none _)
   | (with_reducible refine LeO.ite ?_ ?_)
   | (with_reducible refine LeO.bind ?_ (fun _ => ?_))
   | exact ih0 _ _ _ _ _ _ _ _ _
   | exact ih1 _ _ _ _ _ _ _ _ _ _ _
   | exact ih2 _ _ _ _ _ _ _ _ _ _ _ _ _ _ _ _ _ _ _ _ _ _ _ _ _ _ _
   | exact ih3 _ _ _
   | exact ih4 _ _ _ _
   | exact decoupagelaw28_awake.mono _
   | exact raster_Draw.mono _ _ _ _ _ _ _
   | exact LeO.none _
   | refine LeO.ite ?_ ?_
   | refine LeO.bind ?_ (fun _ => ?_)
  ·intro y0 y1 y2 y3 y4 y5 y6 y7 y8 y9 y10
   unfold decoupagelaw28_RasterShifts.l0
   repeat' first
   | (with_reducible exact ih0 _ _ _ _ _ _ _ _ _)
   | (with_reducible exact ih1 _ _ _ _ _ _ _ _ _ _ _)
   | (with_reducible exact ih2 _ _ _ _ _ _ _ _ _ _ _ _ _ _ _ _ _ _ _ _ _ _ _ _ _ _ _)
   | (with_reducible exact ih3 _ _ _)
   | (with_reducible exact ih4 _ _ _ _)
   | (with_reducible exact decoupagelaw28_awake.mono _)
   | (with_reducible exact raster_Draw.mono _ _ _ _ _ _ _)
   | (with_reducible exact LeO.refl _)
   | (with_reducible exact LeO.none _)
   | (with_reducible refine LeO.ite ?_ ?_)
   | (with_reducible refine LeO.bind ?_ (fun _ => ?_))
   | exact ih0 _ _ _ _ _ _ _ _ _
   | exact ih1 _ _ _ _ _ _ _ _ _ _ _
   | exact ih2 _ _ _ _ _ _ _ _ _ _ _ _ _ _ _ _ _ _ _ _ _ _ _ _ _ _ _
   | exact ih3 _ _ _
   | exact ih4 _ _ _ _
   | exact decoupagelaw28_awake.mono _
   | exact raster_Draw.mono _ _ _ _ _ _ _
   | exact LeO.none _
   | refine LeO.ite ?_ ?_
   | refine LeO.bind ?_ (fun _ => ?_)
  ·intro y0 y1 y2 y3 y4 y5 y6 y7 y8 y9 y10 y11 y12 y13 y14 y15 y16 y17 y18 y19 y20 y21 y22 y23 y24 y25 y26
   unfold decoupagelaw28_RasterShifts.j2
   repeat' first
   | (with_reducible exact ih0 _ _ _ _ _ _ _ _ _)
   | (with_reducible exact ih1 _ _ _ _ _ _ _ _ _ _ _)
   | (with_reducible exact ih2 _ _ _ _ _ _ _ _ _ _ _ _ _ _ _ _ _ _ _ _ _ _ _ _ _ _ _)
   | (with_reducible exact ih3 _ _ _)
   | (with_reducible exact ih4 _ _ _ _)
   | (with_reducible exact decoupagelaw28_awake.mono _)
   | (with_reducible exact raster_Draw.mono _ _ _ _ _ _ _)
   | (with_reducible exact LeO.refl _)
   | (with_reducible exact LeO.none _)
   | (with_reducible refine LeO.ite ?_ ?_)
   | (with_reducible refine LeO.bind ?_ (fun _ => ?_))
   | exact ih0 _ _ _ _ _ _ _ _ _
   | exact ih1 _ _ _ _ _ _ _ _ _ _ _
   | exact ih2 _ _ _ _ _ _ _ _ _ _ _ _ _ _ _ _ _ _ _ _ _ _ _ _ _ _ _
   | exact ih3 _ _ _
   | exact ih4 _ _ _ _
   | exact decoupagelaw28_awake.mono _
   | exact raster_Draw.mono _ _ _ _ _ _ _
   | exact LeO.none _
   | refine LeO.ite ?_ ?_
   | refine LeO.bind ?_ (fun _ => ?_)
  ·intro y0 y1 y2
   unfold decoupagelaw28_RasterShifts.j3
   repeat' first
   | (with_reducible exact ih0 _ _ _ _ _ _ _ _ _)
   | (with_reducible exact ih1 _ _ _ _ _ _ _ _ _ _ _)
   | (with_reducible exact ih2 _ _ _ _ _ _ _ _ _ _ _ _ _ _ _ _ _ _ _ _ _ _ _ _ _ _ _)
   | (with_reducible exact ih3 _ _ _)
   | (with_reducible exact ih4 _ _ _ _)
   | (with_reducible exact decoupagelaw28_awake.mono _)
   | (with_reducible exact raster_Draw.mono _ _ _ _ _ _ _)
   | (with_reducible exact LeO.refl _)
   | (with_reducible exact LeO.none _)
   | (with_reducible refine LeO.ite ?_ ?_)
   | (with_reducible refine LeO.bind ?_ (fun _ => ?_))
   | exact ih0 _ _ _ _ _ _ _ _ _
   | exact ih1 _ _ _ _ _ _ _ _ _ _ _
   | exact ih2 _ _ _ _ _ _ _ _ _ _ _ _ _ _ _ _ _ _ _ _ _ _ _ _ _ _ _
   | exact ih3 _ _ _
   | exact ih4 _ _ _ _
   | exact decoupagelaw28_awake.mono _
   | exact raster_Draw.mono _ _ _ _ _ _ _
   | exact LeO.none _
   | refine LeO.ite ?_ ?_
   | refine LeO.bind ?_ (fun _ => ?_)
  ·intro y0 y1 y2 y3
   unfold decoupagelaw28_RasterShifts.l1
   repeat' first
   | (with_reducible exact ih0 _ _ _ _ _ _ _ _ _)
   | (with_reducible exact ih1 _ _ _ _ _ _ _ _ _ _ _)
   | (with_reducible exact ih2 _ _ _ _ _ _ _ _ _ _ _ _ _ _ _ _ _ _ _ _ _ _ _ _ _ _ _)
   | (with_reducible exact ih3 _ _ _)
   | (with_reducible exact ih4 _ _ _ _)
   | (with_reducible exact decoupagelaw28_awake.mono _)
   | (with_reducible exact raster_Draw.mono _ _ _ _ _ _ _)
   | (with_reducible exact LeO.refl _)
   | (with_reducible exact LeO.none _)
   | (with_reducible refine LeO.ite ?_ ?_)
   | (with_reducible refine LeO.bind ?_ (fun _ => ?_))
   | exact ih0 _ _ _ _ _ _ _ _ _
   | exact ih1 _ _ _ _ _ _ _ _ _ _ _
   | exact ih2 _ _ _ _ _ _ _ _ _ _ _ _ _ _ _ _ _ _ _ _ _ _ _ _ _ _ _
   | exact ih3 _ _ _
   | exact ih4 _ _ _ _
   | exact decoupagelaw28_awake.mono _
   | exact raster_Draw.mono _ _ _ _ _ _ _
   | exact LeO.none _
   | refine LeO.ite ?_ ?_
   | refine LeO.bind ?_ (fun _ => ?_)
theorem decoupagelaw28_RasterShifts.mono : ∀ a0 a1 a2 a3 a4 a5 a6 a7 k, LeO (decoupagelaw28_RasterShifts.f k a0 a1 a2 a3 a4 a5 a6 a7) (decoupagelaw28_RasterShifts.f (k + 1) a0 a1 a2 a3 a4 a5 a6 a7) := by
 intro a0 a1 a2 a3 a4 a5 a6 a7 k
 obtain ⟨ih0, ih1, ih2, ih3, ih4⟩ := decoupagelaw28_RasterShifts.mono_l k
 unfold decoupagelaw28_RasterShifts.f
 repeat' first
   | (with_reducible exact ih0 _ _ _ _ _ _ _ _ _)
   | (with_reducible exact ih1 _ _ _ _ _ _ _ _ _ _ _)
   | (with_reducible exact ih2 _ _ _ _ _ _ _ _ _ _ _ _ _ _ _ _ _ _ _ _ _ _ _ _ _ _ _)
   | (with_reducible exact ih3 _ _ _)
   | (with_reducible exact ih4 _ _ _ _)
   | (with_reducible exact decoupagelaw28_awake.mono _)
   | (with_reducible exact raster_Draw.mono _ _ _ _ _ _ _)
   | (with_reducible exact LeO.refl _)
   | (with_reducible exact LeO.none _)
   | (with_reducible refine LeO.ite ?_ ?_)
   | (with_reducible refine LeO.bind ?_ (fun _ => ?_))
   | exact ih0 _ _ _ _ _ _ _ _ _
   | exact ih1 _ _ _ _ _ _ _ _ _ _ _
   | exact ih2 _ _ _ _ _ _ _ _ _ _ _ _ _ _ _ _ _ _ _ _ _ _ _ _ _ _ _
   | exact ih3 _ _ _
   | exact ih4 _ _ _ _
   | exact decoupagelaw28_awake.mono _
   | exact raster_Draw.mono _ _ _ _ _ _ _
   | exact LeO.none _
   | refine LeO.ite ?_ ?_
   | refine LeO.bind ?_ (fun _ => ?_)
def decoupagelaw28_RasterShifts.T10 : Bool × List (List Nat × List Nat) := (true, [([], []), ([0], [0]), ([], []), ([], []), ([1, 2, 3], [1, 2, 3]), ([], []), ([5], [5]), ([], []), ([], []), ([6, 7, 8, 4], [6, 7, 8]), ([], []), ([10], [10]), ([], []), ([], []), ([11, 12, 13, 9], [11, 12, 13]), ([0, 1, 2, 3, 4, 5, 6, 10, 11], []), ([15, 4, 14, 0, 1, 2, 3, 4, 5, 6, 10, 11], [4, 15]), ([0, 1, 2, 3, 4, 5, 6, 7, 8, 9, 10, 11, 15, 16], []), ([17, 9, 16, 0, 1, 2, 3, 4, 5, 6, 7, 8, 9, 10, 11, 15, 16], [9, 17]), ([0, 1, 2, 3, 4, 5, 6, 7, 8, 9, 10, 11, 12, 13, 14, 15, 16, 17, 18], []), ([19, 14, 18, 0, 1, 2, 3, 4, 5, 6, 7, 8, 9, 10, 11, 12, 13, 14, 15, 16, 17, 18], [14, 19])])
def decoupagelaw28_RasterShifts.B10 : List Nat := [0, 1, 0, 0, 15, 0, 32, 0, 0, 511, 0, 1024, 0, 0, 16383, 3199, 65535, 131071, 262143, 524287, 1048575]
theorem decoupagelaw28_RasterShifts.tab10 : rtab .any (opsOf Try.f9 10) = decoupagelaw28_RasterShifts.T10 := by kernel_rfl
theorem decoupagelaw28_RasterShifts.bits10 : waitsOk decoupagelaw28_RasterShifts.T10.2 decoupagelaw28_RasterShifts.B10 = true := by kernel_rfl
def decoupagelaw28_RasterShifts.T14 : Bool × List (List Nat × List Nat) := (true, [([], []), ([0], [0]), ([], []), ([2], [2]), ([1, 3], [1, 3]), ([], []), ([5], [5]), ([], []), ([7], [7]), ([6, 8], [6, 8]), ([0, 1, 2, 3, 4], []), ([10, 4, 0, 1, 2, 3, 4], [4, 10]), ([0, 1, 2, 3, 4, 5, 6, 7, 8, 9, 10, 11], []), ([12, 9, 11, 0, 1, 2, 3, 4, 5, 6, 7, 8, 9, 10, 11], [9, 12])])
def decoupagelaw28_RasterShifts.B14 : List Nat := [0, 1, 0, 4, 15, 0, 32, 0, 128, 480, 31, 1055, 4095, 8191]
theorem decoupagelaw28_RasterShifts.tab14 : rtab .any (opsOf Try.f9 14) = decoupagelaw28_RasterShifts.T14 := by kernel_rfl
theorem decoupagelaw28_RasterShifts.bits14 : waitsOk decoupagelaw28_RasterShifts.T14.2 decoupagelaw28_RasterShifts.B14 = true := by kernel_rfl
def decoupagelaw28_RasterShifts.T24 : Bool × List (List Nat × List Nat) := (true, [([], []), ([], []), ([0, 1], [0, 1]), ([2], [2]), ([], []), ([], []), ([4, 5], [4, 5]), ([6], [6]), ([3, 7], [3, 7])])
def decoupagelaw28_RasterShifts.B24 : List Nat := [0, 0, 3, 7, 0, 0, 48, 112, 255]
theorem decoupagelaw28_RasterShifts.tab24 : rtab .any (opsOf Try.f9 24) = decoupagelaw28_RasterShifts.T24 := by kernel_rfl
theorem decoupagelaw28_RasterShifts.bits24 : waitsOk decoupagelaw28_RasterShifts.T24.2 decoupagelaw28_RasterShifts.B24 = true := by kernel_rfl
set_option maxHeartbeats 80000000 in
set_option maxRecDepth 100000 in
theorem decoupagelaw28_RasterShifts.calls (k : Nat) (A0 : Option Addr) (c0 : Nat) (l0 : List (S39)) (a1_0 : Int) (a1_1 : Int) (a1_2 : Int) (a1_3 : Int) (a1_4 : Int) (a2 : Int) (a3 : Int) (r : Bool) (w : World) (hr0 : Kd.C k39 w A0 l0.length l0) (hc0 : l0.length ≤ c0) (h : decoupagelaw28_RasterShifts.f k l0 a1_0 a1_1 a1_2 a1_3 a1_4 a2 a3 = some r) :
  Calls Try.prog 9 #[.slice A0 l0.length c0, .agg #[.int .i64 a1_0, .int .i64 a1_1, .int .i64 a1_2, .int .i64 a1_3, .int .i64 a1_4], .int .i32 a2, .int .i32 a3] w fun e w' => e = .returned (.bool r) ∧ Below w.heap.size w w' := by
 have hu44 := Try.underlying44
 have hu39 := Try.underlying39
 have hu37 := Try.underlying37
 have HR0 := Aside0.mk hr0
 have HC0 := Aside0.mk hc0
 clear hr0 hc0
 have HB := Aside0.mk (Below.refl w.heap.size w)
 have H : ((decoupagelaw28_awake.f k).bind fun t167 => (if t167 = true then (if (l0.length : Int) > 20 then (decoupagelaw28_RasterShifts.j0 k l0 a2 a3 true a1_0 a1_1 a1_2 a1_3 a1_4) else ((decoupageref28_Right.f a1_0 a1_1 a1_2 a1_3 a1_4).bind fun t168 => (if t168 = true then (decoupagelaw28_RasterShifts.j0 k l0 a2 a3 (decide ((wrap64 (a1_3 * a1_4)) > 400)) a1_0 a1_1 a1_2 a1_3 a1_4) else (decoupagelaw28_RasterShifts.j0 k l0 a2 a3 true a1_0 a1_1 a1_2 a1_3 a1_4)))) else (decoupagelaw28_RasterShifts.j0 k l0 a2 a3 true a1_0 a1_1 a1_2 a1_3 a1_4))) = some r := h
 clear h
 have HC5 := Aside0.mk H
 clear H
 go_enter Try.func9, Try.ntmps9
 go_upto_region 1 with (first | ((with_reducible refine gate_dst (N := 5) rfl ?_); (try (refine gate_guard (by rfl) ?_; dsimp only)); refine box_event ?hg (N := 5) ?hd (cs := #[.int .i64 a1_0, .int .i64 a1_1, .int .i64 a1_2, .int .i64 a1_3, .int .i64 a1_4]) (t := 44) ?hr ?_; (case hd => rfl); (case hg => rfl); (case hr => first | (go_simp; done) | (go_simp; rfl)); intro gb166 hg w6 hbox hb; have n0_ := Aside0.mk (below_step (by repeat (first | (with_reducible first | exact HB.out | apply below_alloc | apply pw_below_drewN | apply below_drew1) | exact HB.out)) hb); have n1_ := Aside0.mk (hbox); have n2_ := Aside0.mk ((by rw [hg]; exact (below_size (by repeat (first | (with_reducible first | exact HB.out | apply below_alloc | apply pw_below_drewN | apply below_drew1) | exact HB.out))) : w.heap.size ≤ gb166)); have n3_ := Aside0.mk ((by rw [hg]; exact (below_size (by repeat (first | (with_reducible first | exact HB.out | apply below_alloc | apply pw_below_drewN | apply below_drew1) | exact HB.out))) : w.heap.size ≤ gb166)); clear HB; have HB := n0_; have BK166 := n1_; have GW166 := n2_; have GE166 := n3_; clear n0_ n1_ n2_ n3_; clear hb hbox hg))
 (try simp only [Act.put, List.setIfInBounds_toArray, List.set_cons_zero, List.set_cons_succ])
 go_cut [37] (fun v37 wc => ∃ (kq : Nat) (x37_4 : Bool), v37 = .bool x37_4 ∧ Aside0 (decoupagelaw28_RasterShifts.j0 kq l0 a2 a3 x37_4 a1_0 a1_1 a1_2 a1_3 a1_4 = some r) ∧ Aside0 (kq ≤ k) ∧ Aside0 (wc.heap[gb166]? = some (.cells #[.int .i64 a1_0, .int .i64 a1_1, .int .i64 a1_2, .int .i64 a1_3, .int .i64 a1_4] 44 (0, 0))) ∧ Aside0 (Below w.heap.size w wc))
 case first =>
  have H := HC5.out
  clear HC5
  replace H := Option.bind_eq_some_iff.mp H
  obtain ⟨t167, A70, H⟩ := H
  replace H : (if t167 = true then (if (l0.length : Int) > 20 then (decoupagelaw28_RasterShifts.j0 k l0 a2 a3 true a1_0 a1_1 a1_2 a1_3 a1_4) else ((decoupageref28_Right.f a1_0 a1_1 a1_2 a1_3 a1_4).bind fun t168 => (if t168 = true then (decoupagelaw28_RasterShifts.j0 k l0 a2 a3 (decide ((wrap64 (a1_3 * a1_4)) > 400)) a1_0 a1_1 a1_2 a1_3 a1_4) else (decoupagelaw28_RasterShifts.j0 k l0 a2 a3 true a1_0 a1_1 a1_2 a1_3 a1_4)))) else (decoupagelaw28_RasterShifts.j0 k l0 a2 a3 true a1_0 a1_1 a1_2 a1_3 a1_4)) = some r := H
  have A7 := Aside0.mk A70
  clear A70
  by_cases c8 : t167 = true
  ·subst c8
   have H1 : (if (l0.length : Int) > 20 then (decoupagelaw28_RasterShifts.j0 k l0 a2 a3 true a1_0 a1_1 a1_2 a1_3 a1_4) else ((decoupageref28_Right.f a1_0 a1_1 a1_2 a1_3 a1_4).bind fun t168 => (if t168 = true then (decoupagelaw28_RasterShifts.j0 k l0 a2 a3 (decide ((wrap64 (a1_3 * a1_4)) > 400)) a1_0 a1_1 a1_2 a1_3 a1_4) else (decoupagelaw28_RasterShifts.j0 k l0 a2 a3 true a1_0 a1_1 a1_2 a1_3 a1_4)))) = some r := by rw [if_pos rfl] at H; exact H
   clear H
   have H := H1
   clear H1
   by_cases c9 : (l0.length : Int) > 20
   ·rw [if_pos c9] at H
    have c9b0 : decide (20 < (l0.length : Int)) = true := decide_eq_true c9
    have c9b1 : decide (20 < l0.length) = true := decide_eq_true (by omega)
    clear c9
    (first | rw [c9b0] | (simp only [i64_w, i32_w]; rw [c9b0]) | skip)
    have H' := Aside0.mk H
    clear H
    go_wp2_with (first | ((with_reducible refine gate_callee (f := 26) rfl ?_); refine goesL_ (some 18) rfl rfl Try.func26 (by kernel_rfl) rfl #[] rfl (by (try simp only [List.map_toArray, List.map_cons, List.map_nil]); first | done | rfl | (simp only [List.length_drop, List.length_take]; rfl)) ?_; (with_reducible refine (decoupagelaw28_awake.calls k  true _ A7.out).mono ?_); rintro e w10 ⟨rfl, hb⟩; refine ⟨_, rfl, ?_⟩; have n0_ := Aside0.mk (blk_below (g := gb166) (o := .cells #[.int .i64 a1_0, .int .i64 a1_1, .int .i64 a1_2, .int .i64 a1_3, .int .i64 a1_4] 44 (0, 0)) (by (with_reducible repeat (first | refine blk_drewN ?_ _ | refine blk_drew ?_ | refine blk_alloc ?_ _)); exact BK166.out) hb); have n1_ := Aside0.mk (below_step (by repeat (first | (with_reducible first | exact HB.out | apply below_alloc | apply pw_below_drewN | apply below_drew1 | refine below_set ?_ GE166.out) | exact HB.out)) hb); clear BK166; clear HB; have BK166 := n0_; have HB := n1_; clear n0_ n1_; (try clear hb); (try clear hb2); (try clear hk); (try clear hi)))
    go_meet
    case rel => exact ⟨_, (true), (by first | rfl | (simp; done) | (simp [*]; done)), H', ⟨by first | omega | exact Nat.le_refl _⟩, ⟨by (with_reducible repeat (first | refine blk_drewN ?_ _ | refine blk_drew ?_ | refine blk_alloc ?_ _)); exact BK166.out⟩, ⟨by repeat (first | (with_reducible first | exact HB.out | apply below_alloc | apply pw_below_drewN | apply below_drew1 | refine below_set ?_ GE166.out) | exact HB.out)⟩⟩
   ·rw [if_neg c9] at H
    have c9b0 : decide (20 < (l0.length : Int)) = false := decide_eq_false c9
    have c9b1 : decide (20 < l0.length) = false := decide_eq_false (by omega)
    clear c9
    (first | rw [c9b0] | (simp only [i64_w, i32_w]; rw [c9b0]) | skip)
    replace H := Option.bind_eq_some_iff.mp H
    obtain ⟨t168, A110, H⟩ := H
    replace H : (if t168 = true then (decoupagelaw28_RasterShifts.j0 k l0 a2 a3 (decide ((wrap64 (a1_3 * a1_4)) > 400)) a1_0 a1_1 a1_2 a1_3 a1_4) else (decoupagelaw28_RasterShifts.j0 k l0 a2 a3 true a1_0 a1_1 a1_2 a1_3 a1_4)) = some r := H
    have A11 := Aside0.mk A110
    clear A110
    by_cases c12 : t168 = true
    ·subst c12
     have H1 : (decoupagelaw28_RasterShifts.j0 k l0 a2 a3 (decide ((wrap64 (a1_3 * a1_4)) > 400)) a1_0 a1_1 a1_2 a1_3 a1_4) = some r := by rw [if_pos rfl] at H; exact H
     clear H
     have H := H1
     clear H1
     have H' := Aside0.mk H
     clear H
     go_wp2_with (first | ((with_reducible refine gate_callee (f := 26) rfl ?_); refine goesL_ (some 18) rfl rfl Try.func26 (by kernel_rfl) rfl #[] rfl (by (try simp only [List.map_toArray, List.map_cons, List.map_nil]); first | done | rfl | (simp only [List.length_drop, List.length_take]; rfl)) ?_; (with_reducible refine (decoupagelaw28_awake.calls k  true _ A7.out).mono ?_); rintro e w13 ⟨rfl, hb⟩; refine ⟨_, rfl, ?_⟩; have n0_ := Aside0.mk (blk_below (g := gb166) (o := .cells #[.int .i64 a1_0, .int .i64 a1_1, .int .i64 a1_2, .int .i64 a1_3, .int .i64 a1_4] 44 (0, 0)) (by (with_reducible repeat (first | refine blk_drewN ?_ _ | refine blk_drew ?_ | refine blk_alloc ?_ _)); exact BK166.out) hb); have n1_ := Aside0.mk (below_step (by repeat (first | (with_reducible first | exact HB.out | apply below_alloc | apply pw_below_drewN | apply below_drew1 | refine below_set ?_ GE166.out) | exact HB.out)) hb); clear BK166; clear HB; have BK166 := n0_; have HB := n1_; clear n0_ n1_; (try clear hb); (try clear hb2); (try clear hk); (try clear hi); have hcz14_0 : w13.cell? ⟨gb166, 0, none⟩ = some (.int .i64 a1_0) := (blk_cell BK166.out 0).trans rfl; have hcz14_1 : w13.cell? ⟨gb166, 1, none⟩ = some (.int .i64 a1_1) := (blk_cell BK166.out 1).trans rfl; have hcz14_2 : w13.cell? ⟨gb166, 2, none⟩ = some (.int .i64 a1_2) := (blk_cell BK166.out 2).trans rfl; have hcz14_3 : w13.cell? ⟨gb166, 3, none⟩ = some (.int .i64 a1_3) := (blk_cell BK166.out 3).trans rfl; have hcz14_4 : w13.cell? ⟨gb166, 4, none⟩ = some (.int .i64 a1_4) := (blk_cell BK166.out 4).trans rfl; have hfz14_0 := blk_frozen BK166.out 0; have hfz14_1 := blk_frozen BK166.out 1; have hfz14_2 := blk_frozen BK166.out 2; have hfz14_3 := blk_frozen BK166.out 3; have hfz14_4 := blk_frozen BK166.out 4) | (go_at_call 27; (with_reducible refine (decoupageref28_Right.calls a1_0 a1_1 a1_2 a1_3 a1_4 true _ A11.out).mono ?_); rintro e w15 ⟨rfl, hb⟩; have n0_ := Aside0.mk (blk_below (g := gb166) (o := .cells #[.int .i64 a1_0, .int .i64 a1_1, .int .i64 a1_2, .int .i64 a1_3, .int .i64 a1_4] 44 (0, 0)) (by (with_reducible repeat (first | refine blk_drewN ?_ _ | refine blk_drew ?_ | refine blk_alloc ?_ _)); exact BK166.out) hb); have n1_ := Aside0.mk (below_step (by repeat (first | (with_reducible first | exact HB.out | apply below_alloc | apply pw_below_drewN | apply below_drew1 | refine below_set ?_ GE166.out) | exact HB.out)) hb); clear BK166; clear HB; have BK166 := n0_; have HB := n1_; clear n0_ n1_; (try clear hb); (try clear hb2); (try clear hk); (try clear hi); have hcz16_0 : w15.cell? ⟨gb166, 0, none⟩ = some (.int .i64 a1_0) := (blk_cell BK166.out 0).trans rfl; have hcz16_1 : w15.cell? ⟨gb166, 1, none⟩ = some (.int .i64 a1_1) := (blk_cell BK166.out 1).trans rfl; have hcz16_2 : w15.cell? ⟨gb166, 2, none⟩ = some (.int .i64 a1_2) := (blk_cell BK166.out 2).trans rfl; have hcz16_3 : w15.cell? ⟨gb166, 3, none⟩ = some (.int .i64 a1_3) := (blk_cell BK166.out 3).trans rfl; have hcz16_4 : w15.cell? ⟨gb166, 4, none⟩ = some (.int .i64 a1_4) := (blk_cell BK166.out 4).trans rfl; have hfz16_0 := blk_frozen BK166.out 0; have hfz16_1 := blk_frozen BK166.out 1; have hfz16_2 := blk_frozen BK166.out 2; have hfz16_3 := blk_frozen BK166.out 3; have hfz16_4 := blk_frozen BK166.out 4))
     go_meet
     case rel => exact ⟨_, (decide ((wrap64 (a1_3 * a1_4)) > 400)), (by first | rfl | (simp; done) | (simp [*]; done)), H', ⟨by first | omega | exact Nat.le_refl _⟩, ⟨by (with_reducible repeat (first | refine blk_drewN ?_ _ | refine blk_drew ?_ | refine blk_alloc ?_ _)); exact BK166.out⟩, ⟨by repeat (first | (with_reducible first | exact HB.out | apply below_alloc | apply pw_below_drewN | apply below_drew1 | refine below_set ?_ GE166.out) | exact HB.out)⟩⟩
    ·replace c12 := Bool.eq_false_iff.mpr c12
     subst c12
     have H1 : (decoupagelaw28_RasterShifts.j0 k l0 a2 a3 true a1_0 a1_1 a1_2 a1_3 a1_4) = some r := by rw [if_neg (show ¬ (false = true) by decide)] at H; exact H
     clear H
     have H := H1
     clear H1
     have H' := Aside0.mk H
     clear H
     go_wp2_with (first | ((with_reducible refine gate_callee (f := 26) rfl ?_); refine goesL_ (some 18) rfl rfl Try.func26 (by kernel_rfl) rfl #[] rfl (by (try simp only [List.map_toArray, List.map_cons, List.map_nil]); first | done | rfl | (simp only [List.length_drop, List.length_take]; rfl)) ?_; (with_reducible refine (decoupagelaw28_awake.calls k  true _ A7.out).mono ?_); rintro e w17 ⟨rfl, hb⟩; refine ⟨_, rfl, ?_⟩; have n0_ := Aside0.mk (blk_below (g := gb166) (o := .cells #[.int .i64 a1_0, .int .i64 a1_1, .int .i64 a1_2, .int .i64 a1_3, .int .i64 a1_4] 44 (0, 0)) (by (with_reducible repeat (first | refine blk_drewN ?_ _ | refine blk_drew ?_ | refine blk_alloc ?_ _)); exact BK166.out) hb); have n1_ := Aside0.mk (below_step (by repeat (first | (with_reducible first | exact HB.out | apply below_alloc | apply pw_below_drewN | apply below_drew1 | refine below_set ?_ GE166.out) | exact HB.out)) hb); clear BK166; clear HB; have BK166 := n0_; have HB := n1_; clear n0_ n1_; (try clear hb); (try clear hb2); (try clear hk); (try clear hi); have hcz18_0 : w17.cell? ⟨gb166, 0, none⟩ = some (.int .i64 a1_0) := (blk_cell BK166.out 0).trans rfl; have hcz18_1 : w17.cell? ⟨gb166, 1, none⟩ = some (.int .i64 a1_1) := (blk_cell BK166.out 1).trans rfl; have hcz18_2 : w17.cell? ⟨gb166, 2, none⟩ = some (.int .i64 a1_2) := (blk_cell BK166.out 2).trans rfl; have hcz18_3 : w17.cell? ⟨gb166, 3, none⟩ = some (.int .i64 a1_3) := (blk_cell BK166.out 3).trans rfl; have hcz18_4 : w17.cell? ⟨gb166, 4, none⟩ = some (.int .i64 a1_4) := (blk_cell BK166.out 4).trans rfl; have hfz18_0 := blk_frozen BK166.out 0; have hfz18_1 := blk_frozen BK166.out 1; have hfz18_2 := blk_frozen BK166.out 2; have hfz18_3 := blk_frozen BK166.out 3; have hfz18_4 := blk_frozen BK166.out 4) | (go_at_call 27; (with_reducible refine (decoupageref28_Right.calls a1_0 a1_1 a1_2 a1_3 a1_4 false _ A11.out).mono ?_); rintro e w19 ⟨rfl, hb⟩; have n0_ := Aside0.mk (blk_below (g := gb166) (o := .cells #[.int .i64 a1_0, .int .i64 a1_1, .int .i64 a1_2, .int .i64 a1_3, .int .i64 a1_4] 44 (0, 0)) (by (with_reducible repeat (first | refine blk_drewN ?_ _ | refine blk_drew ?_ | refine blk_alloc ?_ _)); exact BK166.out) hb); have n1_ := Aside0.mk (below_step (by repeat (first | (with_reducible first | exact HB.out | apply below_alloc | apply pw_below_drewN | apply below_drew1 | refine below_set ?_ GE166.out) | exact HB.out)) hb); clear BK166; clear HB; have BK166 := n0_; have HB := n1_; clear n0_ n1_; (try clear hb); (try clear hb2); (try clear hk); (try clear hi)))
     go_meet
     case rel => exact ⟨_, (true), (by first | rfl | (simp; done) | (simp [*]; done)), H', ⟨by first | omega | exact Nat.le_refl _⟩, ⟨by (with_reducible repeat (first | refine blk_drewN ?_ _ | refine blk_drew ?_ | refine blk_alloc ?_ _)); exact BK166.out⟩, ⟨by repeat (first | (with_reducible first | exact HB.out | apply below_alloc | apply pw_below_drewN | apply below_drew1 | refine below_set ?_ GE166.out) | exact HB.out)⟩⟩
  ·replace c8 := Bool.eq_false_iff.mpr c8
   subst c8
   have H1 : (decoupagelaw28_RasterShifts.j0 k l0 a2 a3 true a1_0 a1_1 a1_2 a1_3 a1_4) = some r := by rw [if_neg (show ¬ (false = true) by decide)] at H; exact H
   clear H
   have H := H1
   clear H1
   have H' := Aside0.mk H
   clear H
   go_wp2_with (first | ((with_reducible refine gate_callee (f := 26) rfl ?_); refine goesL_ (some 18) rfl rfl Try.func26 (by kernel_rfl) rfl #[] rfl (by (try simp only [List.map_toArray, List.map_cons, List.map_nil]); first | done | rfl | (simp only [List.length_drop, List.length_take]; rfl)) ?_; (with_reducible refine (decoupagelaw28_awake.calls k  false _ A7.out).mono ?_); rintro e w20 ⟨rfl, hb⟩; refine ⟨_, rfl, ?_⟩; have n0_ := Aside0.mk (blk_below (g := gb166) (o := .cells #[.int .i64 a1_0, .int .i64 a1_1, .int .i64 a1_2, .int .i64 a1_3, .int .i64 a1_4] 44 (0, 0)) (by (with_reducible repeat (first | refine blk_drewN ?_ _ | refine blk_drew ?_ | refine blk_alloc ?_ _)); exact BK166.out) hb); have n1_ := Aside0.mk (below_step (by repeat (first | (with_reducible first | exact HB.out | apply below_alloc | apply pw_below_drewN | apply below_drew1 | refine below_set ?_ GE166.out) | exact HB.out)) hb); clear BK166; clear HB; have BK166 := n0_; have HB := n1_; clear n0_ n1_; (try clear hb); (try clear hb2); (try clear hk); (try clear hi)))
   go_meet
   case rel => exact ⟨_, (true), (by first | rfl | (simp; done) | (simp [*]; done)), H', ⟨by first | omega | exact Nat.le_refl _⟩, ⟨by (with_reducible repeat (first | refine blk_drewN ?_ _ | refine blk_drew ?_ | refine blk_alloc ?_ _)); exact BK166.out⟩, ⟨by repeat (first | (with_reducible first | exact HB.out | apply below_alloc | apply pw_below_drewN | apply below_drew1 | refine below_set ?_ GE166.out) | exact HB.out)⟩⟩
 case rest =>
  clear HC5
  try clear c1
  try clear c2
  try clear p2
  try clear p6
  try clear c8
  try clear c9
  try clear c9b0
  try clear c9b1
  try clear c12
  try clear hcz14_0
  try clear hcz14_1
  try clear hcz14_2
  try clear hcz14_3
  try clear hcz14_4
  try clear hcz16_0
  try clear hcz16_1
  try clear hcz16_2
  try clear hcz16_3
  try clear hcz16_4
  try clear hcz18_0
  try clear hcz18_1
  try clear hcz18_2
  try clear hcz18_3
  try clear hcz18_4
  try clear hfz14_0
  try clear hfz14_1
  try clear hfz14_2
  try clear hfz14_3
  try clear hfz14_4
  try clear hfz16_0
  try clear hfz16_1
  try clear hfz16_2
  try clear hfz16_3
  try clear hfz16_4
  try clear hfz18_0
  try clear hfz18_1
  try clear hfz18_2
  try clear hfz18_3
  try clear hfz18_4
  obtain ⟨kq, x37_4, rfl, HA, HJ4, BK166, HB⟩ := hcut
  cases kq with
  | zero => exact absurd HA.out (by simp [decoupagelaw28_RasterShifts.j0])
  | succ kj4 =>
   have H := HA.out
   clear HA
   simp only [decoupagelaw28_RasterShifts.j0] at H
   by_cases c21 : x37_4 = true
   ·subst c21
    have H1 : ((decoupagelaw28_awake.f kj4).bind fun t169 => (some t169)) = some r := by rw [if_pos rfl] at H; exact H
    clear H
    have H := H1
    clear H1
    replace H := Option.bind_eq_some_iff.mp H
    obtain ⟨t169, A220, H⟩ := H
    replace H : (some t169) = some r := H
    have A22 := Aside0.mk A220
    clear A220
    obtain rfl := Option.some.inj H
    go_wp2_with (first | ((with_reducible refine gate_callee (f := 26) rfl ?_); refine goesL_ (some 38) rfl rfl Try.func26 (by kernel_rfl) rfl #[] rfl (by (try simp only [List.map_toArray, List.map_cons, List.map_nil]); first | done | rfl | (simp only [List.length_drop, List.length_take]; rfl)) ?_; (with_reducible refine (decoupagelaw28_awake.calls kj4  t169 _ A22.out).mono ?_); rintro e w23 ⟨rfl, hb⟩; refine ⟨_, rfl, ?_⟩; have n0_ := Aside0.mk (blk_below (g := gb166) (o := .cells #[.int .i64 a1_0, .int .i64 a1_1, .int .i64 a1_2, .int .i64 a1_3, .int .i64 a1_4] 44 (0, 0)) (by (with_reducible repeat (first | refine blk_drewN ?_ _ | refine blk_drew ?_ | refine blk_alloc ?_ _)); exact BK166.out) hb); have n1_ := Aside0.mk (below_step (by repeat (first | (with_reducible first | exact HB.out | apply below_alloc | apply pw_below_drewN | apply below_drew1 | refine below_set ?_ GE166.out) | exact HB.out)) hb); clear BK166; clear HB; have BK166 := n0_; have HB := n1_; clear n0_ n1_; (try clear hb); (try clear hb2); (try clear hk); (try clear hi)))
    go_ret
    exact ⟨by first | rfl | (simp [errW_none, errW_some] <;> rfl) | (simp [*, errW_none, errW_some] <;> rfl), by repeat (first | (with_reducible first | exact HB.out | apply below_alloc | apply pw_below_drewN | apply below_drew1 | refine below_set ?_ GE166.out) | exact HB.out)⟩
   ·replace c21 := Bool.eq_false_iff.mpr c21
    subst c21
    have H1 : (decoupagelaw28_RasterShifts.l0 kj4 l0 a2 a3 ([] : List (S39)) (l0.length : Int) 0 a1_0 a1_1 a1_2 a1_3 a1_4) = some r := by rw [if_neg (show ¬ (false = true) by decide)] at H; exact H
    clear H
    have H := H1
    clear H1
    have H' := Aside0.mk H
    clear H
    go_wp2
    go_loopg [9, 41] kj4 (fun kq v9 v41 w' => ∃ (x9_2 : List (S39)) (x41_2 : Int), v41 = .int .i64 x41_2 ∧ Aside0 (decoupagelaw28_RasterShifts.l0 kq l0 a2 a3 x9_2 (l0.length : Int) x41_2 a1_0 a1_1 a1_2 a1_3 a1_4 = some r) ∧ Aside0 (kq ≤ kj4) ∧ Aside0 (Kd.R k39 39 w' w.heap.size (fun _ => True) v9 x9_2) ∧ Aside0 (w'.heap[gb166]? = some (.cells #[.int .i64 a1_0, .int .i64 a1_1, .int .i64 a1_2, .int .i64 a1_3, .int .i64 a1_4] 44 (0, 0))) ∧ Aside0 (Below w.heap.size w w'))
    case atStart => exact ⟨(([] : List (S39))), (0), (by first | rfl | (simp; done) | (simp [*]; done)), H', ⟨Nat.le_refl _⟩, ⟨by first | exact Kd.R_nil _ _ _ _ _ | exact Kd.N_nil _ _ _ _ _ | exact Kd.V_nil _ _ _ _ _ | exact Kd.Q_nil _ _ _ _ _ | exact Kd.S_nil _ _ _ _ _⟩, ⟨by (with_reducible repeat (first | refine blk_drewN ?_ _ | refine blk_drew ?_ | refine blk_alloc ?_ _)); exact BK166.out⟩, ⟨by repeat (first | (with_reducible first | exact HB.out | apply below_alloc | apply pw_below_drewN | apply below_drew1 | refine below_set ?_ GE166.out) | exact HB.out)⟩⟩
    case round =>
     clear H'
     try clear c1
     try clear c2
     try clear p2
     try clear p6
     try clear c8
     try clear c9
     try clear c9b0
     try clear c9b1
     try clear c12
     try clear c21
     try clear hcz14_0
     try clear hcz14_1
     try clear hcz14_2
     try clear hcz14_3
     try clear hcz14_4
     try clear hcz16_0
     try clear hcz16_1
     try clear hcz16_2
     try clear hcz16_3
     try clear hcz16_4
     try clear hcz18_0
     try clear hcz18_1
     try clear hcz18_2
     try clear hcz18_3
     try clear hcz18_4
     try clear hfz14_0
     try clear hfz14_1
     try clear hfz14_2
     try clear hfz14_3
     try clear hfz14_4
     try clear hfz16_0
     try clear hfz16_1
     try clear hfz16_2
     try clear hfz16_3
     try clear hfz16_4
     try clear hfz18_0
     try clear hfz18_1
     try clear hfz18_2
     try clear hfz18_3
     try clear hfz18_4
     try clear p2
     try clear p6
     obtain ⟨x9_2, x41_2, rfl, HA, HK2, HO_9, BK166, HB⟩ := hrel
     cases gk with
     | zero => exact absurd HA.out (by simp [decoupagelaw28_RasterShifts.l0])
     | succ k2 =>
      have H := HA.out
      clear HA
      simp only [decoupagelaw28_RasterShifts.l0] at H
      by_cases c24 : x41_2 < (l0.length : Int)
      ·rw [if_pos c24] at H
       have c24b0 : decide (x41_2 < (l0.length : Int)) = true := decide_eq_true c24
       clear c24
       by_cases c25 : 0 ≤ x41_2
       ·rw [if_pos c25] at H
        have c25b0 : decide (0 ≤ x41_2) = true := decide_eq_true c25
        clear c25
        by_cases c26 : x41_2 < (l0.length : Int)
        ·rw [if_pos c26] at H
         have c26b0 : decide (x41_2 < (l0.length : Int)) = true := decide_eq_true c26
         clear c26
         have HC27 := Aside0.mk H
         clear H
         have p170 : 0 ≤ (x41_2 : Int) := of_decide_eq_true (by first | (with_reducible assumption) | assumption)
         have q170 : x41_2 < (l0.length : Int) := of_decide_eq_true (by first | (with_reducible assumption) | assumption)
         obtain ⟨ad170, e170, hx170_0, hx170_1, hx170_2, hx170_3, hx170_4, hx170_5, hx170_6, hx170_7, hx170_8, hx170_9, hx170_10, hx170_11, hx170_12, hx170_13, hx170_14⟩ := at_T39 HR0.out x41_2 p170 q170
         cases e170
         replace hx170_0 := (HB.out.cell (World.block_lt_of_cell? w _ hx170_0)).trans hx170_0
         replace hx170_1 := (HB.out.cell (World.block_lt_of_cell? w _ hx170_1)).trans hx170_1
         replace hx170_2 := (HB.out.cell (World.block_lt_of_cell? w _ hx170_2)).trans hx170_2
         replace hx170_3 := (HB.out.cell (World.block_lt_of_cell? w _ hx170_3)).trans hx170_3
         replace hx170_4 := (HB.out.cell (World.block_lt_of_cell? w _ hx170_4)).trans hx170_4
         replace hx170_5 := (HB.out.cell (World.block_lt_of_cell? w _ hx170_5)).trans hx170_5
         replace hx170_6 := (HB.out.cell (World.block_lt_of_cell? w _ hx170_6)).trans hx170_6
         replace hx170_7 := (HB.out.cell (World.block_lt_of_cell? w _ hx170_7)).trans hx170_7
         replace hx170_8 := (HB.out.cell (World.block_lt_of_cell? w _ hx170_8)).trans hx170_8
         replace hx170_9 := (HB.out.cell (World.block_lt_of_cell? w _ hx170_9)).trans hx170_9
         replace hx170_10 := (HB.out.cell (World.block_lt_of_cell? w _ hx170_10)).trans hx170_10
         replace hx170_11 := (HB.out.cell (World.block_lt_of_cell? w _ hx170_11)).trans hx170_11
         replace hx170_12 := (HB.out.cell (World.block_lt_of_cell? w _ hx170_12)).trans hx170_12
         replace hx170_13 := (HB.out.cell (World.block_lt_of_cell? w _ hx170_13)).trans hx170_13
         replace hx170_14 := (HB.out.cell (World.block_lt_of_cell? w _ hx170_14)).trans hx170_14
         replace p170 := eq_true p170
         replace q170 := eq_true q170
         go_upto_region 8 with (first | ((with_reducible refine gate_dst (N := 11) rfl ?_); (try (refine gate_guard (by rfl) ?_; dsimp only)); refine box_event ?hg (N := 11) ?hd (cs := #[.int .i64 0, .int .i64 0, .int .i64 0, .int .i64 0, .int .i64 0, .int .i64 0, .int .i64 0, .int .i64 0, .int .i64 0, .int .i64 0, .int .i64 0, .int .i64 0, .int .i64 0, .int .i64 0, .int .i64 0]) (t := 39) ?hr ?_; (case hd => rfl); (case hg => rfl); (case hr => first | (go_simp; done) | (go_simp; rfl)); intro gb171 hg w28 hbox hb; have n0_ := Aside0.mk (Kd.R_below (Kd.R_elderB (by (with_reducible repeat (first | apply Kd.R_alloc | apply Kd.R_drewN | apply Kd.R_drew)); exact HO_9.out) gb171 (Nat.le_of_eq hg.symm)) hb); have n1_ := Aside0.mk (blk_below (g := gb166) (o := .cells #[.int .i64 a1_0, .int .i64 a1_1, .int .i64 a1_2, .int .i64 a1_3, .int .i64 a1_4] 44 (0, 0)) (by (with_reducible repeat (first | refine blk_drewN ?_ _ | refine blk_drew ?_ | refine blk_alloc ?_ _)); exact BK166.out) hb); have n2_ := Aside0.mk (below_step (by repeat (first | (with_reducible first | exact HB.out | apply below_alloc | apply pw_below_drewN | apply below_drew1 | refine below_set ?_ GE166.out) | exact HB.out)) hb); have n3_ := Aside0.mk (hbox); have n4_ := Aside0.mk ((by rw [hg]; exact (below_size (by repeat (first | (with_reducible first | exact HB.out | apply below_alloc | apply pw_below_drewN | apply below_drew1 | refine below_set ?_ GE166.out) | exact HB.out))) : w.heap.size ≤ gb171)); have n5_ := Aside0.mk ((by rw [hg]; exact (below_size (by repeat (first | (with_reducible first | exact HB.out | apply below_alloc | apply pw_below_drewN | apply below_drew1 | refine below_set ?_ GE166.out) | exact HB.out))) : w.heap.size ≤ gb171)); have n6_ := Aside0.mk ((by rw [hg]; exact Nat.ne_of_lt (blk_lt (g := gb166) (o := .cells #[.int .i64 a1_0, .int .i64 a1_1, .int .i64 a1_2, .int .i64 a1_3, .int .i64 a1_4] 44 (0, 0)) (by (with_reducible repeat (first | refine blk_drewN ?_ _ | refine blk_drew ?_ | refine blk_alloc ?_ _)); exact BK166.out)) : gb166 ≠ gb171)); have n7_ := Aside0.mk ((by rw [hg]; exact Nat.ne_of_gt (blk_lt (g := gb166) (o := .cells #[.int .i64 a1_0, .int .i64 a1_1, .int .i64 a1_2, .int .i64 a1_3, .int .i64 a1_4] 44 (0, 0)) (by (with_reducible repeat (first | refine blk_drewN ?_ _ | refine blk_drew ?_ | refine blk_alloc ?_ _)); exact BK166.out)) : gb171 ≠ gb166)); clear HO_9; clear BK166; clear HB; have HO_9 := n0_; have BK166 := n1_; have HB := n2_; have BK171 := n3_; have GW171 := n4_; have GE171 := n5_; have NB166_171 := n6_; have NB171_166 := n7_; clear n0_ n1_ n2_ n3_ n4_ n5_ n6_ n7_; clear hb hbox hg; have hnb29 := NB171_166.out; have hnc29 := NB166_171.out; have hcz30_0 : w28.cell? ⟨gb171, 0, none⟩ = some (.int .i64 0) := (blk_cell BK171.out 0).trans rfl; have hcz30_1 : w28.cell? ⟨gb171, 1, none⟩ = some (.int .i64 0) := (blk_cell BK171.out 1).trans rfl; have hcz30_2 : w28.cell? ⟨gb171, 2, none⟩ = some (.int .i64 0) := (blk_cell BK171.out 2).trans rfl; have hcz30_3 : w28.cell? ⟨gb171, 3, none⟩ = some (.int .i64 0) := (blk_cell BK171.out 3).trans rfl; have hcz30_4 : w28.cell? ⟨gb171, 4, none⟩ = some (.int .i64 0) := (blk_cell BK171.out 4).trans rfl; have hcz30_5 : w28.cell? ⟨gb171, 5, none⟩ = some (.int .i64 0) := (blk_cell BK171.out 5).trans rfl; have hcz30_6 : w28.cell? ⟨gb171, 6, none⟩ = some (.int .i64 0) := (blk_cell BK171.out 6).trans rfl; have hcz30_7 : w28.cell? ⟨gb171, 7, none⟩ = some (.int .i64 0) := (blk_cell BK171.out 7).trans rfl; have hcz30_8 : w28.cell? ⟨gb171, 8, none⟩ = some (.int .i64 0) := (blk_cell BK171.out 8).trans rfl; have hcz30_9 : w28.cell? ⟨gb171, 9, none⟩ = some (.int .i64 0) := (blk_cell BK171.out 9).trans rfl; have hcz30_10 : w28.cell? ⟨gb171, 10, none⟩ = some (.int .i64 0) := (blk_cell BK171.out 10).trans rfl; have hcz30_11 : w28.cell? ⟨gb171, 11, none⟩ = some (.int .i64 0) := (blk_cell BK171.out 11).trans rfl; have hcz30_12 : w28.cell? ⟨gb171, 12, none⟩ = some (.int .i64 0) := (blk_cell BK171.out 12).trans rfl; have hcz30_13 : w28.cell? ⟨gb171, 13, none⟩ = some (.int .i64 0) := (blk_cell BK171.out 13).trans rfl; have hcz30_14 : w28.cell? ⟨gb171, 14, none⟩ = some (.int .i64 0) := (blk_cell BK171.out 14).trans rfl; have hfz30_0 := blk_frozen BK171.out 0; have hfz30_1 := blk_frozen BK171.out 1; have hfz30_2 := blk_frozen BK171.out 2; have hfz30_3 := blk_frozen BK171.out 3; have hfz30_4 := blk_frozen BK171.out 4; have hfz30_5 := blk_frozen BK171.out 5; have hfz30_6 := blk_frozen BK171.out 6; have hfz30_7 := blk_frozen BK171.out 7; have hfz30_8 := blk_frozen BK171.out 8; have hfz30_9 := blk_frozen BK171.out 9; have hfz30_10 := blk_frozen BK171.out 10; have hfz30_11 := blk_frozen BK171.out 11; have hfz30_12 := blk_frozen BK171.out 12; have hfz30_13 := blk_frozen BK171.out 13; have hfz30_14 := blk_frozen BK171.out 14))
         (try simp only [Act.put, List.setIfInBounds_toArray, List.set_cons_zero, List.set_cons_succ])
         go_cut [63] (fun v63 wc => ∃ (kq : Nat) (x63_26 : Bool), v63 = .bool x63_26 ∧ Aside0 (decoupagelaw28_RasterShifts.j2 kq l0 a2 a3 x9_2 (l0.length : Int) x41_2 x63_26 a1_0 a1_1 a1_2 a1_3 a1_4 ((rd_T39 l0 x41_2).f0) ((rd_T39 l0 x41_2).f1) ((rd_T39 l0 x41_2).f2.f0) ((rd_T39 l0 x41_2).f2.f1) ((rd_T39 l0 x41_2).f2.f2) ((rd_T39 l0 x41_2).f2.f3) ((rd_T39 l0 x41_2).f3.f0) ((rd_T39 l0 x41_2).f3.f1) ((rd_T39 l0 x41_2).f3.f2) ((rd_T39 l0 x41_2).f3.f3) ((rd_T39 l0 x41_2).f4.f0) ((rd_T39 l0 x41_2).f4.f1) ((rd_T39 l0 x41_2).f4.f2) ((rd_T39 l0 x41_2).f4.f3) ((rd_T39 l0 x41_2).f5) = some r) ∧ Aside0 (kq ≤ k2) ∧ Aside0 (Kd.R k39 39 wc w.heap.size (fun k_ => k_ ≠ gb171) u9 x9_2) ∧ Aside0 (wc.heap[gb166]? = some (.cells #[.int .i64 a1_0, .int .i64 a1_1, .int .i64 a1_2, .int .i64 a1_3, .int .i64 a1_4] 44 (0, 0))) ∧ Aside0 (wc.heap[gb171]? = some (.cells #[.int .i64 ((rd_T39 l0 x41_2).f0), .int .i64 ((rd_T39 l0 x41_2).f1), .int .i64 ((rd_T39 l0 x41_2).f2.f0), .int .i64 ((rd_T39 l0 x41_2).f2.f1), .int .i64 ((rd_T39 l0 x41_2).f2.f2), .int .i64 ((rd_T39 l0 x41_2).f2.f3), .int .i64 ((rd_T39 l0 x41_2).f3.f0), .int .i64 ((rd_T39 l0 x41_2).f3.f1), .int .i64 ((rd_T39 l0 x41_2).f3.f2), .int .i64 ((rd_T39 l0 x41_2).f3.f3), .int .i64 ((rd_T39 l0 x41_2).f4.f0), .int .i64 ((rd_T39 l0 x41_2).f4.f1), .int .i64 ((rd_T39 l0 x41_2).f4.f2), .int .i64 ((rd_T39 l0 x41_2).f4.f3), .int .i64 ((rd_T39 l0 x41_2).f5)] 39 (0, 0))) ∧ Aside0 (Below w.heap.size w wc))
         case first =>
          have H := HC27.out
          clear HC27
          replace H := Option.bind_eq_some_iff.mp H
          obtain ⟨t172, A310, H⟩ := H
          replace H : (if t172 = true then ((decoupagelaw28_near.f ((rd_T39 l0 x41_2).f3.f0) ((rd_T39 l0 x41_2).f3.f1) ((rd_T39 l0 x41_2).f3.f2) ((rd_T39 l0 x41_2).f3.f3)).bind fun t173 => (if t173 = true then ((decoupagelaw28_near.f ((rd_T39 l0 x41_2).f4.f0) ((rd_T39 l0 x41_2).f4.f1) ((rd_T39 l0 x41_2).f4.f2) ((rd_T39 l0 x41_2).f4.f3)).bind fun t174 => (decoupagelaw28_RasterShifts.j2 k2 l0 a2 a3 x9_2 (l0.length : Int) x41_2 (!t174) a1_0 a1_1 a1_2 a1_3 a1_4 ((rd_T39 l0 x41_2).f0) ((rd_T39 l0 x41_2).f1) ((rd_T39 l0 x41_2).f2.f0) ((rd_T39 l0 x41_2).f2.f1) ((rd_T39 l0 x41_2).f2.f2) ((rd_T39 l0 x41_2).f2.f3) ((rd_T39 l0 x41_2).f3.f0) ((rd_T39 l0 x41_2).f3.f1) ((rd_T39 l0 x41_2).f3.f2) ((rd_T39 l0 x41_2).f3.f3) ((rd_T39 l0 x41_2).f4.f0) ((rd_T39 l0 x41_2).f4.f1) ((rd_T39 l0 x41_2).f4.f2) ((rd_T39 l0 x41_2).f4.f3) ((rd_T39 l0 x41_2).f5))) else (decoupagelaw28_RasterShifts.j2 k2 l0 a2 a3 x9_2 (l0.length : Int) x41_2 true a1_0 a1_1 a1_2 a1_3 a1_4 ((rd_T39 l0 x41_2).f0) ((rd_T39 l0 x41_2).f1) ((rd_T39 l0 x41_2).f2.f0) ((rd_T39 l0 x41_2).f2.f1) ((rd_T39 l0 x41_2).f2.f2) ((rd_T39 l0 x41_2).f2.f3) ((rd_T39 l0 x41_2).f3.f0) ((rd_T39 l0 x41_2).f3.f1) ((rd_T39 l0 x41_2).f3.f2) ((rd_T39 l0 x41_2).f3.f3) ((rd_T39 l0 x41_2).f4.f0) ((rd_T39 l0 x41_2).f4.f1) ((rd_T39 l0 x41_2).f4.f2) ((rd_T39 l0 x41_2).f4.f3) ((rd_T39 l0 x41_2).f5)))) else (decoupagelaw28_RasterShifts.j2 k2 l0 a2 a3 x9_2 (l0.length : Int) x41_2 true a1_0 a1_1 a1_2 a1_3 a1_4 ((rd_T39 l0 x41_2).f0) ((rd_T39 l0 x41_2).f1) ((rd_T39 l0 x41_2).f2.f0) ((rd_T39 l0 x41_2).f2.f1) ((rd_T39 l0 x41_2).f2.f2) ((rd_T39 l0 x41_2).f2.f3) ((rd_T39 l0 x41_2).f3.f0) ((rd_T39 l0 x41_2).f3.f1) ((rd_T39 l0 x41_2).f3.f2) ((rd_T39 l0 x41_2).f3.f3) ((rd_T39 l0 x41_2).f4.f0) ((rd_T39 l0 x41_2).f4.f1) ((rd_T39 l0 x41_2).f4.f2) ((rd_T39 l0 x41_2).f4.f3) ((rd_T39 l0 x41_2).f5))) = some r := H
          have A31 := Aside0.mk A310
          clear A310
          by_cases c32 : t172 = true
          ·subst c32
           have H1 : ((decoupagelaw28_near.f ((rd_T39 l0 x41_2).f3.f0) ((rd_T39 l0 x41_2).f3.f1) ((rd_T39 l0 x41_2).f3.f2) ((rd_T39 l0 x41_2).f3.f3)).bind fun t173 => (if t173 = true then ((decoupagelaw28_near.f ((rd_T39 l0 x41_2).f4.f0) ((rd_T39 l0 x41_2).f4.f1) ((rd_T39 l0 x41_2).f4.f2) ((rd_T39 l0 x41_2).f4.f3)).bind fun t174 => (decoupagelaw28_RasterShifts.j2 k2 l0 a2 a3 x9_2 (l0.length : Int) x41_2 (!t174) a1_0 a1_1 a1_2 a1_3 a1_4 ((rd_T39 l0 x41_2).f0) ((rd_T39 l0 x41_2).f1) ((rd_T39 l0 x41_2).f2.f0) ((rd_T39 l0 x41_2).f2.f1) ((rd_T39 l0 x41_2).f2.f2) ((rd_T39 l0 x41_2).f2.f3) ((rd_T39 l0 x41_2).f3.f0) ((rd_T39 l0 x41_2).f3.f1) ((rd_T39 l0 x41_2).f3.f2) ((rd_T39 l0 x41_2).f3.f3) ((rd_T39 l0 x41_2).f4.f0) ((rd_T39 l0 x41_2).f4.f1) ((rd_T39 l0 x41_2).f4.f2) ((rd_T39 l0 x41_2).f4.f3) ((rd_T39 l0 x41_2).f5))) else (decoupagelaw28_RasterShifts.j2 k2 l0 a2 a3 x9_2 (l0.length : Int) x41_2 true a1_0 a1_1 a1_2 a1_3 a1_4 ((rd_T39 l0 x41_2).f0) ((rd_T39 l0 x41_2).f1) ((rd_T39 l0 x41_2).f2.f0) ((rd_T39 l0 x41_2).f2.f1) ((rd_T39 l0 x41_2).f2.f2) ((rd_T39 l0 x41_2).f2.f3) ((rd_T39 l0 x41_2).f3.f0) ((rd_T39 l0 x41_2).f3.f1) ((rd_T39 l0 x41_2).f3.f2) ((rd_T39 l0 x41_2).f3.f3) ((rd_T39 l0 x41_2).f4.f0) ((rd_T39 l0 x41_2).f4.f1) ((rd_T39 l0 x41_2).f4.f2) ((rd_T39 l0 x41_2).f4.f3) ((rd_T39 l0 x41_2).f5)))) = some r := by rw [if_pos rfl] at H; exact H
           clear H
           have H := H1
           clear H1
           replace H := Option.bind_eq_some_iff.mp H
           obtain ⟨t173, A330, H⟩ := H
           replace H : (if t173 = true then ((decoupagelaw28_near.f ((rd_T39 l0 x41_2).f4.f0) ((rd_T39 l0 x41_2).f4.f1) ((rd_T39 l0 x41_2).f4.f2) ((rd_T39 l0 x41_2).f4.f3)).bind fun t174 => (decoupagelaw28_RasterShifts.j2 k2 l0 a2 a3 x9_2 (l0.length : Int) x41_2 (!t174) a1_0 a1_1 a1_2 a1_3 a1_4 ((rd_T39 l0 x41_2).f0) ((rd_T39 l0 x41_2).f1) ((rd_T39 l0 x41_2).f2.f0) ((rd_T39 l0 x41_2).f2.f1) ((rd_T39 l0 x41_2).f2.f2) ((rd_T39 l0 x41_2).f2.f3) ((rd_T39 l0 x41_2).f3.f0) ((rd_T39 l0 x41_2).f3.f1) ((rd_T39 l0 x41_2).f3.f2) ((rd_T39 l0 x41_2).f3.f3) ((rd_T39 l0 x41_2).f4.f0) ((rd_T39 l0 x41_2).f4.f1) ((rd_T39 l0 x41_2).f4.f2) ((rd_T39 l0 x41_2).f4.f3) ((rd_T39 l0 x41_2).f5))) else (decoupagelaw28_RasterShifts.j2 k2 l0 a2 a3 x9_2 (l0.length : Int) x41_2 true a1_0 a1_1 a1_2 a1_3 a1_4 ((rd_T39 l0 x41_2).f0) ((rd_T39 l0 x41_2).f1) ((rd_T39 l0 x41_2).f2.f0) ((rd_T39 l0 x41_2).f2.f1) ((rd_T39 l0 x41_2).f2.f2) ((rd_T39 l0 x41_2).f2.f3) ((rd_T39 l0 x41_2).f3.f0) ((rd_T39 l0 x41_2).f3.f1) ((rd_T39 l0 x41_2).f3.f2) ((rd_T39 l0 x41_2).f3.f3) ((rd_T39 l0 x41_2).f4.f0) ((rd_T39 l0 x41_2).f4.f1) ((rd_T39 l0 x41_2).f4.f2) ((rd_T39 l0 x41_2).f4.f3) ((rd_T39 l0 x41_2).f5))) = some r := H
           have A33 := Aside0.mk A330
           clear A330
           by_cases c34 : t173 = true
           ·subst c34
            have H1 : ((decoupagelaw28_near.f ((rd_T39 l0 x41_2).f4.f0) ((rd_T39 l0 x41_2).f4.f1) ((rd_T39 l0 x41_2).f4.f2) ((rd_T39 l0 x41_2).f4.f3)).bind fun t174 => (decoupagelaw28_RasterShifts.j2 k2 l0 a2 a3 x9_2 (l0.length : Int) x41_2 (!t174) a1_0 a1_1 a1_2 a1_3 a1_4 ((rd_T39 l0 x41_2).f0) ((rd_T39 l0 x41_2).f1) ((rd_T39 l0 x41_2).f2.f0) ((rd_T39 l0 x41_2).f2.f1) ((rd_T39 l0 x41_2).f2.f2) ((rd_T39 l0 x41_2).f2.f3) ((rd_T39 l0 x41_2).f3.f0) ((rd_T39 l0 x41_2).f3.f1) ((rd_T39 l0 x41_2).f3.f2) ((rd_T39 l0 x41_2).f3.f3) ((rd_T39 l0 x41_2).f4.f0) ((rd_T39 l0 x41_2).f4.f1) ((rd_T39 l0 x41_2).f4.f2) ((rd_T39 l0 x41_2).f4.f3) ((rd_T39 l0 x41_2).f5))) = some r := by rw [if_pos rfl] at H; exact H
            clear H
            have H := H1
            clear H1
            replace H := Option.bind_eq_some_iff.mp H
            obtain ⟨t174, A350, H⟩ := H
            replace H : (decoupagelaw28_RasterShifts.j2 k2 l0 a2 a3 x9_2 (l0.length : Int) x41_2 (!t174) a1_0 a1_1 a1_2 a1_3 a1_4 ((rd_T39 l0 x41_2).f0) ((rd_T39 l0 x41_2).f1) ((rd_T39 l0 x41_2).f2.f0) ((rd_T39 l0 x41_2).f2.f1) ((rd_T39 l0 x41_2).f2.f2) ((rd_T39 l0 x41_2).f2.f3) ((rd_T39 l0 x41_2).f3.f0) ((rd_T39 l0 x41_2).f3.f1) ((rd_T39 l0 x41_2).f3.f2) ((rd_T39 l0 x41_2).f3.f3) ((rd_T39 l0 x41_2).f4.f0) ((rd_T39 l0 x41_2).f4.f1) ((rd_T39 l0 x41_2).f4.f2) ((rd_T39 l0 x41_2).f4.f3) ((rd_T39 l0 x41_2).f5)) = some r := H
            have A35 := Aside0.mk A350
            clear A350
            have H' := Aside0.mk H
            clear H
            have hnb36 := NB171_166.out
            have hnc36 := NB166_171.out
            have hcz37_0 : w28.cell? ⟨gb171, 0, none⟩ = some (.int .i64 0) := (blk_cell BK171.out 0).trans rfl
            have hcz37_1 : w28.cell? ⟨gb171, 1, none⟩ = some (.int .i64 0) := (blk_cell BK171.out 1).trans rfl
            have hcz37_2 : w28.cell? ⟨gb171, 2, none⟩ = some (.int .i64 0) := (blk_cell BK171.out 2).trans rfl
            have hcz37_3 : w28.cell? ⟨gb171, 3, none⟩ = some (.int .i64 0) := (blk_cell BK171.out 3).trans rfl
            have hcz37_4 : w28.cell? ⟨gb171, 4, none⟩ = some (.int .i64 0) := (blk_cell BK171.out 4).trans rfl
            have hcz37_5 : w28.cell? ⟨gb171, 5, none⟩ = some (.int .i64 0) := (blk_cell BK171.out 5).trans rfl
            have hcz37_6 : w28.cell? ⟨gb171, 6, none⟩ = some (.int .i64 0) := (blk_cell BK171.out 6).trans rfl
            have hcz37_7 : w28.cell? ⟨gb171, 7, none⟩ = some (.int .i64 0) := (blk_cell BK171.out 7).trans rfl
            have hcz37_8 : w28.cell? ⟨gb171, 8, none⟩ = some (.int .i64 0) := (blk_cell BK171.out 8).trans rfl
            have hcz37_9 : w28.cell? ⟨gb171, 9, none⟩ = some (.int .i64 0) := (blk_cell BK171.out 9).trans rfl
            have hcz37_10 : w28.cell? ⟨gb171, 10, none⟩ = some (.int .i64 0) := (blk_cell BK171.out 10).trans rfl
            have hcz37_11 : w28.cell? ⟨gb171, 11, none⟩ = some (.int .i64 0) := (blk_cell BK171.out 11).trans rfl
            have hcz37_12 : w28.cell? ⟨gb171, 12, none⟩ = some (.int .i64 0) := (blk_cell BK171.out 12).trans rfl
            have hcz37_13 : w28.cell? ⟨gb171, 13, none⟩ = some (.int .i64 0) := (blk_cell BK171.out 13).trans rfl
            have hcz37_14 : w28.cell? ⟨gb171, 14, none⟩ = some (.int .i64 0) := (blk_cell BK171.out 14).trans rfl
            have hfz37_0 := blk_frozen BK171.out 0
            have hfz37_1 := blk_frozen BK171.out 1
            have hfz37_2 := blk_frozen BK171.out 2
            have hfz37_3 := blk_frozen BK171.out 3
            have hfz37_4 := blk_frozen BK171.out 4
            have hfz37_5 := blk_frozen BK171.out 5
            have hfz37_6 := blk_frozen BK171.out 6
            have hfz37_7 := blk_frozen BK171.out 7
            have hfz37_8 := blk_frozen BK171.out 8
            have hfz37_9 := blk_frozen BK171.out 9
            have hfz37_10 := blk_frozen BK171.out 10
            have hfz37_11 := blk_frozen BK171.out 11
            have hfz37_12 := blk_frozen BK171.out 12
            have hfz37_13 := blk_frozen BK171.out 13
            have hfz37_14 := blk_frozen BK171.out 14
            go_wp2_with (first | ((with_reducible refine gate_callee (f := 31) rfl ?_); refine goesL_ (some 50) rfl rfl Try.func31 (by kernel_rfl) rfl #[.agg #[.int .i64 ((rd_T39 l0 x41_2).f2.f0), .int .i64 ((rd_T39 l0 x41_2).f2.f1), .int .i64 ((rd_T39 l0 x41_2).f2.f2), .int .i64 ((rd_T39 l0 x41_2).f2.f3)]] rfl (by (try simp only [List.map_toArray, List.map_cons, List.map_nil]); first | done | rfl | (simp only [List.length_drop, List.length_take]; rfl)) ?_; (with_reducible refine (decoupagelaw28_near.calls ((rd_T39 l0 x41_2).f2.f0) ((rd_T39 l0 x41_2).f2.f1) ((rd_T39 l0 x41_2).f2.f2) ((rd_T39 l0 x41_2).f2.f3) true _ A31.out).mono ?_); rintro e w38 ⟨rfl, hb⟩; refine ⟨_, rfl, ?_⟩; have n0_ := Aside0.mk (Kd.R_below (by (with_reducible repeat (first | apply Kd.R_alloc | apply Kd.R_drewN | apply Kd.R_drew)); exact (Kd.R_mono (Kd.R_far (p := ⟨gb171, 14, none⟩) (Kd.R_far (p := ⟨gb171, 13, none⟩) (Kd.R_far (p := ⟨gb171, 12, none⟩) (Kd.R_far (p := ⟨gb171, 11, none⟩) (Kd.R_far (p := ⟨gb171, 10, none⟩) (Kd.R_far (p := ⟨gb171, 9, none⟩) (Kd.R_far (p := ⟨gb171, 8, none⟩) (Kd.R_far (p := ⟨gb171, 7, none⟩) (Kd.R_far (p := ⟨gb171, 6, none⟩) (Kd.R_far (p := ⟨gb171, 5, none⟩) (Kd.R_far (p := ⟨gb171, 4, none⟩) (Kd.R_far (p := ⟨gb171, 3, none⟩) (Kd.R_far (p := ⟨gb171, 2, none⟩) (Kd.R_far (p := ⟨gb171, 1, none⟩) (Kd.R_far (p := ⟨gb171, 0, none⟩) (Kd.R_mono HO_9.out (fun k_ hk => (⟨hk, hk.2⟩ : _ ∧ k_ ≠ gb171))) (fun _ hk => hk.2) (.int .i64 ((rd_T39 l0 x41_2).f0))) (fun _ hk => hk.2) (.int .i64 ((rd_T39 l0 x41_2).f1))) (fun _ hk => hk.2) (.int .i64 ((rd_T39 l0 x41_2).f2.f0))) (fun _ hk => hk.2) (.int .i64 ((rd_T39 l0 x41_2).f2.f1))) (fun _ hk => hk.2) (.int .i64 ((rd_T39 l0 x41_2).f2.f2))) (fun _ hk => hk.2) (.int .i64 ((rd_T39 l0 x41_2).f2.f3))) (fun _ hk => hk.2) (.int .i64 ((rd_T39 l0 x41_2).f3.f0))) (fun _ hk => hk.2) (.int .i64 ((rd_T39 l0 x41_2).f3.f1))) (fun _ hk => hk.2) (.int .i64 ((rd_T39 l0 x41_2).f3.f2))) (fun _ hk => hk.2) (.int .i64 ((rd_T39 l0 x41_2).f3.f3))) (fun _ hk => hk.2) (.int .i64 ((rd_T39 l0 x41_2).f4.f0))) (fun _ hk => hk.2) (.int .i64 ((rd_T39 l0 x41_2).f4.f1))) (fun _ hk => hk.2) (.int .i64 ((rd_T39 l0 x41_2).f4.f2))) (fun _ hk => hk.2) (.int .i64 ((rd_T39 l0 x41_2).f4.f3))) (fun _ hk => hk.2) (.int .i64 ((rd_T39 l0 x41_2).f5))) (fun _ h_ => h_.1))) hb); have n1_ := Aside0.mk (blk_below (g := gb166) (o := .cells #[.int .i64 a1_0, .int .i64 a1_1, .int .i64 a1_2, .int .i64 a1_3, .int .i64 a1_4] 44 (0, 0)) (by (with_reducible repeat (first | refine blk_drewN ?_ _ | refine blk_drew ?_ | refine blk_alloc ?_ _)); refine blk_far ?_ NB166_171.out _; (with_reducible repeat (first | refine blk_drewN ?_ _ | refine blk_drew ?_ | refine blk_alloc ?_ _)); refine blk_far ?_ NB166_171.out _; (with_reducible repeat (first | refine blk_drewN ?_ _ | refine blk_drew ?_ | refine blk_alloc ?_ _)); refine blk_far ?_ NB166_171.out _; (with_reducible repeat (first | refine blk_drewN ?_ _ | refine blk_drew ?_ | refine blk_alloc ?_ _)); refine blk_far ?_ NB166_171.out _; (with_reducible repeat (first | refine blk_drewN ?_ _ | refine blk_drew ?_ | refine blk_alloc ?_ _)); refine blk_far ?_ NB166_171.out _; (with_reducible repeat (first | refine blk_drewN ?_ _ | refine blk_drew ?_ | refine blk_alloc ?_ _)); refine blk_far ?_ NB166_171.out _; (with_reducible repeat (first | refine blk_drewN ?_ _ | refine blk_drew ?_ | refine blk_alloc ?_ _)); refine blk_far ?_ NB166_171.out _; (with_reducible repeat (first | refine blk_drewN ?_ _ | refine blk_drew ?_ | refine blk_alloc ?_ _)); refine blk_far ?_ NB166_171.out _; (with_reducible repeat (first | refine blk_drewN ?_ _ | refine blk_drew ?_ | refine blk_alloc ?_ _)); refine blk_far ?_ NB166_171.out _; (with_reducible repeat (first | refine blk_drewN ?_ _ | refine blk_drew ?_ | refine blk_alloc ?_ _)); refine blk_far ?_ NB166_171.out _; (with_reducible repeat (first | refine blk_drewN ?_ _ | refine blk_drew ?_ | refine blk_alloc ?_ _)); refine blk_far ?_ NB166_171.out _; (with_reducible repeat (first | refine blk_drewN ?_ _ | refine blk_drew ?_ | refine blk_alloc ?_ _)); refine blk_far ?_ NB166_171.out _; (with_reducible repeat (first | refine blk_drewN ?_ _ | refine blk_drew ?_ | refine blk_alloc ?_ _)); refine blk_far ?_ NB166_171.out _; (with_reducible repeat (first | refine blk_drewN ?_ _ | refine blk_drew ?_ | refine blk_alloc ?_ _)); refine blk_far ?_ NB166_171.out _; (with_reducible repeat (first | refine blk_drewN ?_ _ | refine blk_drew ?_ | refine blk_alloc ?_ _)); refine blk_far ?_ NB166_171.out _; (with_reducible repeat (first | refine blk_drewN ?_ _ | refine blk_drew ?_ | refine blk_alloc ?_ _)); exact BK166.out) hb); have n2_ := Aside0.mk (blk_below (g := gb171) (o := .cells #[.int .i64 ((rd_T39 l0 x41_2).f0), .int .i64 ((rd_T39 l0 x41_2).f1), .int .i64 ((rd_T39 l0 x41_2).f2.f0), .int .i64 ((rd_T39 l0 x41_2).f2.f1), .int .i64 ((rd_T39 l0 x41_2).f2.f2), .int .i64 ((rd_T39 l0 x41_2).f2.f3), .int .i64 ((rd_T39 l0 x41_2).f3.f0), .int .i64 ((rd_T39 l0 x41_2).f3.f1), .int .i64 ((rd_T39 l0 x41_2).f3.f2), .int .i64 ((rd_T39 l0 x41_2).f3.f3), .int .i64 ((rd_T39 l0 x41_2).f4.f0), .int .i64 ((rd_T39 l0 x41_2).f4.f1), .int .i64 ((rd_T39 l0 x41_2).f4.f2), .int .i64 ((rd_T39 l0 x41_2).f4.f3), .int .i64 ((rd_T39 l0 x41_2).f5)] 39 (0, 0)) (by (with_reducible repeat (first | refine blk_drewN ?_ _ | refine blk_drew ?_ | refine blk_alloc ?_ _)); refine blk_put (cs := #[.int .i64 ((rd_T39 l0 x41_2).f0), .int .i64 ((rd_T39 l0 x41_2).f1), .int .i64 ((rd_T39 l0 x41_2).f2.f0), .int .i64 ((rd_T39 l0 x41_2).f2.f1), .int .i64 ((rd_T39 l0 x41_2).f2.f2), .int .i64 ((rd_T39 l0 x41_2).f2.f3), .int .i64 ((rd_T39 l0 x41_2).f3.f0), .int .i64 ((rd_T39 l0 x41_2).f3.f1), .int .i64 ((rd_T39 l0 x41_2).f3.f2), .int .i64 ((rd_T39 l0 x41_2).f3.f3), .int .i64 ((rd_T39 l0 x41_2).f4.f0), .int .i64 ((rd_T39 l0 x41_2).f4.f1), .int .i64 ((rd_T39 l0 x41_2).f4.f2), .int .i64 ((rd_T39 l0 x41_2).f4.f3), .int .i64 0]) ?_ 14 _ rfl; (with_reducible repeat (first | refine blk_drewN ?_ _ | refine blk_drew ?_ | refine blk_alloc ?_ _)); refine blk_put (cs := #[.int .i64 ((rd_T39 l0 x41_2).f0), .int .i64 ((rd_T39 l0 x41_2).f1), .int .i64 ((rd_T39 l0 x41_2).f2.f0), .int .i64 ((rd_T39 l0 x41_2).f2.f1), .int .i64 ((rd_T39 l0 x41_2).f2.f2), .int .i64 ((rd_T39 l0 x41_2).f2.f3), .int .i64 ((rd_T39 l0 x41_2).f3.f0), .int .i64 ((rd_T39 l0 x41_2).f3.f1), .int .i64 ((rd_T39 l0 x41_2).f3.f2), .int .i64 ((rd_T39 l0 x41_2).f3.f3), .int .i64 ((rd_T39 l0 x41_2).f4.f0), .int .i64 ((rd_T39 l0 x41_2).f4.f1), .int .i64 ((rd_T39 l0 x41_2).f4.f2), .int .i64 0, .int .i64 0]) ?_ 13 _ rfl; (with_reducible repeat (first | refine blk_drewN ?_ _ | refine blk_drew ?_ | refine blk_alloc ?_ _)); refine blk_put (cs := #[.int .i64 ((rd_T39 l0 x41_2).f0), .int .i64 ((rd_T39 l0 x41_2).f1), .int .i64 ((rd_T39 l0 x41_2).f2.f0), .int .i64 ((rd_T39 l0 x41_2).f2.f1), .int .i64 ((rd_T39 l0 x41_2).f2.f2), .int .i64 ((rd_T39 l0 x41_2).f2.f3), .int .i64 ((rd_T39 l0 x41_2).f3.f0), .int .i64 ((rd_T39 l0 x41_2).f3.f1), .int .i64 ((rd_T39 l0 x41_2).f3.f2), .int .i64 ((rd_T39 l0 x41_2).f3.f3), .int .i64 ((rd_T39 l0 x41_2).f4.f0), .int .i64 ((rd_T39 l0 x41_2).f4.f1), .int .i64 0, .int .i64 0, .int .i64 0]) ?_ 12 _ rfl; (with_reducible repeat (first | refine blk_drewN ?_ _ | refine blk_drew ?_ | refine blk_alloc ?_ _)); refine blk_put (cs := #[.int .i64 ((rd_T39 l0 x41_2).f0), .int .i64 ((rd_T39 l0 x41_2).f1), .int .i64 ((rd_T39 l0 x41_2).f2.f0), .int .i64 ((rd_T39 l0 x41_2).f2.f1), .int .i64 ((rd_T39 l0 x41_2).f2.f2), .int .i64 ((rd_T39 l0 x41_2).f2.f3), .int .i64 ((rd_T39 l0 x41_2).f3.f0), .int .i64 ((rd_T39 l0 x41_2).f3.f1), .int .i64 ((rd_T39 l0 x41_2).f3.f2), .int .i64 ((rd_T39 l0 x41_2).f3.f3), .int .i64 ((rd_T39 l0 x41_2).f4.f0), .int .i64 0, .int .i64 0, .int .i64 0, .int .i64 0]) ?_ 11 _ rfl; (with_reducible repeat (first | refine blk_drewN ?_ _ | refine blk_drew ?_ | refine blk_alloc ?_ _)); refine blk_put (cs := #[.int .i64 ((rd_T39 l0 x41_2).f0), .int .i64 ((rd_T39 l0 x41_2).f1), .int .i64 ((rd_T39 l0 x41_2).f2.f0), .int .i64 ((rd_T39 l0 x41_2).f2.f1), .int .i64 ((rd_T39 l0 x41_2).f2.f2), .int .i64 ((rd_T39 l0 x41_2).f2.f3), .int .i64 ((rd_T39 l0 x41_2).f3.f0), .int .i64 ((rd_T39 l0 x41_2).f3.f1), .int .i64 ((rd_T39 l0 x41_2).f3.f2), .int .i64 ((rd_T39 l0 x41_2).f3.f3), .int .i64 0, .int .i64 0, .int .i64 0, .int .i64 0, .int .i64 0]) ?_ 10 _ rfl; (with_reducible repeat (first | refine blk_drewN ?_ _ | refine blk_drew ?_ | refine blk_alloc ?_ _)); refine blk_put (cs := #[.int .i64 ((rd_T39 l0 x41_2).f0), .int .i64 ((rd_T39 l0 x41_2).f1), .int .i64 ((rd_T39 l0 x41_2).f2.f0), .int .i64 ((rd_T39 l0 x41_2).f2.f1), .int .i64 ((rd_T39 l0 x41_2).f2.f2), .int .i64 ((rd_T39 l0 x41_2).f2.f3), .int .i64 ((rd_T39 l0 x41_2).f3.f0), .int .i64 ((rd_T39 l0 x41_2).f3.f1), .int .i64 ((rd_T39 l0 x41_2).f3.f2), .int .i64 0, .int .i64 0, .int .i64 0, .int .i64 0, .int .i64 0, .int .i64 0]) ?_ 9 _ rfl; (with_reducible repeat (first | refine blk_drewN ?_ _ | refine blk_drew ?_ | refine blk_alloc ?_ _)); refine blk_put (cs := #[.int .i64 ((rd_T39 l0 x41_2).f0), .int .i64 ((rd_T39 l0 x41_2).f1), .int .i64 ((rd_T39 l0 x41_2).f2.f0), .int .i64 ((rd_T39 l0 x41_2).f2.f1), .int .i64 ((rd_T39 l0 x41_2).f2.f2), .int .i64 ((rd_T39 l0 x41_2).f2.f3), .int .i64 ((rd_T39 l0 x41_2).f3.f0), .int .i64 ((rd_T39 l0 x41_2).f3.f1), .int .i64 0, .int .i64 0, .int .i64 0, .int .i64 0, .int .i64 0, .int .i64 0, .int .i64 0]) ?_ 8 _ rfl; (with_reducible repeat (first | refine blk_drewN ?_ _ | refine blk_drew ?_ | refine blk_alloc ?_ _)); refine blk_put (cs := #[.int .i64 ((rd_T39 l0 x41_2).f0), .int .i64 ((rd_T39 l0 x41_2).f1), .int .i64 ((rd_T39 l0 x41_2).f2.f0), .int .i64 ((rd_T39 l0 x41_2).f2.f1), .int .i64 ((rd_T39 l0 x41_2).f2.f2), .int .i64 ((rd_T39 l0 x41_2).f2.f3), .int .i64 ((rd_T39 l0 x41_2).f3.f0), .int .i64 0, .int .i64 0, .int .i64 0, .int .i64 0, .int .i64 0, .int .i64 0, .int .i64 0, .int .i64 0]) ?_ 7 _ rfl; (with_reducible repeat (first | refine blk_drewN ?_ _ | refine blk_drew ?_ | refine blk_alloc ?_ _)); refine blk_put (cs := #[.int .i64 ((rd_T39 l0 x41_2).f0), .int .i64 ((rd_T39 l0 x41_2).f1), .int .i64 ((rd_T39 l0 x41_2).f2.f0), .int .i64 ((rd_T39 l0 x41_2).f2.f1), .int .i64 ((rd_T39 l0 x41_2).f2.f2), .int .i64 ((rd_T39 l0 x41_2).f2.f3), .int .i64 0, .int .i64 0, .int .i64 0, .int .i64 0, .int .i64 0, .int .i64 0, .int .i64 0, .int .i64 0, .int .i64 0]) ?_ 6 _ rfl; (with_reducible repeat (first | refine blk_drewN ?_ _ | refine blk_drew ?_ | refine blk_alloc ?_ _)); refine blk_put (cs := #[.int .i64 ((rd_T39 l0 x41_2).f0), .int .i64 ((rd_T39 l0 x41_2).f1), .int .i64 ((rd_T39 l0 x41_2).f2.f0), .int .i64 ((rd_T39 l0 x41_2).f2.f1), .int .i64 ((rd_T39 l0 x41_2).f2.f2), .int .i64 0, .int .i64 0, .int .i64 0, .int .i64 0, .int .i64 0, .int .i64 0, .int .i64 0, .int .i64 0, .int .i64 0, .int .i64 0]) ?_ 5 _ rfl; (with_reducible repeat (first | refine blk_drewN ?_ _ | refine blk_drew ?_ | refine blk_alloc ?_ _)); refine blk_put (cs := #[.int .i64 ((rd_T39 l0 x41_2).f0), .int .i64 ((rd_T39 l0 x41_2).f1), .int .i64 ((rd_T39 l0 x41_2).f2.f0), .int .i64 ((rd_T39 l0 x41_2).f2.f1), .int .i64 0, .int .i64 0, .int .i64 0, .int .i64 0, .int .i64 0, .int .i64 0, .int .i64 0, .int .i64 0, .int .i64 0, .int .i64 0, .int .i64 0]) ?_ 4 _ rfl; (with_reducible repeat (first | refine blk_drewN ?_ _ | refine blk_drew ?_ | refine blk_alloc ?_ _)); refine blk_put (cs := #[.int .i64 ((rd_T39 l0 x41_2).f0), .int .i64 ((rd_T39 l0 x41_2).f1), .int .i64 ((rd_T39 l0 x41_2).f2.f0), .int .i64 0, .int .i64 0, .int .i64 0, .int .i64 0, .int .i64 0, .int .i64 0, .int .i64 0, .int .i64 0, .int .i64 0, .int .i64 0, .int .i64 0, .int .i64 0]) ?_ 3 _ rfl; (with_reducible repeat (first | refine blk_drewN ?_ _ | refine blk_drew ?_ | refine blk_alloc ?_ _)); refine blk_put (cs := #[.int .i64 ((rd_T39 l0 x41_2).f0), .int .i64 ((rd_T39 l0 x41_2).f1), .int .i64 0, .int .i64 0, .int .i64 0, .int .i64 0, .int .i64 0, .int .i64 0, .int .i64 0, .int .i64 0, .int .i64 0, .int .i64 0, .int .i64 0, .int .i64 0, .int .i64 0]) ?_ 2 _ rfl; (with_reducible repeat (first | refine blk_drewN ?_ _ | refine blk_drew ?_ | refine blk_alloc ?_ _)); refine blk_put (cs := #[.int .i64 ((rd_T39 l0 x41_2).f0), .int .i64 0, .int .i64 0, .int .i64 0, .int .i64 0, .int .i64 0, .int .i64 0, .int .i64 0, .int .i64 0, .int .i64 0, .int .i64 0, .int .i64 0, .int .i64 0, .int .i64 0, .int .i64 0]) ?_ 1 _ rfl; (with_reducible repeat (first | refine blk_drewN ?_ _ | refine blk_drew ?_ | refine blk_alloc ?_ _)); refine blk_put (cs := #[.int .i64 0, .int .i64 0, .int .i64 0, .int .i64 0, .int .i64 0, .int .i64 0, .int .i64 0, .int .i64 0, .int .i64 0, .int .i64 0, .int .i64 0, .int .i64 0, .int .i64 0, .int .i64 0, .int .i64 0]) ?_ 0 _ rfl; (with_reducible repeat (first | refine blk_drewN ?_ _ | refine blk_drew ?_ | refine blk_alloc ?_ _)); exact BK171.out) hb); have n3_ := Aside0.mk (below_step (by repeat (first | (with_reducible first | exact HB.out | apply below_alloc | apply pw_below_drewN | apply below_drew1 | refine below_set ?_ GE166.out | refine below_set ?_ GE171.out) | exact HB.out)) hb); clear HO_9; clear BK166; clear BK171; clear HB; have HO_9 := n0_; have BK166 := n1_; have BK171 := n2_; have HB := n3_; clear n0_ n1_ n2_ n3_; (try clear hb); (try clear hb2); (try clear hk); (try clear hi); have hcz39_0 : w38.cell? ⟨gb171, 0, none⟩ = some (.int .i64 ((rd_T39 l0 x41_2).f0)) := (blk_cell BK171.out 0).trans rfl; have hcz39_1 : w38.cell? ⟨gb171, 1, none⟩ = some (.int .i64 ((rd_T39 l0 x41_2).f1)) := (blk_cell BK171.out 1).trans rfl; have hcz39_2 : w38.cell? ⟨gb171, 2, none⟩ = some (.int .i64 ((rd_T39 l0 x41_2).f2.f0)) := (blk_cell BK171.out 2).trans rfl; have hcz39_3 : w38.cell? ⟨gb171, 3, none⟩ = some (.int .i64 ((rd_T39 l0 x41_2).f2.f1)) := (blk_cell BK171.out 3).trans rfl; have hcz39_4 : w38.cell? ⟨gb171, 4, none⟩ = some (.int .i64 ((rd_T39 l0 x41_2).f2.f2)) := (blk_cell BK171.out 4).trans rfl; have hcz39_5 : w38.cell? ⟨gb171, 5, none⟩ = some (.int .i64 ((rd_T39 l0 x41_2).f2.f3)) := (blk_cell BK171.out 5).trans rfl; have hcz39_6 : w38.cell? ⟨gb171, 6, none⟩ = some (.int .i64 ((rd_T39 l0 x41_2).f3.f0)) := (blk_cell BK171.out 6).trans rfl; have hcz39_7 : w38.cell? ⟨gb171, 7, none⟩ = some (.int .i64 ((rd_T39 l0 x41_2).f3.f1)) := (blk_cell BK171.out 7).trans rfl; have hcz39_8 : w38.cell? ⟨gb171, 8, none⟩ = some (.int .i64 ((rd_T39 l0 x41_2).f3.f2)) := (blk_cell BK171.out 8).trans rfl; have hcz39_9 : w38.cell? ⟨gb171, 9, none⟩ = some (.int .i64 ((rd_T39 l0 x41_2).f3.f3)) := (blk_cell BK171.out 9).trans rfl; have hcz39_10 : w38.cell? ⟨gb171, 10, none⟩ = some (.int .i64 ((rd_T39 l0 x41_2).f4.f0)) := (blk_cell BK171.out 10).trans rfl; have hcz39_11 : w38.cell? ⟨gb171, 11, none⟩ = some (.int .i64 ((rd_T39 l0 x41_2).f4.f1)) := (blk_cell BK171.out 11).trans rfl; have hcz39_12 : w38.cell? ⟨gb171, 12, none⟩ = some (.int .i64 ((rd_T39 l0 x41_2).f4.f2)) := (blk_cell BK171.out 12).trans rfl; have hcz39_13 : w38.cell? ⟨gb171, 13, none⟩ = some (.int .i64 ((rd_T39 l0 x41_2).f4.f3)) := (blk_cell BK171.out 13).trans rfl; have hcz39_14 : w38.cell? ⟨gb171, 14, none⟩ = some (.int .i64 ((rd_T39 l0 x41_2).f5)) := (blk_cell BK171.out 14).trans rfl; have hfz39_0 := blk_frozen BK171.out 0; have hfz39_1 := blk_frozen BK171.out 1; have hfz39_2 := blk_frozen BK171.out 2; have hfz39_3 := blk_frozen BK171.out 3; have hfz39_4 := blk_frozen BK171.out 4; have hfz39_5 := blk_frozen BK171.out 5; have hfz39_6 := blk_frozen BK171.out 6; have hfz39_7 := blk_frozen BK171.out 7; have hfz39_8 := blk_frozen BK171.out 8; have hfz39_9 := blk_frozen BK171.out 9; have hfz39_10 := blk_frozen BK171.out 10; have hfz39_11 := blk_frozen BK171.out 11; have hfz39_12 := blk_frozen BK171.out 12; have hfz39_13 := blk_frozen BK171.out 13; have hfz39_14 := blk_frozen BK171.out 14) | (go_at_call 31; (with_reducible refine (decoupagelaw28_near.calls ((rd_T39 l0 x41_2).f3.f0) ((rd_T39 l0 x41_2).f3.f1) ((rd_T39 l0 x41_2).f3.f2) ((rd_T39 l0 x41_2).f3.f3) true _ A33.out).mono ?_); rintro e w40 ⟨rfl, hb⟩; have n0_ := Aside0.mk (Kd.R_below (by (with_reducible repeat (first | apply Kd.R_alloc | apply Kd.R_drewN | apply Kd.R_drew)); exact HO_9.out) hb); have n1_ := Aside0.mk (blk_below (g := gb166) (o := .cells #[.int .i64 a1_0, .int .i64 a1_1, .int .i64 a1_2, .int .i64 a1_3, .int .i64 a1_4] 44 (0, 0)) (by (with_reducible repeat (first | refine blk_drewN ?_ _ | refine blk_drew ?_ | refine blk_alloc ?_ _)); exact BK166.out) hb); have n2_ := Aside0.mk (blk_below (g := gb171) (o := .cells #[.int .i64 ((rd_T39 l0 x41_2).f0), .int .i64 ((rd_T39 l0 x41_2).f1), .int .i64 ((rd_T39 l0 x41_2).f2.f0), .int .i64 ((rd_T39 l0 x41_2).f2.f1), .int .i64 ((rd_T39 l0 x41_2).f2.f2), .int .i64 ((rd_T39 l0 x41_2).f2.f3), .int .i64 ((rd_T39 l0 x41_2).f3.f0), .int .i64 ((rd_T39 l0 x41_2).f3.f1), .int .i64 ((rd_T39 l0 x41_2).f3.f2), .int .i64 ((rd_T39 l0 x41_2).f3.f3), .int .i64 ((rd_T39 l0 x41_2).f4.f0), .int .i64 ((rd_T39 l0 x41_2).f4.f1), .int .i64 ((rd_T39 l0 x41_2).f4.f2), .int .i64 ((rd_T39 l0 x41_2).f4.f3), .int .i64 ((rd_T39 l0 x41_2).f5)] 39 (0, 0)) (by (with_reducible repeat (first | refine blk_drewN ?_ _ | refine blk_drew ?_ | refine blk_alloc ?_ _)); exact BK171.out) hb); have n3_ := Aside0.mk (below_step (by repeat (first | (with_reducible first | exact HB.out | apply below_alloc | apply pw_below_drewN | apply below_drew1 | refine below_set ?_ GE166.out | refine below_set ?_ GE171.out) | exact HB.out)) hb); clear HO_9; clear BK166; clear BK171; clear HB; have HO_9 := n0_; have BK166 := n1_; have BK171 := n2_; have HB := n3_; clear n0_ n1_ n2_ n3_; (try clear hb); (try clear hb2); (try clear hk); (try clear hi); have hcz41_0 : w40.cell? ⟨gb171, 0, none⟩ = some (.int .i64 ((rd_T39 l0 x41_2).f0)) := (blk_cell BK171.out 0).trans rfl; have hcz41_1 : w40.cell? ⟨gb171, 1, none⟩ = some (.int .i64 ((rd_T39 l0 x41_2).f1)) := (blk_cell BK171.out 1).trans rfl; have hcz41_2 : w40.cell? ⟨gb171, 2, none⟩ = some (.int .i64 ((rd_T39 l0 x41_2).f2.f0)) := (blk_cell BK171.out 2).trans rfl; have hcz41_3 : w40.cell? ⟨gb171, 3, none⟩ = some (.int .i64 ((rd_T39 l0 x41_2).f2.f1)) := (blk_cell BK171.out 3).trans rfl; have hcz41_4 : w40.cell? ⟨gb171, 4, none⟩ = some (.int .i64 ((rd_T39 l0 x41_2).f2.f2)) := (blk_cell BK171.out 4).trans rfl; have hcz41_5 : w40.cell? ⟨gb171, 5, none⟩ = some (.int .i64 ((rd_T39 l0 x41_2).f2.f3)) := (blk_cell BK171.out 5).trans rfl; have hcz41_6 : w40.cell? ⟨gb171, 6, none⟩ = some (.int .i64 ((rd_T39 l0 x41_2).f3.f0)) := (blk_cell BK171.out 6).trans rfl; have hcz41_7 : w40.cell? ⟨gb171, 7, none⟩ = some (.int .i64 ((rd_T39 l0 x41_2).f3.f1)) := (blk_cell BK171.out 7).trans rfl; have hcz41_8 : w40.cell? ⟨gb171, 8, none⟩ = some (.int .i64 ((rd_T39 l0 x41_2).f3.f2)) := (blk_cell BK171.out 8).trans rfl; have hcz41_9 : w40.cell? ⟨gb171, 9, none⟩ = some (.int .i64 ((rd_T39 l0 x41_2).f3.f3)) := (blk_cell BK171.out 9).trans rfl; have hcz41_10 : w40.cell? ⟨gb171, 10, none⟩ = some (.int .i64 ((rd_T39 l0 x41_2).f4.f0)) := (blk_cell BK171.out 10).trans rfl; have hcz41_11 : w40.cell? ⟨gb171, 11, none⟩ = some (.int .i64 ((rd_T39 l0 x41_2).f4.f1)) := (blk_cell BK171.out 11).trans rfl; have hcz41_12 : w40.cell? ⟨gb171, 12, none⟩ = some (.int .i64 ((rd_T39 l0 x41_2).f4.f2)) := (blk_cell BK171.out 12).trans rfl; have hcz41_13 : w40.cell? ⟨gb171, 13, none⟩ = some (.int .i64 ((rd_T39 l0 x41_2).f4.f3)) := (blk_cell BK171.out 13).trans rfl; have hcz41_14 : w40.cell? ⟨gb171, 14, none⟩ = some (.int .i64 ((rd_T39 l0 x41_2).f5)) := (blk_cell BK171.out 14).trans rfl; have hfz41_0 := blk_frozen BK171.out 0; have hfz41_1 := blk_frozen BK171.out 1; have hfz41_2 := blk_frozen BK171.out 2; have hfz41_3 := blk_frozen BK171.out 3; have hfz41_4 := blk_frozen BK171.out 4; have hfz41_5 := blk_frozen BK171.out 5; have hfz41_6 := blk_frozen BK171.out 6; have hfz41_7 := blk_frozen BK171.out 7; have hfz41_8 := blk_frozen BK171.out 8; have hfz41_9 := blk_frozen BK171.out 9; have hfz41_10 := blk_frozen BK171.out 10; have hfz41_11 := blk_frozen BK171.out 11; have hfz41_12 := blk_frozen BK171.out 12; have hfz41_13 := blk_frozen BK171.out 13; have hfz41_14 := blk_frozen BK171.out 14) | (go_at_call 31; (with_reducible refine (decoupagelaw28_near.calls ((rd_T39 l0 x41_2).f4.f0) ((rd_T39 l0 x41_2).f4.f1) ((rd_T39 l0 x41_2).f4.f2) ((rd_T39 l0 x41_2).f4.f3) t174 _ A35.out).mono ?_); rintro e w42 ⟨rfl, hb⟩; have n0_ := Aside0.mk (Kd.R_below (by (with_reducible repeat (first | apply Kd.R_alloc | apply Kd.R_drewN | apply Kd.R_drew)); exact HO_9.out) hb); have n1_ := Aside0.mk (blk_below (g := gb166) (o := .cells #[.int .i64 a1_0, .int .i64 a1_1, .int .i64 a1_2, .int .i64 a1_3, .int .i64 a1_4] 44 (0, 0)) (by (with_reducible repeat (first | refine blk_drewN ?_ _ | refine blk_drew ?_ | refine blk_alloc ?_ _)); exact BK166.out) hb); have n2_ := Aside0.mk (blk_below (g := gb171) (o := .cells #[.int .i64 ((rd_T39 l0 x41_2).f0), .int .i64 ((rd_T39 l0 x41_2).f1), .int .i64 ((rd_T39 l0 x41_2).f2.f0), .int .i64 ((rd_T39 l0 x41_2).f2.f1), .int .i64 ((rd_T39 l0 x41_2).f2.f2), .int .i64 ((rd_T39 l0 x41_2).f2.f3), .int .i64 ((rd_T39 l0 x41_2).f3.f0), .int .i64 ((rd_T39 l0 x41_2).f3.f1), .int .i64 ((rd_T39 l0 x41_2).f3.f2), .int .i64 ((rd_T39 l0 x41_2).f3.f3), .int .i64 ((rd_T39 l0 x41_2).f4.f0), .int .i64 ((rd_T39 l0 x41_2).f4.f1), .int .i64 ((rd_T39 l0 x41_2).f4.f2), .int .i64 ((rd_T39 l0 x41_2).f4.f3), .int .i64 ((rd_T39 l0 x41_2).f5)] 39 (0, 0)) (by (with_reducible repeat (first | refine blk_drewN ?_ _ | refine blk_drew ?_ | refine blk_alloc ?_ _)); exact BK171.out) hb); have n3_ := Aside0.mk (below_step (by repeat (first | (with_reducible first | exact HB.out | apply below_alloc | apply pw_below_drewN | apply below_drew1 | refine below_set ?_ GE166.out | refine below_set ?_ GE171.out) | exact HB.out)) hb); clear HO_9; clear BK166; clear BK171; clear HB; have HO_9 := n0_; have BK166 := n1_; have BK171 := n2_; have HB := n3_; clear n0_ n1_ n2_ n3_; (try clear hb); (try clear hb2); (try clear hk); (try clear hi)))
            go_meet
            case rel => exact ⟨_, (!t174), (by first | rfl | (simp; done) | (simp [*]; done)), H', ⟨by have := HJ4.out; have := HK2.out; first | omega | exact Nat.le_refl _⟩, ⟨by (with_reducible repeat (first | apply Kd.R_alloc | apply Kd.R_drewN | apply Kd.R_drew)); exact Kd.R_mono HO_9.out (fun _ hk => hk.2)⟩, ⟨by (with_reducible repeat (first | refine blk_drewN ?_ _ | refine blk_drew ?_ | refine blk_alloc ?_ _)); exact BK166.out⟩, ⟨by (with_reducible repeat (first | refine blk_drewN ?_ _ | refine blk_drew ?_ | refine blk_alloc ?_ _)); exact BK171.out⟩, ⟨by repeat (first | (with_reducible first | exact HB.out | apply below_alloc | apply pw_below_drewN | apply below_drew1 | refine below_set ?_ GE166.out | refine below_set ?_ GE171.out) | exact HB.out)⟩⟩
           ·replace c34 := Bool.eq_false_iff.mpr c34
            subst c34
            have H1 : (decoupagelaw28_RasterShifts.j2 k2 l0 a2 a3 x9_2 (l0.length : Int) x41_2 true a1_0 a1_1 a1_2 a1_3 a1_4 ((rd_T39 l0 x41_2).f0) ((rd_T39 l0 x41_2).f1) ((rd_T39 l0 x41_2).f2.f0) ((rd_T39 l0 x41_2).f2.f1) ((rd_T39 l0 x41_2).f2.f2) ((rd_T39 l0 x41_2).f2.f3) ((rd_T39 l0 x41_2).f3.f0) ((rd_T39 l0 x41_2).f3.f1) ((rd_T39 l0 x41_2).f3.f2) ((rd_T39 l0 x41_2).f3.f3) ((rd_T39 l0 x41_2).f4.f0) ((rd_T39 l0 x41_2).f4.f1) ((rd_T39 l0 x41_2).f4.f2) ((rd_T39 l0 x41_2).f4.f3) ((rd_T39 l0 x41_2).f5)) = some r := by rw [if_neg (show ¬ (false = true) by decide)] at H; exact H
            clear H
            have H := H1
            clear H1
            have H' := Aside0.mk H
            clear H
            have hnb43 := NB171_166.out
            have hnc43 := NB166_171.out
            have hcz44_0 : w28.cell? ⟨gb171, 0, none⟩ = some (.int .i64 0) := (blk_cell BK171.out 0).trans rfl
            have hcz44_1 : w28.cell? ⟨gb171, 1, none⟩ = some (.int .i64 0) := (blk_cell BK171.out 1).trans rfl
            have hcz44_2 : w28.cell? ⟨gb171, 2, none⟩ = some (.int .i64 0) := (blk_cell BK171.out 2).trans rfl
            have hcz44_3 : w28.cell? ⟨gb171, 3, none⟩ = some (.int .i64 0) := (blk_cell BK171.out 3).trans rfl
            have hcz44_4 : w28.cell? ⟨gb171, 4, none⟩ = some (.int .i64 0) := (blk_cell BK171.out 4).trans rfl
            have hcz44_5 : w28.cell? ⟨gb171, 5, none⟩ = some (.int .i64 0) := (blk_cell BK171.out 5).trans rfl
            have hcz44_6 : w28.cell? ⟨gb171, 6, none⟩ = some (.int .i64 0) := (blk_cell BK171.out 6).trans rfl
            have hcz44_7 : w28.cell? ⟨gb171, 7, none⟩ = some (.int .i64 0) := (blk_cell BK171.out 7).trans rfl
            have hcz44_8 : w28.cell? ⟨gb171, 8, none⟩ = some (.int .i64 0) := (blk_cell BK171.out 8).trans rfl
            have hcz44_9 : w28.cell? ⟨gb171, 9, none⟩ = some (.int .i64 0) := (blk_cell BK171.out 9).trans rfl
            have hcz44_10 : w28.cell? ⟨gb171, 10, none⟩ = some (.int .i64 0) := (blk_cell BK171.out 10).trans rfl
            have hcz44_11 : w28.cell? ⟨gb171, 11, none⟩ = some (.int .i64 0) := (blk_cell BK171.out 11).trans rfl
            have hcz44_12 : w28.cell? ⟨gb171, 12, none⟩ = some (.int .i64 0) := (blk_cell BK171.out 12).trans rfl
            have hcz44_13 : w28.cell? ⟨gb171, 13, none⟩ = some (.int .i64 0) := (blk_cell BK171.out 13).trans rfl
            have hcz44_14 : w28.cell? ⟨gb171, 14, none⟩ = some (.int .i64 0) := (blk_cell BK171.out 14).trans rfl
            have hfz44_0 := blk_frozen BK171.out 0
            have hfz44_1 := blk_frozen BK171.out 1
            have hfz44_2 := blk_frozen BK171.out 2
            have hfz44_3 := blk_frozen BK171.out 3
            have hfz44_4 := blk_frozen BK171.out 4
            have hfz44_5 := blk_frozen BK171.out 5
            have hfz44_6 := blk_frozen BK171.out 6
            have hfz44_7 := blk_frozen BK171.out 7
            have hfz44_8 := blk_frozen BK171.out 8
            have hfz44_9 := blk_frozen BK171.out 9
            have hfz44_10 := blk_frozen BK171.out 10
            have hfz44_11 := blk_frozen BK171.out 11
            have hfz44_12 := blk_frozen BK171.out 12
            have hfz44_13 := blk_frozen BK171.out 13
            have hfz44_14 := blk_frozen BK171.out 14
            go_wp2_with (first | ((with_reducible refine gate_callee (f := 31) rfl ?_); refine goesL_ (some 50) rfl rfl Try.func31 (by kernel_rfl) rfl #[.agg #[.int .i64 ((rd_T39 l0 x41_2).f2.f0), .int .i64 ((rd_T39 l0 x41_2).f2.f1), .int .i64 ((rd_T39 l0 x41_2).f2.f2), .int .i64 ((rd_T39 l0 x41_2).f2.f3)]] rfl (by (try simp only [List.map_toArray, List.map_cons, List.map_nil]); first | done | rfl | (simp only [List.length_drop, List.length_take]; rfl)) ?_; (with_reducible refine (decoupagelaw28_near.calls ((rd_T39 l0 x41_2).f2.f0) ((rd_T39 l0 x41_2).f2.f1) ((rd_T39 l0 x41_2).f2.f2) ((rd_T39 l0 x41_2).f2.f3) true _ A31.out).mono ?_); rintro e w45 ⟨rfl, hb⟩; refine ⟨_, rfl, ?_⟩; have n0_ := Aside0.mk (Kd.R_below (by (with_reducible repeat (first | apply Kd.R_alloc | apply Kd.R_drewN | apply Kd.R_drew)); exact (Kd.R_mono (Kd.R_far (p := ⟨gb171, 14, none⟩) (Kd.R_far (p := ⟨gb171, 13, none⟩) (Kd.R_far (p := ⟨gb171, 12, none⟩) (Kd.R_far (p := ⟨gb171, 11, none⟩) (Kd.R_far (p := ⟨gb171, 10, none⟩) (Kd.R_far (p := ⟨gb171, 9, none⟩) (Kd.R_far (p := ⟨gb171, 8, none⟩) (Kd.R_far (p := ⟨gb171, 7, none⟩) (Kd.R_far (p := ⟨gb171, 6, none⟩) (Kd.R_far (p := ⟨gb171, 5, none⟩) (Kd.R_far (p := ⟨gb171, 4, none⟩) (Kd.R_far (p := ⟨gb171, 3, none⟩) (Kd.R_far (p := ⟨gb171, 2, none⟩) (Kd.R_far (p := ⟨gb171, 1, none⟩) (Kd.R_far (p := ⟨gb171, 0, none⟩) (Kd.R_mono HO_9.out (fun k_ hk => (⟨hk, hk.2⟩ : _ ∧ k_ ≠ gb171))) (fun _ hk => hk.2) (.int .i64 ((rd_T39 l0 x41_2).f0))) (fun _ hk => hk.2) (.int .i64 ((rd_T39 l0 x41_2).f1))) (fun _ hk => hk.2) (.int .i64 ((rd_T39 l0 x41_2).f2.f0))) (fun _ hk => hk.2) (.int .i64 ((rd_T39 l0 x41_2).f2.f1))) (fun _ hk => hk.2) (.int .i64 ((rd_T39 l0 x41_2).f2.f2))) (fun _ hk => hk.2) (.int .i64 ((rd_T39 l0 x41_2).f2.f3))) (fun _ hk => hk.2) (.int .i64 ((rd_T39 l0 x41_2).f3.f0))) (fun _ hk => hk.2) (.int .i64 ((rd_T39 l0 x41_2).f3.f1))) (fun _ hk => hk.2) (.int .i64 ((rd_T39 l0 x41_2).f3.f2))) (fun _ hk => hk.2) (.int .i64 ((rd_T39 l0 x41_2).f3.f3))) (fun _ hk => hk.2) (.int .i64 ((rd_T39 l0 x41_2).f4.f0))) (fun _ hk => hk.2) (.int .i64 ((rd_T39 l0 x41_2).f4.f1))) (fun _ hk => hk.2) (.int .i64 ((rd_T39 l0 x41_2).f4.f2))) (fun _ hk => hk.2) (.int .i64 ((rd_T39 l0 x41_2).f4.f3))) (fun _ hk => hk.2) (.int .i64 ((rd_T39 l0 x41_2).f5))) (fun _ h_ => h_.1))) hb); have n1_ := Aside0.mk (blk_below (g := gb166) (o := .cells #[.int .i64 a1_0, .int .i64 a1_1, .int .i64 a1_2, .int .i64 a1_3, .int .i64 a1_4] 44 (0, 0)) (by (with_reducible repeat (first | refine blk_drewN ?_ _ | refine blk_drew ?_ | refine blk_alloc ?_ _)); refine blk_far ?_ NB166_171.out _; (with_reducible repeat (first | refine blk_drewN ?_ _ | refine blk_drew ?_ | refine blk_alloc ?_ _)); refine blk_far ?_ NB166_171.out _; (with_reducible repeat (first | refine blk_drewN ?_ _ | refine blk_drew ?_ | refine blk_alloc ?_ _)); refine blk_far ?_ NB166_171.out _; (with_reducible repeat (first | refine blk_drewN ?_ _ | refine blk_drew ?_ | refine blk_alloc ?_ _)); refine blk_far ?_ NB166_171.out _; (with_reducible repeat (first | refine blk_drewN ?_ _ | refine blk_drew ?_ | refine blk_alloc ?_ _)); refine blk_far ?_ NB166_171.out _; (with_reducible repeat (first | refine blk_drewN ?_ _ | refine blk_drew ?_ | refine blk_alloc ?_ _)); refine blk_far ?_ NB166_171.out _; (with_reducible repeat (first | refine blk_drewN ?_ _ | refine blk_drew ?_ | refine blk_alloc ?_ _)); refine blk_far ?_ NB166_171.out _; (with_reducible repeat (first | refine blk_drewN ?_ _ | refine blk_drew ?_ | refine blk_alloc ?_ _)); refine blk_far ?_ NB166_171.out _; (with_reducible repeat (first | refine blk_drewN ?_ _ | refine blk_drew ?_ | refine blk_alloc ?_ _)); refine blk_far ?_ NB166_171.out _; (with_reducible repeat (first | refine blk_drewN ?_ _ | refine blk_drew ?_ | refine blk_alloc ?_ _)); refine blk_far ?_ NB166_171.out _; (with_reducible repeat (first | refine blk_drewN ?_ _ | refine blk_drew ?_ | refine blk_alloc ?_ _)); refine blk_far ?_ NB166_171.out _; (with_reducible repeat (first | refine blk_drewN ?_ _ | refine blk_drew ?_ | refine blk_alloc ?_ _)); refine blk_far ?_ NB166_171.out _; (with_reducible repeat (first | refine blk_drewN ?_ _ | refine blk_drew ?_ | refine blk_alloc ?_ _)); refine blk_far ?_ NB166_171.out _; (with_reducible repeat (first | refine blk_drewN ?_ _ | refine blk_drew ?_ | refine blk_alloc ?_ _)); refine blk_far ?_ NB166_171.out _; (with_reducible repeat (first | refine blk_drewN ?_ _ | refine blk_drew ?_ | refine blk_alloc ?_ _)); refine blk_far ?_ NB166_171.out _; (with_reducible repeat (first | refine blk_drewN ?_ _ | refine blk_drew ?_ | refine blk_alloc ?_ _)); exact BK166.out) hb); have n2_ := Aside0.mk (blk_below (g := gb171) (o := .cells #[.int .i64 ((rd_T39 l0 x41_2).f0), .int .i64 ((rd_T39 l0 x41_2).f1), .int .i64 ((rd_T39 l0 x41_2).f2.f0), .int .i64 ((rd_T39 l0 x41_2).f2.f1), .int .i64 ((rd_T39 l0 x41_2).f2.f2), .int .i64 ((rd_T39 l0 x41_2).f2.f3), .int .i64 ((rd_T39 l0 x41_2).f3.f0), .int .i64 ((rd_T39 l0 x41_2).f3.f1), .int .i64 ((rd_T39 l0 x41_2).f3.f2), .int .i64 ((rd_T39 l0 x41_2).f3.f3), .int .i64 ((rd_T39 l0 x41_2).f4.f0), .int .i64 ((rd_T39 l0 x41_2).f4.f1), .int .i64 ((rd_T39 l0 x41_2).f4.f2), .int .i64 ((rd_T39 l0 x41_2).f4.f3), .int .i64 ((rd_T39 l0 x41_2).f5)] 39 (0, 0)) (by (with_reducible repeat (first | refine blk_drewN ?_ _ | refine blk_drew ?_ | refine blk_alloc ?_ _)); refine blk_put (cs := #[.int .i64 ((rd_T39 l0 x41_2).f0), .int .i64 ((rd_T39 l0 x41_2).f1), .int .i64 ((rd_T39 l0 x41_2).f2.f0), .int .i64 ((rd_T39 l0 x41_2).f2.f1), .int .i64 ((rd_T39 l0 x41_2).f2.f2), .int .i64 ((rd_T39 l0 x41_2).f2.f3), .int .i64 ((rd_T39 l0 x41_2).f3.f0), .int .i64 ((rd_T39 l0 x41_2).f3.f1), .int .i64 ((rd_T39 l0 x41_2).f3.f2), .int .i64 ((rd_T39 l0 x41_2).f3.f3), .int .i64 ((rd_T39 l0 x41_2).f4.f0), .int .i64 ((rd_T39 l0 x41_2).f4.f1), .int .i64 ((rd_T39 l0 x41_2).f4.f2), .int .i64 ((rd_T39 l0 x41_2).f4.f3), .int .i64 0]) ?_ 14 _ rfl; (with_reducible repeat (first | refine blk_drewN ?_ _ | refine blk_drew ?_ | refine blk_alloc ?_ _)); refine blk_put (cs := #[.int .i64 ((rd_T39 l0 x41_2).f0), .int .i64 ((rd_T39 l0 x41_2).f1), .int .i64 ((rd_T39 l0 x41_2).f2.f0), .int .i64 ((rd_T39 l0 x41_2).f2.f1), .int .i64 ((rd_T39 l0 x41_2).f2.f2), .int .i64 ((rd_T39 l0 x41_2).f2.f3), .int .i64 ((rd_T39 l0 x41_2).f3.f0), .int .i64 ((rd_T39 l0 x41_2).f3.f1), .int .i64 ((rd_T39 l0 x41_2).f3.f2), .int .i64 ((rd_T39 l0 x41_2).f3.f3), .int .i64 ((rd_T39 l0 x41_2).f4.f0), .int .i64 ((rd_T39 l0 x41_2).f4.f1), .int .i64 ((rd_T39 l0 x41_2).f4.f2), .int .i64 0, .int .i64 0]) ?_ 13 _ rfl; (with_reducible repeat (first | refine blk_drewN ?_ _ | refine blk_drew ?_ | refine blk_alloc ?_ _)); refine blk_put (cs := #[.int .i64 ((rd_T39 l0 x41_2).f0), .int .i64 ((rd_T39 l0 x41_2).f1), .int .i64 ((rd_T39 l0 x41_2).f2.f0), .int .i64 ((rd_T39 l0 x41_2).f2.f1), .int .i64 ((rd_T39 l0 x41_2).f2.f2), .int .i64 ((rd_T39 l0 x41_2).f2.f3), .int .i64 ((rd_T39 l0 x41_2).f3.f0), .int .i64 ((rd_T39 l0 x41_2).f3.f1), .int .i64 ((rd_T39 l0 x41_2).f3.f2), .int .i64 ((rd_T39 l0 x41_2).f3.f3), .int .i64 ((rd_T39 l0 x41_2).f4.f0), .int .i64 ((rd_T39 l0 x41_2).f4.f1), .int .i64 0, .int .i64 0, .int .i64 0]) ?_ 12 _ rfl; (with_reducible repeat (first | refine blk_drewN ?_ _ | refine blk_drew ?_ | refine blk_alloc ?_ _)); refine blk_put (cs := #[.int .i64 ((rd_T39 l0 x41_2).f0), .int .i64 ((rd_T39 l0 x41_2).f1), .int .i64 ((rd_T39 l0 x41_2).f2.f0), .int .i64 ((rd_T39 l0 x41_2).f2.f1), .int .i64 ((rd_T39 l0 x41_2).f2.f2), .int .i64 ((rd_T39 l0 x41_2).f2.f3), .int .i64 ((rd_T39 l0 x41_2).f3.f0), .int .i64 ((rd_T39 l0 x41_2).f3.f1), .int .i64 ((rd_T39 l0 x41_2).f3.f2), .int .i64 ((rd_T39 l0 x41_2).f3.f3), .int .i64 ((rd_T39 l0 x41_2).f4.f0), .int .i64 0, .int .i64 0, .int .i64 0, .int .i64 0]) ?_ 11 _ rfl; (with_reducible repeat (first | refine blk_drewN ?_ _ | refine blk_drew ?_ | refine blk_alloc ?_ _)); refine blk_put (cs := #[.int .i64 ((rd_T39 l0 x41_2).f0), .int .i64 ((rd_T39 l0 x41_2).f1), .int .i64 ((rd_T39 l0 x41_2).f2.f0), .int .i64 ((rd_T39 l0 x41_2).f2.f1), .int .i64 ((rd_T39 l0 x41_2).f2.f2), .int .i64 ((rd_T39 l0 x41_2).f2.f3), .int .i64 ((rd_T39 l0 x41_2).f3.f0), .int .i64 ((rd_T39 l0 x41_2).f3.f1), .int .i64 ((rd_T39 l0 x41_2).f3.f2), .int .i64 ((rd_T39 l0 x41_2).f3.f3), .int .i64 0, .int .i64 0, .int .i64 0, .int .i64 0, .int .i64 0]) ?_ 10 _ rfl; (with_reducible repeat (first | refine blk_drewN ?_ _ | refine blk_drew ?_ | refine blk_alloc ?_ _)); refine blk_put (cs := #[.int .i64 ((rd_T39 l0 x41_2).f0), .int .i64 ((rd_T39 l0 x41_2).f1), .int .i64 ((rd_T39 l0 x41_2).f2.f0), .int .i64 ((rd_T39 l0 x41_2).f2.f1), .int .i64 ((rd_T39 l0 x41_2).f2.f2), .int .i64 ((rd_T39 l0 x41_2).f2.f3), .int .i64 ((rd_T39 l0 x41_2).f3.f0), .int .i64 ((rd_T39 l0 x41_2).f3.f1), .int .i64 ((rd_T39 l0 x41_2).f3.f2), .int .i64 0, .int .i64 0, .int .i64 0, .int .i64 0, .int .i64 0, .int .i64 0]) ?_ 9 _ rfl; (with_reducible repeat (first | refine blk_drewN ?_ _ | refine blk_drew ?_ | refine blk_alloc ?_ _)); refine blk_put (cs := #[.int .i64 ((rd_T39 l0 x41_2).f0), .int .i64 ((rd_T39 l0 x41_2).f1), .int .i64 ((rd_T39 l0 x41_2).f2.f0), .int .i64 ((rd_T39 l0 x41_2).f2.f1), .int .i64 ((rd_T39 l0 x41_2).f2.f2), .int .i64 ((rd_T39 l0 x41_2).f2.f3), .int .i64 ((rd_T39 l0 x41_2).f3.f0), .int .i64 ((rd_T39 l0 x41_2).f3.f1), .int .i64 0, .int .i64 0, .int .i64 0, .int .i64 0, .int .i64 0, .int .i64 0, .int .i64 0]) ?_ 8 _ rfl; (with_reducible repeat (first | refine blk_drewN ?_ _ | refine blk_drew ?_ | refine blk_alloc ?_ _)); refine blk_put (cs := #[.int .i64 ((rd_T39 l0 x41_2).f0), .int .i64 ((rd_T39 l0 x41_2).f1), .int .i64 ((rd_T39 l0 x41_2).f2.f0), .int .i64 ((rd_T39 l0 x41_2).f2.f1), .int .i64 ((rd_T39 l0 x41_2).f2.f2), .int .i64 ((rd_T39 l0 x41_2).f2.f3), .int .i64 ((rd_T39 l0 x41_2).f3.f0), .int .i64 0, .int .i64 0, .int .i64 0, .int .i64 0, .int .i64 0, .int .i64 0, .int .i64 0, .int .i64 0]) ?_ 7 _ rfl; (with_reducible repeat (first | refine blk_drewN ?_ _ | refine blk_drew ?_ | refine blk_alloc ?_ _)); refine blk_put (cs := #[.int .i64 ((rd_T39 l0 x41_2).f0), .int .i64 ((rd_T39 l0 x41_2).f1), .int .i64 ((rd_T39 l0 x41_2).f2.f0), .int .i64 ((rd_T39 l0 x41_2).f2.f1), .int .i64 ((rd_T39 l0 x41_2).f2.f2), .int .i64 ((rd_T39 l0 x41_2).f2.f3), .int .i64 0, .int .i64 0, .int .i64 0, .int .i64 0, .int .i64 0, .int .i64 0, .int .i64 0, .int .i64 0, .int .i64 0]) ?_ 6 _ rfl; (with_reducible repeat (first | refine blk_drewN ?_ _ | refine blk_drew ?_ | refine blk_alloc ?_ _)); refine blk_put (cs := #[.int .i64 ((rd_T39 l0 x41_2).f0), .int .i64 ((rd_T39 l0 x41_2).f1), .int .i64 ((rd_T39 l0 x41_2).f2.f0), .int .i64 ((rd_T39 l0 x41_2).f2.f1), .int .i64 ((rd_T39 l0 x41_2).f2.f2), .int .i64 0, .int .i64 0, .int .i64 0, .int .i64 0, .int .i64 0, .int .i64 0, .int .i64 0, .int .i64 0, .int .i64 0, .int .i64 0]) ?_ 5 _ rfl; (with_reducible repeat (first | refine blk_drewN ?_ _ | refine blk_drew ?_ | refine blk_alloc ?_ _)); refine blk_put (cs := #[.int .i64 ((rd_T39 l0 x41_2).f0), .int .i64 ((rd_T39 l0 x41_2).f1), .int .i64 ((rd_T39 l0 x41_2).f2.f0), .int .i64 ((rd_T39 l0 x41_2).f2.f1), .int .i64 0, .int .i64 0, .int .i64 0, .int .i64 0, .int .i64 0, .int .i64 0, .int .i64 0, .int .i64 0, .int .i64 0, .int .i64 0, .int .i64 0]) ?_ 4 _ rfl; (with_reducible repeat (first | refine blk_drewN ?_ _ | refine blk_drew ?_ | refine blk_alloc ?_ _)); refine blk_put (cs := #[.int .i64 ((rd_T39 l0 x41_2).f0), .int .i64 ((rd_T39 l0 x41_2).f1), .int .i64 ((rd_T39 l0 x41_2).f2.f0), .int .i64 0, .int .i64 0, .int .i64 0, .int .i64 0, .int .i64 0, .int .i64 0, .int .i64 0, .int .i64 0, .int .i64 0, .int .i64 0, .int .i64 0, .int .i64 0]) ?_ 3 _ rfl; (with_reducible repeat (first | refine blk_drewN ?_ _ | refine blk_drew ?_ | refine blk_alloc ?_ _)); refine blk_put (cs := #[.int .i64 ((rd_T39 l0 x41_2).f0), .int .i64 ((rd_T39 l0 x41_2).f1), .int .i64 0, .int .i64 0, .int .i64 0, .int .i64 0, .int .i64 0, .int .i64 0, .int .i64 0, .int .i64 0, .int .i64 0, .int .i64 0, .int .i64 0, .int .i64 0, .int .i64 0]) ?_ 2 _ rfl; (with_reducible repeat (first | refine blk_drewN ?_ _ | refine blk_drew ?_ | refine blk_alloc ?_ _)); refine blk_put (cs := #[.int .i64 ((rd_T39 l0 x41_2).f0), .int .i64 0, .int .i64 0, .int .i64 0, .int .i64 0, .int .i64 0, .int .i64 0, .int .i64 0, .int .i64 0, .int .i64 0, .int .i64 0, .int .i64 0, .int .i64 0, .int .i64 0, .int .i64 0]) ?_ 1 _ rfl; (with_reducible repeat (first | refine blk_drewN ?_ _ | refine blk_drew ?_ | refine blk_alloc ?_ _)); refine blk_put (cs := #[.int .i64 0, .int .i64 0, .int .i64 0, .int .i64 0, .int .i64 0, .int .i64 0, .int .i64 0, .int .i64 0, .int .i64 0, .int .i64 0, .int .i64 0, .int .i64 0, .int .i64 0, .int .i64 0, .int .i64 0]) ?_ 0 _ rfl; (with_reducible repeat (first | refine blk_drewN ?_ _ | refine blk_drew ?_ | refine blk_alloc ?_ _)); exact BK171.out) hb); have n3_ := Aside0.mk (below_step (by repeat (first | (with_reducible first | exact HB.out | apply below_alloc | apply pw_below_drewN | apply below_drew1 | refine below_set ?_ GE166.out | refine below_set ?_ GE171.out) | exact HB.out)) hb); clear HO_9; clear BK166; clear BK171; clear HB; have HO_9 := n0_; have BK166 := n1_; have BK171 := n2_; have HB := n3_; clear n0_ n1_ n2_ n3_; (try clear hb); (try clear hb2); (try clear hk); (try clear hi); have hcz46_0 : w45.cell? ⟨gb171, 0, none⟩ = some (.int .i64 ((rd_T39 l0 x41_2).f0)) := (blk_cell BK171.out 0).trans rfl; have hcz46_1 : w45.cell? ⟨gb171, 1, none⟩ = some (.int .i64 ((rd_T39 l0 x41_2).f1)) := (blk_cell BK171.out 1).trans rfl; have hcz46_2 : w45.cell? ⟨gb171, 2, none⟩ = some (.int .i64 ((rd_T39 l0 x41_2).f2.f0)) := (blk_cell BK171.out 2).trans rfl; have hcz46_3 : w45.cell? ⟨gb171, 3, none⟩ = some (.int .i64 ((rd_T39 l0 x41_2).f2.f1)) := (blk_cell BK171.out 3).trans rfl; have hcz46_4 : w45.cell? ⟨gb171, 4, none⟩ = some (.int .i64 ((rd_T39 l0 x41_2).f2.f2)) := (blk_cell BK171.out 4).trans rfl; have hcz46_5 : w45.cell? ⟨gb171, 5, none⟩ = some (.int .i64 ((rd_T39 l0 x41_2).f2.f3)) := (blk_cell BK171.out 5).trans rfl; have hcz46_6 : w45.cell? ⟨gb171, 6, none⟩ = some (.int .i64 ((rd_T39 l0 x41_2).f3.f0)) := (blk_cell BK171.out 6).trans rfl; have hcz46_7 : w45.cell? ⟨gb171, 7, none⟩ = some (.int .i64 ((rd_T39 l0 x41_2).f3.f1)) := (blk_cell BK171.out 7).trans rfl; have hcz46_8 : w45.cell? ⟨gb171, 8, none⟩ = some (.int .i64 ((rd_T39 l0 x41_2).f3.f2)) := (blk_cell BK171.out 8).trans rfl; have hcz46_9 : w45.cell? ⟨gb171, 9, none⟩ = some (.int .i64 ((rd_T39 l0 x41_2).f3.f3)) := (blk_cell BK171.out 9).trans rfl; have hcz46_10 : w45.cell? ⟨gb171, 10, none⟩ = some (.int .i64 ((rd_T39 l0 x41_2).f4.f0)) := (blk_cell BK171.out 10).trans rfl; have hcz46_11 : w45.cell? ⟨gb171, 11, none⟩ = some (.int .i64 ((rd_T39 l0 x41_2).f4.f1)) := (blk_cell BK171.out 11).trans rfl; have hcz46_12 : w45.cell? ⟨gb171, 12, none⟩ = some (.int .i64 ((rd_T39 l0 x41_2).f4.f2)) := (blk_cell BK171.out 12).trans rfl; have hcz46_13 : w45.cell? ⟨gb171, 13, none⟩ = some (.int .i64 ((rd_T39 l0 x41_2).f4.f3)) := (blk_cell BK171.out 13).trans rfl; have hcz46_14 : w45.cell? ⟨gb171, 14, none⟩ = some (.int .i64 ((rd_T39 l0 x41_2).f5)) := (blk_cell BK171.out 14).trans rfl; have hfz46_0 := blk_frozen BK171.out 0; have hfz46_1 := blk_frozen BK171.out 1; have hfz46_2 := blk_frozen BK171.out 2; have hfz46_3 := blk_frozen BK171.out 3; have hfz46_4 := blk_frozen BK171.out 4; have hfz46_5 := blk_frozen BK171.out 5; have hfz46_6 := blk_frozen BK171.out 6; have hfz46_7 := blk_frozen BK171.out 7; have hfz46_8 := blk_frozen BK171.out 8; have hfz46_9 := blk_frozen BK171.out 9; have hfz46_10 := blk_frozen BK171.out 10; have hfz46_11 := blk_frozen BK171.out 11; have hfz46_12 := blk_frozen BK171.out 12; have hfz46_13 := blk_frozen BK171.out 13; have hfz46_14 := blk_frozen BK171.out 14) | (go_at_call 31; (with_reducible refine (decoupagelaw28_near.calls ((rd_T39 l0 x41_2).f3.f0) ((rd_T39 l0 x41_2).f3.f1) ((rd_T39 l0 x41_2).f3.f2) ((rd_T39 l0 x41_2).f3.f3) false _ A33.out).mono ?_); rintro e w47 ⟨rfl, hb⟩; have n0_ := Aside0.mk (Kd.R_below (by (with_reducible repeat (first | apply Kd.R_alloc | apply Kd.R_drewN | apply Kd.R_drew)); exact HO_9.out) hb); have n1_ := Aside0.mk (blk_below (g := gb166) (o := .cells #[.int .i64 a1_0, .int .i64 a1_1, .int .i64 a1_2, .int .i64 a1_3, .int .i64 a1_4] 44 (0, 0)) (by (with_reducible repeat (first | refine blk_drewN ?_ _ | refine blk_drew ?_ | refine blk_alloc ?_ _)); exact BK166.out) hb); have n2_ := Aside0.mk (blk_below (g := gb171) (o := .cells #[.int .i64 ((rd_T39 l0 x41_2).f0), .int .i64 ((rd_T39 l0 x41_2).f1), .int .i64 ((rd_T39 l0 x41_2).f2.f0), .int .i64 ((rd_T39 l0 x41_2).f2.f1), .int .i64 ((rd_T39 l0 x41_2).f2.f2), .int .i64 ((rd_T39 l0 x41_2).f2.f3), .int .i64 ((rd_T39 l0 x41_2).f3.f0), .int .i64 ((rd_T39 l0 x41_2).f3.f1), .int .i64 ((rd_T39 l0 x41_2).f3.f2), .int .i64 ((rd_T39 l0 x41_2).f3.f3), .int .i64 ((rd_T39 l0 x41_2).f4.f0), .int .i64 ((rd_T39 l0 x41_2).f4.f1), .int .i64 ((rd_T39 l0 x41_2).f4.f2), .int .i64 ((rd_T39 l0 x41_2).f4.f3), .int .i64 ((rd_T39 l0 x41_2).f5)] 39 (0, 0)) (by (with_reducible repeat (first | refine blk_drewN ?_ _ | refine blk_drew ?_ | refine blk_alloc ?_ _)); exact BK171.out) hb); have n3_ := Aside0.mk (below_step (by repeat (first | (with_reducible first | exact HB.out | apply below_alloc | apply pw_below_drewN | apply below_drew1 | refine below_set ?_ GE166.out | refine below_set ?_ GE171.out) | exact HB.out)) hb); clear HO_9; clear BK166; clear BK171; clear HB; have HO_9 := n0_; have BK166 := n1_; have BK171 := n2_; have HB := n3_; clear n0_ n1_ n2_ n3_; (try clear hb); (try clear hb2); (try clear hk); (try clear hi)))
            go_meet
            case rel => exact ⟨_, (true), (by first | rfl | (simp; done) | (simp [*]; done)), H', ⟨by have := HJ4.out; have := HK2.out; first | omega | exact Nat.le_refl _⟩, ⟨by (with_reducible repeat (first | apply Kd.R_alloc | apply Kd.R_drewN | apply Kd.R_drew)); exact Kd.R_mono HO_9.out (fun _ hk => hk.2)⟩, ⟨by (with_reducible repeat (first | refine blk_drewN ?_ _ | refine blk_drew ?_ | refine blk_alloc ?_ _)); exact BK166.out⟩, ⟨by (with_reducible repeat (first | refine blk_drewN ?_ _ | refine blk_drew ?_ | refine blk_alloc ?_ _)); exact BK171.out⟩, ⟨by repeat (first | (with_reducible first | exact HB.out | apply below_alloc | apply pw_below_drewN | apply below_drew1 | refine below_set ?_ GE166.out | refine below_set ?_ GE171.out) | exact HB.out)⟩⟩
          ·replace c32 := Bool.eq_false_iff.mpr c32
           subst c32
           have H1 : (decoupagelaw28_RasterShifts.j2 k2 l0 a2 a3 x9_2 (l0.length : Int) x41_2 true a1_0 a1_1 a1_2 a1_3 a1_4 ((rd_T39 l0 x41_2).f0) ((rd_T39 l0 x41_2).f1) ((rd_T39 l0 x41_2).f2.f0) ((rd_T39 l0 x41_2).f2.f1) ((rd_T39 l0 x41_2).f2.f2) ((rd_T39 l0 x41_2).f2.f3) ((rd_T39 l0 x41_2).f3.f0) ((rd_T39 l0 x41_2).f3.f1) ((rd_T39 l0 x41_2).f3.f2) ((rd_T39 l0 x41_2).f3.f3) ((rd_T39 l0 x41_2).f4.f0) ((rd_T39 l0 x41_2).f4.f1) ((rd_T39 l0 x41_2).f4.f2) ((rd_T39 l0 x41_2).f4.f3) ((rd_T39 l0 x41_2).f5)) = some r := by rw [if_neg (show ¬ (false = true) by decide)] at H; exact H
           clear H
           have H := H1
           clear H1
           have H' := Aside0.mk H
           clear H
           have hnb48 := NB171_166.out
           have hnc48 := NB166_171.out
           have hcz49_0 : w28.cell? ⟨gb171, 0, none⟩ = some (.int .i64 0) := (blk_cell BK171.out 0).trans rfl
           have hcz49_1 : w28.cell? ⟨gb171, 1, none⟩ = some (.int .i64 0) := (blk_cell BK171.out 1).trans rfl
           have hcz49_2 : w28.cell? ⟨gb171, 2, none⟩ = some (.int .i64 0) := (blk_cell BK171.out 2).trans rfl
           have hcz49_3 : w28.cell? ⟨gb171, 3, none⟩ = some (.int .i64 0) := (blk_cell BK171.out 3).trans rfl
           have hcz49_4 : w28.cell? ⟨gb171, 4, none⟩ = some (.int .i64 0) := (blk_cell BK171.out 4).trans rfl
           have hcz49_5 : w28.cell? ⟨gb171, 5, none⟩ = some (.int .i64 0) := (blk_cell BK171.out 5).trans rfl
           have hcz49_6 : w28.cell? ⟨gb171, 6, none⟩ = some (.int .i64 0) := (blk_cell BK171.out 6).trans rfl
           have hcz49_7 : w28.cell? ⟨gb171, 7, none⟩ = some (.int .i64 0) := (blk_cell BK171.out 7).trans rfl
           have hcz49_8 : w28.cell? ⟨gb171, 8, none⟩ = some (.int .i64 0) := (blk_cell BK171.out 8).trans rfl
           have hcz49_9 : w28.cell? ⟨gb171, 9, none⟩ = some (.int .i64 0) := (blk_cell BK171.out 9).trans rfl
           have hcz49_10 : w28.cell? ⟨gb171, 10, none⟩ = some (.int .i64 0) := (blk_cell BK171.out 10).trans rfl
           have hcz49_11 : w28.cell? ⟨gb171, 11, none⟩ = some (.int .i64 0) := (blk_cell BK171.out 11).trans rfl
           have hcz49_12 : w28.cell? ⟨gb171, 12, none⟩ = some (.int .i64 0) := (blk_cell BK171.out 12).trans rfl
           have hcz49_13 : w28.cell? ⟨gb171, 13, none⟩ = some (.int .i64 0) := (blk_cell BK171.out 13).trans rfl
           have hcz49_14 : w28.cell? ⟨gb171, 14, none⟩ = some (.int .i64 0) := (blk_cell BK171.out 14).trans rfl
           have hfz49_0 := blk_frozen BK171.out 0
           have hfz49_1 := blk_frozen BK171.out 1
           have hfz49_2 := blk_frozen BK171.out 2
           have hfz49_3 := blk_frozen BK171.out 3
           have hfz49_4 := blk_frozen BK171.out 4
           have hfz49_5 := blk_frozen BK171.out 5
           have hfz49_6 := blk_frozen BK171.out 6
           have hfz49_7 := blk_frozen BK171.out 7
           have hfz49_8 := blk_frozen BK171.out 8
           have hfz49_9 := blk_frozen BK171.out 9
           have hfz49_10 := blk_frozen BK171.out 10
           have hfz49_11 := blk_frozen BK171.out 11
           have hfz49_12 := blk_frozen BK171.out 12
           have hfz49_13 := blk_frozen BK171.out 13
           have hfz49_14 := blk_frozen BK171.out 14
           go_wp2_with (first | ((with_reducible refine gate_callee (f := 31) rfl ?_); refine goesL_ (some 50) rfl rfl Try.func31 (by kernel_rfl) rfl #[.agg #[.int .i64 ((rd_T39 l0 x41_2).f2.f0), .int .i64 ((rd_T39 l0 x41_2).f2.f1), .int .i64 ((rd_T39 l0 x41_2).f2.f2), .int .i64 ((rd_T39 l0 x41_2).f2.f3)]] rfl (by (try simp only [List.map_toArray, List.map_cons, List.map_nil]); first | done | rfl | (simp only [List.length_drop, List.length_take]; rfl)) ?_; (with_reducible refine (decoupagelaw28_near.calls ((rd_T39 l0 x41_2).f2.f0) ((rd_T39 l0 x41_2).f2.f1) ((rd_T39 l0 x41_2).f2.f2) ((rd_T39 l0 x41_2).f2.f3) false _ A31.out).mono ?_); rintro e w50 ⟨rfl, hb⟩; refine ⟨_, rfl, ?_⟩; have n0_ := Aside0.mk (Kd.R_below (by (with_reducible repeat (first | apply Kd.R_alloc | apply Kd.R_drewN | apply Kd.R_drew)); exact (Kd.R_mono (Kd.R_far (p := ⟨gb171, 14, none⟩) (Kd.R_far (p := ⟨gb171, 13, none⟩) (Kd.R_far (p := ⟨gb171, 12, none⟩) (Kd.R_far (p := ⟨gb171, 11, none⟩) (Kd.R_far (p := ⟨gb171, 10, none⟩) (Kd.R_far (p := ⟨gb171, 9, none⟩) (Kd.R_far (p := ⟨gb171, 8, none⟩) (Kd.R_far (p := ⟨gb171, 7, none⟩) (Kd.R_far (p := ⟨gb171, 6, none⟩) (Kd.R_far (p := ⟨gb171, 5, none⟩) (Kd.R_far (p := ⟨gb171, 4, none⟩) (Kd.R_far (p := ⟨gb171, 3, none⟩) (Kd.R_far (p := ⟨gb171, 2, none⟩) (Kd.R_far (p := ⟨gb171, 1, none⟩) (Kd.R_far (p := ⟨gb171, 0, none⟩) (Kd.R_mono HO_9.out (fun k_ hk => (⟨hk, hk.2⟩ : _ ∧ k_ ≠ gb171))) (fun _ hk => hk.2) (.int .i64 ((rd_T39 l0 x41_2).f0))) (fun _ hk => hk.2) (.int .i64 ((rd_T39 l0 x41_2).f1))) (fun _ hk => hk.2) (.int .i64 ((rd_T39 l0 x41_2).f2.f0))) (fun _ hk => hk.2) (.int .i64 ((rd_T39 l0 x41_2).f2.f1))) (fun _ hk => hk.2) (.int .i64 ((rd_T39 l0 x41_2).f2.f2))) (fun _ hk => hk.2) (.int .i64 ((rd_T39 l0 x41_2).f2.f3))) (fun _ hk => hk.2) (.int .i64 ((rd_T39 l0 x41_2).f3.f0))) (fun _ hk => hk.2) (.int .i64 ((rd_T39 l0 x41_2).f3.f1))) (fun _ hk => hk.2) (.int .i64 ((rd_T39 l0 x41_2).f3.f2))) (fun _ hk => hk.2) (.int .i64 ((rd_T39 l0 x41_2).f3.f3))) (fun _ hk => hk.2) (.int .i64 ((rd_T39 l0 x41_2).f4.f0))) (fun _ hk => hk.2) (.int .i64 ((rd_T39 l0 x41_2).f4.f1))) (fun _ hk => hk.2) (.int .i64 ((rd_T39 l0 x41_2).f4.f2))) (fun _ hk => hk.2) (.int .i64 ((rd_T39 l0 x41_2).f4.f3))) (fun _ hk => hk.2) (.int .i64 ((rd_T39 l0 x41_2).f5))) (fun _ h_ => h_.1))) hb); have n1_ := Aside0.mk (blk_below (g := gb166) (o := .cells #[.int .i64 a1_0, .int .i64 a1_1, .int .i64 a1_2, .int .i64 a1_3, .int .i64 a1_4] 44 (0, 0)) (by (with_reducible repeat (first | refine blk_drewN ?_ _ | refine blk_drew ?_ | refine blk_alloc ?_ _)); refine blk_far ?_ NB166_171.out _; (with_reducible repeat (first | refine blk_drewN ?_ _ | refine blk_drew ?_ | refine blk_alloc ?_ _)); refine blk_far ?_ NB166_171.out _; (with_reducible repeat (first | refine blk_drewN ?_ _ | refine blk_drew ?_ | refine blk_alloc ?_ _)); refine blk_far ?_ NB166_171.out _; (with_reducible repeat (first | refine blk_drewN ?_ _ | refine blk_drew ?_ | refine blk_alloc ?_ _)); refine blk_far ?_ NB166_171.out _; (with_reducible repeat (first | refine blk_drewN ?_ _ | refine blk_drew ?_ | refine blk_alloc ?_ _)); refine blk_far ?_ NB166_171.out _; (with_reducible repeat (first | refine blk_drewN ?_ _ | refine blk_drew ?_ | refine blk_alloc ?_ _)); refine blk_far ?_ NB166_171.out _; (with_reducible repeat (first | refine blk_drewN ?_ _ | refine blk_drew ?_ | refine blk_alloc ?_ _)); refine blk_far ?_ NB166_171.out _; (with_reducible repeat (first | refine blk_drewN ?_ _ | refine blk_drew ?_ | refine blk_alloc ?_ _)); refine blk_far ?_ NB166_171.out _; (with_reducible repeat (first | refine blk_drewN ?_ _ | refine blk_drew ?_ | refine blk_alloc ?_ _)); refine blk_far ?_ NB166_171.out _; (with_reducible repeat (first | refine blk_drewN ?_ _ | refine blk_drew ?_ | refine blk_alloc ?_ _)); refine blk_far ?_ NB166_171.out _; (with_reducible repeat (first | refine blk_drewN ?_ _ | refine blk_drew ?_ | refine blk_alloc ?_ _)); refine blk_far ?_ NB166_171.out _; (with_reducible repeat (first | refine blk_drewN ?_ _ | refine blk_drew ?_ | refine blk_alloc ?_ _)); refine blk_far ?_ NB166_171.out _; (with_reducible repeat (first | refine blk_drewN ?_ _ | refine blk_drew ?_ | refine blk_alloc ?_ _)); refine blk_far ?_ NB166_171.out _; (with_reducible repeat (first | refine blk_drewN ?_ _ | refine blk_drew ?_ | refine blk_alloc ?_ _)); refine blk_far ?_ NB166_171.out _; (with_reducible repeat (first | refine blk_drewN ?_ _ | refine blk_drew ?_ | refine blk_alloc ?_ _)); refine blk_far ?_ NB166_171.out _; (with_reducible repeat (first | refine blk_drewN ?_ _ | refine blk_drew ?_ | refine blk_alloc ?_ _)); exact BK166.out) hb); have n2_ := Aside0.mk (blk_below (g := gb171) (o := .cells #[.int .i64 ((rd_T39 l0 x41_2).f0), .int .i64 ((rd_T39 l0 x41_2).f1), .int .i64 ((rd_T39 l0 x41_2).f2.f0), .int .i64 ((rd_T39 l0 x41_2).f2.f1), .int .i64 ((rd_T39 l0 x41_2).f2.f2), .int .i64 ((rd_T39 l0 x41_2).f2.f3), .int .i64 ((rd_T39 l0 x41_2).f3.f0), .int .i64 ((rd_T39 l0 x41_2).f3.f1), .int .i64 ((rd_T39 l0 x41_2).f3.f2), .int .i64 ((rd_T39 l0 x41_2).f3.f3), .int .i64 ((rd_T39 l0 x41_2).f4.f0), .int .i64 ((rd_T39 l0 x41_2).f4.f1), .int .i64 ((rd_T39 l0 x41_2).f4.f2), .int .i64 ((rd_T39 l0 x41_2).f4.f3), .int .i64 ((rd_T39 l0 x41_2).f5)] 39 (0, 0)) (by (with_reducible repeat (first | refine blk_drewN ?_ _ | refine blk_drew ?_ | refine blk_alloc ?_ _)); refine blk_put (cs := #[.int .i64 ((rd_T39 l0 x41_2).f0), .int .i64 ((rd_T39 l0 x41_2).f1), .int .i64 ((rd_T39 l0 x41_2).f2.f0), .int .i64 ((rd_T39 l0 x41_2).f2.f1), .int .i64 ((rd_T39 l0 x41_2).f2.f2), .int .i64 ((rd_T39 l0 x41_2).f2.f3), .int .i64 ((rd_T39 l0 x41_2).f3.f0), .int .i64 ((rd_T39 l0 x41_2).f3.f1), .int .i64 ((rd_T39 l0 x41_2).f3.f2), .int .i64 ((rd_T39 l0 x41_2).f3.f3), .int .i64 ((rd_T39 l0 x41_2).f4.f0), .int .i64 ((rd_T39 l0 x41_2).f4.f1), .int .i64 ((rd_T39 l0 x41_2).f4.f2), .int .i64 ((rd_T39 l0 x41_2).f4.f3), .int .i64 0]) ?_ 14 _ rfl; (with_reducible repeat (first | refine blk_drewN ?_ _ | refine blk_drew ?_ | refine blk_alloc ?_ _)); refine blk_put (cs := #[.int .i64 ((rd_T39 l0 x41_2).f0), .int .i64 ((rd_T39 l0 x41_2).f1), .int .i64 ((rd_T39 l0 x41_2).f2.f0), .int .i64 ((rd_T39 l0 x41_2).f2.f1), .int .i64 ((rd_T39 l0 x41_2).f2.f2), .int .i64 ((rd_T39 l0 x41_2).f2.f3), .int .i64 ((rd_T39 l0 x41_2).f3.f0), .int .i64 ((rd_T39 l0 x41_2).f3.f1), .int .i64 ((rd_T39 l0 x41_2).f3.f2), .int .i64 ((rd_T39 l0 x41_2).f3.f3), .int .i64 ((rd_T39 l0 x41_2).f4.f0), .int .i64 ((rd_T39 l0 x41_2).f4.f1), .int .i64 ((rd_T39 l0 x41_2).f4.f2), .int .i64 0, .int .i64 0]) ?_ 13 _ rfl; (with_reducible repeat (first | refine blk_drewN ?_ _ | refine blk_drew ?_ | refine blk_alloc ?_ _)); refine blk_put (cs := #[.int .i64 ((rd_T39 l0 x41_2).f0), .int .i64 ((rd_T39 l0 x41_2).f1), .int .i64 ((rd_T39 l0 x41_2).f2.f0), .int .i64 ((rd_T39 l0 x41_2).f2.f1), .int .i64 ((rd_T39 l0 x41_2).f2.f2), .int .i64 ((rd_T39 l0 x41_2).f2.f3), .int .i64 ((rd_T39 l0 x41_2).f3.f0), .int .i64 ((rd_T39 l0 x41_2).f3.f1), .int .i64 ((rd_T39 l0 x41_2).f3.f2), .int .i64 ((rd_T39 l0 x41_2).f3.f3), .int .i64 ((rd_T39 l0 x41_2).f4.f0), .int .i64 ((rd_T39 l0 x41_2).f4.f1), .int .i64 0, .int .i64 0, .int .i64 0]) ?_ 12 _ rfl; (with_reducible repeat (first | refine blk_drewN ?_ _ | refine blk_drew ?_ | refine blk_alloc ?_ _)); refine blk_put (cs := #[.int .i64 ((rd_T39 l0 x41_2).f0), .int .i64 ((rd_T39 l0 x41_2).f1), .int .i64 ((rd_T39 l0 x41_2).f2.f0), .int .i64 ((rd_T39 l0 x41_2).f2.f1), .int .i64 ((rd_T39 l0 x41_2).f2.f2), .int .i64 ((rd_T39 l0 x41_2).f2.f3), .int .i64 ((rd_T39 l0 x41_2).f3.f0), .int .i64 ((rd_T39 l0 x41_2).f3.f1), .int .i64 ((rd_T39 l0 x41_2).f3.f2), .int .i64 ((rd_T39 l0 x41_2).f3.f3), .int .i64 ((rd_T39 l0 x41_2).f4.f0), .int .i64 0, .int .i64 0, .int .i64 0, .int .i64 0]) ?_ 11 _ rfl; (with_reducible repeat (first | refine blk_drewN ?_ _ | refine blk_drew ?_ | refine blk_alloc ?_ _)); refine blk_put (cs := #[.int .i64 ((rd_T39 l0 x41_2).f0), .int .i64 ((rd_T39 l0 x41_2).f1), .int .i64 ((rd_T39 l0 x41_2).f2.f0), .int .i64 ((rd_T39 l0 x41_2).f2.f1), .int .i64 ((rd_T39 l0 x41_2).f2.f2), .int .i64 ((rd_T39 l0 x41_2).f2.f3), .int .i64 ((rd_T39 l0 x41_2).f3.f0), .int .i64 ((rd_T39 l0 x41_2).f3.f1), .int .i64 ((rd_T39 l0 x41_2).f3.f2), .int .i64 ((rd_T39 l0 x41_2).f3.f3), .int .i64 0, .int .i64 0, .int .i64 0, .int .i64 0, .int .i64 0]) ?_ 10 _ rfl; (with_reducible repeat (first | refine blk_drewN ?_ _ | refine blk_drew ?_ | refine blk_alloc ?_ _)); refine blk_put (cs := #[.int .i64 ((rd_T39 l0 x41_2).f0), .int .i64 ((rd_T39 l0 x41_2).f1), .int .i64 ((rd_T39 l0 x41_2).f2.f0), .int .i64 ((rd_T39 l0 x41_2).f2.f1), .int .i64 ((rd_T39 l0 x41_2).f2.f2), .int .i64 ((rd_T39 l0 x41_2).f2.f3), .int .i64 ((rd_T39 l0 x41_2).f3.f0), .int .i64 ((rd_T39 l0 x41_2).f3.f1), .int .i64 ((rd_T39 l0 x41_2).f3.f2), .int .i64 0, .int .i64 0, .int .i64 0, .int .i64 0, .int .i64 0, .int .i64 0]) ?_ 9 _ rfl; (with_reducible repeat (first | refine blk_drewN ?_ _ | refine blk_drew ?_ | refine blk_alloc ?_ _)); refine blk_put (cs := #[.int .i64 ((rd_T39 l0 x41_2).f0), .int .i64 ((rd_T39 l0 x41_2).f1), .int .i64 ((rd_T39 l0 x41_2).f2.f0), .int .i64 ((rd_T39 l0 x41_2).f2.f1), .int .i64 ((rd_T39 l0 x41_2).f2.f2), .int .i64 ((rd_T39 l0 x41_2).f2.f3), .int .i64 ((rd_T39 l0 x41_2).f3.f0), .int .i64 ((rd_T39 l0 x41_2).f3.f1), .int .i64 0, .int .i64 0, .int .i64 0, .int .i64 0, .int .i64 0, .int .i64 0, .int .i64 0]) ?_ 8 _ rfl; (with_reducible repeat (first | refine blk_drewN ?_ _ | refine blk_drew ?_ | refine blk_alloc ?_ _)); refine blk_put (cs := #[.int .i64 ((rd_T39 l0 x41_2).f0), .int .i64 ((rd_T39 l0 x41_2).f1), .int .i64 ((rd_T39 l0 x41_2).f2.f0), .int .i64 ((rd_T39 l0 x41_2).f2.f1), .int .i64 ((rd_T39 l0 x41_2).f2.f2), .int .i64 ((rd_T39 l0 x41_2).f2.f3), .int .i64 ((rd_T39 l0 x41_2).f3.f0), .int .i64 0, .int .i64 0, .int .i64 0, .int .i64 0, .int .i64 0, .int .i64 0, .int .i64 0, .int .i64 0]) ?_ 7 _ rfl; (with_reducible repeat (first | refine blk_drewN ?_ _ | refine blk_drew ?_ | refine blk_alloc ?_ _)); refine blk_put (cs := #[.int .i64 ((rd_T39 l0 x41_2).f0), .int .i64 ((rd_T39 l0 x41_2).f1), .int .i64 ((rd_T39 l0 x41_2).f2.f0), .int .i64 ((rd_T39 l0 x41_2).f2.f1), .int .i64 ((rd_T39 l0 x41_2).f2.f2), .int .i64 ((rd_T39 l0 x41_2).f2.f3), .int .i64 0, .int .i64 0, .int .i64 0, .int .i64 0, .int .i64 0, .int .i64 0, .int .i64 0, .int .i64 0, .int .i64 0]) ?_ 6 _ rfl; (with_reducible repeat (first | refine blk_drewN ?_ _ | refine blk_drew ?_ | refine blk_alloc ?_ _)); refine blk_put (cs := #[.int .i64 ((rd_T39 l0 x41_2).f0), .int .i64 ((rd_T39 l0 x41_2).f1), .int .i64 ((rd_T39 l0 x41_2).f2.f0), .int .i64 ((rd_T39 l0 x41_2).f2.f1), .int .i64 ((rd_T39 l0 x41_2).f2.f2), .int .i64 0, .int .i64 0, .int .i64 0, .int .i64 0, .int .i64 0, .int .i64 0, .int .i64 0, .int .i64 0, .int .i64 0, .int .i64 0]) ?_ 5 _ rfl; (with_reducible repeat (first | refine blk_drewN ?_ _ | refine blk_drew ?_ | refine blk_alloc ?_ _)); refine blk_put (cs := #[.int .i64 ((rd_T39 l0 x41_2).f0), .int .i64 ((rd_T39 l0 x41_2).f1), .int .i64 ((rd_T39 l0 x41_2).f2.f0), .int .i64 ((rd_T39 l0 x41_2).f2.f1), .int .i64 0, .int .i64 0, .int .i64 0, .int .i64 0, .int .i64 0, .int .i64 0, .int .i64 0, .int .i64 0, .int .i64 0, .int .i64 0, .int .i64 0]) ?_ 4 _ rfl; (with_reducible repeat (first | refine blk_drewN ?_ _ | refine blk_drew ?_ | refine blk_alloc ?_ _)); refine blk_put (cs := #[.int .i64 ((rd_T39 l0 x41_2).f0), .int .i64 ((rd_T39 l0 x41_2).f1), .int .i64 ((rd_T39 l0 x41_2).f2.f0), .int .i64 0, .int .i64 0, .int .i64 0, .int .i64 0, .int .i64 0, .int .i64 0, .int .i64 0, .int .i64 0, .int .i64 0, .int .i64 0, .int .i64 0, .int .i64 0]) ?_ 3 _ rfl; (with_reducible repeat (first | refine blk_drewN ?_ _ | refine blk_drew ?_ | refine blk_alloc ?_ _)); refine blk_put (cs := #[.int .i64 ((rd_T39 l0 x41_2).f0), .int .i64 ((rd_T39 l0 x41_2).f1), .int .i64 0, .int .i64 0, .int .i64 0, .int .i64 0, .int .i64 0, .int .i64 0, .int .i64 0, .int .i64 0, .int .i64 0, .int .i64 0, .int .i64 0, .int .i64 0, .int .i64 0]) ?_ 2 _ rfl; (with_reducible repeat (first | refine blk_drewN ?_ _ | refine blk_drew ?_ | refine blk_alloc ?_ _)); refine blk_put (cs := #[.int .i64 ((rd_T39 l0 x41_2).f0), .int .i64 0, .int .i64 0, .int .i64 0, .int .i64 0, .int .i64 0, .int .i64 0, .int .i64 0, .int .i64 0, .int .i64 0, .int .i64 0, .int .i64 0, .int .i64 0, .int .i64 0, .int .i64 0]) ?_ 1 _ rfl; (with_reducible repeat (first | refine blk_drewN ?_ _ | refine blk_drew ?_ | refine blk_alloc ?_ _)); refine blk_put (cs := #[.int .i64 0, .int .i64 0, .int .i64 0, .int .i64 0, .int .i64 0, .int .i64 0, .int .i64 0, .int .i64 0, .int .i64 0, .int .i64 0, .int .i64 0, .int .i64 0, .int .i64 0, .int .i64 0, .int .i64 0]) ?_ 0 _ rfl; (with_reducible repeat (first | refine blk_drewN ?_ _ | refine blk_drew ?_ | refine blk_alloc ?_ _)); exact BK171.out) hb); have n3_ := Aside0.mk (below_step (by repeat (first | (with_reducible first | exact HB.out | apply below_alloc | apply pw_below_drewN | apply below_drew1 | refine below_set ?_ GE166.out | refine below_set ?_ GE171.out) | exact HB.out)) hb); clear HO_9; clear BK166; clear BK171; clear HB; have HO_9 := n0_; have BK166 := n1_; have BK171 := n2_; have HB := n3_; clear n0_ n1_ n2_ n3_; (try clear hb); (try clear hb2); (try clear hk); (try clear hi)))
           go_meet
           case rel => exact ⟨_, (true), (by first | rfl | (simp; done) | (simp [*]; done)), H', ⟨by have := HJ4.out; have := HK2.out; first | omega | exact Nat.le_refl _⟩, ⟨by (with_reducible repeat (first | apply Kd.R_alloc | apply Kd.R_drewN | apply Kd.R_drew)); exact Kd.R_mono HO_9.out (fun _ hk => hk.2)⟩, ⟨by (with_reducible repeat (first | refine blk_drewN ?_ _ | refine blk_drew ?_ | refine blk_alloc ?_ _)); exact BK166.out⟩, ⟨by (with_reducible repeat (first | refine blk_drewN ?_ _ | refine blk_drew ?_ | refine blk_alloc ?_ _)); exact BK171.out⟩, ⟨by repeat (first | (with_reducible first | exact HB.out | apply below_alloc | apply pw_below_drewN | apply below_drew1 | refine below_set ?_ GE166.out | refine below_set ?_ GE171.out) | exact HB.out)⟩⟩
         case rest =>
          clear HC27
          try clear c1
          try clear p1
          try clear q1
          try clear hx1
          try clear c2
          try clear p2
          try clear c3
          try clear c4
          try clear p6
          try clear c8
          try clear c9
          try clear c9b0
          try clear c9b1
          try clear c12
          try clear p17
          try clear q17
          try clear hx17
          try clear c21
          try clear c24
          try clear c24b0
          try clear c25
          try clear c25b0
          try clear c26
          try clear c26b0
          try clear c29
          try clear c31
          try clear c32
          try clear c34
          try clear c36
          try clear c43
          try clear c48
          try clear hcz14_0
          try clear hcz14_1
          try clear hcz14_2
          try clear hcz14_3
          try clear hcz14_4
          try clear hcz16_0
          try clear hcz16_1
          try clear hcz16_2
          try clear hcz16_3
          try clear hcz16_4
          try clear hcz18_0
          try clear hcz18_1
          try clear hcz18_2
          try clear hcz18_3
          try clear hcz18_4
          try clear hcz30_0
          try clear hcz30_1
          try clear hcz30_10
          try clear hcz30_11
          try clear hcz30_12
          try clear hcz30_13
          try clear hcz30_14
          try clear hcz30_2
          try clear hcz30_3
          try clear hcz30_4
          try clear hcz30_5
          try clear hcz30_6
          try clear hcz30_7
          try clear hcz30_8
          try clear hcz30_9
          try clear hcz37_0
          try clear hcz37_1
          try clear hcz37_10
          try clear hcz37_11
          try clear hcz37_12
          try clear hcz37_13
          try clear hcz37_14
          try clear hcz37_2
          try clear hcz37_3
          try clear hcz37_4
          try clear hcz37_5
          try clear hcz37_6
          try clear hcz37_7
          try clear hcz37_8
          try clear hcz37_9
          try clear hcz39_0
          try clear hcz39_1
          try clear hcz39_10
          try clear hcz39_11
          try clear hcz39_12
          try clear hcz39_13
          try clear hcz39_14
          try clear hcz39_2
          try clear hcz39_3
          try clear hcz39_4
          try clear hcz39_5
          try clear hcz39_6
          try clear hcz39_7
          try clear hcz39_8
          try clear hcz39_9
          try clear hcz41_0
          try clear hcz41_1
          try clear hcz41_10
          try clear hcz41_11
          try clear hcz41_12
          try clear hcz41_13
          try clear hcz41_14
          try clear hcz41_2
          try clear hcz41_3
          try clear hcz41_4
          try clear hcz41_5
          try clear hcz41_6
          try clear hcz41_7
          try clear hcz41_8
          try clear hcz41_9
          try clear hcz44_0
          try clear hcz44_1
          try clear hcz44_10
          try clear hcz44_11
          try clear hcz44_12
          try clear hcz44_13
          try clear hcz44_14
          try clear hcz44_2
          try clear hcz44_3
          try clear hcz44_4
          try clear hcz44_5
          try clear hcz44_6
          try clear hcz44_7
          try clear hcz44_8
          try clear hcz44_9
          try clear hcz46_0
          try clear hcz46_1
          try clear hcz46_10
          try clear hcz46_11
          try clear hcz46_12
          try clear hcz46_13
          try clear hcz46_14
          try clear hcz46_2
          try clear hcz46_3
          try clear hcz46_4
          try clear hcz46_5
          try clear hcz46_6
          try clear hcz46_7
          try clear hcz46_8
          try clear hcz46_9
          try clear hcz49_0
          try clear hcz49_1
          try clear hcz49_10
          try clear hcz49_11
          try clear hcz49_12
          try clear hcz49_13
          try clear hcz49_14
          try clear hcz49_2
          try clear hcz49_3
          try clear hcz49_4
          try clear hcz49_5
          try clear hcz49_6
          try clear hcz49_7
          try clear hcz49_8
          try clear hcz49_9
          try clear hfz14_0
          try clear hfz14_1
          try clear hfz14_2
          try clear hfz14_3
          try clear hfz14_4
          try clear hfz16_0
          try clear hfz16_1
          try clear hfz16_2
          try clear hfz16_3
          try clear hfz16_4
          try clear hfz18_0
          try clear hfz18_1
          try clear hfz18_2
          try clear hfz18_3
          try clear hfz18_4
          try clear hfz30_0
          try clear hfz30_1
          try clear hfz30_10
          try clear hfz30_11
          try clear hfz30_12
          try clear hfz30_13
          try clear hfz30_14
          try clear hfz30_2
          try clear hfz30_3
          try clear hfz30_4
          try clear hfz30_5
          try clear hfz30_6
          try clear hfz30_7
          try clear hfz30_8
          try clear hfz30_9
          try clear hfz37_0
          try clear hfz37_1
          try clear hfz37_10
          try clear hfz37_11
          try clear hfz37_12
          try clear hfz37_13
          try clear hfz37_14
          try clear hfz37_2
          try clear hfz37_3
          try clear hfz37_4
          try clear hfz37_5
          try clear hfz37_6
          try clear hfz37_7
          try clear hfz37_8
          try clear hfz37_9
          try clear hfz39_0
          try clear hfz39_1
          try clear hfz39_10
          try clear hfz39_11
          try clear hfz39_12
          try clear hfz39_13
          try clear hfz39_14
          try clear hfz39_2
          try clear hfz39_3
          try clear hfz39_4
          try clear hfz39_5
          try clear hfz39_6
          try clear hfz39_7
          try clear hfz39_8
          try clear hfz39_9
          try clear hfz41_0
          try clear hfz41_1
          try clear hfz41_10
          try clear hfz41_11
          try clear hfz41_12
          try clear hfz41_13
          try clear hfz41_14
          try clear hfz41_2
          try clear hfz41_3
          try clear hfz41_4
          try clear hfz41_5
          try clear hfz41_6
          try clear hfz41_7
          try clear hfz41_8
          try clear hfz41_9
          try clear hfz44_0
          try clear hfz44_1
          try clear hfz44_10
          try clear hfz44_11
          try clear hfz44_12
          try clear hfz44_13
          try clear hfz44_14
          try clear hfz44_2
          try clear hfz44_3
          try clear hfz44_4
          try clear hfz44_5
          try clear hfz44_6
          try clear hfz44_7
          try clear hfz44_8
          try clear hfz44_9
          try clear hfz46_0
          try clear hfz46_1
          try clear hfz46_10
          try clear hfz46_11
          try clear hfz46_12
          try clear hfz46_13
          try clear hfz46_14
          try clear hfz46_2
          try clear hfz46_3
          try clear hfz46_4
          try clear hfz46_5
          try clear hfz46_6
          try clear hfz46_7
          try clear hfz46_8
          try clear hfz46_9
          try clear hfz49_0
          try clear hfz49_1
          try clear hfz49_10
          try clear hfz49_11
          try clear hfz49_12
          try clear hfz49_13
          try clear hfz49_14
          try clear hfz49_2
          try clear hfz49_3
          try clear hfz49_4
          try clear hfz49_5
          try clear hfz49_6
          try clear hfz49_7
          try clear hfz49_8
          try clear hfz49_9
          try clear hx170_0
          try clear hx170_1
          try clear hx170_10
          try clear hx170_11
          try clear hx170_12
          try clear hx170_13
          try clear hx170_14
          try clear hx170_2
          try clear hx170_3
          try clear hx170_4
          try clear hx170_5
          try clear hx170_6
          try clear hx170_7
          try clear hx170_8
          try clear hx170_9
          try clear p170
          try clear p2
          try clear p6
          try clear q170
          obtain ⟨kq, x63_26, rfl, HA, HJ26, HO_9, BK166, BK171, HB⟩ := hcut
          cases kq with
          | zero => exact absurd HA.out (by simp [decoupagelaw28_RasterShifts.j2])
          | succ kj26 =>
           have H := HA.out
           clear HA
           simp only [decoupagelaw28_RasterShifts.j2] at H
           by_cases c51 : x63_26 = true
           ·subst c51
            have H1 : (some true) = some r := by rw [if_pos rfl] at H; exact H
            clear H
            have H := H1
            clear H1
            obtain rfl := Option.some.inj H
            go_wp2
            go_ret
            exact ⟨by first | rfl | (simp [errW_none, errW_some] <;> rfl) | (simp [*, errW_none, errW_some] <;> rfl), by repeat (first | (with_reducible first | exact HB.out | apply below_alloc | apply pw_below_drewN | apply below_drew1 | refine below_set ?_ GE166.out | refine below_set ?_ GE171.out) | exact HB.out)⟩
           ·replace c51 := Bool.eq_false_iff.mpr c51
            subst c51
            have H1 : ((decoupagelaw28_shift.f ((rd_T39 l0 x41_2).f2.f0) ((rd_T39 l0 x41_2).f2.f1) ((rd_T39 l0 x41_2).f2.f2) ((rd_T39 l0 x41_2).f2.f3) a2 a3).bind fun bt175 => ((decoupagelaw28_shift.f ((rd_T39 l0 x41_2).f3.f0) ((rd_T39 l0 x41_2).f3.f1) ((rd_T39 l0 x41_2).f3.f2) ((rd_T39 l0 x41_2).f3.f3) a2 a3).bind fun bt179 => ((decoupagelaw28_shift.f ((rd_T39 l0 x41_2).f4.f0) ((rd_T39 l0 x41_2).f4.f1) ((rd_T39 l0 x41_2).f4.f2) ((rd_T39 l0 x41_2).f4.f3) a2 a3).bind fun bt183 => (if x9_2.length < 1172812402961 then (decoupagelaw28_RasterShifts.l0 kj26 l0 a2 a3 (x9_2 ++ [(⟨((rd_T39 l0 x41_2).f0), ((rd_T39 l0 x41_2).f1), (⟨bt175.1, bt175.2.1, bt175.2.2.1, bt175.2.2.2⟩ : S37), (⟨bt179.1, bt179.2.1, bt179.2.2.1, bt179.2.2.2⟩ : S37), (⟨bt183.1, bt183.2.1, bt183.2.2.1, bt183.2.2.2⟩ : S37), ((rd_T39 l0 x41_2).f5)⟩ : S39)]) (l0.length : Int) (wrap64 (x41_2 + 1)) a1_0 a1_1 a1_2 a1_3 a1_4) else (none))))) = some r := by rw [if_neg (show ¬ (false = true) by decide)] at H; exact H
            clear H
            have H := H1
            clear H1
            replace H := Option.bind_eq_some_iff.mp H
            obtain ⟨⟨t175, t176, t177, t178⟩, A520, H⟩ := H
            replace H : ((decoupagelaw28_shift.f ((rd_T39 l0 x41_2).f3.f0) ((rd_T39 l0 x41_2).f3.f1) ((rd_T39 l0 x41_2).f3.f2) ((rd_T39 l0 x41_2).f3.f3) a2 a3).bind fun bt179 => ((decoupagelaw28_shift.f ((rd_T39 l0 x41_2).f4.f0) ((rd_T39 l0 x41_2).f4.f1) ((rd_T39 l0 x41_2).f4.f2) ((rd_T39 l0 x41_2).f4.f3) a2 a3).bind fun bt183 => (if x9_2.length < 1172812402961 then (decoupagelaw28_RasterShifts.l0 kj26 l0 a2 a3 (x9_2 ++ [(⟨((rd_T39 l0 x41_2).f0), ((rd_T39 l0 x41_2).f1), (⟨t175, t176, t177, t178⟩ : S37), (⟨bt179.1, bt179.2.1, bt179.2.2.1, bt179.2.2.2⟩ : S37), (⟨bt183.1, bt183.2.1, bt183.2.2.1, bt183.2.2.2⟩ : S37), ((rd_T39 l0 x41_2).f5)⟩ : S39)]) (l0.length : Int) (wrap64 (x41_2 + 1)) a1_0 a1_1 a1_2 a1_3 a1_4) else (none)))) = some r := H
            have A52 := Aside0.mk A520
            clear A520
            replace H := Option.bind_eq_some_iff.mp H
            obtain ⟨⟨t179, t180, t181, t182⟩, A530, H⟩ := H
            replace H : ((decoupagelaw28_shift.f ((rd_T39 l0 x41_2).f4.f0) ((rd_T39 l0 x41_2).f4.f1) ((rd_T39 l0 x41_2).f4.f2) ((rd_T39 l0 x41_2).f4.f3) a2 a3).bind fun bt183 => (if x9_2.length < 1172812402961 then (decoupagelaw28_RasterShifts.l0 kj26 l0 a2 a3 (x9_2 ++ [(⟨((rd_T39 l0 x41_2).f0), ((rd_T39 l0 x41_2).f1), (⟨t175, t176, t177, t178⟩ : S37), (⟨t179, t180, t181, t182⟩ : S37), (⟨bt183.1, bt183.2.1, bt183.2.2.1, bt183.2.2.2⟩ : S37), ((rd_T39 l0 x41_2).f5)⟩ : S39)]) (l0.length : Int) (wrap64 (x41_2 + 1)) a1_0 a1_1 a1_2 a1_3 a1_4) else (none))) = some r := H
            have A53 := Aside0.mk A530
            clear A530
            replace H := Option.bind_eq_some_iff.mp H
            obtain ⟨⟨t183, t184, t185, t186⟩, A540, H⟩ := H
            replace H : (if x9_2.length < 1172812402961 then (decoupagelaw28_RasterShifts.l0 kj26 l0 a2 a3 (x9_2 ++ [(⟨((rd_T39 l0 x41_2).f0), ((rd_T39 l0 x41_2).f1), (⟨t175, t176, t177, t178⟩ : S37), (⟨t179, t180, t181, t182⟩ : S37), (⟨t183, t184, t185, t186⟩ : S37), ((rd_T39 l0 x41_2).f5)⟩ : S39)]) (l0.length : Int) (wrap64 (x41_2 + 1)) a1_0 a1_1 a1_2 a1_3 a1_4) else (none)) = some r := H
            have A54 := Aside0.mk A540
            clear A540
            by_cases c55 : x9_2.length < 1172812402961
            ·rw [if_pos c55] at H
             have LMc55 := Aside0.mk c55
             clear c55
             obtain ⟨y187, hy187⟩ : ∃ y_ : List (S39), y_ = (x9_2 ++ [(⟨((rd_T39 l0 x41_2).f0), ((rd_T39 l0 x41_2).f1), (⟨t175, t176, t177, t178⟩ : S37), (⟨t179, t180, t181, t182⟩ : S37), (⟨t183, t184, t185, t186⟩ : S37), ((rd_T39 l0 x41_2).f5)⟩ : S39)]) := ⟨_, rfl⟩
             replace H : (decoupagelaw28_RasterShifts.l0 kj26 l0 a2 a3 y187 (l0.length : Int) (wrap64 (x41_2 + 1)) a1_0 a1_1 a1_2 a1_3 a1_4) = some r := by first | (rw [hy187]; with_reducible exact H) | (have H2_ := (Option.bind_some _ _).symm.trans H; rw [hy187]; with_reducible exact H2_) | (have H2_ := (Option.bind_some _ _).symm.trans H; with_reducible exact H2_) | with_reducible exact H | (rw [hy187]; exact H) | exact H
             have Ny187 := Aside0.mk hy187
             clear hy187
             have H' := Aside0.mk H
             clear H
             go_upto_region 10 with fail
             have q52 := A52.out
             have q53 := A53.out
             have q54 := A54.out
             simp only [decoupagelaw28_shift.f, Option.some.injEq, Prod.mk.injEq] at q52 q53 q54
             have hcon := HO_9.out
             refine Go.Proofs.Ytppklhfiajjhmaa.RsX.r10_wp (gx := gb171) q52.1 q52.2.1 q52.2.2.1 q52.2.2.2 q53.1 q53.2.1 q53.2.2.1 q53.2.2.2 q54.1 q54.2.1 q54.2.2.1 q54.2.2.2 BK171.out ?_
             intro w59 haf
             clear q52 q53 q54 hcon
             have n0_ := Aside0.mk (Kd.R_step HO_9.out (fun k hk hlt => haf.block k hlt hk))
             have n1_ := Aside0.mk ((haf.block gb166 (Array.getElem?_eq_some_iff.1 BK166.out).1 NB166_171.out).trans BK166.out)
             have n2_ : Aside0 (w59.heap[gb171]? = some (.cells #[.int .i64 ((rd_T39 l0 x41_2).f0), .int .i64 ((rd_T39 l0 x41_2).f1), .int .i64 t175, .int .i64 t176, .int .i64 t177, .int .i64 t178, .int .i64 t179, .int .i64 t180, .int .i64 t181, .int .i64 t182, .int .i64 t183, .int .i64 t184, .int .i64 t185, .int .i64 t186, .int .i64 ((rd_T39 l0 x41_2).f5)] 39 (0, 0))) := ⟨haf.at_⟩
             have n3_ := Aside0.mk (HB.out.trans ⟨haf.os, haf.tape, haf.output, haf.size, fun k hk => haf.block k (Nat.lt_of_lt_of_le hk HB.out.size) (by have := GE171.out; omega)⟩)
             clear HO_9 BK166 BK171 HB haf
             have HO_9 := n0_
             have BK166 := n1_
             have BK171 := n2_
             have HB := n3_
             clear n0_ n1_ n2_ n3_
             simp only [Exit.then]
             refine (by assumption : ∀ (a : Act) (w : World), Code.wp Try.prog _ _ a w → _) _ w59 ?_
             unfold Go.Proofs.Ytppklhfiajjhmaa.RsX.act2
             have hcz73_0 : w59.cell? ⟨gb171, 0, none⟩ = some (.int .i64 ((rd_T39 l0 x41_2).f0)) := (blk_cell BK171.out 0).trans rfl
             have hcz73_1 : w59.cell? ⟨gb171, 1, none⟩ = some (.int .i64 ((rd_T39 l0 x41_2).f1)) := (blk_cell BK171.out 1).trans rfl
             have hcz73_2 : w59.cell? ⟨gb171, 2, none⟩ = some (.int .i64 t175) := (blk_cell BK171.out 2).trans rfl
             have hcz73_3 : w59.cell? ⟨gb171, 3, none⟩ = some (.int .i64 t176) := (blk_cell BK171.out 3).trans rfl
             have hcz73_4 : w59.cell? ⟨gb171, 4, none⟩ = some (.int .i64 t177) := (blk_cell BK171.out 4).trans rfl
             have hcz73_5 : w59.cell? ⟨gb171, 5, none⟩ = some (.int .i64 t178) := (blk_cell BK171.out 5).trans rfl
             have hcz73_6 : w59.cell? ⟨gb171, 6, none⟩ = some (.int .i64 t179) := (blk_cell BK171.out 6).trans rfl
             have hcz73_7 : w59.cell? ⟨gb171, 7, none⟩ = some (.int .i64 t180) := (blk_cell BK171.out 7).trans rfl
             have hcz73_8 : w59.cell? ⟨gb171, 8, none⟩ = some (.int .i64 t181) := (blk_cell BK171.out 8).trans rfl
             have hcz73_9 : w59.cell? ⟨gb171, 9, none⟩ = some (.int .i64 t182) := (blk_cell BK171.out 9).trans rfl
             have hcz73_10 : w59.cell? ⟨gb171, 10, none⟩ = some (.int .i64 t183) := (blk_cell BK171.out 10).trans rfl
             have hcz73_11 : w59.cell? ⟨gb171, 11, none⟩ = some (.int .i64 t184) := (blk_cell BK171.out 11).trans rfl
             have hcz73_12 : w59.cell? ⟨gb171, 12, none⟩ = some (.int .i64 t185) := (blk_cell BK171.out 12).trans rfl
             have hcz73_13 : w59.cell? ⟨gb171, 13, none⟩ = some (.int .i64 t186) := (blk_cell BK171.out 13).trans rfl
             have hcz73_14 : w59.cell? ⟨gb171, 14, none⟩ = some (.int .i64 ((rd_T39 l0 x41_2).f5)) := (blk_cell BK171.out 14).trans rfl
             have hfz73_0 := blk_frozen BK171.out 0
             have hfz73_1 := blk_frozen BK171.out 1
             have hfz73_2 := blk_frozen BK171.out 2
             have hfz73_3 := blk_frozen BK171.out 3
             have hfz73_4 := blk_frozen BK171.out 4
             have hfz73_5 := blk_frozen BK171.out 5
             have hfz73_6 := blk_frozen BK171.out 6
             have hfz73_7 := blk_frozen BK171.out 7
             have hfz73_8 := blk_frozen BK171.out 8
             have hfz73_9 := blk_frozen BK171.out 9
             have hfz73_10 := blk_frozen BK171.out 10
             have hfz73_11 := blk_frozen BK171.out 11
             have hfz73_12 := blk_frozen BK171.out 12
             have hfz73_13 := blk_frozen BK171.out 13
             have hfz73_14 := blk_frozen BK171.out 14
             try go_wp2_with (first | ((with_reducible refine gate_builtin (b := .append) (xs := #[.tmp 82, .tmp 84]) rfl ?_); (try (refine gate_guard (by rfl) ?_; dsimp only)); at_builtin; refine Kd.R_append k39 (w0 := w) w.heap.size rfl (.tmp 82) (.tmp 84) 22 39 (.agg #[(.int .i64 0), (.int .i64 0), (.int .i64 0), (.int .i64 0), (.int .i64 0), (.int .i64 0), (.int .i64 0), (.int .i64 0), (.int .i64 0), (.int .i64 0), (.int .i64 0), (.int .i64 0), (.int .i64 0), (.int .i64 0), (.int .i64 0)]) 120 rfl Try.underlying22 info39 rfl (by decide) (by omega) u9 x9_2 (⟨((rd_T39 l0 x41_2).f0), ((rd_T39 l0 x41_2).f1), (⟨t175, t176, t177, t178⟩ : S37), (⟨t179, t180, t181, t182⟩ : S37), (⟨t183, t184, t185, t186⟩ : S37), ((rd_T39 l0 x41_2).f5)⟩ : S39) [.int .i64 ((rd_T39 l0 x41_2).f0), .int .i64 ((rd_T39 l0 x41_2).f1), .int .i64 t175, .int .i64 t176, .int .i64 t177, .int .i64 t178, .int .i64 t179, .int .i64 t180, .int .i64 t181, .int .i64 t182, .int .i64 t183, .int .i64 t184, .int .i64 t185, .int .i64 t186, .int .i64 ((rd_T39 l0 x41_2).f5)] (fun k_ => k_ ≠ gb171) (fun _ => False) rfl (by first | (go_simp; done) | (go_simp; rfl)) ?aP (fun _ hk => hk.elim) ?aF ?aO ?aB ?aS ?aL ?_; (case aP => exact k39_mkM _ _ _ (⟨((rd_T39 l0 x41_2).f0), ((rd_T39 l0 x41_2).f1), (⟨t175, t176, t177, t178⟩ : S37), (⟨t179, t180, t181, t182⟩ : S37), (⟨t183, t184, t185, t186⟩ : S37), ((rd_T39 l0 x41_2).f5)⟩ : S39)); (case aB => exact (by repeat (first | (with_reducible first | exact HB.out | apply below_alloc | apply pw_below_drewN | apply below_drew1 | refine below_set ?_ GE166.out | refine below_set ?_ GE171.out) | exact HB.out))); (case aF => exact (fun k_ hk => Kd.freshB (g := gb171) (o := .cells #[.int .i64 ((rd_T39 l0 x41_2).f0), .int .i64 ((rd_T39 l0 x41_2).f1), .int .i64 t175, .int .i64 t176, .int .i64 t177, .int .i64 t178, .int .i64 t179, .int .i64 t180, .int .i64 t181, .int .i64 t182, .int .i64 t183, .int .i64 t184, .int .i64 t185, .int .i64 t186, .int .i64 ((rd_T39 l0 x41_2).f5)] 39 (0, 0)) (by (with_reducible repeat (first | refine blk_drewN ?_ _ | refine blk_drew ?_ | refine blk_alloc ?_ _)); exact BK171.out) k_ hk)); (case aO => exact (by (with_reducible repeat (first | apply Kd.R_alloc | apply Kd.R_drewN | apply Kd.R_drew)); exact HO_9.out)); (case aS => exact (below_size (by repeat (first | (with_reducible first | exact HB.out | apply below_alloc | apply pw_below_drewN | apply below_drew1 | refine below_set ?_ GE166.out | refine below_set ?_ GE171.out) | exact HB.out)))); (case aL => have := LMc55.out; omega); intro v188 w74 ho hb hg hat; rw [← Ny187.out] at ho; have n0_ := Aside0.mk (blk_grown (g := gb166) (o := .cells #[.int .i64 a1_0, .int .i64 a1_1, .int .i64 a1_2, .int .i64 a1_3, .int .i64 a1_4] 44 (0, 0)) (by (with_reducible repeat (first | refine blk_drewN ?_ _ | refine blk_drew ?_ | refine blk_alloc ?_ _)); exact BK166.out) hg (Kd.R_ne HO_9.out BK166.out (by decide))); have n1_ := Aside0.mk (blk_grown (g := gb171) (o := .cells #[.int .i64 ((rd_T39 l0 x41_2).f0), .int .i64 ((rd_T39 l0 x41_2).f1), .int .i64 t175, .int .i64 t176, .int .i64 t177, .int .i64 t178, .int .i64 t179, .int .i64 t180, .int .i64 t181, .int .i64 t182, .int .i64 t183, .int .i64 t184, .int .i64 t185, .int .i64 t186, .int .i64 ((rd_T39 l0 x41_2).f5)] 39 (0, 0)) (by (with_reducible repeat (first | refine blk_drewN ?_ _ | refine blk_drew ?_ | refine blk_alloc ?_ _)); exact BK171.out) hg (Kd.R_away HO_9.out (fun _ hk => hk))); have n2_ := Aside0.mk (hb); have n3_ := Aside0.mk (ho); clear BK166; clear BK171; clear HB; clear HO_9; have BK166 := n0_; have BK171 := n1_; have HB := n2_; have HO189 := n3_; clear n0_ n1_ n2_ n3_; clear ho hb hg hat))
             go_roundg kj26
             case measure => have := HJ4.out; have := HK2.out; have := HJ26.out; omega
             case rel => exact ⟨(y187), (wrap64 (x41_2 + 1)), (by first | rfl | (simp; done) | (simp [*]; done)), H', ⟨by have := HJ4.out; have := HK2.out; have := HJ26.out; omega⟩, ⟨by (with_reducible repeat (first | apply Kd.R_alloc | apply Kd.R_drewN | apply Kd.R_drew)); exact Kd.R_mono HO189.out (fun _ hk => trivial)⟩, ⟨by (with_reducible repeat (first | refine blk_drewN ?_ _ | refine blk_drew ?_ | refine blk_alloc ?_ _)); exact BK166.out⟩, ⟨by repeat (first | (with_reducible first | exact HB.out | apply below_alloc | apply pw_below_drewN | apply below_drew1 | refine below_set ?_ GE166.out | refine below_set ?_ GE171.out) | exact HB.out)⟩⟩
            ·rw [if_neg c55] at H
             exact absurd H (by simp)
        ·rw [if_neg c26] at H
         exact absurd H (by simp)
       ·rw [if_neg c25] at H
        exact absurd H (by simp)
      ·rw [if_neg c24] at H
       have c24b0 : decide (x41_2 < (l0.length : Int)) = false := decide_eq_false c24
       clear c24
       replace H := Option.bind_eq_some_iff.mp H
       obtain ⟨⟨t191, t194⟩, A750, H⟩ := H
       replace H : ((raster_Draw.f k2 x9_2 (wrap64 (a1_0 + (wrap64 (a2)))) (wrap64 (a1_1 + (wrap64 (a3)))) a1_2 a1_3 a1_4).bind fun bt195 => (if bt195.2 = 0 then (if t194 = 0 then (decoupagelaw28_RasterShifts.j3 k2 t191 bt195.1 ((t191.length : Int) != (bt195.1.length : Int))) else (decoupagelaw28_RasterShifts.j3 k2 t191 bt195.1 true)) else (if t194 = 0 then ((decoupageref28_Right.f (wrap64 (a1_0 + (wrap64 (a2)))) (wrap64 (a1_1 + (wrap64 (a3)))) a1_2 a1_3 a1_4).bind fun t199 => (some (!t199))) else (some false)))) = some r := H
       have A75 := Aside0.mk A750
       clear A750
       replace H := Option.bind_eq_some_iff.mp H
       obtain ⟨⟨t195, t198⟩, A760, H⟩ := H
       replace H : (if t198 = 0 then (if t194 = 0 then (decoupagelaw28_RasterShifts.j3 k2 t191 t195 ((t191.length : Int) != (t195.length : Int))) else (decoupagelaw28_RasterShifts.j3 k2 t191 t195 true)) else (if t194 = 0 then ((decoupageref28_Right.f (wrap64 (a1_0 + (wrap64 (a2)))) (wrap64 (a1_1 + (wrap64 (a3)))) a1_2 a1_3 a1_4).bind fun t199 => (some (!t199))) else (some false))) = some r := H
       have A76 := Aside0.mk A760
       clear A760
       by_cases c77 : t198 = 0
       ·rw [if_pos c77] at H
        have c77b0 : (t198 == 0) = true := beq_iff_eq.mpr c77
        have c77b1 : (t198 != 0) = false := bne_eq_false_iff_eq.mpr c77
        clear c77
        have HC78 := Aside0.mk H
        clear H
        have hcz79_0 : wr.cell? ⟨gb166, 0, none⟩ = some (.int .i64 a1_0) := (blk_cell BK166.out 0).trans rfl
        have hcz79_1 : wr.cell? ⟨gb166, 1, none⟩ = some (.int .i64 a1_1) := (blk_cell BK166.out 1).trans rfl
        have hcz79_2 : wr.cell? ⟨gb166, 2, none⟩ = some (.int .i64 a1_2) := (blk_cell BK166.out 2).trans rfl
        have hcz79_3 : wr.cell? ⟨gb166, 3, none⟩ = some (.int .i64 a1_3) := (blk_cell BK166.out 3).trans rfl
        have hcz79_4 : wr.cell? ⟨gb166, 4, none⟩ = some (.int .i64 a1_4) := (blk_cell BK166.out 4).trans rfl
        have hfz79_0 := blk_frozen BK166.out 0
        have hfz79_1 := blk_frozen BK166.out 1
        have hfz79_2 := blk_frozen BK166.out 2
        have hfz79_3 := blk_frozen BK166.out 3
        have hfz79_4 := blk_frozen BK166.out 4
        try go_wp2_with (first | ((with_reducible refine gate_dst (N := 12) rfl ?_); (try (refine gate_guard (by rfl) ?_; dsimp only)); refine box_event ?hg (N := 12) ?hd (cs := #[.int .i64 0, .int .i64 0, .int .i64 0, .int .i64 0, .int .i64 0]) (t := 44) ?hr ?_; (case hd => rfl); (case hg => rfl); (case hr => first | (go_simp; done) | (go_simp; rfl)); intro gb190 hg w80 hbox hb; have n0_ := Aside0.mk (Kd.R_below (by (with_reducible repeat (first | apply Kd.R_alloc | apply Kd.R_drewN | apply Kd.R_drew)); exact HO_9.out) hb); have n1_ := Aside0.mk (blk_below (g := gb166) (o := .cells #[.int .i64 a1_0, .int .i64 a1_1, .int .i64 a1_2, .int .i64 a1_3, .int .i64 a1_4] 44 (0, 0)) (by (with_reducible repeat (first | refine blk_drewN ?_ _ | refine blk_drew ?_ | refine blk_alloc ?_ _)); exact BK166.out) hb); have n2_ := Aside0.mk (below_step (by repeat (first | (with_reducible first | exact HB.out | apply below_alloc | apply pw_below_drewN | apply below_drew1 | refine below_set ?_ GE166.out) | exact HB.out)) hb); have n3_ := Aside0.mk (hbox); have n4_ := Aside0.mk ((by rw [hg]; exact (below_size (by repeat (first | (with_reducible first | exact HB.out | apply below_alloc | apply pw_below_drewN | apply below_drew1 | refine below_set ?_ GE166.out) | exact HB.out))) : w.heap.size ≤ gb190)); have n5_ := Aside0.mk ((by rw [hg]; exact (below_size (by repeat (first | (with_reducible first | exact HB.out | apply below_alloc | apply pw_below_drewN | apply below_drew1 | refine below_set ?_ GE166.out) | exact HB.out))) : w.heap.size ≤ gb190)); have n6_ := Aside0.mk ((by rw [hg]; exact Nat.ne_of_lt (blk_lt (g := gb166) (o := .cells #[.int .i64 a1_0, .int .i64 a1_1, .int .i64 a1_2, .int .i64 a1_3, .int .i64 a1_4] 44 (0, 0)) (by (with_reducible repeat (first | refine blk_drewN ?_ _ | refine blk_drew ?_ | refine blk_alloc ?_ _)); exact BK166.out)) : gb166 ≠ gb190)); have n7_ := Aside0.mk ((by rw [hg]; exact Nat.ne_of_gt (blk_lt (g := gb166) (o := .cells #[.int .i64 a1_0, .int .i64 a1_1, .int .i64 a1_2, .int .i64 a1_3, .int .i64 a1_4] 44 (0, 0)) (by (with_reducible repeat (first | refine blk_drewN ?_ _ | refine blk_drew ?_ | refine blk_alloc ?_ _)); exact BK166.out)) : gb190 ≠ gb166)); clear HO_9; clear BK166; clear HB; have HO_9 := n0_; have BK166 := n1_; have HB := n2_; have BK190 := n3_; have GW190 := n4_; have GE190 := n5_; have NB166_190 := n6_; have NB190_166 := n7_; clear n0_ n1_ n2_ n3_ n4_ n5_ n6_ n7_; clear hb hbox hg; have hnb81 := NB190_166.out; have hnc81 := NB166_190.out; have hcz82_0 : w80.cell? ⟨gb190, 0, none⟩ = some (.int .i64 0) := (blk_cell BK190.out 0).trans rfl; have hcz82_1 : w80.cell? ⟨gb190, 1, none⟩ = some (.int .i64 0) := (blk_cell BK190.out 1).trans rfl; have hcz82_2 : w80.cell? ⟨gb190, 2, none⟩ = some (.int .i64 0) := (blk_cell BK190.out 2).trans rfl; have hcz82_3 : w80.cell? ⟨gb190, 3, none⟩ = some (.int .i64 0) := (blk_cell BK190.out 3).trans rfl; have hcz82_4 : w80.cell? ⟨gb190, 4, none⟩ = some (.int .i64 0) := (blk_cell BK190.out 4).trans rfl; have hfz82_0 := blk_frozen BK190.out 0; have hfz82_1 := blk_frozen BK190.out 1; have hfz82_2 := blk_frozen BK190.out 2; have hfz82_3 := blk_frozen BK190.out 3; have hfz82_4 := blk_frozen BK190.out 4))
        have n0_ : Aside0 (Kd.R k39 39 (((((w80.setCell ⟨gb190, 0, none⟩ (.int .i64 a1_0)).setCell ⟨gb190, 1, none⟩ (.int .i64 a1_1)).setCell ⟨gb190, 2, none⟩ (.int .i64 a1_2)).setCell ⟨gb190, 3, none⟩ (.int .i64 a1_3)).setCell ⟨gb190, 4, none⟩ (.int .i64 a1_4)) w.heap.size (fun _ => True) u9 x9_2) := ⟨by (with_reducible repeat (first | apply Kd.R_alloc | apply Kd.R_drewN | apply Kd.R_drew)); exact Kd.R_mono (Kd.R_far (p := ⟨gb190, 4, none⟩) (Kd.R_far (p := ⟨gb190, 3, none⟩) (Kd.R_far (p := ⟨gb190, 2, none⟩) (Kd.R_far (p := ⟨gb190, 1, none⟩) (Kd.R_far (p := ⟨gb190, 0, none⟩) (Kd.R_types HO_9.out BK190.out (by decide)) (fun _ hk => hk.2) (.int .i64 a1_0)) (fun _ hk => hk.2) (.int .i64 a1_1)) (fun _ hk => hk.2) (.int .i64 a1_2)) (fun _ hk => hk.2) (.int .i64 a1_3)) (fun _ hk => hk.2) (.int .i64 a1_4)) (fun _ hk => trivial)⟩
        have n1_ : Aside0 ((((((w80.setCell ⟨gb190, 0, none⟩ (.int .i64 a1_0)).setCell ⟨gb190, 1, none⟩ (.int .i64 a1_1)).setCell ⟨gb190, 2, none⟩ (.int .i64 a1_2)).setCell ⟨gb190, 3, none⟩ (.int .i64 a1_3)).setCell ⟨gb190, 4, none⟩ (.int .i64 a1_4)).heap[gb166]? = some (.cells #[.int .i64 a1_0, .int .i64 a1_1, .int .i64 a1_2, .int .i64 a1_3, .int .i64 a1_4] 44 (0, 0))) := ⟨by (with_reducible repeat (first | refine blk_drewN ?_ _ | refine blk_drew ?_ | refine blk_alloc ?_ _)); refine blk_far ?_ NB166_190.out _; (with_reducible repeat (first | refine blk_drewN ?_ _ | refine blk_drew ?_ | refine blk_alloc ?_ _)); refine blk_far ?_ NB166_190.out _; (with_reducible repeat (first | refine blk_drewN ?_ _ | refine blk_drew ?_ | refine blk_alloc ?_ _)); refine blk_far ?_ NB166_190.out _; (with_reducible repeat (first | refine blk_drewN ?_ _ | refine blk_drew ?_ | refine blk_alloc ?_ _)); refine blk_far ?_ NB166_190.out _; (with_reducible repeat (first | refine blk_drewN ?_ _ | refine blk_drew ?_ | refine blk_alloc ?_ _)); refine blk_far ?_ NB166_190.out _; (with_reducible repeat (first | refine blk_drewN ?_ _ | refine blk_drew ?_ | refine blk_alloc ?_ _)); exact BK166.out⟩
        have n2_ : Aside0 ((((((w80.setCell ⟨gb190, 0, none⟩ (.int .i64 a1_0)).setCell ⟨gb190, 1, none⟩ (.int .i64 a1_1)).setCell ⟨gb190, 2, none⟩ (.int .i64 a1_2)).setCell ⟨gb190, 3, none⟩ (.int .i64 a1_3)).setCell ⟨gb190, 4, none⟩ (.int .i64 a1_4)).heap[gb190]? = some (.cells #[.int .i64 a1_0, .int .i64 a1_1, .int .i64 a1_2, .int .i64 a1_3, .int .i64 a1_4] 44 (0, 0))) := ⟨by (with_reducible repeat (first | refine blk_drewN ?_ _ | refine blk_drew ?_ | refine blk_alloc ?_ _)); refine blk_put (cs := #[.int .i64 a1_0, .int .i64 a1_1, .int .i64 a1_2, .int .i64 a1_3, .int .i64 0]) ?_ 4 _ rfl; (with_reducible repeat (first | refine blk_drewN ?_ _ | refine blk_drew ?_ | refine blk_alloc ?_ _)); refine blk_put (cs := #[.int .i64 a1_0, .int .i64 a1_1, .int .i64 a1_2, .int .i64 0, .int .i64 0]) ?_ 3 _ rfl; (with_reducible repeat (first | refine blk_drewN ?_ _ | refine blk_drew ?_ | refine blk_alloc ?_ _)); refine blk_put (cs := #[.int .i64 a1_0, .int .i64 a1_1, .int .i64 0, .int .i64 0, .int .i64 0]) ?_ 2 _ rfl; (with_reducible repeat (first | refine blk_drewN ?_ _ | refine blk_drew ?_ | refine blk_alloc ?_ _)); refine blk_put (cs := #[.int .i64 a1_0, .int .i64 0, .int .i64 0, .int .i64 0, .int .i64 0]) ?_ 1 _ rfl; (with_reducible repeat (first | refine blk_drewN ?_ _ | refine blk_drew ?_ | refine blk_alloc ?_ _)); refine blk_put (cs := #[.int .i64 0, .int .i64 0, .int .i64 0, .int .i64 0, .int .i64 0]) ?_ 0 _ rfl; (with_reducible repeat (first | refine blk_drewN ?_ _ | refine blk_drew ?_ | refine blk_alloc ?_ _)); exact BK190.out⟩
        have n3_ : Aside0 (Below w.heap.size w (((((w80.setCell ⟨gb190, 0, none⟩ (.int .i64 a1_0)).setCell ⟨gb190, 1, none⟩ (.int .i64 a1_1)).setCell ⟨gb190, 2, none⟩ (.int .i64 a1_2)).setCell ⟨gb190, 3, none⟩ (.int .i64 a1_3)).setCell ⟨gb190, 4, none⟩ (.int .i64 a1_4))) := ⟨by repeat (first | (with_reducible first | exact HB.out | apply below_alloc | apply pw_below_drewN | apply below_drew1 | refine below_set ?_ GE166.out | refine below_set ?_ GE190.out) | exact HB.out)⟩
        (try clear HO_9)
        (try clear BK166)
        (try clear BK190)
        (try clear HB)
        generalize (((((w80.setCell ⟨gb190, 0, none⟩ (.int .i64 a1_0)).setCell ⟨gb190, 1, none⟩ (.int .i64 a1_1)).setCell ⟨gb190, 2, none⟩ (.int .i64 a1_2)).setCell ⟨gb190, 3, none⟩ (.int .i64 a1_3)).setCell ⟨gb190, 4, none⟩ (.int .i64 a1_4)) = w83 at n0_ n1_ n2_ n3_ ⊢
        have HO_9 := n0_
        have BK166 := n1_
        have BK190 := n2_
        have HB := n3_
        clear n0_ n1_ n2_ n3_
        have n0_ := Aside0.mk (Kd.R_drew HO_9.out)
        have n1_ := Aside0.mk (blk_drew BK166.out)
        have n2_ := Aside0.mk (blk_drew BK190.out)
        have n3_ := Aside0.mk (below_drew1 HB.out)
        clear HO_9
        clear BK166
        clear BK190
        clear HB
        have HO_9 := n0_
        have BK166 := n1_
        have BK190 := n2_
        have HB := n3_
        clear n0_ n1_ n2_ n3_
        refine start_ (n := 14) (S := fun w' => w'.cell? ⟨gb166, 0, none⟩ = some (.int .i64 a1_0) ∧ w'.cell? ⟨gb166, 1, none⟩ = some (.int .i64 a1_1) ∧ w'.cell? ⟨gb166, 2, none⟩ = some (.int .i64 a1_2) ∧ w'.cell? ⟨gb166, 3, none⟩ = some (.int .i64 a1_3) ∧ w'.cell? ⟨gb166, 4, none⟩ = some (.int .i64 a1_4)) (ds := []) #[false, false, false, false, false, false, false, false, false, false, false, false, false, false] (by kernel_rfl) rfl rfl ⟨(blk_cell BK166.out 0).trans rfl, (blk_cell BK166.out 1).trans rfl, (blk_cell BK166.out 2).trans rfl, (blk_cell BK166.out 3).trans rfl, (blk_cell BK166.out 4).trans rfl⟩ (fun hHeld => ?_); refine with_tabW decoupagelaw28_RasterShifts.tab14 decoupagelaw28_RasterShifts.bits14 (fun HT_ HW_ => ?_)
        generalize w83.drew = w84 at HO_9 BK166 BK190 HB hHeld ⊢
        refine pure_ (i := 0) (N := some 88) (v := ?_) (a' := ?_) #[true, false, false, false, false, false, false, false, false, false, false, false, false, false] rfl rfl (any_of HT_.out (by kernel_rfl)) (fun _ _ _ h => h) (Or.inl ⟨by rfl, ?_⟩) ?_ ?_
        rotate_left
        ·intro w'
         go_simp
         with_reducible rfl
        rotate_left
        ·simp only [Act.put, List.setIfInBounds_toArray, List.set_cons_zero, List.set_cons_succ, i64_w, i32_w]
         rfl
        refine pure_ (i := 2) (N := some 90) (v := ?_) (a' := ?_) #[true, false, true, false, false, false, false, false, false, false, false, false, false, false] rfl rfl (any_of HT_.out (by kernel_rfl)) (fun _ _ _ h => h) (Or.inl ⟨by rfl, ?_⟩) ?_ ?_
        rotate_left
        ·intro w'
         go_simp
         with_reducible rfl
        rotate_left
        ·simp only [Act.put, List.setIfInBounds_toArray, List.set_cons_zero, List.set_cons_succ, i64_w, i32_w]
         rfl
        refine pure_ (i := 3) (N := some 91) (v := ?_) (a' := ?_) #[true, false, true, true, false, false, false, false, false, false, false, false, false, false] rfl rfl (any_of HT_.out (by kernel_rfl)) (fun _ _ _ h => h) (Or.inl ⟨by rfl, ?_⟩) ?_ ?_
        rotate_left
        ·intro w'
         go_simp
         with_reducible rfl
        rotate_left
        ·simp only [Act.put, List.setIfInBounds_toArray, List.set_cons_zero, List.set_cons_succ, i64_w, i32_w]
         rfl
        refine pure_ (i := 5) (N := some 93) (v := ?_) (a' := ?_) #[true, false, true, true, false, true, false, false, false, false, false, false, false, false] rfl rfl (any_of HT_.out (by kernel_rfl)) (fun _ _ _ h => h) (Or.inl ⟨by rfl, ?_⟩) ?_ ?_
        rotate_left
        ·intro w'
         go_simp
         with_reducible rfl
        rotate_left
        ·simp only [Act.put, List.setIfInBounds_toArray, List.set_cons_zero, List.set_cons_succ, i64_w, i32_w]
         rfl
        refine pure_ (i := 7) (N := some 95) (v := ?_) (a' := ?_) #[true, false, true, true, false, true, false, true, false, false, false, false, false, false] rfl rfl (any_of HT_.out (by kernel_rfl)) (fun _ _ _ h => h) (Or.inl ⟨by rfl, ?_⟩) ?_ ?_
        rotate_left
        ·intro w'
         go_simp
         with_reducible rfl
        rotate_left
        ·simp only [Act.put, List.setIfInBounds_toArray, List.set_cons_zero, List.set_cons_succ, i64_w, i32_w]
         rfl
        refine pure_ (i := 8) (N := some 96) (v := ?_) (a' := ?_) #[true, false, true, true, false, true, false, true, true, false, false, false, false, false] rfl rfl (any_of HT_.out (by kernel_rfl)) (fun _ _ _ h => h) (Or.inl ⟨by rfl, ?_⟩) ?_ ?_
        rotate_left
        ·intro w'
         go_simp
         with_reducible rfl
        rotate_left
        ·simp only [Act.put, List.setIfInBounds_toArray, List.set_cons_zero, List.set_cons_succ, i64_w, i32_w]
         rfl
        refine take_ (i := 1) (N := some 89) (v := ?_) (a' := ?_) #[true, true, true, true, false, true, false, true, true, false, false, false, false, false] rfl rfl (take_ofW HT_.out HW_.out (by kernel_rfl)) (fun _ _ _ h => h) (Or.inl ⟨by rfl, ?_⟩) hHeld ?_ ?_
        rotate_left
        ·rintro w' ⟨s0, s1, s2, s3, s4⟩
         go_simp
         with_reducible rfl
        rotate_left
        ·simp only [Act.put, List.setIfInBounds_toArray, List.set_cons_zero, List.set_cons_succ, i64_w, i32_w]
         rfl
        refine pure_ (i := 4) (N := some 92) (v := ?_) (a' := ?_) #[true, true, true, true, true, true, false, true, true, false, false, false, false, false] rfl rfl (any_of HT_.out (by kernel_rfl)) (fun _ _ _ h => h) (Or.inl ⟨by rfl, ?_⟩) ?_ ?_
        rotate_left
        ·intro w'
         go_simp
         with_reducible rfl
        rotate_left
        ·simp only [Act.put, List.setIfInBounds_toArray, List.set_cons_zero, List.set_cons_succ, i64_w, i32_w]
         rfl
        refine pure_ (i := 10) (N := some 98) (v := ?_) (a' := ?_) #[true, true, true, true, true, true, false, true, true, false, true, false, false, false] rfl rfl (any_of HT_.out (by kernel_rfl)) (fun _ _ _ h => h) (Or.inl ⟨by rfl, ?_⟩) ?_ ?_
        rotate_left
        ·intro w'
         go_simp
         with_reducible rfl
        rotate_left
        ·simp only [Act.put, List.setIfInBounds_toArray, List.set_cons_zero, List.set_cons_succ, i64_w, i32_w]
         rfl
        refine take_ (i := 6) (N := some 94) (v := ?_) (a' := ?_) #[true, true, true, true, true, true, true, true, true, false, true, false, false, false] rfl rfl (take_ofW HT_.out HW_.out (by kernel_rfl)) (fun _ _ _ h => h) (Or.inl ⟨by rfl, ?_⟩) hHeld ?_ ?_
        rotate_left
        ·rintro w' ⟨s0, s1, s2, s3, s4⟩
         go_simp
         with_reducible rfl
        rotate_left
        ·simp only [Act.put, List.setIfInBounds_toArray, List.set_cons_zero, List.set_cons_succ, i64_w, i32_w]
         rfl
        refine pure_ (i := 9) (N := some 97) (v := ?_) (a' := ?_) #[true, true, true, true, true, true, true, true, true, true, true, false, false, false] rfl rfl (any_of HT_.out (by kernel_rfl)) (fun _ _ _ h => h) (Or.inl ⟨by rfl, ?_⟩) ?_ ?_
        rotate_left
        ·intro w'
         go_simp
         with_reducible rfl
        rotate_left
        ·simp only [Act.put, List.setIfInBounds_toArray, List.set_cons_zero, List.set_cons_succ, i64_w, i32_w]
         rfl
        refine one_ (i := 11) (N := none) #[true, true, true, true, true, true, true, true, true, true, true, true, false, false] rfl rfl (one_of HT_.out (by kernel_rfl)) (by decide) (fun K hK => ?_)
        have hs85 : w84.cell? ⟨gb190, 0, none⟩ = some (.int .i64 a1_0) := (blk_cell BK190.out 0).trans rfl
        have hfs85 := blk_frozen BK190.out 0
        have hns85_0 := NB166_190.out
        have hms85_0 := NB190_166.out
        refine skip_ (w1 := ?_) (by rfl) rfl ?_ ?_
        rotate_left
        ·go_simp
         rfl
        refine hK.out _ _ ⟨((cell_far (p := ⟨gb190, _, none⟩) NB166_190.out _).trans (hHeld.1)), ((cell_far (p := ⟨gb190, _, none⟩) NB166_190.out _).trans (hHeld.2.1)), ((cell_far (p := ⟨gb190, _, none⟩) NB166_190.out _).trans (hHeld.2.2.1)), ((cell_far (p := ⟨gb190, _, none⟩) NB166_190.out _).trans (hHeld.2.2.2.1)), ((cell_far (p := ⟨gb190, _, none⟩) NB166_190.out _).trans (hHeld.2.2.2.2))⟩ (fun hHeld => ?_)
        clear hK K
        refine pure_ (i := 12) (N := some 99) (v := ?_) (a' := ?_) #[true, true, true, true, true, true, true, true, true, true, true, true, true, false] rfl rfl (any_of HT_.out (by kernel_rfl)) (fun _ _ _ h => h) (Or.inl ⟨by rfl, ?_⟩) ?_ ?_
        rotate_left
        ·intro w'
         go_simp
         with_reducible rfl
        rotate_left
        ·simp only [Act.put, List.setIfInBounds_toArray, List.set_cons_zero, List.set_cons_succ, i64_w, i32_w]
         rfl
        refine one_ (i := 13) (N := none) #[true, true, true, true, true, true, true, true, true, true, true, true, true, true] rfl rfl (one_of HT_.out (by kernel_rfl)) (by decide) (fun K hK => ?_)
        have hs86 : w84.cell? ⟨gb190, 1, none⟩ = some (.int .i64 a1_1) := (blk_cell BK190.out 1).trans rfl
        have hfs86 := blk_frozen BK190.out 1
        have hns86_0 := NB166_190.out
        have hms86_0 := NB190_166.out
        refine skip_ (w1 := ?_) (by rfl) rfl ?_ ?_
        rotate_left
        ·go_simp
         rfl
        refine hK.out _ _ ⟨((cell_far (p := ⟨gb190, _, none⟩) NB166_190.out _).trans (hHeld.1)), ((cell_far (p := ⟨gb190, _, none⟩) NB166_190.out _).trans (hHeld.2.1)), ((cell_far (p := ⟨gb190, _, none⟩) NB166_190.out _).trans (hHeld.2.2.1)), ((cell_far (p := ⟨gb190, _, none⟩) NB166_190.out _).trans (hHeld.2.2.2.1)), ((cell_far (p := ⟨gb190, _, none⟩) NB166_190.out _).trans (hHeld.2.2.2.2))⟩ (fun hHeld => ?_)
        clear hK K
        refine done_ (done_of HT_.out (by kernel_rfl)) ?_
        have hcz87_0 : w84.cell? ⟨gb166, 0, none⟩ = some (.int .i64 a1_0) := (blk_cell BK166.out 0).trans rfl
        have hcz87_1 : w84.cell? ⟨gb166, 1, none⟩ = some (.int .i64 a1_1) := (blk_cell BK166.out 1).trans rfl
        have hcz87_2 : w84.cell? ⟨gb166, 2, none⟩ = some (.int .i64 a1_2) := (blk_cell BK166.out 2).trans rfl
        have hcz87_3 : w84.cell? ⟨gb166, 3, none⟩ = some (.int .i64 a1_3) := (blk_cell BK166.out 3).trans rfl
        have hcz87_4 : w84.cell? ⟨gb166, 4, none⟩ = some (.int .i64 a1_4) := (blk_cell BK166.out 4).trans rfl
        have hfz87_0 := blk_frozen BK166.out 0
        have hfz87_1 := blk_frozen BK166.out 1
        have hfz87_2 := blk_frozen BK166.out 2
        have hfz87_3 := blk_frozen BK166.out 3
        have hfz87_4 := blk_frozen BK166.out 4
        go_upto_region 19 with (first | ((with_reducible refine gate_callee (f := 28) rfl ?_); refine goesL_ (some 103) rfl rfl Try.func28 (by kernel_rfl) rfl #[.slice A0 l0.length c0, .agg #[.int .i64 a1_0, .int .i64 a1_1, .int .i64 a1_2, .int .i64 a1_3, .int .i64 a1_4]] rfl (by (try simp only [List.map_toArray, List.map_cons, List.map_nil]); first | done | rfl | (simp only [List.length_drop, List.length_take]; rfl)) ?_; (with_reducible refine (raster_Draw.calls k2 _ _ l0 a1_0 a1_1 a1_2 a1_3 a1_4 t191 t194 _ ?side1 ?side2 A75.out).mono ?_); (case side1 => exact Kd.C_below HR0.out (by repeat (first | (with_reducible first | exact HB.out | apply below_alloc | apply pw_below_drewN | apply below_drew1 | refine below_set ?_ GE166.out | refine below_set ?_ GE190.out) | exact HB.out))); (case side2 => exact HC0.out); rintro e w88 ⟨v192, rfl, ho0, hb⟩; refine ⟨_, rfl, ?_⟩; have n0_ := Aside0.mk (Kd.R_below (by (with_reducible repeat (first | apply Kd.R_alloc | apply Kd.R_drewN | apply Kd.R_drew)); exact (Kd.R_mono (Kd.R_far (p := ⟨gb190, 1, none⟩) (Kd.R_far (p := ⟨gb190, 0, none⟩) (Kd.R_types HO_9.out BK190.out (by decide)) (fun _ hk => hk.2) (.int .i64 (wrap64 (a1_0 + (wrap64 (a2)))))) (fun _ hk => hk.2) (.int .i64 (wrap64 (a1_1 + (wrap64 (a3)))))) (fun _ h_ => h_.1))) hb); have n1_ := Aside0.mk (Kd.R_lower ho0 (below_size (by repeat (first | (with_reducible first | exact HB.out | apply below_alloc | apply pw_below_drewN | apply below_drew1 | refine below_set ?_ GE166.out | refine below_set ?_ GE190.out) | exact HB.out)))); have n2_ := Aside0.mk (blk_below (g := gb166) (o := .cells #[.int .i64 a1_0, .int .i64 a1_1, .int .i64 a1_2, .int .i64 a1_3, .int .i64 a1_4] 44 (0, 0)) (by (with_reducible repeat (first | refine blk_drewN ?_ _ | refine blk_drew ?_ | refine blk_alloc ?_ _)); refine blk_far ?_ NB166_190.out _; (with_reducible repeat (first | refine blk_drewN ?_ _ | refine blk_drew ?_ | refine blk_alloc ?_ _)); refine blk_far ?_ NB166_190.out _; (with_reducible repeat (first | refine blk_drewN ?_ _ | refine blk_drew ?_ | refine blk_alloc ?_ _)); exact BK166.out) hb); have n3_ := Aside0.mk (blk_below (g := gb190) (o := .cells #[.int .i64 (wrap64 (a1_0 + (wrap64 (a2)))), .int .i64 (wrap64 (a1_1 + (wrap64 (a3)))), .int .i64 a1_2, .int .i64 a1_3, .int .i64 a1_4] 44 (0, 0)) (by (with_reducible repeat (first | refine blk_drewN ?_ _ | refine blk_drew ?_ | refine blk_alloc ?_ _)); refine blk_put (cs := #[.int .i64 (wrap64 (a1_0 + (wrap64 (a2)))), .int .i64 a1_1, .int .i64 a1_2, .int .i64 a1_3, .int .i64 a1_4]) ?_ 1 _ rfl; (with_reducible repeat (first | refine blk_drewN ?_ _ | refine blk_drew ?_ | refine blk_alloc ?_ _)); refine blk_put (cs := #[.int .i64 a1_0, .int .i64 a1_1, .int .i64 a1_2, .int .i64 a1_3, .int .i64 a1_4]) ?_ 0 _ rfl; (with_reducible repeat (first | refine blk_drewN ?_ _ | refine blk_drew ?_ | refine blk_alloc ?_ _)); exact BK190.out) hb); have n4_ := Aside0.mk (below_step (by repeat (first | (with_reducible first | exact HB.out | apply below_alloc | apply pw_below_drewN | apply below_drew1 | refine below_set ?_ GE166.out | refine below_set ?_ GE190.out) | exact HB.out)) hb); clear HO_9; clear BK166; clear BK190; clear HB; have HO_9 := n0_; have HO193 := n1_; have BK166 := n2_; have BK190 := n3_; have HB := n4_; clear n0_ n1_ n2_ n3_ n4_; (try clear hb); (try clear hb2); (try clear hk); (try clear hi); (try clear ho0); have hcz89_0 : w88.cell? ⟨gb190, 0, none⟩ = some (.int .i64 (wrap64 (a1_0 + (wrap64 (a2))))) := (blk_cell BK190.out 0).trans rfl; have hcz89_1 : w88.cell? ⟨gb190, 1, none⟩ = some (.int .i64 (wrap64 (a1_1 + (wrap64 (a3))))) := (blk_cell BK190.out 1).trans rfl; have hcz89_2 : w88.cell? ⟨gb190, 2, none⟩ = some (.int .i64 a1_2) := (blk_cell BK190.out 2).trans rfl; have hcz89_3 : w88.cell? ⟨gb190, 3, none⟩ = some (.int .i64 a1_3) := (blk_cell BK190.out 3).trans rfl; have hcz89_4 : w88.cell? ⟨gb190, 4, none⟩ = some (.int .i64 a1_4) := (blk_cell BK190.out 4).trans rfl; have hfz89_0 := blk_frozen BK190.out 0; have hfz89_1 := blk_frozen BK190.out 1; have hfz89_2 := blk_frozen BK190.out 2; have hfz89_3 := blk_frozen BK190.out 3; have hfz89_4 := blk_frozen BK190.out 4; obtain ⟨Ao90, co90, eo90⟩ := Kd.R_slice HO_9.out; subst eo90) | ((with_reducible refine gate_callee (f := 28) rfl ?_); refine goesL_ (some 109) rfl rfl Try.func28 (by kernel_rfl) rfl #[.slice Ao90 x9_2.length co90, .agg #[.int .i64 (wrap64 (a1_0 + (wrap64 (a2)))), .int .i64 (wrap64 (a1_1 + (wrap64 (a3)))), .int .i64 a1_2, .int .i64 a1_3, .int .i64 a1_4]] rfl (by (try simp only [List.map_toArray, List.map_cons, List.map_nil]); first | done | rfl | (simp only [List.length_drop, List.length_take]; rfl)) ?_; (with_reducible refine (raster_Draw.calls k2 _ _ x9_2 (wrap64 (a1_0 + (wrap64 (a2)))) (wrap64 (a1_1 + (wrap64 (a3)))) a1_2 a1_3 a1_4 t195 t198 _ ?side1 ?side2 A76.out).mono ?_); (case side1 => repeat (first | exact (Kd.R_reads' HO_9.out).2.2 | (with_reducible refine Kd.C_alloc ?_ _) | (with_reducible refine Kd.C_drewN ?_ _) | (with_reducible refine Kd.C_drew ?_))); (case side2 => exact (Kd.R_reads' HO_9.out).2.1); rintro e w91 ⟨v196, rfl, ho0, hb⟩; refine ⟨_, rfl, ?_⟩; have n0_ := Aside0.mk (Kd.R_below (by (with_reducible repeat (first | apply Kd.R_alloc | apply Kd.R_drewN | apply Kd.R_drew)); exact HO_9.out) hb); have n1_ := Aside0.mk (Kd.R_elder' (by (with_reducible repeat (first | apply Kd.R_alloc | apply Kd.R_drewN | apply Kd.R_drew)); exact HO193.out) (Kd.R_base ho0) hb); have n2_ := Aside0.mk (Kd.R_lower (Kd.R_new' ho0 (Kd.R_lt (by (with_reducible repeat (first | apply Kd.R_alloc | apply Kd.R_drewN | apply Kd.R_drew)); exact HO193.out))) (below_size (by repeat (first | (with_reducible first | exact HB.out | apply below_alloc | apply pw_below_drewN | apply below_drew1 | refine below_set ?_ GE166.out | refine below_set ?_ GE190.out) | exact HB.out)))); have n3_ := Aside0.mk (blk_below (g := gb166) (o := .cells #[.int .i64 a1_0, .int .i64 a1_1, .int .i64 a1_2, .int .i64 a1_3, .int .i64 a1_4] 44 (0, 0)) (by (with_reducible repeat (first | refine blk_drewN ?_ _ | refine blk_drew ?_ | refine blk_alloc ?_ _)); exact BK166.out) hb); have n4_ := Aside0.mk (blk_below (g := gb190) (o := .cells #[.int .i64 (wrap64 (a1_0 + (wrap64 (a2)))), .int .i64 (wrap64 (a1_1 + (wrap64 (a3)))), .int .i64 a1_2, .int .i64 a1_3, .int .i64 a1_4] 44 (0, 0)) (by (with_reducible repeat (first | refine blk_drewN ?_ _ | refine blk_drew ?_ | refine blk_alloc ?_ _)); exact BK190.out) hb); have n5_ := Aside0.mk (below_step (by repeat (first | (with_reducible first | exact HB.out | apply below_alloc | apply pw_below_drewN | apply below_drew1 | refine below_set ?_ GE166.out | refine below_set ?_ GE190.out) | exact HB.out)) hb); clear HO_9; clear HO193; clear BK166; clear BK190; clear HB; have HO_9 := n0_; have HO193 := n1_; have HO197 := n2_; have BK166 := n3_; have BK190 := n4_; have HB := n5_; clear n0_ n1_ n2_ n3_ n4_ n5_; (try clear hb); (try clear hb2); (try clear hk); (try clear hi); (try clear ho0)))
        (try simp only [Act.put, List.setIfInBounds_toArray, List.set_cons_zero, List.set_cons_succ])
        go_cut [129] (fun v129 wc => ∃ (kq : Nat) (x129_77 : Bool), v129 = .bool x129_77 ∧ Aside0 (decoupagelaw28_RasterShifts.j3 kq t191 t195 x129_77 = some r) ∧ Aside0 (kq ≤ k2) ∧ Aside0 (Kd.R (Kd.int .i64) 2 wc w.heap.size (fun k_ => some k_ ≠ (v196 : Value).ownBlock) v192 t191) ∧ Aside0 (Kd.R (Kd.int .i64) 2 wc w.heap.size (fun k_ => some k_ ≠ (v192 : Value).ownBlock) v196 t195) ∧ Aside0 (wc.heap[gb166]? = some (.cells #[.int .i64 a1_0, .int .i64 a1_1, .int .i64 a1_2, .int .i64 a1_3, .int .i64 a1_4] 44 (0, 0))) ∧ Aside0 (wc.heap[gb190]? = some (.cells #[.int .i64 (wrap64 (a1_0 + (wrap64 (a2)))), .int .i64 (wrap64 (a1_1 + (wrap64 (a3)))), .int .i64 a1_2, .int .i64 a1_3, .int .i64 a1_4] 44 (0, 0))) ∧ Aside0 (Below w.heap.size w wc))
        case first =>
         have H := HC78.out
         clear HC78
         by_cases c92 : t194 = 0
         ·rw [if_pos c92] at H
          have c92b0 : (t194 == 0) = true := beq_iff_eq.mpr c92
          have c92b1 : (t194 != 0) = false := bne_eq_false_iff_eq.mpr c92
          clear c92
          (first | rw [c92b0] | (simp only [i64_w, i32_w]; rw [c92b0]) | skip)
          have H' := Aside0.mk H
          clear H
          obtain ⟨Ao93, co93, eo93⟩ := Kd.R_slice HO193.out
          subst eo93
          obtain ⟨Ao94, co94, eo94⟩ := Kd.R_slice HO197.out
          subst eo94
          go_wp2
          go_meet
          case rel => exact ⟨_, (((t191.length : Int) != (t195.length : Int))), (by first | rfl | (simp; done) | (simp [*]; done)), H', ⟨by have := HJ4.out; have := HK2.out; first | omega | exact Nat.le_refl _⟩, ⟨by (with_reducible repeat (first | apply Kd.R_alloc | apply Kd.R_drewN | apply Kd.R_drew)); exact Kd.R_mono HO193.out (fun _ hk => hk.2)⟩, ⟨by (with_reducible repeat (first | apply Kd.R_alloc | apply Kd.R_drewN | apply Kd.R_drew)); exact Kd.R_mono HO197.out (fun _ hk => hk.2)⟩, ⟨by (with_reducible repeat (first | refine blk_drewN ?_ _ | refine blk_drew ?_ | refine blk_alloc ?_ _)); exact BK166.out⟩, ⟨by (with_reducible repeat (first | refine blk_drewN ?_ _ | refine blk_drew ?_ | refine blk_alloc ?_ _)); exact BK190.out⟩, ⟨by repeat (first | (with_reducible first | exact HB.out | apply below_alloc | apply pw_below_drewN | apply below_drew1 | refine below_set ?_ GE166.out | refine below_set ?_ GE190.out) | exact HB.out)⟩⟩
         ·rw [if_neg c92] at H
          have c92b0 : (t194 == 0) = false := beq_eq_false_iff_ne.mpr c92
          have c92b1 : (t194 != 0) = true := bne_iff_ne.mpr c92
          (first | rw [c92b0] | (simp only [i64_w, i32_w]; rw [c92b0]) | skip)
          have H' := Aside0.mk H
          clear H
          go_wp2
          go_meet
          case rel => exact ⟨_, (true), (by first | rfl | (simp; done) | (simp [*]; done)), H', ⟨by have := HJ4.out; have := HK2.out; first | omega | exact Nat.le_refl _⟩, ⟨by (with_reducible repeat (first | apply Kd.R_alloc | apply Kd.R_drewN | apply Kd.R_drew)); exact Kd.R_mono HO193.out (fun _ hk => hk.2)⟩, ⟨by (with_reducible repeat (first | apply Kd.R_alloc | apply Kd.R_drewN | apply Kd.R_drew)); exact Kd.R_mono HO197.out (fun _ hk => hk.2)⟩, ⟨by (with_reducible repeat (first | refine blk_drewN ?_ _ | refine blk_drew ?_ | refine blk_alloc ?_ _)); exact BK166.out⟩, ⟨by (with_reducible repeat (first | refine blk_drewN ?_ _ | refine blk_drew ?_ | refine blk_alloc ?_ _)); exact BK190.out⟩, ⟨by repeat (first | (with_reducible first | exact HB.out | apply below_alloc | apply pw_below_drewN | apply below_drew1 | refine below_set ?_ GE166.out | refine below_set ?_ GE190.out) | exact HB.out)⟩⟩
        case rest =>
         clear HC78
         try clear c2
         try clear p2
         try clear c3
         try clear c5
         try clear p6
         try clear c7
         try clear c8
         try clear c9
         try clear c24
         try clear c24b0
         try clear c25
         try clear c26
         try clear c28
         try clear c32
         try clear c51
         try clear c55
         try clear p64
         try clear c72
         try clear c77
         try clear c77b0
         try clear c77b1
         try clear c81
         try clear c92
         try clear c92b0
         try clear c92b1
         try clear hcz73_0
         try clear hcz73_1
         try clear hcz73_10
         try clear hcz73_11
         try clear hcz73_12
         try clear hcz73_13
         try clear hcz73_14
         try clear hcz73_2
         try clear hcz73_3
         try clear hcz73_4
         try clear hcz73_5
         try clear hcz73_6
         try clear hcz73_7
         try clear hcz73_8
         try clear hcz73_9
         try clear hcz79_0
         try clear hcz79_1
         try clear hcz79_2
         try clear hcz79_3
         try clear hcz79_4
         try clear hcz82_0
         try clear hcz82_1
         try clear hcz82_2
         try clear hcz82_3
         try clear hcz82_4
         try clear hcz87_0
         try clear hcz87_1
         try clear hcz87_2
         try clear hcz87_3
         try clear hcz87_4
         try clear hcz89_0
         try clear hcz89_1
         try clear hcz89_2
         try clear hcz89_3
         try clear hcz89_4
         try clear hfz73_0
         try clear hfz73_1
         try clear hfz73_10
         try clear hfz73_11
         try clear hfz73_12
         try clear hfz73_13
         try clear hfz73_14
         try clear hfz73_2
         try clear hfz73_3
         try clear hfz73_4
         try clear hfz73_5
         try clear hfz73_6
         try clear hfz73_7
         try clear hfz73_8
         try clear hfz73_9
         try clear hfz79_0
         try clear hfz79_1
         try clear hfz79_2
         try clear hfz79_3
         try clear hfz79_4
         try clear hfz82_0
         try clear hfz82_1
         try clear hfz82_2
         try clear hfz82_3
         try clear hfz82_4
         try clear hfz87_0
         try clear hfz87_1
         try clear hfz87_2
         try clear hfz87_3
         try clear hfz87_4
         try clear hfz89_0
         try clear hfz89_1
         try clear hfz89_2
         try clear hfz89_3
         try clear hfz89_4
         obtain ⟨kq, x129_77, rfl, HA, HJ77, HO_13, HO_15, BK166, BK190, HB⟩ := hcut
         cases kq with
         | zero => exact absurd HA.out (by simp [decoupagelaw28_RasterShifts.j3])
         | succ kj77 =>
          have H := HA.out
          clear HA
          simp only [decoupagelaw28_RasterShifts.j3] at H
          by_cases c95 : x129_77 = true
          ·subst c95
           have H1 : (some false) = some r := by rw [if_pos rfl] at H; exact H
           clear H
           have H := H1
           clear H1
           obtain rfl := Option.some.inj H
           go_wp2
           go_ret
           exact ⟨by first | rfl | (simp [errW_none, errW_some] <;> rfl) | (simp [*, errW_none, errW_some] <;> rfl), by repeat (first | (with_reducible first | exact HB.out | apply below_alloc | apply pw_below_drewN | apply below_drew1 | refine below_set ?_ GE166.out | refine below_set ?_ GE190.out) | exact HB.out)⟩
          ·replace c95 := Bool.eq_false_iff.mpr c95
           subst c95
           have H1 : (decoupagelaw28_RasterShifts.l1 kj77 t191 t195 (t191.length : Int) 0) = some r := by rw [if_neg (show ¬ (false = true) by decide)] at H; exact H
           clear H
           have H := H1
           clear H1
           have H' := Aside0.mk H
           clear H
           obtain ⟨Ao96, co96, eo96⟩ := Kd.R_slice HO_13.out
           subst eo96
           go_wp2
           go_loopg [132] kj77 (fun kq v132 w' => ∃ (x132_4 : Int), v132 = .int .i64 x132_4 ∧ Aside0 (decoupagelaw28_RasterShifts.l1 kq t191 t195 (t191.length : Int) x132_4 = some r) ∧ Aside0 (kq ≤ kj77) ∧ Aside0 (Kd.R (Kd.int .i64) 2 w' w.heap.size (fun k_ => some k_ ≠ (v196 : Value).ownBlock) (.slice Ao96 t191.length co96) t191) ∧ Aside0 (Kd.R (Kd.int .i64) 2 w' w.heap.size (fun k_ => some k_ ≠ ((.slice Ao96 t191.length co96) : Value).ownBlock) v196 t195) ∧ Aside0 (w'.heap[gb166]? = some (.cells #[.int .i64 a1_0, .int .i64 a1_1, .int .i64 a1_2, .int .i64 a1_3, .int .i64 a1_4] 44 (0, 0))) ∧ Aside0 (w'.heap[gb190]? = some (.cells #[.int .i64 (wrap64 (a1_0 + (wrap64 (a2)))), .int .i64 (wrap64 (a1_1 + (wrap64 (a3)))), .int .i64 a1_2, .int .i64 a1_3, .int .i64 a1_4] 44 (0, 0))) ∧ Aside0 (Below w.heap.size w w'))
           case atStart => exact ⟨(0), (by first | rfl | (simp; done) | (simp [*]; done)), H', ⟨Nat.le_refl _⟩, ⟨by (with_reducible repeat (first | apply Kd.R_alloc | apply Kd.R_drewN | apply Kd.R_drew)); exact HO_13.out⟩, ⟨by (with_reducible repeat (first | apply Kd.R_alloc | apply Kd.R_drewN | apply Kd.R_drew)); exact HO_15.out⟩, ⟨by (with_reducible repeat (first | refine blk_drewN ?_ _ | refine blk_drew ?_ | refine blk_alloc ?_ _)); exact BK166.out⟩, ⟨by (with_reducible repeat (first | refine blk_drewN ?_ _ | refine blk_drew ?_ | refine blk_alloc ?_ _)); exact BK190.out⟩, ⟨by repeat (first | (with_reducible first | exact HB.out | apply below_alloc | apply pw_below_drewN | apply below_drew1 | refine below_set ?_ GE166.out | refine below_set ?_ GE190.out) | exact HB.out)⟩⟩
           case round =>
            clear H'
            try clear c2
            try clear p2
            try clear c3
            try clear c5
            try clear p6
            try clear c7
            try clear c8
            try clear c9
            try clear c24
            try clear c24b0
            try clear c25
            try clear c26
            try clear c28
            try clear c32
            try clear c51
            try clear c55
            try clear p64
            try clear c72
            try clear c77
            try clear c77b0
            try clear c77b1
            try clear c81
            try clear c92
            try clear c92b0
            try clear c92b1
            try clear c95
            try clear hcz73_0
            try clear hcz73_1
            try clear hcz73_10
            try clear hcz73_11
            try clear hcz73_12
            try clear hcz73_13
            try clear hcz73_14
            try clear hcz73_2
            try clear hcz73_3
            try clear hcz73_4
            try clear hcz73_5
            try clear hcz73_6
            try clear hcz73_7
            try clear hcz73_8
            try clear hcz73_9
            try clear hcz79_0
            try clear hcz79_1
            try clear hcz79_2
            try clear hcz79_3
            try clear hcz79_4
            try clear hcz82_0
            try clear hcz82_1
            try clear hcz82_2
            try clear hcz82_3
            try clear hcz82_4
            try clear hcz87_0
            try clear hcz87_1
            try clear hcz87_2
            try clear hcz87_3
            try clear hcz87_4
            try clear hcz89_0
            try clear hcz89_1
            try clear hcz89_2
            try clear hcz89_3
            try clear hcz89_4
            try clear hfz73_0
            try clear hfz73_1
            try clear hfz73_10
            try clear hfz73_11
            try clear hfz73_12
            try clear hfz73_13
            try clear hfz73_14
            try clear hfz73_2
            try clear hfz73_3
            try clear hfz73_4
            try clear hfz73_5
            try clear hfz73_6
            try clear hfz73_7
            try clear hfz73_8
            try clear hfz73_9
            try clear hfz79_0
            try clear hfz79_1
            try clear hfz79_2
            try clear hfz79_3
            try clear hfz79_4
            try clear hfz82_0
            try clear hfz82_1
            try clear hfz82_2
            try clear hfz82_3
            try clear hfz82_4
            try clear hfz87_0
            try clear hfz87_1
            try clear hfz87_2
            try clear hfz87_3
            try clear hfz87_4
            try clear hfz89_0
            try clear hfz89_1
            try clear hfz89_2
            try clear hfz89_3
            try clear hfz89_4
            try clear p2
            try clear p6
            try clear p64
            obtain ⟨x132_4, rfl, HA, HK4, HO_13, HO_15, BK166, BK190, HB⟩ := hrel
            cases gk with
            | zero => exact absurd HA.out (by simp [decoupagelaw28_RasterShifts.l1])
            | succ k4 =>
             have H := HA.out
             clear HA
             simp only [decoupagelaw28_RasterShifts.l1] at H
             by_cases c97 : x132_4 < (t191.length : Int)
             ·rw [if_pos c97] at H
              have c97b0 : decide (x132_4 < (t191.length : Int)) = true := decide_eq_true c97
              clear c97
              by_cases c98 : 0 ≤ x132_4
              ·rw [if_pos c98] at H
               have c98b0 : decide (0 ≤ x132_4) = true := decide_eq_true c98
               clear c98
               by_cases c99 : x132_4 < (t191.length : Int)
               ·rw [if_pos c99] at H
                have c99b0 : decide (x132_4 < (t191.length : Int)) = true := decide_eq_true c99
                clear c99
                by_cases c100 : x132_4 < (t195.length : Int)
                ·rw [if_pos c100] at H
                 have c100b0 : decide (x132_4 < (t195.length : Int)) = true := decide_eq_true c100
                 clear c100
                 by_cases c101 : (rd t191 x132_4) = (rd t195 x132_4)
                 ·rw [if_pos c101] at H
                  have c101b0 : ((rd t191 x132_4) == (rd t195 x132_4)) = true := beq_iff_eq.mpr c101
                  have c101b1 : ((rd t191 x132_4) != (rd t195 x132_4)) = false := bne_eq_false_iff_eq.mpr c101
                  clear c101
                  have H' := Aside0.mk H
                  clear H
                  try go_wp2
                  have n0_ := Aside0.mk (Kd.R_drew HO_13.out)
                  have n1_ := Aside0.mk (Kd.R_drew HO_15.out)
                  have n2_ := Aside0.mk (blk_drew BK166.out)
                  have n3_ := Aside0.mk (blk_drew BK190.out)
                  have n4_ := Aside0.mk (below_drew1 HB.out)
                  clear HO_13
                  clear HO_15
                  clear BK166
                  clear BK190
                  clear HB
                  have HO_13 := n0_
                  have HO_15 := n1_
                  have BK166 := n2_
                  have BK190 := n3_
                  have HB := n4_
                  clear n0_ n1_ n2_ n3_ n4_
                  have p200 : 0 ≤ (x132_4 : Int) := of_decide_eq_true (by first | (with_reducible assumption) | assumption)
                  have q200 : x132_4 < (t191.length : Int) := of_decide_eq_true (by first | (with_reducible assumption) | assumption)
                  obtain ⟨ad200, e200, hx200_0⟩ := Kd.at_int (Kd.R_reads' HO_13.out).2.2 x132_4 p200 q200
                  cases e200
                  replace p200 := eq_true p200
                  replace q200 := eq_true q200
                  obtain ⟨Ao103, co103, eo103⟩ := Kd.R_slice HO_15.out
                  (first | subst eo103 | (injection eo103 with f1_ f2_ f3_; have f4_ := f1_.symm; have f5_ := f3_.symm; clear f1_ f2_ f3_; subst f4_; subst f5_))
                  have p201 : 0 ≤ (x132_4 : Int) := of_decide_eq_true (by first | (with_reducible assumption) | assumption)
                  have q201 : x132_4 < (t195.length : Int) := of_decide_eq_true (by first | (with_reducible assumption) | assumption)
                  obtain ⟨ad201, e201, hx201_0⟩ := Kd.at_int (Kd.R_reads' HO_15.out).2.2 x132_4 p201 q201
                  cases e201
                  replace p201 := eq_true p201
                  replace q201 := eq_true q201
                  refine start_ (n := 9) (S := fun w' => w'.cell? (ad200.add (x132_4).toNat) = some (.int .i64 (rd t191 x132_4)) ∧ w'.cell? (ad201.add (x132_4).toNat) = some (.int .i64 (rd t195 x132_4))) (ds := []) #[false, false, false, false, false, false, false, false, false] (by kernel_rfl) rfl rfl ⟨hx200_0, hx201_0⟩ (fun hHeld => ?_); refine with_tabW decoupagelaw28_RasterShifts.tab24 decoupagelaw28_RasterShifts.bits24 (fun HT_ HW_ => ?_)
                  generalize wr.drew = w102 at HO_13 HO_15 BK166 BK190 HB hx200_0 hx201_0 hHeld ⊢
                  refine pure_ (i := 0) (N := some 135) (v := ?_) (a' := ?_) #[true, false, false, false, false, false, false, false, false] rfl rfl (any_of HT_.out (by kernel_rfl)) (fun _ _ _ h => h) (Or.inl ⟨by rfl, ?_⟩) ?_ ?_
                  rotate_left
                  ·intro w'
                   go_simp
                   with_reducible rfl
                  rotate_left
                  ·simp only [Act.put, List.setIfInBounds_toArray, List.set_cons_zero, List.set_cons_succ, i64_w, i32_w]
                   rfl
                  refine pure_ (i := 1) (N := some 136) (v := ?_) (a' := ?_) #[true, true, false, false, false, false, false, false, false] rfl rfl (any_of HT_.out (by kernel_rfl)) (fun _ _ _ h => h) (Or.inl ⟨by rfl, ?_⟩) ?_ ?_
                  rotate_left
                  ·intro w'
                   go_simp
                   with_reducible rfl
                  rotate_left
                  ·simp only [Act.put, List.setIfInBounds_toArray, List.set_cons_zero, List.set_cons_succ, i64_w, i32_w]
                   rfl
                  refine pure_ (i := 2) (N := some 137) (v := ?_) (a' := ?_) #[true, true, true, false, false, false, false, false, false] rfl rfl (any_of HT_.out (by kernel_rfl)) (fun _ _ _ h => h) (Or.inl ⟨by rfl, ?_⟩) ?_ ?_
                  rotate_left
                  ·intro w'
                   go_simp
                   with_reducible rfl
                  rotate_left
                  ·simp only [Act.put, List.setIfInBounds_toArray, List.set_cons_zero, List.set_cons_succ, i64_w, i32_w]
                   rfl
                  refine pure_ (i := 4) (N := some 139) (v := ?_) (a' := ?_) #[true, true, true, false, true, false, false, false, false] rfl rfl (any_of HT_.out (by kernel_rfl)) (fun _ _ _ h => h) (Or.inl ⟨by rfl, ?_⟩) ?_ ?_
                  rotate_left
                  ·intro w'
                   go_simp
                   with_reducible rfl
                  rotate_left
                  ·simp only [Act.put, List.setIfInBounds_toArray, List.set_cons_zero, List.set_cons_succ, i64_w, i32_w]
                   rfl
                  refine pure_ (i := 5) (N := some 140) (v := ?_) (a' := ?_) #[true, true, true, false, true, true, false, false, false] rfl rfl (any_of HT_.out (by kernel_rfl)) (fun _ _ _ h => h) (Or.inl ⟨by rfl, ?_⟩) ?_ ?_
                  rotate_left
                  ·intro w'
                   go_simp
                   with_reducible rfl
                  rotate_left
                  ·simp only [Act.put, List.setIfInBounds_toArray, List.set_cons_zero, List.set_cons_succ, i64_w, i32_w]
                   rfl
                  refine pure_ (i := 6) (N := some 141) (v := ?_) (a' := ?_) #[true, true, true, false, true, true, true, false, false] rfl rfl (any_of HT_.out (by kernel_rfl)) (fun _ _ _ h => h) (Or.inl ⟨by rfl, ?_⟩) ?_ ?_
                  rotate_left
                  ·intro w'
                   go_simp
                   with_reducible rfl
                  rotate_left
                  ·simp only [Act.put, List.setIfInBounds_toArray, List.set_cons_zero, List.set_cons_succ, i64_w, i32_w]
                   rfl
                  refine take_ (i := 3) (N := some 138) (v := ?_) (a' := ?_) #[true, true, true, true, true, true, true, false, false] rfl rfl (take_ofW HT_.out HW_.out (by kernel_rfl)) (fun _ _ _ h => h) (Or.inl ⟨by rfl, ?_⟩) hHeld ?_ ?_
                  rotate_left
                  ·rintro w' ⟨s0, s1⟩
                   go_simp
                   with_reducible rfl
                  rotate_left
                  ·simp only [Act.put, List.setIfInBounds_toArray, List.set_cons_zero, List.set_cons_succ, i64_w, i32_w]
                   rfl
                  refine take_ (i := 7) (N := some 142) (v := ?_) (a' := ?_) #[true, true, true, true, true, true, true, true, false] rfl rfl (take_ofW HT_.out HW_.out (by kernel_rfl)) (fun _ _ _ h => h) (Or.inl ⟨by rfl, ?_⟩) hHeld ?_ ?_
                  rotate_left
                  ·rintro w' ⟨s0, s1⟩
                   go_simp
                   with_reducible rfl
                  rotate_left
                  ·simp only [Act.put, List.setIfInBounds_toArray, List.set_cons_zero, List.set_cons_succ, i64_w, i32_w]
                   rfl
                  refine pure_ (i := 8) (N := some 143) (v := ?_) (a' := ?_) #[true, true, true, true, true, true, true, true, true] rfl rfl (any_of HT_.out (by kernel_rfl)) (fun _ _ _ h => h) (Or.inl ⟨by rfl, ?_⟩) ?_ ?_
                  rotate_left
                  ·intro w'
                   go_simp
                   with_reducible rfl
                  rotate_left
                  ·simp only [Act.put, List.setIfInBounds_toArray, List.set_cons_zero, List.set_cons_succ, i64_w, i32_w]
                   rfl
                  refine done_ (done_of HT_.out (by kernel_rfl)) ?_
                  try go_wp2
                  go_roundg k4
                  case measure => have := HJ4.out; have := HK2.out; have := HJ77.out; have := HK4.out; omega
                  case rel => exact ⟨(wrap64 (x132_4 + 1)), (by first | rfl | (simp; done) | (simp [*]; done)), H', ⟨by have := HJ4.out; have := HK2.out; have := HJ77.out; have := HK4.out; omega⟩, ⟨by (with_reducible repeat (first | apply Kd.R_alloc | apply Kd.R_drewN | apply Kd.R_drew)); exact HO_13.out⟩, ⟨by (with_reducible repeat (first | apply Kd.R_alloc | apply Kd.R_drewN | apply Kd.R_drew)); exact HO_15.out⟩, ⟨by (with_reducible repeat (first | refine blk_drewN ?_ _ | refine blk_drew ?_ | refine blk_alloc ?_ _)); exact BK166.out⟩, ⟨by (with_reducible repeat (first | refine blk_drewN ?_ _ | refine blk_drew ?_ | refine blk_alloc ?_ _)); exact BK190.out⟩, ⟨by repeat (first | (with_reducible first | exact HB.out | apply below_alloc | apply pw_below_drewN | apply below_drew1 | refine below_set ?_ GE166.out | refine below_set ?_ GE190.out) | exact HB.out)⟩⟩
                 ·rw [if_neg c101] at H
                  have c101b0 : ((rd t191 x132_4) == (rd t195 x132_4)) = false := beq_eq_false_iff_ne.mpr c101
                  have c101b1 : ((rd t191 x132_4) != (rd t195 x132_4)) = true := bne_iff_ne.mpr c101
                  obtain rfl := Option.some.inj H
                  try go_wp2
                  have n0_ := Aside0.mk (Kd.R_drew HO_13.out)
                  have n1_ := Aside0.mk (Kd.R_drew HO_15.out)
                  have n2_ := Aside0.mk (blk_drew BK166.out)
                  have n3_ := Aside0.mk (blk_drew BK190.out)
                  have n4_ := Aside0.mk (below_drew1 HB.out)
                  clear HO_13
                  clear HO_15
                  clear BK166
                  clear BK190
                  clear HB
                  have HO_13 := n0_
                  have HO_15 := n1_
                  have BK166 := n2_
                  have BK190 := n3_
                  have HB := n4_
                  clear n0_ n1_ n2_ n3_ n4_
                  have p200 : 0 ≤ (x132_4 : Int) := of_decide_eq_true (by first | (with_reducible assumption) | assumption)
                  have q200 : x132_4 < (t191.length : Int) := of_decide_eq_true (by first | (with_reducible assumption) | assumption)
                  obtain ⟨ad200, e200, hx200_0⟩ := Kd.at_int (Kd.R_reads' HO_13.out).2.2 x132_4 p200 q200
                  cases e200
                  replace p200 := eq_true p200
                  replace q200 := eq_true q200
                  obtain ⟨Ao105, co105, eo105⟩ := Kd.R_slice HO_15.out
                  (first | subst eo105 | (injection eo105 with f1_ f2_ f3_; have f4_ := f1_.symm; have f5_ := f3_.symm; clear f1_ f2_ f3_; subst f4_; subst f5_))
                  have p201 : 0 ≤ (x132_4 : Int) := of_decide_eq_true (by first | (with_reducible assumption) | assumption)
                  have q201 : x132_4 < (t195.length : Int) := of_decide_eq_true (by first | (with_reducible assumption) | assumption)
                  obtain ⟨ad201, e201, hx201_0⟩ := Kd.at_int (Kd.R_reads' HO_15.out).2.2 x132_4 p201 q201
                  cases e201
                  replace p201 := eq_true p201
                  replace q201 := eq_true q201
                  refine start_ (n := 9) (S := fun w' => w'.cell? (ad200.add (x132_4).toNat) = some (.int .i64 (rd t191 x132_4)) ∧ w'.cell? (ad201.add (x132_4).toNat) = some (.int .i64 (rd t195 x132_4))) (ds := []) #[false, false, false, false, false, false, false, false, false] (by kernel_rfl) rfl rfl ⟨hx200_0, hx201_0⟩ (fun hHeld => ?_); refine with_tabW decoupagelaw28_RasterShifts.tab24 decoupagelaw28_RasterShifts.bits24 (fun HT_ HW_ => ?_)
                  generalize wr.drew = w104 at HO_13 HO_15 BK166 BK190 HB hx200_0 hx201_0 hHeld ⊢
                  refine pure_ (i := 0) (N := some 135) (v := ?_) (a' := ?_) #[true, false, false, false, false, false, false, false, false] rfl rfl (any_of HT_.out (by kernel_rfl)) (fun _ _ _ h => h) (Or.inl ⟨by rfl, ?_⟩) ?_ ?_
                  rotate_left
                  ·intro w'
                   go_simp
                   with_reducible rfl
                  rotate_left
                  ·simp only [Act.put, List.setIfInBounds_toArray, List.set_cons_zero, List.set_cons_succ, i64_w, i32_w]
                   rfl
                  refine pure_ (i := 1) (N := some 136) (v := ?_) (a' := ?_) #[true, true, false, false, false, false, false, false, false] rfl rfl (any_of HT_.out (by kernel_rfl)) (fun _ _ _ h => h) (Or.inl ⟨by rfl, ?_⟩) ?_ ?_
                  rotate_left
                  ·intro w'
                   go_simp
                   with_reducible rfl
                  rotate_left
                  ·simp only [Act.put, List.setIfInBounds_toArray, List.set_cons_zero, List.set_cons_succ, i64_w, i32_w]
                   rfl
                  refine pure_ (i := 2) (N := some 137) (v := ?_) (a' := ?_) #[true, true, true, false, false, false, false, false, false] rfl rfl (any_of HT_.out (by kernel_rfl)) (fun _ _ _ h => h) (Or.inl ⟨by rfl, ?_⟩) ?_ ?_
                  rotate_left
                  ·intro w'
                   go_simp
                   with_reducible rfl
                  rotate_left
                  ·simp only [Act.put, List.setIfInBounds_toArray, List.set_cons_zero, List.set_cons_succ, i64_w, i32_w]
                   rfl
                  refine pure_ (i := 4) (N := some 139) (v := ?_) (a' := ?_) #[true, true, true, false, true, false, false, false, false] rfl rfl (any_of HT_.out (by kernel_rfl)) (fun _ _ _ h => h) (Or.inl ⟨by rfl, ?_⟩) ?_ ?_
                  rotate_left
                  ·intro w'
                   go_simp
                   with_reducible rfl
                  rotate_left
                  ·simp only [Act.put, List.setIfInBounds_toArray, List.set_cons_zero, List.set_cons_succ, i64_w, i32_w]
                   rfl
                  refine pure_ (i := 5) (N := some 140) (v := ?_) (a' := ?_) #[true, true, true, false, true, true, false, false, false] rfl rfl (any_of HT_.out (by kernel_rfl)) (fun _ _ _ h => h) (Or.inl ⟨by rfl, ?_⟩) ?_ ?_
                  rotate_left
                  ·intro w'
                   go_simp
                   with_reducible rfl
                  rotate_left
                  ·simp only [Act.put, List.setIfInBounds_toArray, List.set_cons_zero, List.set_cons_succ, i64_w, i32_w]
                   rfl
                  refine pure_ (i := 6) (N := some 141) (v := ?_) (a' := ?_) #[true, true, true, false, true, true, true, false, false] rfl rfl (any_of HT_.out (by kernel_rfl)) (fun _ _ _ h => h) (Or.inl ⟨by rfl, ?_⟩) ?_ ?_
                  rotate_left
                  ·intro w'
                   go_simp
                   with_reducible rfl
                  rotate_left
                  ·simp only [Act.put, List.setIfInBounds_toArray, List.set_cons_zero, List.set_cons_succ, i64_w, i32_w]
                   rfl
                  refine take_ (i := 3) (N := some 138) (v := ?_) (a' := ?_) #[true, true, true, true, true, true, true, false, false] rfl rfl (take_ofW HT_.out HW_.out (by kernel_rfl)) (fun _ _ _ h => h) (Or.inl ⟨by rfl, ?_⟩) hHeld ?_ ?_
                  rotate_left
                  ·rintro w' ⟨s0, s1⟩
                   go_simp
                   with_reducible rfl
                  rotate_left
                  ·simp only [Act.put, List.setIfInBounds_toArray, List.set_cons_zero, List.set_cons_succ, i64_w, i32_w]
                   rfl
                  refine take_ (i := 7) (N := some 142) (v := ?_) (a' := ?_) #[true, true, true, true, true, true, true, true, false] rfl rfl (take_ofW HT_.out HW_.out (by kernel_rfl)) (fun _ _ _ h => h) (Or.inl ⟨by rfl, ?_⟩) hHeld ?_ ?_
                  rotate_left
                  ·rintro w' ⟨s0, s1⟩
                   go_simp
                   with_reducible rfl
                  rotate_left
                  ·simp only [Act.put, List.setIfInBounds_toArray, List.set_cons_zero, List.set_cons_succ, i64_w, i32_w]
                   rfl
                  refine pure_ (i := 8) (N := some 143) (v := ?_) (a' := ?_) #[true, true, true, true, true, true, true, true, true] rfl rfl (any_of HT_.out (by kernel_rfl)) (fun _ _ _ h => h) (Or.inl ⟨by rfl, ?_⟩) ?_ ?_
                  rotate_left
                  ·intro w'
                   go_simp
                   with_reducible rfl
                  rotate_left
                  ·simp only [Act.put, List.setIfInBounds_toArray, List.set_cons_zero, List.set_cons_succ, i64_w, i32_w]
                   rfl
                  refine done_ (done_of HT_.out (by kernel_rfl)) ?_
                  try go_wp2
                  go_ret
                  exact ⟨by first | rfl | (simp [errW_none, errW_some] <;> rfl) | (simp [*, errW_none, errW_some] <;> rfl), by repeat (first | (with_reducible first | exact HB.out | apply below_alloc | apply pw_below_drewN | apply below_drew1 | refine below_set ?_ GE166.out | refine below_set ?_ GE190.out) | exact HB.out)⟩
                ·rw [if_neg c100] at H
                 exact absurd H (by simp)
               ·rw [if_neg c99] at H
                exact absurd H (by simp)
              ·rw [if_neg c98] at H
               exact absurd H (by simp)
             ·rw [if_neg c97] at H
              have c97b0 : decide (x132_4 < (t191.length : Int)) = false := decide_eq_false c97
              clear c97
              obtain rfl := Option.some.inj H
              go_wp2
              go_ret
              exact ⟨by first | rfl | (simp [errW_none, errW_some] <;> rfl) | (simp [*, errW_none, errW_some] <;> rfl), by repeat (first | (with_reducible first | exact HB.out | apply below_alloc | apply pw_below_drewN | apply below_drew1 | refine below_set ?_ GE166.out | refine below_set ?_ GE190.out) | exact HB.out)⟩
       ·rw [if_neg c77] at H
        have c77b0 : (t198 == 0) = false := beq_eq_false_iff_ne.mpr c77
        have c77b1 : (t198 != 0) = true := bne_iff_ne.mpr c77
        by_cases c106 : t194 = 0
        ·rw [if_pos c106] at H
         have c106b0 : (t194 == 0) = true := beq_iff_eq.mpr c106
         have c106b1 : (t194 != 0) = false := bne_eq_false_iff_eq.mpr c106
         clear c106
         replace H := Option.bind_eq_some_iff.mp H
         obtain ⟨t199, A1070, H⟩ := H
         replace H : (some (!t199)) = some r := H
         have A107 := Aside0.mk A1070
         clear A1070
         obtain rfl := Option.some.inj H
         have hcz108_0 : wr.cell? ⟨gb166, 0, none⟩ = some (.int .i64 a1_0) := (blk_cell BK166.out 0).trans rfl
         have hcz108_1 : wr.cell? ⟨gb166, 1, none⟩ = some (.int .i64 a1_1) := (blk_cell BK166.out 1).trans rfl
         have hcz108_2 : wr.cell? ⟨gb166, 2, none⟩ = some (.int .i64 a1_2) := (blk_cell BK166.out 2).trans rfl
         have hcz108_3 : wr.cell? ⟨gb166, 3, none⟩ = some (.int .i64 a1_3) := (blk_cell BK166.out 3).trans rfl
         have hcz108_4 : wr.cell? ⟨gb166, 4, none⟩ = some (.int .i64 a1_4) := (blk_cell BK166.out 4).trans rfl
         have hfz108_0 := blk_frozen BK166.out 0
         have hfz108_1 := blk_frozen BK166.out 1
         have hfz108_2 := blk_frozen BK166.out 2
         have hfz108_3 := blk_frozen BK166.out 3
         have hfz108_4 := blk_frozen BK166.out 4
         try go_wp2_with (first | ((with_reducible refine gate_dst (N := 12) rfl ?_); (try (refine gate_guard (by rfl) ?_; dsimp only)); refine box_event ?hg (N := 12) ?hd (cs := #[.int .i64 0, .int .i64 0, .int .i64 0, .int .i64 0, .int .i64 0]) (t := 44) ?hr ?_; (case hd => rfl); (case hg => rfl); (case hr => first | (go_simp; done) | (go_simp; rfl)); intro gb190 hg w109 hbox hb; have n0_ := Aside0.mk (Kd.R_below (by (with_reducible repeat (first | apply Kd.R_alloc | apply Kd.R_drewN | apply Kd.R_drew)); exact HO_9.out) hb); have n1_ := Aside0.mk (blk_below (g := gb166) (o := .cells #[.int .i64 a1_0, .int .i64 a1_1, .int .i64 a1_2, .int .i64 a1_3, .int .i64 a1_4] 44 (0, 0)) (by (with_reducible repeat (first | refine blk_drewN ?_ _ | refine blk_drew ?_ | refine blk_alloc ?_ _)); exact BK166.out) hb); have n2_ := Aside0.mk (below_step (by repeat (first | (with_reducible first | exact HB.out | apply below_alloc | apply pw_below_drewN | apply below_drew1 | refine below_set ?_ GE166.out) | exact HB.out)) hb); have n3_ := Aside0.mk (hbox); have n4_ := Aside0.mk ((by rw [hg]; exact (below_size (by repeat (first | (with_reducible first | exact HB.out | apply below_alloc | apply pw_below_drewN | apply below_drew1 | refine below_set ?_ GE166.out) | exact HB.out))) : w.heap.size ≤ gb190)); have n5_ := Aside0.mk ((by rw [hg]; exact (below_size (by repeat (first | (with_reducible first | exact HB.out | apply below_alloc | apply pw_below_drewN | apply below_drew1 | refine below_set ?_ GE166.out) | exact HB.out))) : w.heap.size ≤ gb190)); have n6_ := Aside0.mk ((by rw [hg]; exact Nat.ne_of_lt (blk_lt (g := gb166) (o := .cells #[.int .i64 a1_0, .int .i64 a1_1, .int .i64 a1_2, .int .i64 a1_3, .int .i64 a1_4] 44 (0, 0)) (by (with_reducible repeat (first | refine blk_drewN ?_ _ | refine blk_drew ?_ | refine blk_alloc ?_ _)); exact BK166.out)) : gb166 ≠ gb190)); have n7_ := Aside0.mk ((by rw [hg]; exact Nat.ne_of_gt (blk_lt (g := gb166) (o := .cells #[.int .i64 a1_0, .int .i64 a1_1, .int .i64 a1_2, .int .i64 a1_3, .int .i64 a1_4] 44 (0, 0)) (by (with_reducible repeat (first | refine blk_drewN ?_ _ | refine blk_drew ?_ | refine blk_alloc ?_ _)); exact BK166.out)) : gb190 ≠ gb166)); clear HO_9; clear BK166; clear HB; have HO_9 := n0_; have BK166 := n1_; have HB := n2_; have BK190 := n3_; have GW190 := n4_; have GE190 := n5_; have NB166_190 := n6_; have NB190_166 := n7_; clear n0_ n1_ n2_ n3_ n4_ n5_ n6_ n7_; clear hb hbox hg; have hnb110 := NB190_166.out; have hnc110 := NB166_190.out; have hcz111_0 : w109.cell? ⟨gb190, 0, none⟩ = some (.int .i64 0) := (blk_cell BK190.out 0).trans rfl; have hcz111_1 : w109.cell? ⟨gb190, 1, none⟩ = some (.int .i64 0) := (blk_cell BK190.out 1).trans rfl; have hcz111_2 : w109.cell? ⟨gb190, 2, none⟩ = some (.int .i64 0) := (blk_cell BK190.out 2).trans rfl; have hcz111_3 : w109.cell? ⟨gb190, 3, none⟩ = some (.int .i64 0) := (blk_cell BK190.out 3).trans rfl; have hcz111_4 : w109.cell? ⟨gb190, 4, none⟩ = some (.int .i64 0) := (blk_cell BK190.out 4).trans rfl; have hfz111_0 := blk_frozen BK190.out 0; have hfz111_1 := blk_frozen BK190.out 1; have hfz111_2 := blk_frozen BK190.out 2; have hfz111_3 := blk_frozen BK190.out 3; have hfz111_4 := blk_frozen BK190.out 4))
         have n0_ : Aside0 (Kd.R k39 39 (((((w109.setCell ⟨gb190, 0, none⟩ (.int .i64 a1_0)).setCell ⟨gb190, 1, none⟩ (.int .i64 a1_1)).setCell ⟨gb190, 2, none⟩ (.int .i64 a1_2)).setCell ⟨gb190, 3, none⟩ (.int .i64 a1_3)).setCell ⟨gb190, 4, none⟩ (.int .i64 a1_4)) w.heap.size (fun _ => True) u9 x9_2) := ⟨by (with_reducible repeat (first | apply Kd.R_alloc | apply Kd.R_drewN | apply Kd.R_drew)); exact Kd.R_mono (Kd.R_far (p := ⟨gb190, 4, none⟩) (Kd.R_far (p := ⟨gb190, 3, none⟩) (Kd.R_far (p := ⟨gb190, 2, none⟩) (Kd.R_far (p := ⟨gb190, 1, none⟩) (Kd.R_far (p := ⟨gb190, 0, none⟩) (Kd.R_types HO_9.out BK190.out (by decide)) (fun _ hk => hk.2) (.int .i64 a1_0)) (fun _ hk => hk.2) (.int .i64 a1_1)) (fun _ hk => hk.2) (.int .i64 a1_2)) (fun _ hk => hk.2) (.int .i64 a1_3)) (fun _ hk => hk.2) (.int .i64 a1_4)) (fun _ hk => trivial)⟩
         have n1_ : Aside0 ((((((w109.setCell ⟨gb190, 0, none⟩ (.int .i64 a1_0)).setCell ⟨gb190, 1, none⟩ (.int .i64 a1_1)).setCell ⟨gb190, 2, none⟩ (.int .i64 a1_2)).setCell ⟨gb190, 3, none⟩ (.int .i64 a1_3)).setCell ⟨gb190, 4, none⟩ (.int .i64 a1_4)).heap[gb166]? = some (.cells #[.int .i64 a1_0, .int .i64 a1_1, .int .i64 a1_2, .int .i64 a1_3, .int .i64 a1_4] 44 (0, 0))) := ⟨by (with_reducible repeat (first | refine blk_drewN ?_ _ | refine blk_drew ?_ | refine blk_alloc ?_ _)); refine blk_far ?_ NB166_190.out _; (with_reducible repeat (first | refine blk_drewN ?_ _ | refine blk_drew ?_ | refine blk_alloc ?_ _)); refine blk_far ?_ NB166_190.out _; (with_reducible repeat (first | refine blk_drewN ?_ _ | refine blk_drew ?_ | refine blk_alloc ?_ _)); refine blk_far ?_ NB166_190.out _; (with_reducible repeat (first | refine blk_drewN ?_ _ | refine blk_drew ?_ | refine blk_alloc ?_ _)); refine blk_far ?_ NB166_190.out _; (with_reducible repeat (first | refine blk_drewN ?_ _ | refine blk_drew ?_ | refine blk_alloc ?_ _)); refine blk_far ?_ NB166_190.out _; (with_reducible repeat (first | refine blk_drewN ?_ _ | refine blk_drew ?_ | refine blk_alloc ?_ _)); exact BK166.out⟩
         have n2_ : Aside0 ((((((w109.setCell ⟨gb190, 0, none⟩ (.int .i64 a1_0)).setCell ⟨gb190, 1, none⟩ (.int .i64 a1_1)).setCell ⟨gb190, 2, none⟩ (.int .i64 a1_2)).setCell ⟨gb190, 3, none⟩ (.int .i64 a1_3)).setCell ⟨gb190, 4, none⟩ (.int .i64 a1_4)).heap[gb190]? = some (.cells #[.int .i64 a1_0, .int .i64 a1_1, .int .i64 a1_2, .int .i64 a1_3, .int .i64 a1_4] 44 (0, 0))) := ⟨by (with_reducible repeat (first | refine blk_drewN ?_ _ | refine blk_drew ?_ | refine blk_alloc ?_ _)); refine blk_put (cs := #[.int .i64 a1_0, .int .i64 a1_1, .int .i64 a1_2, .int .i64 a1_3, .int .i64 0]) ?_ 4 _ rfl; (with_reducible repeat (first | refine blk_drewN ?_ _ | refine blk_drew ?_ | refine blk_alloc ?_ _)); refine blk_put (cs := #[.int .i64 a1_0, .int .i64 a1_1, .int .i64 a1_2, .int .i64 0, .int .i64 0]) ?_ 3 _ rfl; (with_reducible repeat (first | refine blk_drewN ?_ _ | refine blk_drew ?_ | refine blk_alloc ?_ _)); refine blk_put (cs := #[.int .i64 a1_0, .int .i64 a1_1, .int .i64 0, .int .i64 0, .int .i64 0]) ?_ 2 _ rfl; (with_reducible repeat (first | refine blk_drewN ?_ _ | refine blk_drew ?_ | refine blk_alloc ?_ _)); refine blk_put (cs := #[.int .i64 a1_0, .int .i64 0, .int .i64 0, .int .i64 0, .int .i64 0]) ?_ 1 _ rfl; (with_reducible repeat (first | refine blk_drewN ?_ _ | refine blk_drew ?_ | refine blk_alloc ?_ _)); refine blk_put (cs := #[.int .i64 0, .int .i64 0, .int .i64 0, .int .i64 0, .int .i64 0]) ?_ 0 _ rfl; (with_reducible repeat (first | refine blk_drewN ?_ _ | refine blk_drew ?_ | refine blk_alloc ?_ _)); exact BK190.out⟩
         have n3_ : Aside0 (Below w.heap.size w (((((w109.setCell ⟨gb190, 0, none⟩ (.int .i64 a1_0)).setCell ⟨gb190, 1, none⟩ (.int .i64 a1_1)).setCell ⟨gb190, 2, none⟩ (.int .i64 a1_2)).setCell ⟨gb190, 3, none⟩ (.int .i64 a1_3)).setCell ⟨gb190, 4, none⟩ (.int .i64 a1_4))) := ⟨by repeat (first | (with_reducible first | exact HB.out | apply below_alloc | apply pw_below_drewN | apply below_drew1 | refine below_set ?_ GE166.out | refine below_set ?_ GE190.out) | exact HB.out)⟩
         (try clear HO_9)
         (try clear BK166)
         (try clear BK190)
         (try clear HB)
         generalize (((((w109.setCell ⟨gb190, 0, none⟩ (.int .i64 a1_0)).setCell ⟨gb190, 1, none⟩ (.int .i64 a1_1)).setCell ⟨gb190, 2, none⟩ (.int .i64 a1_2)).setCell ⟨gb190, 3, none⟩ (.int .i64 a1_3)).setCell ⟨gb190, 4, none⟩ (.int .i64 a1_4)) = w112 at n0_ n1_ n2_ n3_ ⊢
         have HO_9 := n0_
         have BK166 := n1_
         have BK190 := n2_
         have HB := n3_
         clear n0_ n1_ n2_ n3_
         have n0_ := Aside0.mk (Kd.R_drew HO_9.out)
         have n1_ := Aside0.mk (blk_drew BK166.out)
         have n2_ := Aside0.mk (blk_drew BK190.out)
         have n3_ := Aside0.mk (below_drew1 HB.out)
         clear HO_9
         clear BK166
         clear BK190
         clear HB
         have HO_9 := n0_
         have BK166 := n1_
         have BK190 := n2_
         have HB := n3_
         clear n0_ n1_ n2_ n3_
         refine start_ (n := 14) (S := fun w' => w'.cell? ⟨gb166, 0, none⟩ = some (.int .i64 a1_0) ∧ w'.cell? ⟨gb166, 1, none⟩ = some (.int .i64 a1_1) ∧ w'.cell? ⟨gb166, 2, none⟩ = some (.int .i64 a1_2) ∧ w'.cell? ⟨gb166, 3, none⟩ = some (.int .i64 a1_3) ∧ w'.cell? ⟨gb166, 4, none⟩ = some (.int .i64 a1_4)) (ds := []) #[false, false, false, false, false, false, false, false, false, false, false, false, false, false] (by kernel_rfl) rfl rfl ⟨(blk_cell BK166.out 0).trans rfl, (blk_cell BK166.out 1).trans rfl, (blk_cell BK166.out 2).trans rfl, (blk_cell BK166.out 3).trans rfl, (blk_cell BK166.out 4).trans rfl⟩ (fun hHeld => ?_); refine with_tabW decoupagelaw28_RasterShifts.tab14 decoupagelaw28_RasterShifts.bits14 (fun HT_ HW_ => ?_)
         generalize w112.drew = w113 at HO_9 BK166 BK190 HB hHeld ⊢
         refine pure_ (i := 0) (N := some 88) (v := ?_) (a' := ?_) #[true, false, false, false, false, false, false, false, false, false, false, false, false, false] rfl rfl (any_of HT_.out (by kernel_rfl)) (fun _ _ _ h => h) (Or.inl ⟨by rfl, ?_⟩) ?_ ?_
         rotate_left
         ·intro w'
          go_simp
          with_reducible rfl
         rotate_left
         ·simp only [Act.put, List.setIfInBounds_toArray, List.set_cons_zero, List.set_cons_succ, i64_w, i32_w]
          rfl
         refine pure_ (i := 2) (N := some 90) (v := ?_) (a' := ?_) #[true, false, true, false, false, false, false, false, false, false, false, false, false, false] rfl rfl (any_of HT_.out (by kernel_rfl)) (fun _ _ _ h => h) (Or.inl ⟨by rfl, ?_⟩) ?_ ?_
         rotate_left
         ·intro w'
          go_simp
          with_reducible rfl
         rotate_left
         ·simp only [Act.put, List.setIfInBounds_toArray, List.set_cons_zero, List.set_cons_succ, i64_w, i32_w]
          rfl
         refine pure_ (i := 3) (N := some 91) (v := ?_) (a' := ?_) #[true, false, true, true, false, false, false, false, false, false, false, false, false, false] rfl rfl (any_of HT_.out (by kernel_rfl)) (fun _ _ _ h => h) (Or.inl ⟨by rfl, ?_⟩) ?_ ?_
         rotate_left
         ·intro w'
          go_simp
          with_reducible rfl
         rotate_left
         ·simp only [Act.put, List.setIfInBounds_toArray, List.set_cons_zero, List.set_cons_succ, i64_w, i32_w]
          rfl
         refine pure_ (i := 5) (N := some 93) (v := ?_) (a' := ?_) #[true, false, true, true, false, true, false, false, false, false, false, false, false, false] rfl rfl (any_of HT_.out (by kernel_rfl)) (fun _ _ _ h => h) (Or.inl ⟨by rfl, ?_⟩) ?_ ?_
         rotate_left
         ·intro w'
          go_simp
          with_reducible rfl
         rotate_left
         ·simp only [Act.put, List.setIfInBounds_toArray, List.set_cons_zero, List.set_cons_succ, i64_w, i32_w]
          rfl
         refine pure_ (i := 7) (N := some 95) (v := ?_) (a' := ?_) #[true, false, true, true, false, true, false, true, false, false, false, false, false, false] rfl rfl (any_of HT_.out (by kernel_rfl)) (fun _ _ _ h => h) (Or.inl ⟨by rfl, ?_⟩) ?_ ?_
         rotate_left
         ·intro w'
          go_simp
          with_reducible rfl
         rotate_left
         ·simp only [Act.put, List.setIfInBounds_toArray, List.set_cons_zero, List.set_cons_succ, i64_w, i32_w]
          rfl
         refine pure_ (i := 8) (N := some 96) (v := ?_) (a' := ?_) #[true, false, true, true, false, true, false, true, true, false, false, false, false, false] rfl rfl (any_of HT_.out (by kernel_rfl)) (fun _ _ _ h => h) (Or.inl ⟨by rfl, ?_⟩) ?_ ?_
         rotate_left
         ·intro w'
          go_simp
          with_reducible rfl
         rotate_left
         ·simp only [Act.put, List.setIfInBounds_toArray, List.set_cons_zero, List.set_cons_succ, i64_w, i32_w]
          rfl
         refine take_ (i := 1) (N := some 89) (v := ?_) (a' := ?_) #[true, true, true, true, false, true, false, true, true, false, false, false, false, false] rfl rfl (take_ofW HT_.out HW_.out (by kernel_rfl)) (fun _ _ _ h => h) (Or.inl ⟨by rfl, ?_⟩) hHeld ?_ ?_
         rotate_left
         ·rintro w' ⟨s0, s1, s2, s3, s4⟩
          go_simp
          with_reducible rfl
         rotate_left
         ·simp only [Act.put, List.setIfInBounds_toArray, List.set_cons_zero, List.set_cons_succ, i64_w, i32_w]
          rfl
         refine pure_ (i := 4) (N := some 92) (v := ?_) (a' := ?_) #[true, true, true, true, true, true, false, true, true, false, false, false, false, false] rfl rfl (any_of HT_.out (by kernel_rfl)) (fun _ _ _ h => h) (Or.inl ⟨by rfl, ?_⟩) ?_ ?_
         rotate_left
         ·intro w'
          go_simp
          with_reducible rfl
         rotate_left
         ·simp only [Act.put, List.setIfInBounds_toArray, List.set_cons_zero, List.set_cons_succ, i64_w, i32_w]
          rfl
         refine pure_ (i := 10) (N := some 98) (v := ?_) (a' := ?_) #[true, true, true, true, true, true, false, true, true, false, true, false, false, false] rfl rfl (any_of HT_.out (by kernel_rfl)) (fun _ _ _ h => h) (Or.inl ⟨by rfl, ?_⟩) ?_ ?_
         rotate_left
         ·intro w'
          go_simp
          with_reducible rfl
         rotate_left
         ·simp only [Act.put, List.setIfInBounds_toArray, List.set_cons_zero, List.set_cons_succ, i64_w, i32_w]
          rfl
         refine take_ (i := 6) (N := some 94) (v := ?_) (a' := ?_) #[true, true, true, true, true, true, true, true, true, false, true, false, false, false] rfl rfl (take_ofW HT_.out HW_.out (by kernel_rfl)) (fun _ _ _ h => h) (Or.inl ⟨by rfl, ?_⟩) hHeld ?_ ?_
         rotate_left
         ·rintro w' ⟨s0, s1, s2, s3, s4⟩
          go_simp
          with_reducible rfl
         rotate_left
         ·simp only [Act.put, List.setIfInBounds_toArray, List.set_cons_zero, List.set_cons_succ, i64_w, i32_w]
          rfl
         refine pure_ (i := 9) (N := some 97) (v := ?_) (a' := ?_) #[true, true, true, true, true, true, true, true, true, true, true, false, false, false] rfl rfl (any_of HT_.out (by kernel_rfl)) (fun _ _ _ h => h) (Or.inl ⟨by rfl, ?_⟩) ?_ ?_
         rotate_left
         ·intro w'
          go_simp
          with_reducible rfl
         rotate_left
         ·simp only [Act.put, List.setIfInBounds_toArray, List.set_cons_zero, List.set_cons_succ, i64_w, i32_w]
          rfl
         refine one_ (i := 11) (N := none) #[true, true, true, true, true, true, true, true, true, true, true, true, false, false] rfl rfl (one_of HT_.out (by kernel_rfl)) (by decide) (fun K hK => ?_)
         have hs114 : w113.cell? ⟨gb190, 0, none⟩ = some (.int .i64 a1_0) := (blk_cell BK190.out 0).trans rfl
         have hfs114 := blk_frozen BK190.out 0
         have hns114_0 := NB166_190.out
         have hms114_0 := NB190_166.out
         refine skip_ (w1 := ?_) (by rfl) rfl ?_ ?_
         rotate_left
         ·go_simp
          rfl
         refine hK.out _ _ ⟨((cell_far (p := ⟨gb190, _, none⟩) NB166_190.out _).trans (hHeld.1)), ((cell_far (p := ⟨gb190, _, none⟩) NB166_190.out _).trans (hHeld.2.1)), ((cell_far (p := ⟨gb190, _, none⟩) NB166_190.out _).trans (hHeld.2.2.1)), ((cell_far (p := ⟨gb190, _, none⟩) NB166_190.out _).trans (hHeld.2.2.2.1)), ((cell_far (p := ⟨gb190, _, none⟩) NB166_190.out _).trans (hHeld.2.2.2.2))⟩ (fun hHeld => ?_)
         clear hK K
         refine pure_ (i := 12) (N := some 99) (v := ?_) (a' := ?_) #[true, true, true, true, true, true, true, true, true, true, true, true, true, false] rfl rfl (any_of HT_.out (by kernel_rfl)) (fun _ _ _ h => h) (Or.inl ⟨by rfl, ?_⟩) ?_ ?_
         rotate_left
         ·intro w'
          go_simp
          with_reducible rfl
         rotate_left
         ·simp only [Act.put, List.setIfInBounds_toArray, List.set_cons_zero, List.set_cons_succ, i64_w, i32_w]
          rfl
         refine one_ (i := 13) (N := none) #[true, true, true, true, true, true, true, true, true, true, true, true, true, true] rfl rfl (one_of HT_.out (by kernel_rfl)) (by decide) (fun K hK => ?_)
         have hs115 : w113.cell? ⟨gb190, 1, none⟩ = some (.int .i64 a1_1) := (blk_cell BK190.out 1).trans rfl
         have hfs115 := blk_frozen BK190.out 1
         have hns115_0 := NB166_190.out
         have hms115_0 := NB190_166.out
         refine skip_ (w1 := ?_) (by rfl) rfl ?_ ?_
         rotate_left
         ·go_simp
          rfl
         refine hK.out _ _ ⟨((cell_far (p := ⟨gb190, _, none⟩) NB166_190.out _).trans (hHeld.1)), ((cell_far (p := ⟨gb190, _, none⟩) NB166_190.out _).trans (hHeld.2.1)), ((cell_far (p := ⟨gb190, _, none⟩) NB166_190.out _).trans (hHeld.2.2.1)), ((cell_far (p := ⟨gb190, _, none⟩) NB166_190.out _).trans (hHeld.2.2.2.1)), ((cell_far (p := ⟨gb190, _, none⟩) NB166_190.out _).trans (hHeld.2.2.2.2))⟩ (fun hHeld => ?_)
         clear hK K
         refine done_ (done_of HT_.out (by kernel_rfl)) ?_
         have hcz116_0 : w113.cell? ⟨gb166, 0, none⟩ = some (.int .i64 a1_0) := (blk_cell BK166.out 0).trans rfl
         have hcz116_1 : w113.cell? ⟨gb166, 1, none⟩ = some (.int .i64 a1_1) := (blk_cell BK166.out 1).trans rfl
         have hcz116_2 : w113.cell? ⟨gb166, 2, none⟩ = some (.int .i64 a1_2) := (blk_cell BK166.out 2).trans rfl
         have hcz116_3 : w113.cell? ⟨gb166, 3, none⟩ = some (.int .i64 a1_3) := (blk_cell BK166.out 3).trans rfl
         have hcz116_4 : w113.cell? ⟨gb166, 4, none⟩ = some (.int .i64 a1_4) := (blk_cell BK166.out 4).trans rfl
         have hfz116_0 := blk_frozen BK166.out 0
         have hfz116_1 := blk_frozen BK166.out 1
         have hfz116_2 := blk_frozen BK166.out 2
         have hfz116_3 := blk_frozen BK166.out 3
         have hfz116_4 := blk_frozen BK166.out 4
         try go_wp2_with (first | ((with_reducible refine gate_callee (f := 28) rfl ?_); refine goesL_ (some 103) rfl rfl Try.func28 (by kernel_rfl) rfl #[.slice A0 l0.length c0, .agg #[.int .i64 a1_0, .int .i64 a1_1, .int .i64 a1_2, .int .i64 a1_3, .int .i64 a1_4]] rfl (by (try simp only [List.map_toArray, List.map_cons, List.map_nil]); first | done | rfl | (simp only [List.length_drop, List.length_take]; rfl)) ?_; (with_reducible refine (raster_Draw.calls k2 _ _ l0 a1_0 a1_1 a1_2 a1_3 a1_4 t191 t194 _ ?side1 ?side2 A75.out).mono ?_); (case side1 => exact Kd.C_below HR0.out (by repeat (first | (with_reducible first | exact HB.out | apply below_alloc | apply pw_below_drewN | apply below_drew1 | refine below_set ?_ GE166.out | refine below_set ?_ GE190.out) | exact HB.out))); (case side2 => exact HC0.out); rintro e w117 ⟨v192, rfl, ho0, hb⟩; refine ⟨_, rfl, ?_⟩; have n0_ := Aside0.mk (Kd.R_below (by (with_reducible repeat (first | apply Kd.R_alloc | apply Kd.R_drewN | apply Kd.R_drew)); exact (Kd.R_mono (Kd.R_far (p := ⟨gb190, 1, none⟩) (Kd.R_far (p := ⟨gb190, 0, none⟩) (Kd.R_types HO_9.out BK190.out (by decide)) (fun _ hk => hk.2) (.int .i64 (wrap64 (a1_0 + (wrap64 (a2)))))) (fun _ hk => hk.2) (.int .i64 (wrap64 (a1_1 + (wrap64 (a3)))))) (fun _ h_ => h_.1))) hb); have n1_ := Aside0.mk (Kd.R_lower ho0 (below_size (by repeat (first | (with_reducible first | exact HB.out | apply below_alloc | apply pw_below_drewN | apply below_drew1 | refine below_set ?_ GE166.out | refine below_set ?_ GE190.out) | exact HB.out)))); have n2_ := Aside0.mk (blk_below (g := gb166) (o := .cells #[.int .i64 a1_0, .int .i64 a1_1, .int .i64 a1_2, .int .i64 a1_3, .int .i64 a1_4] 44 (0, 0)) (by (with_reducible repeat (first | refine blk_drewN ?_ _ | refine blk_drew ?_ | refine blk_alloc ?_ _)); refine blk_far ?_ NB166_190.out _; (with_reducible repeat (first | refine blk_drewN ?_ _ | refine blk_drew ?_ | refine blk_alloc ?_ _)); refine blk_far ?_ NB166_190.out _; (with_reducible repeat (first | refine blk_drewN ?_ _ | refine blk_drew ?_ | refine blk_alloc ?_ _)); exact BK166.out) hb); have n3_ := Aside0.mk (blk_below (g := gb190) (o := .cells #[.int .i64 (wrap64 (a1_0 + (wrap64 (a2)))), .int .i64 (wrap64 (a1_1 + (wrap64 (a3)))), .int .i64 a1_2, .int .i64 a1_3, .int .i64 a1_4] 44 (0, 0)) (by (with_reducible repeat (first | refine blk_drewN ?_ _ | refine blk_drew ?_ | refine blk_alloc ?_ _)); refine blk_put (cs := #[.int .i64 (wrap64 (a1_0 + (wrap64 (a2)))), .int .i64 a1_1, .int .i64 a1_2, .int .i64 a1_3, .int .i64 a1_4]) ?_ 1 _ rfl; (with_reducible repeat (first | refine blk_drewN ?_ _ | refine blk_drew ?_ | refine blk_alloc ?_ _)); refine blk_put (cs := #[.int .i64 a1_0, .int .i64 a1_1, .int .i64 a1_2, .int .i64 a1_3, .int .i64 a1_4]) ?_ 0 _ rfl; (with_reducible repeat (first | refine blk_drewN ?_ _ | refine blk_drew ?_ | refine blk_alloc ?_ _)); exact BK190.out) hb); have n4_ := Aside0.mk (below_step (by repeat (first | (with_reducible first | exact HB.out | apply below_alloc | apply pw_below_drewN | apply below_drew1 | refine below_set ?_ GE166.out | refine below_set ?_ GE190.out) | exact HB.out)) hb); clear HO_9; clear BK166; clear BK190; clear HB; have HO_9 := n0_; have HO193 := n1_; have BK166 := n2_; have BK190 := n3_; have HB := n4_; clear n0_ n1_ n2_ n3_ n4_; (try clear hb); (try clear hb2); (try clear hk); (try clear hi); (try clear ho0); have hcz118_0 : w117.cell? ⟨gb190, 0, none⟩ = some (.int .i64 (wrap64 (a1_0 + (wrap64 (a2))))) := (blk_cell BK190.out 0).trans rfl; have hcz118_1 : w117.cell? ⟨gb190, 1, none⟩ = some (.int .i64 (wrap64 (a1_1 + (wrap64 (a3))))) := (blk_cell BK190.out 1).trans rfl; have hcz118_2 : w117.cell? ⟨gb190, 2, none⟩ = some (.int .i64 a1_2) := (blk_cell BK190.out 2).trans rfl; have hcz118_3 : w117.cell? ⟨gb190, 3, none⟩ = some (.int .i64 a1_3) := (blk_cell BK190.out 3).trans rfl; have hcz118_4 : w117.cell? ⟨gb190, 4, none⟩ = some (.int .i64 a1_4) := (blk_cell BK190.out 4).trans rfl; have hfz118_0 := blk_frozen BK190.out 0; have hfz118_1 := blk_frozen BK190.out 1; have hfz118_2 := blk_frozen BK190.out 2; have hfz118_3 := blk_frozen BK190.out 3; have hfz118_4 := blk_frozen BK190.out 4; obtain ⟨Ao119, co119, eo119⟩ := Kd.R_slice HO_9.out; subst eo119) | ((with_reducible refine gate_callee (f := 28) rfl ?_); refine goesL_ (some 109) rfl rfl Try.func28 (by kernel_rfl) rfl #[.slice Ao119 x9_2.length co119, .agg #[.int .i64 (wrap64 (a1_0 + (wrap64 (a2)))), .int .i64 (wrap64 (a1_1 + (wrap64 (a3)))), .int .i64 a1_2, .int .i64 a1_3, .int .i64 a1_4]] rfl (by (try simp only [List.map_toArray, List.map_cons, List.map_nil]); first | done | rfl | (simp only [List.length_drop, List.length_take]; rfl)) ?_; (with_reducible refine (raster_Draw.calls k2 _ _ x9_2 (wrap64 (a1_0 + (wrap64 (a2)))) (wrap64 (a1_1 + (wrap64 (a3)))) a1_2 a1_3 a1_4 t195 t198 _ ?side1 ?side2 A76.out).mono ?_); (case side1 => repeat (first | exact (Kd.R_reads' HO_9.out).2.2 | (with_reducible refine Kd.C_alloc ?_ _) | (with_reducible refine Kd.C_drewN ?_ _) | (with_reducible refine Kd.C_drew ?_))); (case side2 => exact (Kd.R_reads' HO_9.out).2.1); rintro e w120 ⟨v196, rfl, ho0, hb⟩; refine ⟨_, rfl, ?_⟩; have n0_ := Aside0.mk (Kd.R_below (by (with_reducible repeat (first | apply Kd.R_alloc | apply Kd.R_drewN | apply Kd.R_drew)); exact HO_9.out) hb); have n1_ := Aside0.mk (Kd.R_elder' (by (with_reducible repeat (first | apply Kd.R_alloc | apply Kd.R_drewN | apply Kd.R_drew)); exact HO193.out) (Kd.R_base ho0) hb); have n2_ := Aside0.mk (Kd.R_lower (Kd.R_new' ho0 (Kd.R_lt (by (with_reducible repeat (first | apply Kd.R_alloc | apply Kd.R_drewN | apply Kd.R_drew)); exact HO193.out))) (below_size (by repeat (first | (with_reducible first | exact HB.out | apply below_alloc | apply pw_below_drewN | apply below_drew1 | refine below_set ?_ GE166.out | refine below_set ?_ GE190.out) | exact HB.out)))); have n3_ := Aside0.mk (blk_below (g := gb166) (o := .cells #[.int .i64 a1_0, .int .i64 a1_1, .int .i64 a1_2, .int .i64 a1_3, .int .i64 a1_4] 44 (0, 0)) (by (with_reducible repeat (first | refine blk_drewN ?_ _ | refine blk_drew ?_ | refine blk_alloc ?_ _)); exact BK166.out) hb); have n4_ := Aside0.mk (blk_below (g := gb190) (o := .cells #[.int .i64 (wrap64 (a1_0 + (wrap64 (a2)))), .int .i64 (wrap64 (a1_1 + (wrap64 (a3)))), .int .i64 a1_2, .int .i64 a1_3, .int .i64 a1_4] 44 (0, 0)) (by (with_reducible repeat (first | refine blk_drewN ?_ _ | refine blk_drew ?_ | refine blk_alloc ?_ _)); exact BK190.out) hb); have n5_ := Aside0.mk (below_step (by repeat (first | (with_reducible first | exact HB.out | apply below_alloc | apply pw_below_drewN | apply below_drew1 | refine below_set ?_ GE166.out | refine below_set ?_ GE190.out) | exact HB.out)) hb); clear HO_9; clear HO193; clear BK166; clear BK190; clear HB; have HO_9 := n0_; have HO193 := n1_; have HO197 := n2_; have BK166 := n3_; have BK190 := n4_; have HB := n5_; clear n0_ n1_ n2_ n3_ n4_ n5_; (try clear hb); (try clear hb2); (try clear hk); (try clear hi); (try clear ho0); have hcz121_0 : w120.cell? ⟨gb190, 0, none⟩ = some (.int .i64 (wrap64 (a1_0 + (wrap64 (a2))))) := (blk_cell BK190.out 0).trans rfl; have hcz121_1 : w120.cell? ⟨gb190, 1, none⟩ = some (.int .i64 (wrap64 (a1_1 + (wrap64 (a3))))) := (blk_cell BK190.out 1).trans rfl; have hcz121_2 : w120.cell? ⟨gb190, 2, none⟩ = some (.int .i64 a1_2) := (blk_cell BK190.out 2).trans rfl; have hcz121_3 : w120.cell? ⟨gb190, 3, none⟩ = some (.int .i64 a1_3) := (blk_cell BK190.out 3).trans rfl; have hcz121_4 : w120.cell? ⟨gb190, 4, none⟩ = some (.int .i64 a1_4) := (blk_cell BK190.out 4).trans rfl; have hfz121_0 := blk_frozen BK190.out 0; have hfz121_1 := blk_frozen BK190.out 1; have hfz121_2 := blk_frozen BK190.out 2; have hfz121_3 := blk_frozen BK190.out 3; have hfz121_4 := blk_frozen BK190.out 4) | (go_at_call 27; (with_reducible refine (decoupageref28_Right.calls (wrap64 (a1_0 + (wrap64 (a2)))) (wrap64 (a1_1 + (wrap64 (a3)))) a1_2 a1_3 a1_4 t199 _ A107.out).mono ?_); rintro e w122 ⟨rfl, hb⟩; have n0_ := Aside0.mk (Kd.R_below (by (with_reducible repeat (first | apply Kd.R_alloc | apply Kd.R_drewN | apply Kd.R_drew)); exact HO_9.out) hb); have n1_ := Aside0.mk (Kd.R_below (by (with_reducible repeat (first | apply Kd.R_alloc | apply Kd.R_drewN | apply Kd.R_drew)); exact HO193.out) hb); have n2_ := Aside0.mk (Kd.R_below (by (with_reducible repeat (first | apply Kd.R_alloc | apply Kd.R_drewN | apply Kd.R_drew)); exact HO197.out) hb); have n3_ := Aside0.mk (blk_below (g := gb166) (o := .cells #[.int .i64 a1_0, .int .i64 a1_1, .int .i64 a1_2, .int .i64 a1_3, .int .i64 a1_4] 44 (0, 0)) (by (with_reducible repeat (first | refine blk_drewN ?_ _ | refine blk_drew ?_ | refine blk_alloc ?_ _)); exact BK166.out) hb); have n4_ := Aside0.mk (blk_below (g := gb190) (o := .cells #[.int .i64 (wrap64 (a1_0 + (wrap64 (a2)))), .int .i64 (wrap64 (a1_1 + (wrap64 (a3)))), .int .i64 a1_2, .int .i64 a1_3, .int .i64 a1_4] 44 (0, 0)) (by (with_reducible repeat (first | refine blk_drewN ?_ _ | refine blk_drew ?_ | refine blk_alloc ?_ _)); exact BK190.out) hb); have n5_ := Aside0.mk (below_step (by repeat (first | (with_reducible first | exact HB.out | apply below_alloc | apply pw_below_drewN | apply below_drew1 | refine below_set ?_ GE166.out | refine below_set ?_ GE190.out) | exact HB.out)) hb); clear HO_9; clear HO193; clear HO197; clear BK166; clear BK190; clear HB; have HO_9 := n0_; have HO193 := n1_; have HO197 := n2_; have BK166 := n3_; have BK190 := n4_; have HB := n5_; clear n0_ n1_ n2_ n3_ n4_ n5_; (try clear hb); (try clear hb2); (try clear hk); (try clear hi)))
         go_ret
         exact ⟨by first | rfl | (simp [errW_none, errW_some] <;> rfl) | (simp [*, errW_none, errW_some] <;> rfl), by repeat (first | (with_reducible first | exact HB.out | apply below_alloc | apply pw_below_drewN | apply below_drew1 | refine below_set ?_ GE166.out | refine below_set ?_ GE190.out) | exact HB.out)⟩
        ·rw [if_neg c106] at H
         have c106b0 : (t194 == 0) = false := beq_eq_false_iff_ne.mpr c106
         have c106b1 : (t194 != 0) = true := bne_iff_ne.mpr c106
         obtain rfl := Option.some.inj H
         have hcz123_0 : wr.cell? ⟨gb166, 0, none⟩ = some (.int .i64 a1_0) := (blk_cell BK166.out 0).trans rfl
         have hcz123_1 : wr.cell? ⟨gb166, 1, none⟩ = some (.int .i64 a1_1) := (blk_cell BK166.out 1).trans rfl
         have hcz123_2 : wr.cell? ⟨gb166, 2, none⟩ = some (.int .i64 a1_2) := (blk_cell BK166.out 2).trans rfl
         have hcz123_3 : wr.cell? ⟨gb166, 3, none⟩ = some (.int .i64 a1_3) := (blk_cell BK166.out 3).trans rfl
         have hcz123_4 : wr.cell? ⟨gb166, 4, none⟩ = some (.int .i64 a1_4) := (blk_cell BK166.out 4).trans rfl
         have hfz123_0 := blk_frozen BK166.out 0
         have hfz123_1 := blk_frozen BK166.out 1
         have hfz123_2 := blk_frozen BK166.out 2
         have hfz123_3 := blk_frozen BK166.out 3
         have hfz123_4 := blk_frozen BK166.out 4
         try go_wp2_with (first | ((with_reducible refine gate_dst (N := 12) rfl ?_); (try (refine gate_guard (by rfl) ?_; dsimp only)); refine box_event ?hg (N := 12) ?hd (cs := #[.int .i64 0, .int .i64 0, .int .i64 0, .int .i64 0, .int .i64 0]) (t := 44) ?hr ?_; (case hd => rfl); (case hg => rfl); (case hr => first | (go_simp; done) | (go_simp; rfl)); intro gb190 hg w124 hbox hb; have n0_ := Aside0.mk (Kd.R_below (by (with_reducible repeat (first | apply Kd.R_alloc | apply Kd.R_drewN | apply Kd.R_drew)); exact HO_9.out) hb); have n1_ := Aside0.mk (blk_below (g := gb166) (o := .cells #[.int .i64 a1_0, .int .i64 a1_1, .int .i64 a1_2, .int .i64 a1_3, .int .i64 a1_4] 44 (0, 0)) (by (with_reducible repeat (first | refine blk_drewN ?_ _ | refine blk_drew ?_ | refine blk_alloc ?_ _)); exact BK166.out) hb); have n2_ := Aside0.mk (below_step (by repeat (first | (with_reducible first | exact HB.out | apply below_alloc | apply pw_below_drewN | apply below_drew1 | refine below_set ?_ GE166.out) | exact HB.out)) hb); have n3_ := Aside0.mk (hbox); have n4_ := Aside0.mk ((by rw [hg]; exact (below_size (by repeat (first | (with_reducible first | exact HB.out | apply below_alloc | apply pw_below_drewN | apply below_drew1 | refine below_set ?_ GE166.out) | exact HB.out))) : w.heap.size ≤ gb190)); have n5_ := Aside0.mk ((by rw [hg]; exact (below_size (by repeat (first | (with_reducible first | exact HB.out | apply below_alloc | apply pw_below_drewN | apply below_drew1 | refine below_set ?_ GE166.out) | exact HB.out))) : w.heap.size ≤ gb190)); have n6_ := Aside0.mk ((by rw [hg]; exact Nat.ne_of_lt (blk_lt (g := gb166) (o := .cells #[.int .i64 a1_0, .int .i64 a1_1, .int .i64 a1_2, .int .i64 a1_3, .int .i64 a1_4] 44 (0, 0)) (by (with_reducible repeat (first | refine blk_drewN ?_ _ | refine blk_drew ?_ | refine blk_alloc ?_ _)); exact BK166.out)) : gb166 ≠ gb190)); have n7_ := Aside0.mk ((by rw [hg]; exact Nat.ne_of_gt (blk_lt (g := gb166) (o := .cells #[.int .i64 a1_0, .int .i64 a1_1, .int .i64 a1_2, .int .i64 a1_3, .int .i64 a1_4] 44 (0, 0)) (by (with_reducible repeat (first | refine blk_drewN ?_ _ | refine blk_drew ?_ | refine blk_alloc ?_ _)); exact BK166.out)) : gb190 ≠ gb166)); clear HO_9; clear BK166; clear HB; have HO_9 := n0_; have BK166 := n1_; have HB := n2_; have BK190 := n3_; have GW190 := n4_; have GE190 := n5_; have NB166_190 := n6_; have NB190_166 := n7_; clear n0_ n1_ n2_ n3_ n4_ n5_ n6_ n7_; clear hb hbox hg; have hnb125 := NB190_166.out; have hnc125 := NB166_190.out; have hcz126_0 : w124.cell? ⟨gb190, 0, none⟩ = some (.int .i64 0) := (blk_cell BK190.out 0).trans rfl; have hcz126_1 : w124.cell? ⟨gb190, 1, none⟩ = some (.int .i64 0) := (blk_cell BK190.out 1).trans rfl; have hcz126_2 : w124.cell? ⟨gb190, 2, none⟩ = some (.int .i64 0) := (blk_cell BK190.out 2).trans rfl; have hcz126_3 : w124.cell? ⟨gb190, 3, none⟩ = some (.int .i64 0) := (blk_cell BK190.out 3).trans rfl; have hcz126_4 : w124.cell? ⟨gb190, 4, none⟩ = some (.int .i64 0) := (blk_cell BK190.out 4).trans rfl; have hfz126_0 := blk_frozen BK190.out 0; have hfz126_1 := blk_frozen BK190.out 1; have hfz126_2 := blk_frozen BK190.out 2; have hfz126_3 := blk_frozen BK190.out 3; have hfz126_4 := blk_frozen BK190.out 4))
         have n0_ : Aside0 (Kd.R k39 39 (((((w124.setCell ⟨gb190, 0, none⟩ (.int .i64 a1_0)).setCell ⟨gb190, 1, none⟩ (.int .i64 a1_1)).setCell ⟨gb190, 2, none⟩ (.int .i64 a1_2)).setCell ⟨gb190, 3, none⟩ (.int .i64 a1_3)).setCell ⟨gb190, 4, none⟩ (.int .i64 a1_4)) w.heap.size (fun _ => True) u9 x9_2) := ⟨by (with_reducible repeat (first | apply Kd.R_alloc | apply Kd.R_drewN | apply Kd.R_drew)); exact Kd.R_mono (Kd.R_far (p := ⟨gb190, 4, none⟩) (Kd.R_far (p := ⟨gb190, 3, none⟩) (Kd.R_far (p := ⟨gb190, 2, none⟩) (Kd.R_far (p := ⟨gb190, 1, none⟩) (Kd.R_far (p := ⟨gb190, 0, none⟩) (Kd.R_types HO_9.out BK190.out (by decide)) (fun _ hk => hk.2) (.int .i64 a1_0)) (fun _ hk => hk.2) (.int .i64 a1_1)) (fun _ hk => hk.2) (.int .i64 a1_2)) (fun _ hk => hk.2) (.int .i64 a1_3)) (fun _ hk => hk.2) (.int .i64 a1_4)) (fun _ hk => trivial)⟩
         have n1_ : Aside0 ((((((w124.setCell ⟨gb190, 0, none⟩ (.int .i64 a1_0)).setCell ⟨gb190, 1, none⟩ (.int .i64 a1_1)).setCell ⟨gb190, 2, none⟩ (.int .i64 a1_2)).setCell ⟨gb190, 3, none⟩ (.int .i64 a1_3)).setCell ⟨gb190, 4, none⟩ (.int .i64 a1_4)).heap[gb166]? = some (.cells #[.int .i64 a1_0, .int .i64 a1_1, .int .i64 a1_2, .int .i64 a1_3, .int .i64 a1_4] 44 (0, 0))) := ⟨by (with_reducible repeat (first | refine blk_drewN ?_ _ | refine blk_drew ?_ | refine blk_alloc ?_ _)); refine blk_far ?_ NB166_190.out _; (with_reducible repeat (first | refine blk_drewN ?_ _ | refine blk_drew ?_ | refine blk_alloc ?_ _)); refine blk_far ?_ NB166_190.out _; (with_reducible repeat (first | refine blk_drewN ?_ _ | refine blk_drew ?_ | refine blk_alloc ?_ _)); refine blk_far ?_ NB166_190.out _; (with_reducible repeat (first | refine blk_drewN ?_ _ | refine blk_drew ?_ | refine blk_alloc ?_ _)); refine blk_far ?_ NB166_190.out _; (with_reducible repeat (first | refine blk_drewN ?_ _ | refine blk_drew ?_ | refine blk_alloc ?_ _)); refine blk_far ?_ NB166_190.out _; (with_reducible repeat (first | refine blk_drewN ?_ _ | refine blk_drew ?_ | refine blk_alloc ?_ _)); exact BK166.out⟩
         have n2_ : Aside0 ((((((w124.setCell ⟨gb190, 0, none⟩ (.int .i64 a1_0)).setCell ⟨gb190, 1, none⟩ (.int .i64 a1_1)).setCell ⟨gb190, 2, none⟩ (.int .i64 a1_2)).setCell ⟨gb190, 3, none⟩ (.int .i64 a1_3)).setCell ⟨gb190, 4, none⟩ (.int .i64 a1_4)).heap[gb190]? = some (.cells #[.int .i64 a1_0, .int .i64 a1_1, .int .i64 a1_2, .int .i64 a1_3, .int .i64 a1_4] 44 (0, 0))) := ⟨by (with_reducible repeat (first | refine blk_drewN ?_ _ | refine blk_drew ?_ | refine blk_alloc ?_ _)); refine blk_put (cs := #[.int .i64 a1_0, .int .i64 a1_1, .int .i64 a1_2, .int .i64 a1_3, .int .i64 0]) ?_ 4 _ rfl; (with_reducible repeat (first | refine blk_drewN ?_ _ | refine blk_drew ?_ | refine blk_alloc ?_ _)); refine blk_put (cs := #[.int .i64 a1_0, .int .i64 a1_1, .int .i64 a1_2, .int .i64 0, .int .i64 0]) ?_ 3 _ rfl; (with_reducible repeat (first | refine blk_drewN ?_ _ | refine blk_drew ?_ | refine blk_alloc ?_ _)); refine blk_put (cs := #[.int .i64 a1_0, .int .i64 a1_1, .int .i64 0, .int .i64 0, .int .i64 0]) ?_ 2 _ rfl; (with_reducible repeat (first | refine blk_drewN ?_ _ | refine blk_drew ?_ | refine blk_alloc ?_ _)); refine blk_put (cs := #[.int .i64 a1_0, .int .i64 0, .int .i64 0, .int .i64 0, .int .i64 0]) ?_ 1 _ rfl; (with_reducible repeat (first | refine blk_drewN ?_ _ | refine blk_drew ?_ | refine blk_alloc ?_ _)); refine blk_put (cs := #[.int .i64 0, .int .i64 0, .int .i64 0, .int .i64 0, .int .i64 0]) ?_ 0 _ rfl; (with_reducible repeat (first | refine blk_drewN ?_ _ | refine blk_drew ?_ | refine blk_alloc ?_ _)); exact BK190.out⟩
         have n3_ : Aside0 (Below w.heap.size w (((((w124.setCell ⟨gb190, 0, none⟩ (.int .i64 a1_0)).setCell ⟨gb190, 1, none⟩ (.int .i64 a1_1)).setCell ⟨gb190, 2, none⟩ (.int .i64 a1_2)).setCell ⟨gb190, 3, none⟩ (.int .i64 a1_3)).setCell ⟨gb190, 4, none⟩ (.int .i64 a1_4))) := ⟨by repeat (first | (with_reducible first | exact HB.out | apply below_alloc | apply pw_below_drewN | apply below_drew1 | refine below_set ?_ GE166.out | refine below_set ?_ GE190.out) | exact HB.out)⟩
         (try clear HO_9)
         (try clear BK166)
         (try clear BK190)
         (try clear HB)
         generalize (((((w124.setCell ⟨gb190, 0, none⟩ (.int .i64 a1_0)).setCell ⟨gb190, 1, none⟩ (.int .i64 a1_1)).setCell ⟨gb190, 2, none⟩ (.int .i64 a1_2)).setCell ⟨gb190, 3, none⟩ (.int .i64 a1_3)).setCell ⟨gb190, 4, none⟩ (.int .i64 a1_4)) = w127 at n0_ n1_ n2_ n3_ ⊢
         have HO_9 := n0_
         have BK166 := n1_
         have BK190 := n2_
         have HB := n3_
         clear n0_ n1_ n2_ n3_
         have n0_ := Aside0.mk (Kd.R_drew HO_9.out)
         have n1_ := Aside0.mk (blk_drew BK166.out)
         have n2_ := Aside0.mk (blk_drew BK190.out)
         have n3_ := Aside0.mk (below_drew1 HB.out)
         clear HO_9
         clear BK166
         clear BK190
         clear HB
         have HO_9 := n0_
         have BK166 := n1_
         have BK190 := n2_
         have HB := n3_
         clear n0_ n1_ n2_ n3_
         refine start_ (n := 14) (S := fun w' => w'.cell? ⟨gb166, 0, none⟩ = some (.int .i64 a1_0) ∧ w'.cell? ⟨gb166, 1, none⟩ = some (.int .i64 a1_1) ∧ w'.cell? ⟨gb166, 2, none⟩ = some (.int .i64 a1_2) ∧ w'.cell? ⟨gb166, 3, none⟩ = some (.int .i64 a1_3) ∧ w'.cell? ⟨gb166, 4, none⟩ = some (.int .i64 a1_4)) (ds := []) #[false, false, false, false, false, false, false, false, false, false, false, false, false, false] (by kernel_rfl) rfl rfl ⟨(blk_cell BK166.out 0).trans rfl, (blk_cell BK166.out 1).trans rfl, (blk_cell BK166.out 2).trans rfl, (blk_cell BK166.out 3).trans rfl, (blk_cell BK166.out 4).trans rfl⟩ (fun hHeld => ?_); refine with_tabW decoupagelaw28_RasterShifts.tab14 decoupagelaw28_RasterShifts.bits14 (fun HT_ HW_ => ?_)
         generalize w127.drew = w128 at HO_9 BK166 BK190 HB hHeld ⊢
         refine pure_ (i := 0) (N := some 88) (v := ?_) (a' := ?_) #[true, false, false, false, false, false, false, false, false, false, false, false, false, false] rfl rfl (any_of HT_.out (by kernel_rfl)) (fun _ _ _ h => h) (Or.inl ⟨by rfl, ?_⟩) ?_ ?_
         rotate_left
         ·intro w'
          go_simp
          with_reducible rfl
         rotate_left
         ·simp only [Act.put, List.setIfInBounds_toArray, List.set_cons_zero, List.set_cons_succ, i64_w, i32_w]
          rfl
         refine pure_ (i := 2) (N := some 90) (v := ?_) (a' := ?_) #[true, false, true, false, false, false, false, false, false, false, false, false, false, false] rfl rfl (any_of HT_.out (by kernel_rfl)) (fun _ _ _ h => h) (Or.inl ⟨by rfl, ?_⟩) ?_ ?_
         rotate_left
         ·intro w'
          go_simp
          with_reducible rfl
         rotate_left
         ·simp only [Act.put, List.setIfInBounds_toArray, List.set_cons_zero, List.set_cons_succ, i64_w, i32_w]
          rfl
         refine pure_ (i := 3) (N := some 91) (v := ?_) (a' := ?_) #[true, false, true, true, false, false, false, false, false, false, false, false, false, false] rfl rfl (any_of HT_.out (by kernel_rfl)) (fun _ _ _ h => h) (Or.inl ⟨by rfl, ?_⟩) ?_ ?_
         rotate_left
         ·intro w'
          go_simp
          with_reducible rfl
         rotate_left
         ·simp only [Act.put, List.setIfInBounds_toArray, List.set_cons_zero, List.set_cons_succ, i64_w, i32_w]
          rfl
         refine pure_ (i := 5) (N := some 93) (v := ?_) (a' := ?_) #[true, false, true, true, false, true, false, false, false, false, false, false, false, false] rfl rfl (any_of HT_.out (by kernel_rfl)) (fun _ _ _ h => h) (Or.inl ⟨by rfl, ?_⟩) ?_ ?_
         rotate_left
         ·intro w'
          go_simp
          with_reducible rfl
         rotate_left
         ·simp only [Act.put, List.setIfInBounds_toArray, List.set_cons_zero, List.set_cons_succ, i64_w, i32_w]
          rfl
         refine pure_ (i := 7) (N := some 95) (v := ?_) (a' := ?_) #[true, false, true, true, false, true, false, true, false, false, false, false, false, false] rfl rfl (any_of HT_.out (by kernel_rfl)) (fun _ _ _ h => h) (Or.inl ⟨by rfl, ?_⟩) ?_ ?_
         rotate_left
         ·intro w'
          go_simp
          with_reducible rfl
         rotate_left
         ·simp only [Act.put, List.setIfInBounds_toArray, List.set_cons_zero, List.set_cons_succ, i64_w, i32_w]
          rfl
         refine pure_ (i := 8) (N := some 96) (v := ?_) (a' := ?_) #[true, false, true, true, false, true, false, true, true, false, false, false, false, false] rfl rfl (any_of HT_.out (by kernel_rfl)) (fun _ _ _ h => h) (Or.inl ⟨by rfl, ?_⟩) ?_ ?_
         rotate_left
         ·intro w'
          go_simp
          with_reducible rfl
         rotate_left
         ·simp only [Act.put, List.setIfInBounds_toArray, List.set_cons_zero, List.set_cons_succ, i64_w, i32_w]
          rfl
         refine take_ (i := 1) (N := some 89) (v := ?_) (a' := ?_) #[true, true, true, true, false, true, false, true, true, false, false, false, false, false] rfl rfl (take_ofW HT_.out HW_.out (by kernel_rfl)) (fun _ _ _ h => h) (Or.inl ⟨by rfl, ?_⟩) hHeld ?_ ?_
         rotate_left
         ·rintro w' ⟨s0, s1, s2, s3, s4⟩
          go_simp
          with_reducible rfl
         rotate_left
         ·simp only [Act.put, List.setIfInBounds_toArray, List.set_cons_zero, List.set_cons_succ, i64_w, i32_w]
          rfl
         refine pure_ (i := 4) (N := some 92) (v := ?_) (a' := ?_) #[true, true, true, true, true, true, false, true, true, false, false, false, false, false] rfl rfl (any_of HT_.out (by kernel_rfl)) (fun _ _ _ h => h) (Or.inl ⟨by rfl, ?_⟩) ?_ ?_
         rotate_left
         ·intro w'
          go_simp
          with_reducible rfl
         rotate_left
         ·simp only [Act.put, List.setIfInBounds_toArray, List.set_cons_zero, List.set_cons_succ, i64_w, i32_w]
          rfl
         refine pure_ (i := 10) (N := some 98) (v := ?_) (a' := ?_) #[true, true, true, true, true, true, false, true, true, false, true, false, false, false] rfl rfl (any_of HT_.out (by kernel_rfl)) (fun _ _ _ h => h) (Or.inl ⟨by rfl, ?_⟩) ?_ ?_
         rotate_left
         ·intro w'
          go_simp
          with_reducible rfl
         rotate_left
         ·simp only [Act.put, List.setIfInBounds_toArray, List.set_cons_zero, List.set_cons_succ, i64_w, i32_w]
          rfl
         refine take_ (i := 6) (N := some 94) (v := ?_) (a' := ?_) #[true, true, true, true, true, true, true, true, true, false, true, false, false, false] rfl rfl (take_ofW HT_.out HW_.out (by kernel_rfl)) (fun _ _ _ h => h) (Or.inl ⟨by rfl, ?_⟩) hHeld ?_ ?_
         rotate_left
         ·rintro w' ⟨s0, s1, s2, s3, s4⟩
          go_simp
          with_reducible rfl
         rotate_left
         ·simp only [Act.put, List.setIfInBounds_toArray, List.set_cons_zero, List.set_cons_succ, i64_w, i32_w]
          rfl
         refine pure_ (i := 9) (N := some 97) (v := ?_) (a' := ?_) #[true, true, true, true, true, true, true, true, true, true, true, false, false, false] rfl rfl (any_of HT_.out (by kernel_rfl)) (fun _ _ _ h => h) (Or.inl ⟨by rfl, ?_⟩) ?_ ?_
         rotate_left
         ·intro w'
          go_simp
          with_reducible rfl
         rotate_left
         ·simp only [Act.put, List.setIfInBounds_toArray, List.set_cons_zero, List.set_cons_succ, i64_w, i32_w]
          rfl
         refine one_ (i := 11) (N := none) #[true, true, true, true, true, true, true, true, true, true, true, true, false, false] rfl rfl (one_of HT_.out (by kernel_rfl)) (by decide) (fun K hK => ?_)
         have hs129 : w128.cell? ⟨gb190, 0, none⟩ = some (.int .i64 a1_0) := (blk_cell BK190.out 0).trans rfl
         have hfs129 := blk_frozen BK190.out 0
         have hns129_0 := NB166_190.out
         have hms129_0 := NB190_166.out
         refine skip_ (w1 := ?_) (by rfl) rfl ?_ ?_
         rotate_left
         ·go_simp
          rfl
         refine hK.out _ _ ⟨((cell_far (p := ⟨gb190, _, none⟩) NB166_190.out _).trans (hHeld.1)), ((cell_far (p := ⟨gb190, _, none⟩) NB166_190.out _).trans (hHeld.2.1)), ((cell_far (p := ⟨gb190, _, none⟩) NB166_190.out _).trans (hHeld.2.2.1)), ((cell_far (p := ⟨gb190, _, none⟩) NB166_190.out _).trans (hHeld.2.2.2.1)), ((cell_far (p := ⟨gb190, _, none⟩) NB166_190.out _).trans (hHeld.2.2.2.2))⟩ (fun hHeld => ?_)
         clear hK K
         refine pure_ (i := 12) (N := some 99) (v := ?_) (a' := ?_) #[true, true, true, true, true, true, true, true, true, true, true, true, true, false] rfl rfl (any_of HT_.out (by kernel_rfl)) (fun _ _ _ h => h) (Or.inl ⟨by rfl, ?_⟩) ?_ ?_
         rotate_left
         ·intro w'
          go_simp
          with_reducible rfl
         rotate_left
         ·simp only [Act.put, List.setIfInBounds_toArray, List.set_cons_zero, List.set_cons_succ, i64_w, i32_w]
          rfl
         refine one_ (i := 13) (N := none) #[true, true, true, true, true, true, true, true, true, true, true, true, true, true] rfl rfl (one_of HT_.out (by kernel_rfl)) (by decide) (fun K hK => ?_)
         have hs130 : w128.cell? ⟨gb190, 1, none⟩ = some (.int .i64 a1_1) := (blk_cell BK190.out 1).trans rfl
         have hfs130 := blk_frozen BK190.out 1
         have hns130_0 := NB166_190.out
         have hms130_0 := NB190_166.out
         refine skip_ (w1 := ?_) (by rfl) rfl ?_ ?_
         rotate_left
         ·go_simp
          rfl
         refine hK.out _ _ ⟨((cell_far (p := ⟨gb190, _, none⟩) NB166_190.out _).trans (hHeld.1)), ((cell_far (p := ⟨gb190, _, none⟩) NB166_190.out _).trans (hHeld.2.1)), ((cell_far (p := ⟨gb190, _, none⟩) NB166_190.out _).trans (hHeld.2.2.1)), ((cell_far (p := ⟨gb190, _, none⟩) NB166_190.out _).trans (hHeld.2.2.2.1)), ((cell_far (p := ⟨gb190, _, none⟩) NB166_190.out _).trans (hHeld.2.2.2.2))⟩ (fun hHeld => ?_)
         clear hK K
         refine done_ (done_of HT_.out (by kernel_rfl)) ?_
         have hcz131_0 : w128.cell? ⟨gb166, 0, none⟩ = some (.int .i64 a1_0) := (blk_cell BK166.out 0).trans rfl
         have hcz131_1 : w128.cell? ⟨gb166, 1, none⟩ = some (.int .i64 a1_1) := (blk_cell BK166.out 1).trans rfl
         have hcz131_2 : w128.cell? ⟨gb166, 2, none⟩ = some (.int .i64 a1_2) := (blk_cell BK166.out 2).trans rfl
         have hcz131_3 : w128.cell? ⟨gb166, 3, none⟩ = some (.int .i64 a1_3) := (blk_cell BK166.out 3).trans rfl
         have hcz131_4 : w128.cell? ⟨gb166, 4, none⟩ = some (.int .i64 a1_4) := (blk_cell BK166.out 4).trans rfl
         have hfz131_0 := blk_frozen BK166.out 0
         have hfz131_1 := blk_frozen BK166.out 1
         have hfz131_2 := blk_frozen BK166.out 2
         have hfz131_3 := blk_frozen BK166.out 3
         have hfz131_4 := blk_frozen BK166.out 4
         try go_wp2_with (first | ((with_reducible refine gate_callee (f := 28) rfl ?_); refine goesL_ (some 103) rfl rfl Try.func28 (by kernel_rfl) rfl #[.slice A0 l0.length c0, .agg #[.int .i64 a1_0, .int .i64 a1_1, .int .i64 a1_2, .int .i64 a1_3, .int .i64 a1_4]] rfl (by (try simp only [List.map_toArray, List.map_cons, List.map_nil]); first | done | rfl | (simp only [List.length_drop, List.length_take]; rfl)) ?_; (with_reducible refine (raster_Draw.calls k2 _ _ l0 a1_0 a1_1 a1_2 a1_3 a1_4 t191 t194 _ ?side1 ?side2 A75.out).mono ?_); (case side1 => exact Kd.C_below HR0.out (by repeat (first | (with_reducible first | exact HB.out | apply below_alloc | apply pw_below_drewN | apply below_drew1 | refine below_set ?_ GE166.out | refine below_set ?_ GE190.out) | exact HB.out))); (case side2 => exact HC0.out); rintro e w132 ⟨v192, rfl, ho0, hb⟩; refine ⟨_, rfl, ?_⟩; have n0_ := Aside0.mk (Kd.R_below (by (with_reducible repeat (first | apply Kd.R_alloc | apply Kd.R_drewN | apply Kd.R_drew)); exact (Kd.R_mono (Kd.R_far (p := ⟨gb190, 1, none⟩) (Kd.R_far (p := ⟨gb190, 0, none⟩) (Kd.R_types HO_9.out BK190.out (by decide)) (fun _ hk => hk.2) (.int .i64 (wrap64 (a1_0 + (wrap64 (a2)))))) (fun _ hk => hk.2) (.int .i64 (wrap64 (a1_1 + (wrap64 (a3)))))) (fun _ h_ => h_.1))) hb); have n1_ := Aside0.mk (Kd.R_lower ho0 (below_size (by repeat (first | (with_reducible first | exact HB.out | apply below_alloc | apply pw_below_drewN | apply below_drew1 | refine below_set ?_ GE166.out | refine below_set ?_ GE190.out) | exact HB.out)))); have n2_ := Aside0.mk (blk_below (g := gb166) (o := .cells #[.int .i64 a1_0, .int .i64 a1_1, .int .i64 a1_2, .int .i64 a1_3, .int .i64 a1_4] 44 (0, 0)) (by (with_reducible repeat (first | refine blk_drewN ?_ _ | refine blk_drew ?_ | refine blk_alloc ?_ _)); refine blk_far ?_ NB166_190.out _; (with_reducible repeat (first | refine blk_drewN ?_ _ | refine blk_drew ?_ | refine blk_alloc ?_ _)); refine blk_far ?_ NB166_190.out _; (with_reducible repeat (first | refine blk_drewN ?_ _ | refine blk_drew ?_ | refine blk_alloc ?_ _)); exact BK166.out) hb); have n3_ := Aside0.mk (blk_below (g := gb190) (o := .cells #[.int .i64 (wrap64 (a1_0 + (wrap64 (a2)))), .int .i64 (wrap64 (a1_1 + (wrap64 (a3)))), .int .i64 a1_2, .int .i64 a1_3, .int .i64 a1_4] 44 (0, 0)) (by (with_reducible repeat (first | refine blk_drewN ?_ _ | refine blk_drew ?_ | refine blk_alloc ?_ _)); refine blk_put (cs := #[.int .i64 (wrap64 (a1_0 + (wrap64 (a2)))), .int .i64 a1_1, .int .i64 a1_2, .int .i64 a1_3, .int .i64 a1_4]) ?_ 1 _ rfl; (with_reducible repeat (first | refine blk_drewN ?_ _ | refine blk_drew ?_ | refine blk_alloc ?_ _)); refine blk_put (cs := #[.int .i64 a1_0, .int .i64 a1_1, .int .i64 a1_2, .int .i64 a1_3, .int .i64 a1_4]) ?_ 0 _ rfl; (with_reducible repeat (first | refine blk_drewN ?_ _ | refine blk_drew ?_ | refine blk_alloc ?_ _)); exact BK190.out) hb); have n4_ := Aside0.mk (below_step (by repeat (first | (with_reducible first | exact HB.out | apply below_alloc | apply pw_below_drewN | apply below_drew1 | refine below_set ?_ GE166.out | refine below_set ?_ GE190.out) | exact HB.out)) hb); clear HO_9; clear BK166; clear BK190; clear HB; have HO_9 := n0_; have HO193 := n1_; have BK166 := n2_; have BK190 := n3_; have HB := n4_; clear n0_ n1_ n2_ n3_ n4_; (try clear hb); (try clear hb2); (try clear hk); (try clear hi); (try clear ho0); have hcz133_0 : w132.cell? ⟨gb190, 0, none⟩ = some (.int .i64 (wrap64 (a1_0 + (wrap64 (a2))))) := (blk_cell BK190.out 0).trans rfl; have hcz133_1 : w132.cell? ⟨gb190, 1, none⟩ = some (.int .i64 (wrap64 (a1_1 + (wrap64 (a3))))) := (blk_cell BK190.out 1).trans rfl; have hcz133_2 : w132.cell? ⟨gb190, 2, none⟩ = some (.int .i64 a1_2) := (blk_cell BK190.out 2).trans rfl; have hcz133_3 : w132.cell? ⟨gb190, 3, none⟩ = some (.int .i64 a1_3) := (blk_cell BK190.out 3).trans rfl; have hcz133_4 : w132.cell? ⟨gb190, 4, none⟩ = some (.int .i64 a1_4) := (blk_cell BK190.out 4).trans rfl; have hfz133_0 := blk_frozen BK190.out 0; have hfz133_1 := blk_frozen BK190.out 1; have hfz133_2 := blk_frozen BK190.out 2; have hfz133_3 := blk_frozen BK190.out 3; have hfz133_4 := blk_frozen BK190.out 4; obtain ⟨Ao134, co134, eo134⟩ := Kd.R_slice HO_9.out; subst eo134) | ((with_reducible refine gate_callee (f := 28) rfl ?_); refine goesL_ (some 109) rfl rfl Try.func28 (by kernel_rfl) rfl #[.slice Ao134 x9_2.length co134, .agg #[.int .i64 (wrap64 (a1_0 + (wrap64 (a2)))), .int .i64 (wrap64 (a1_1 + (wrap64 (a3)))), .int .i64 a1_2, .int .i64 a1_3, .int .i64 a1_4]] rfl (by (try simp only [List.map_toArray, List.map_cons, List.map_nil]); first | done | rfl | (simp only [List.length_drop, List.length_take]; rfl)) ?_; (with_reducible refine (raster_Draw.calls k2 _ _ x9_2 (wrap64 (a1_0 + (wrap64 (a2)))) (wrap64 (a1_1 + (wrap64 (a3)))) a1_2 a1_3 a1_4 t195 t198 _ ?side1 ?side2 A76.out).mono ?_); (case side1 => repeat (first | exact (Kd.R_reads' HO_9.out).2.2 | (with_reducible refine Kd.C_alloc ?_ _) | (with_reducible refine Kd.C_drewN ?_ _) | (with_reducible refine Kd.C_drew ?_))); (case side2 => exact (Kd.R_reads' HO_9.out).2.1); rintro e w135 ⟨v196, rfl, ho0, hb⟩; refine ⟨_, rfl, ?_⟩; have n0_ := Aside0.mk (Kd.R_below (by (with_reducible repeat (first | apply Kd.R_alloc | apply Kd.R_drewN | apply Kd.R_drew)); exact HO_9.out) hb); have n1_ := Aside0.mk (Kd.R_elder' (by (with_reducible repeat (first | apply Kd.R_alloc | apply Kd.R_drewN | apply Kd.R_drew)); exact HO193.out) (Kd.R_base ho0) hb); have n2_ := Aside0.mk (Kd.R_lower (Kd.R_new' ho0 (Kd.R_lt (by (with_reducible repeat (first | apply Kd.R_alloc | apply Kd.R_drewN | apply Kd.R_drew)); exact HO193.out))) (below_size (by repeat (first | (with_reducible first | exact HB.out | apply below_alloc | apply pw_below_drewN | apply below_drew1 | refine below_set ?_ GE166.out | refine below_set ?_ GE190.out) | exact HB.out)))); have n3_ := Aside0.mk (blk_below (g := gb166) (o := .cells #[.int .i64 a1_0, .int .i64 a1_1, .int .i64 a1_2, .int .i64 a1_3, .int .i64 a1_4] 44 (0, 0)) (by (with_reducible repeat (first | refine blk_drewN ?_ _ | refine blk_drew ?_ | refine blk_alloc ?_ _)); exact BK166.out) hb); have n4_ := Aside0.mk (blk_below (g := gb190) (o := .cells #[.int .i64 (wrap64 (a1_0 + (wrap64 (a2)))), .int .i64 (wrap64 (a1_1 + (wrap64 (a3)))), .int .i64 a1_2, .int .i64 a1_3, .int .i64 a1_4] 44 (0, 0)) (by (with_reducible repeat (first | refine blk_drewN ?_ _ | refine blk_drew ?_ | refine blk_alloc ?_ _)); exact BK190.out) hb); have n5_ := Aside0.mk (below_step (by repeat (first | (with_reducible first | exact HB.out | apply below_alloc | apply pw_below_drewN | apply below_drew1 | refine below_set ?_ GE166.out | refine below_set ?_ GE190.out) | exact HB.out)) hb); clear HO_9; clear HO193; clear BK166; clear BK190; clear HB; have HO_9 := n0_; have HO193 := n1_; have HO197 := n2_; have BK166 := n3_; have BK190 := n4_; have HB := n5_; clear n0_ n1_ n2_ n3_ n4_ n5_; (try clear hb); (try clear hb2); (try clear hk); (try clear hi); (try clear ho0)))
         go_ret
         exact ⟨by first | rfl | (simp [errW_none, errW_some] <;> rfl) | (simp [*, errW_none, errW_some] <;> rfl), by repeat (first | (with_reducible first | exact HB.out | apply below_alloc | apply pw_below_drewN | apply below_drew1 | refine below_set ?_ GE166.out | refine below_set ?_ GE190.out) | exact HB.out)⟩

end Go.Proofs.Ytppklhfiajjhmaa.PRasterShifts
