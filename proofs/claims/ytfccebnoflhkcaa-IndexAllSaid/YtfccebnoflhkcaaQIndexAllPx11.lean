/- Texts of IndexAll. Merged: Px11. -/
import Derived.Test.YtfccebnoflhkcaaQIndexAllPx0
import Derived.Test.YtfccebnoflhkcaaQIndexAllPx2
import Derived.Test.YtfccebnoflhkcaaQIndexAllPx3
import Derived.Test.YtfccebnoflhkcaaQIndexAllPx6
import Derived.Test.YtfccebnoflhkcaaQIndexAllPx7
import Derived.Test.YtfccebnoflhkcaaQIndexAllPx8
import Derived.Test.YtfccebnoflhkcaaQIndexAllPx10
import Derived.Test.YtfccebnoflhkcaaQIndexAllHFit12
import Derived.Test.YtfccebnoflhkcaaQIndexAllHMeets
-- Written by wip/tools/myprint.py over the kit's print (a program's print; Lean checks it).
namespace Go.Proofs.Ytfccebnoflhkcaa.P
open Go.RowKit Go.Proofs.YtfccebnoflhkcaaW.PrintWords Go.Proofs.YtfccebnoflhkcaaW.PrintLast Go.Proofs.YtfccebnoflhkcaaW.PrintMore
attribute [local go_sem] max2_int min2_int max_two min_two max_three min_three max_four min_four   -- for this text's walks alone
set_option linter.unusedVariables false
set_option linter.unusedSimpArgs false

/-! ### thresherlaw12_IndexAll: function 3 -/
mutual
def thresherlaw12_IndexAll.l0 : Nat → Bool → List (List (S44)) → Int → List Int → Int → Int → Int → Bool → Bool → List (S44) → List (S44) → Option (Bool)
 | 0, _, _, _, _, _, _, _, _, _, _, _ => none
 | k + 1, x7, x9, x11, x293000, x293001, x293002, x293003, x308000, x308001, x308002, x308003 => if x11 < (x9.length : Int) then (if 0 ≤ x11 then ((index_In.f k x293000 x293001 x293002 x293003 x308000 x308001 x308002 x308003 (rd_L5 x9 x11)).bind fun t309 => ((thresherref12_In.f k x293000 x293001 x293002 x293003 x308000 x308001 x308002 x308003 (rd_L5 x9 x11)).bind fun t311 => (if (t309 != t311) = true then (some false) else (thresherlaw12_IndexAll.l0 k x7 x9 (wrap64 (x11 + 1)) x293000 x293001 x293002 x293003 x308000 x308001 x308002 x308003)))) else (none)) else ((thresherref10_Marks.f k x293000 x293001 x293002 x293003 x9).bind fun t312 => ((index_Meets.f k x293000 x293001 x293002 x293003 t312 x308000 x308001 x308002 x308003).bind fun bt315 => ((thresherref12_Meets.f k x293000 x293001 x293002 x293003 t312 x308000 x308001 x308002 x308003).bind fun bt317 => (if x7 = true then (if bt315.1 = bt317.1 then (if bt315.2 = bt317.2 then ((index_Empty.f k x293000 x293001 x293002 x293003 x308000 x308001 x308002 x308003).bind fun t319 => ((thresherref12_Empty.f k x293000 x293001 x293002 x293003 x308000 x308001 x308002 x308003).bind fun t320 => (thresherlaw12_IndexAll.j1 k (t319 == t320)))) else (thresherlaw12_IndexAll.j1 k false)) else (thresherlaw12_IndexAll.j1 k false)) else (thresherlaw12_IndexAll.j1 k false)))))
def thresherlaw12_IndexAll.j1 : Nat → Bool → Option (Bool)
 | 0, _ => none
 | k + 1, x6 => some x6
end
def thresherlaw12_IndexAll.f (k : Nat) (a0_0 : Int) (a0_1 : Int) (a0_2 : Int) (a0_3 : Int) (a0_4 : Int) (a0_5 : Int) (a0_6 : Int) (a0_7 : Int) (a0_8 : Int) (a0_9 : Int) (a0_10 : Int) (a0_11 : Int) (l1 : List (List (S44))) (a2_0 : Bool) (a2_1 : Bool) (l2_2 : List (S44)) (l2_3 : List (S44)) : Option (Bool) := (thresherlaw12_shown.f k).bind fun t285 => ((thresherlaw12_made.f k a0_0 a0_1 a0_2 a0_3 a0_4 a0_5 a0_6 a0_7 a0_8 a0_9 a0_10 a0_11).bind fun bt286 => ((thresherref04_Fits.f k bt286.1 bt286.2.1 bt286.2.2.1 bt286.2.2.2 l1 60).bind fun t293 => ((thresherref09_Sort.f k bt286.1 bt286.2.1 bt286.2.2.1 bt286.2.2.2 t293).bind fun t296 => ((thresherref12_Fit.f k bt286.1 bt286.2.1 bt286.2.2.1 bt286.2.2.2 a2_0 a2_1 l2_2 l2_3).bind fun bt299 => (thresherlaw12_IndexAll.l0 k t285 t296 0 bt286.1 bt286.2.1 bt286.2.2.1 bt286.2.2.2 bt299.1 bt299.2.1 bt299.2.2.1 bt299.2.2.2)))))
theorem thresherlaw12_IndexAll.mono_l : ∀ k, (∀ y0 y1 y2 y3 y4 y5 y6 y7 y8 y9 y10, LeO (thresherlaw12_IndexAll.l0 k y0 y1 y2 y3 y4 y5 y6 y7 y8 y9 y10) (thresherlaw12_IndexAll.l0 (k + 1) y0 y1 y2 y3 y4 y5 y6 y7 y8 y9 y10)) ∧ (∀ y0, LeO (thresherlaw12_IndexAll.j1 k y0) (thresherlaw12_IndexAll.j1 (k + 1) y0))
 | 0 => ⟨fun _ _ _ _ _ _ _ _ _ _ _ r h => by simp [thresherlaw12_IndexAll.l0] at h, fun _ r h => by simp [thresherlaw12_IndexAll.j1] at h⟩
 | k + 1 => by
  obtain ⟨ih0, ih1⟩ := thresherlaw12_IndexAll.mono_l k
  refine ⟨?_, ?_⟩
  ·intro y0 y1 y2 y3 y4 y5 y6 y7 y8 y9 y10
   unfold thresherlaw12_IndexAll.l0
   repeat' first
   | (with_reducible exact ih0 _ _ _ _ _ _ _ _ _ _ _)
   | (with_reducible exact ih1 _)
   | (with_reducible exact index_Empty.mono _ _ _ _ _ _ _ _ _)
   | (with_reducible exact index_In.mono _ _ _ _ _ _ _ _ _ _)
   | (with_reducible exact index_Meets.mono _ _ _ _ _ _ _ _ _ _)
   | (with_reducible exact thresherlaw12_made.mono _ _ _ _ _ _ _ _ _ _ _ _ _)
   | (with_reducible exact thresherlaw12_shown.mono _)
   | (with_reducible exact thresherref04_Fits.mono _ _ _ _ _ _ _)
   | (with_reducible exact thresherref09_Sort.mono _ _ _ _ _ _)
   | (with_reducible exact thresherref10_Marks.mono _ _ _ _ _ _)
   | (with_reducible exact thresherref12_Empty.mono _ _ _ _ _ _ _ _ _)
   | (with_reducible exact thresherref12_Fit.mono _ _ _ _ _ _ _ _ _)
   | (with_reducible exact thresherref12_In.mono _ _ _ _ _ _ _ _ _ _)
   | (with_reducible exact thresherref12_Meets.mono _ _ _ _ _ _ _ _ _ _)
   | (with_reducible exact LeO.refl _)
   | (with_reducible exact LeO.none _)
   | (with_reducible refine LeO.ite ?_ ?_)
   | (with_reducible refine LeO.bind ?_ (fun _ => ?_))
   | exact ih0 _ _ _ _ _ _ _ _ _ _ _
   | exact ih1 _
   | exact index_Empty.mono _ _ _ _ _ _ _ _ _
   | exact index_In.mono _ _ _ _ _ _ _ _ _ _
   | exact index_Meets.mono _ _ _ _ _ _ _ _ _ _
   | exact thresherlaw12_made.mono _ _ _ _ _ _ _ _ _ _ _ _ _
   | exact thresherlaw12_shown.mono _
   | exact thresherref04_Fits.mono _ _ _ _ _ _ _
   | exact thresherref09_Sort.mono _ _ _ _ _ _
   | exact thresherref10_Marks.mono _ _ _ _ _ _
   | exact thresherref12_Empty.mono _ _ _ _ _ _ _ _ _
   | exact thresherref12_Fit.mono _ _ _ _ _ _ _ _ _
   | exact thresherref12_In.mono _ _ _ _ _ _ _ _ _ _
   | exact thresherref12_Meets.mono _ _ _ _ _ _ _ _ _ _
   | exact LeO.none _
   | refine LeO.ite ?_ ?_
   | refine LeO.bind ?_ (fun _ => ?_)
  ·intro y0
   unfold thresherlaw12_IndexAll.j1
   repeat' first
   | (with_reducible exact ih0 _ _ _ _ _ _ _ _ _ _ _)
   | (with_reducible exact ih1 _)
   | (with_reducible exact index_Empty.mono _ _ _ _ _ _ _ _ _)
   | (with_reducible exact index_In.mono _ _ _ _ _ _ _ _ _ _)
   | (with_reducible exact index_Meets.mono _ _ _ _ _ _ _ _ _ _)
   | (with_reducible exact thresherlaw12_made.mono _ _ _ _ _ _ _ _ _ _ _ _ _)
   | (with_reducible exact thresherlaw12_shown.mono _)
   | (with_reducible exact thresherref04_Fits.mono _ _ _ _ _ _ _)
   | (with_reducible exact thresherref09_Sort.mono _ _ _ _ _ _)
   | (with_reducible exact thresherref10_Marks.mono _ _ _ _ _ _)
   | (with_reducible exact thresherref12_Empty.mono _ _ _ _ _ _ _ _ _)
   | (with_reducible exact thresherref12_Fit.mono _ _ _ _ _ _ _ _ _)
   | (with_reducible exact thresherref12_In.mono _ _ _ _ _ _ _ _ _ _)
   | (with_reducible exact thresherref12_Meets.mono _ _ _ _ _ _ _ _ _ _)
   | (with_reducible exact LeO.refl _)
   | (with_reducible exact LeO.none _)
   | (with_reducible refine LeO.ite ?_ ?_)
   | (with_reducible refine LeO.bind ?_ (fun _ => ?_))
   | exact ih0 _ _ _ _ _ _ _ _ _ _ _
   | exact ih1 _
   | exact index_Empty.mono _ _ _ _ _ _ _ _ _
   | exact index_In.mono _ _ _ _ _ _ _ _ _ _
   | exact index_Meets.mono _ _ _ _ _ _ _ _ _ _
   | exact thresherlaw12_made.mono _ _ _ _ _ _ _ _ _ _ _ _ _
   | exact thresherlaw12_shown.mono _
   | exact thresherref04_Fits.mono _ _ _ _ _ _ _
   | exact thresherref09_Sort.mono _ _ _ _ _ _
   | exact thresherref10_Marks.mono _ _ _ _ _ _
   | exact thresherref12_Empty.mono _ _ _ _ _ _ _ _ _
   | exact thresherref12_Fit.mono _ _ _ _ _ _ _ _ _
   | exact thresherref12_In.mono _ _ _ _ _ _ _ _ _ _
   | exact thresherref12_Meets.mono _ _ _ _ _ _ _ _ _ _
   | exact LeO.none _
   | refine LeO.ite ?_ ?_
   | refine LeO.bind ?_ (fun _ => ?_)
theorem thresherlaw12_IndexAll.mono : ∀ a0 a1 a2 a3 a4 a5 a6 a7 a8 a9 a10 a11 a12 a13 a14 a15 a16 k, LeO (thresherlaw12_IndexAll.f k a0 a1 a2 a3 a4 a5 a6 a7 a8 a9 a10 a11 a12 a13 a14 a15 a16) (thresherlaw12_IndexAll.f (k + 1) a0 a1 a2 a3 a4 a5 a6 a7 a8 a9 a10 a11 a12 a13 a14 a15 a16) := by
 intro a0 a1 a2 a3 a4 a5 a6 a7 a8 a9 a10 a11 a12 a13 a14 a15 a16 k
 obtain ⟨ih0, ih1⟩ := thresherlaw12_IndexAll.mono_l k
 unfold thresherlaw12_IndexAll.f
 repeat' first
   | (with_reducible exact ih0 _ _ _ _ _ _ _ _ _ _ _)
   | (with_reducible exact ih1 _)
   | (with_reducible exact index_Empty.mono _ _ _ _ _ _ _ _ _)
   | (with_reducible exact index_In.mono _ _ _ _ _ _ _ _ _ _)
   | (with_reducible exact index_Meets.mono _ _ _ _ _ _ _ _ _ _)
   | (with_reducible exact thresherlaw12_made.mono _ _ _ _ _ _ _ _ _ _ _ _ _)
   | (with_reducible exact thresherlaw12_shown.mono _)
   | (with_reducible exact thresherref04_Fits.mono _ _ _ _ _ _ _)
   | (with_reducible exact thresherref09_Sort.mono _ _ _ _ _ _)
   | (with_reducible exact thresherref10_Marks.mono _ _ _ _ _ _)
   | (with_reducible exact thresherref12_Empty.mono _ _ _ _ _ _ _ _ _)
   | (with_reducible exact thresherref12_Fit.mono _ _ _ _ _ _ _ _ _)
   | (with_reducible exact thresherref12_In.mono _ _ _ _ _ _ _ _ _ _)
   | (with_reducible exact thresherref12_Meets.mono _ _ _ _ _ _ _ _ _ _)
   | (with_reducible exact LeO.refl _)
   | (with_reducible exact LeO.none _)
   | (with_reducible refine LeO.ite ?_ ?_)
   | (with_reducible refine LeO.bind ?_ (fun _ => ?_))
   | exact ih0 _ _ _ _ _ _ _ _ _ _ _
   | exact ih1 _
   | exact index_Empty.mono _ _ _ _ _ _ _ _ _
   | exact index_In.mono _ _ _ _ _ _ _ _ _ _
   | exact index_Meets.mono _ _ _ _ _ _ _ _ _ _
   | exact thresherlaw12_made.mono _ _ _ _ _ _ _ _ _ _ _ _ _
   | exact thresherlaw12_shown.mono _
   | exact thresherref04_Fits.mono _ _ _ _ _ _ _
   | exact thresherref09_Sort.mono _ _ _ _ _ _
   | exact thresherref10_Marks.mono _ _ _ _ _ _
   | exact thresherref12_Empty.mono _ _ _ _ _ _ _ _ _
   | exact thresherref12_Fit.mono _ _ _ _ _ _ _ _ _
   | exact thresherref12_In.mono _ _ _ _ _ _ _ _ _ _
   | exact thresherref12_Meets.mono _ _ _ _ _ _ _ _ _ _
   | exact LeO.none _
   | refine LeO.ite ?_ ?_
   | refine LeO.bind ?_ (fun _ => ?_)
def thresherlaw12_IndexAll.T8 : Bool × List (List Nat × List Nat) := (true, [([], []), ([], []), ([], []), ([], []), ([2, 3], [2, 3]), ([4], [4]), ([0, 1, 5], [0, 1, 5]), ([], []), ([], []), ([], []), ([], []), ([9, 10], [9, 10]), ([11], [11]), ([7, 8, 12, 6], [7, 8, 12]), ([6, 13], [6, 13])])
def thresherlaw12_IndexAll.B8 : List Nat := [0, 0, 0, 0, 12, 28, 63, 0, 0, 0, 0, 1536, 3584, 8191, 16383]
theorem thresherlaw12_IndexAll.tab8 : rtab .any (opsOf Try.f3 8) = thresherlaw12_IndexAll.T8 := by kernel_rfl
theorem thresherlaw12_IndexAll.bits8 : waitsOk thresherlaw12_IndexAll.T8.2 thresherlaw12_IndexAll.B8 = true := by kernel_rfl
def thresherlaw12_IndexAll.T13 : Bool × List (List Nat × List Nat) := (true, [([], []), ([0], [0]), ([1], [1]), ([1], [1]), ([2, 3, 1], [1, 2, 3]), ([1, 4], [1, 4]), ([5, 1], [5]), ([6], [6]), ([6], [6]), ([7, 8, 6], [6, 7, 8]), ([6, 9], [6, 9]), ([10, 6], [10]), ([11], [11]), ([11], [11]), ([12, 13, 11, 11], [11, 12, 13]), ([11], [11]), ([11], [11]), ([15, 16, 14, 11], [11, 15, 16]), ([14, 17, 11], [11, 14, 17]), ([11, 18], [11, 18]), ([19, 17, 0, 1, 2, 3, 4, 5, 6, 7, 8, 9, 10, 11, 12, 13, 14, 15, 16, 17, 18, 19], [19])])
def thresherlaw12_IndexAll.B13 : List Nat := [0, 1, 3, 3, 15, 31, 63, 127, 127, 511, 1023, 2047, 4095, 4095, 16383, 4095, 4095, 131071, 262143, 524287, 1048575]
theorem thresherlaw12_IndexAll.tab13 : rtab .any (opsOf Try.f3 13) = thresherlaw12_IndexAll.T13 := by kernel_rfl
theorem thresherlaw12_IndexAll.bits13 : waitsOk thresherlaw12_IndexAll.T13.2 thresherlaw12_IndexAll.B13 = true := by kernel_rfl
set_option maxHeartbeats 8000000 in
set_option maxRecDepth 100000 in
theorem thresherlaw12_IndexAll.calls (k : Nat) (a0_0 : Int) (a0_1 : Int) (a0_2 : Int) (a0_3 : Int) (a0_4 : Int) (a0_5 : Int) (a0_6 : Int) (a0_7 : Int) (a0_8 : Int) (a0_9 : Int) (a0_10 : Int) (a0_11 : Int) (A1 : Option Addr) (c1 : Nat) (l1 : List (List (S44))) (a2_0 : Bool) (a2_1 : Bool) (A2_2 : Option Addr) (c2_2 : Nat) (l2_2 : List (S44)) (A2_3 : Option Addr) (c2_3 : Nat) (l2_3 : List (S44)) (r : Bool) (w : World) (hr1 : Kd.C (Kd.slice 44 k44) w A1 l1.length l1) (hc1 : l1.length ≤ c1) (hr2_2 : Kd.C k44 w A2_2 l2_2.length l2_2) (hc2_2 : l2_2.length ≤ c2_2) (hr2_3 : Kd.C k44 w A2_3 l2_3.length l2_3) (hc2_3 : l2_3.length ≤ c2_3) (h : thresherlaw12_IndexAll.f k a0_0 a0_1 a0_2 a0_3 a0_4 a0_5 a0_6 a0_7 a0_8 a0_9 a0_10 a0_11 l1 a2_0 a2_1 l2_2 l2_3 = some r) :
  Calls Try.prog 3 #[.agg #[.int .u8 a0_0, .int .u8 a0_1, .int .u8 a0_2, .int .u8 a0_3, .int .u8 a0_4, .int .u8 a0_5, .int .u8 a0_6, .int .u8 a0_7, .int .u8 a0_8, .int .u8 a0_9, .int .u8 a0_10, .int .u8 a0_11], .slice A1 l1.length c1, .agg #[.bool a2_0, .bool a2_1, .slice A2_2 l2_2.length c2_2, .slice A2_3 l2_3.length c2_3]] w fun e w' => e = .returned (.bool r) ∧ Below w.heap.size w w' := by
 have hu24 := Try.underlying24
 have hu29 := Try.underlying29
 have hu33 := Try.underlying33
 have HR1 := Aside0.mk hr1
 have HC1 := Aside0.mk hc1
 clear hr1 hc1
 have HR2_2 := Aside0.mk hr2_2
 have HC2_2 := Aside0.mk hc2_2
 clear hr2_2 hc2_2
 have HR2_3 := Aside0.mk hr2_3
 have HC2_3 := Aside0.mk hc2_3
 clear hr2_3 hc2_3
 have HB := Aside0.mk (Below.refl w.heap.size w)
 have H : ((thresherlaw12_shown.f k).bind fun t285 => ((thresherlaw12_made.f k a0_0 a0_1 a0_2 a0_3 a0_4 a0_5 a0_6 a0_7 a0_8 a0_9 a0_10 a0_11).bind fun bt286 => ((thresherref04_Fits.f k bt286.1 bt286.2.1 bt286.2.2.1 bt286.2.2.2 l1 60).bind fun t293 => ((thresherref09_Sort.f k bt286.1 bt286.2.1 bt286.2.2.1 bt286.2.2.2 t293).bind fun t296 => ((thresherref12_Fit.f k bt286.1 bt286.2.1 bt286.2.2.1 bt286.2.2.2 a2_0 a2_1 l2_2 l2_3).bind fun bt299 => (thresherlaw12_IndexAll.l0 k t285 t296 0 bt286.1 bt286.2.1 bt286.2.2.1 bt286.2.2.2 bt299.1 bt299.2.1 bt299.2.2.1 bt299.2.2.2)))))) = some r := h
 clear h
 replace H := Option.bind_eq_some_iff.mp H
 obtain ⟨t285, A40, H⟩ := H
 replace H : ((thresherlaw12_made.f k a0_0 a0_1 a0_2 a0_3 a0_4 a0_5 a0_6 a0_7 a0_8 a0_9 a0_10 a0_11).bind fun bt286 => ((thresherref04_Fits.f k bt286.1 bt286.2.1 bt286.2.2.1 bt286.2.2.2 l1 60).bind fun t293 => ((thresherref09_Sort.f k bt286.1 bt286.2.1 bt286.2.2.1 bt286.2.2.2 t293).bind fun t296 => ((thresherref12_Fit.f k bt286.1 bt286.2.1 bt286.2.2.1 bt286.2.2.2 a2_0 a2_1 l2_2 l2_3).bind fun bt299 => (thresherlaw12_IndexAll.l0 k t285 t296 0 bt286.1 bt286.2.1 bt286.2.2.1 bt286.2.2.2 bt299.1 bt299.2.1 bt299.2.2.1 bt299.2.2.2))))) = some r := H
 have A4 := Aside0.mk A40
 clear A40
 replace H := Option.bind_eq_some_iff.mp H
 obtain ⟨⟨t286, t289, t290, t291⟩, A50, H⟩ := H
 replace H : ((thresherref04_Fits.f k t286 t289 t290 t291 l1 60).bind fun t293 => ((thresherref09_Sort.f k t286 t289 t290 t291 t293).bind fun t296 => ((thresherref12_Fit.f k t286 t289 t290 t291 a2_0 a2_1 l2_2 l2_3).bind fun bt299 => (thresherlaw12_IndexAll.l0 k t285 t296 0 t286 t289 t290 t291 bt299.1 bt299.2.1 bt299.2.2.1 bt299.2.2.2)))) = some r := H
 have A5 := Aside0.mk A50
 clear A50
 replace H := Option.bind_eq_some_iff.mp H
 obtain ⟨t293, A60, H⟩ := H
 replace H : ((thresherref09_Sort.f k t286 t289 t290 t291 t293).bind fun t296 => ((thresherref12_Fit.f k t286 t289 t290 t291 a2_0 a2_1 l2_2 l2_3).bind fun bt299 => (thresherlaw12_IndexAll.l0 k t285 t296 0 t286 t289 t290 t291 bt299.1 bt299.2.1 bt299.2.2.1 bt299.2.2.2))) = some r := H
 have A6 := Aside0.mk A60
 clear A60
 replace H := Option.bind_eq_some_iff.mp H
 obtain ⟨t296, A70, H⟩ := H
 replace H : ((thresherref12_Fit.f k t286 t289 t290 t291 a2_0 a2_1 l2_2 l2_3).bind fun bt299 => (thresherlaw12_IndexAll.l0 k t285 t296 0 t286 t289 t290 t291 bt299.1 bt299.2.1 bt299.2.2.1 bt299.2.2.2)) = some r := H
 have A7 := Aside0.mk A70
 clear A70
 replace H := Option.bind_eq_some_iff.mp H
 obtain ⟨⟨t299, t300, t301, t304⟩, A80, H⟩ := H
 replace H : (thresherlaw12_IndexAll.l0 k t285 t296 0 t286 t289 t290 t291 t299 t300 t301 t304) = some r := H
 have A8 := Aside0.mk A80
 clear A80
 have H' := Aside0.mk H
 clear H
 go_enter Try.func3, Try.ntmps3
 try go_wp2_with (first | ((with_reducible refine gate_dst (N := 3) rfl ?_); refine box_event ?hg (N := 3) ?hd (cs := #[.int .u8 a0_0, .int .u8 a0_1, .int .u8 a0_2, .int .u8 a0_3, .int .u8 a0_4, .int .u8 a0_5, .int .u8 a0_6, .int .u8 a0_7, .int .u8 a0_8, .int .u8 a0_9, .int .u8 a0_10, .int .u8 a0_11]) (t := 24) ?hr ?_; (case hd => rfl); (case hg => rfl); (case hr => first | (go_simp; done) | (go_simp; rfl)); intro gb283 hg w9 hbox hb; have n0_ := Aside0.mk (below_step (by repeat (first | (with_reducible first | exact HB.out | apply below_alloc | apply pw_below_drewN | apply below_drew1) | exact HB.out)) hb); have n1_ := Aside0.mk (hbox); have n2_ := Aside0.mk ((by rw [hg]; exact (below_size (by repeat (first | (with_reducible first | exact HB.out | apply below_alloc | apply pw_below_drewN | apply below_drew1) | exact HB.out))) : w.heap.size ≤ gb283)); have n3_ := Aside0.mk ((by rw [hg]; exact (below_size (by repeat (first | (with_reducible first | exact HB.out | apply below_alloc | apply pw_below_drewN | apply below_drew1) | exact HB.out))) : w.heap.size ≤ gb283)); clear HB; have HB := n0_; have BK283 := n1_; have GW283 := n2_; have GE283 := n3_; clear n0_ n1_ n2_ n3_; clear hb hbox hg) | ((with_reducible refine gate_dst (N := 5) rfl ?_); refine box_event ?hg (N := 5) ?hd (cs := #[.bool a2_0, .bool a2_1, .slice A2_2 l2_2.length c2_2, .slice A2_3 l2_3.length c2_3]) (t := 29) ?hr ?_; (case hd => rfl); (case hg => rfl); (case hr => first | (go_simp; done) | (go_simp; rfl)); intro gb284 hg w10 hbox hb; have n0_ := Aside0.mk (blk_below (g := gb283) (o := .cells #[.int .u8 a0_0, .int .u8 a0_1, .int .u8 a0_2, .int .u8 a0_3, .int .u8 a0_4, .int .u8 a0_5, .int .u8 a0_6, .int .u8 a0_7, .int .u8 a0_8, .int .u8 a0_9, .int .u8 a0_10, .int .u8 a0_11] 24 (0, 0)) (by (with_reducible repeat (first | refine blk_drewN ?_ _ | refine blk_drew ?_ | refine blk_alloc ?_ _)); exact BK283.out) hb); have n1_ := Aside0.mk (below_step (by repeat (first | (with_reducible first | exact HB.out | apply below_alloc | apply pw_below_drewN | apply below_drew1 | refine below_set ?_ GE283.out) | exact HB.out)) hb); have n2_ := Aside0.mk (hbox); have n3_ := Aside0.mk ((by rw [hg]; exact (below_size (by repeat (first | (with_reducible first | exact HB.out | apply below_alloc | apply pw_below_drewN | apply below_drew1 | refine below_set ?_ GE283.out) | exact HB.out))) : w.heap.size ≤ gb284)); have n4_ := Aside0.mk ((by rw [hg]; exact (below_size (by repeat (first | (with_reducible first | exact HB.out | apply below_alloc | apply pw_below_drewN | apply below_drew1 | refine below_set ?_ GE283.out) | exact HB.out))) : w.heap.size ≤ gb284)); have n5_ := Aside0.mk ((by rw [hg]; exact Nat.ne_of_lt (blk_lt (g := gb283) (o := .cells #[.int .u8 a0_0, .int .u8 a0_1, .int .u8 a0_2, .int .u8 a0_3, .int .u8 a0_4, .int .u8 a0_5, .int .u8 a0_6, .int .u8 a0_7, .int .u8 a0_8, .int .u8 a0_9, .int .u8 a0_10, .int .u8 a0_11] 24 (0, 0)) (by (with_reducible repeat (first | refine blk_drewN ?_ _ | refine blk_drew ?_ | refine blk_alloc ?_ _)); exact BK283.out)) : gb283 ≠ gb284)); have n6_ := Aside0.mk ((by rw [hg]; exact Nat.ne_of_gt (blk_lt (g := gb283) (o := .cells #[.int .u8 a0_0, .int .u8 a0_1, .int .u8 a0_2, .int .u8 a0_3, .int .u8 a0_4, .int .u8 a0_5, .int .u8 a0_6, .int .u8 a0_7, .int .u8 a0_8, .int .u8 a0_9, .int .u8 a0_10, .int .u8 a0_11] 24 (0, 0)) (by (with_reducible repeat (first | refine blk_drewN ?_ _ | refine blk_drew ?_ | refine blk_alloc ?_ _)); exact BK283.out)) : gb284 ≠ gb283)); clear BK283; clear HB; have BK283 := n0_; have HB := n1_; have BK284 := n2_; have GW284 := n3_; have GE284 := n4_; have NB283_284 := n5_; have NB284_283 := n6_; clear n0_ n1_ n2_ n3_ n4_ n5_ n6_; clear hb hbox hg) | ((with_reducible refine gate_callee (f := 7) rfl ?_); refine goesL_ (some 17) rfl rfl Try.func7 (by kernel_rfl) rfl #[] rfl (by (try simp only [List.map_toArray, List.map_cons, List.map_nil]); first | done | rfl | (simp only [List.length_drop, List.length_take]; rfl)) ?_; (with_reducible refine (thresherlaw12_shown.calls k  t285 _ A4.out).mono ?_); rintro e w11 ⟨rfl, hb⟩; refine ⟨_, rfl, ?_⟩; have n0_ := Aside0.mk (blk_below (g := gb283) (o := .cells #[.int .u8 a0_0, .int .u8 a0_1, .int .u8 a0_2, .int .u8 a0_3, .int .u8 a0_4, .int .u8 a0_5, .int .u8 a0_6, .int .u8 a0_7, .int .u8 a0_8, .int .u8 a0_9, .int .u8 a0_10, .int .u8 a0_11] 24 (0, 0)) (by (with_reducible repeat (first | refine blk_drewN ?_ _ | refine blk_drew ?_ | refine blk_alloc ?_ _)); exact BK283.out) hb); have n1_ := Aside0.mk (blk_below (g := gb284) (o := .cells #[.bool a2_0, .bool a2_1, .slice A2_2 l2_2.length c2_2, .slice A2_3 l2_3.length c2_3] 29 (0, 0)) (by (with_reducible repeat (first | refine blk_drewN ?_ _ | refine blk_drew ?_ | refine blk_alloc ?_ _)); exact BK284.out) hb); have n2_ := Aside0.mk (below_step (by repeat (first | (with_reducible first | exact HB.out | apply below_alloc | apply pw_below_drewN | apply below_drew1 | refine below_set ?_ GE283.out | refine below_set ?_ GE284.out) | exact HB.out)) hb); clear BK283; clear BK284; clear HB; have BK283 := n0_; have BK284 := n1_; have HB := n2_; clear n0_ n1_ n2_; (try clear hb); (try clear hb2); (try clear hk); (try clear hi); have hnb12 := NB283_284.out; have hnc12 := NB284_283.out; have hcz13_0 : w11.cell? ⟨gb283, 0, none⟩ = some (.int .u8 a0_0) := (blk_cell BK283.out 0).trans rfl; have hcz13_1 : w11.cell? ⟨gb283, 1, none⟩ = some (.int .u8 a0_1) := (blk_cell BK283.out 1).trans rfl; have hcz13_2 : w11.cell? ⟨gb283, 2, none⟩ = some (.int .u8 a0_2) := (blk_cell BK283.out 2).trans rfl; have hcz13_3 : w11.cell? ⟨gb283, 3, none⟩ = some (.int .u8 a0_3) := (blk_cell BK283.out 3).trans rfl; have hcz13_4 : w11.cell? ⟨gb283, 4, none⟩ = some (.int .u8 a0_4) := (blk_cell BK283.out 4).trans rfl; have hcz13_5 : w11.cell? ⟨gb283, 5, none⟩ = some (.int .u8 a0_5) := (blk_cell BK283.out 5).trans rfl; have hcz13_6 : w11.cell? ⟨gb283, 6, none⟩ = some (.int .u8 a0_6) := (blk_cell BK283.out 6).trans rfl; have hcz13_7 : w11.cell? ⟨gb283, 7, none⟩ = some (.int .u8 a0_7) := (blk_cell BK283.out 7).trans rfl; have hcz13_8 : w11.cell? ⟨gb283, 8, none⟩ = some (.int .u8 a0_8) := (blk_cell BK283.out 8).trans rfl; have hcz13_9 : w11.cell? ⟨gb283, 9, none⟩ = some (.int .u8 a0_9) := (blk_cell BK283.out 9).trans rfl; have hcz13_10 : w11.cell? ⟨gb283, 10, none⟩ = some (.int .u8 a0_10) := (blk_cell BK283.out 10).trans rfl; have hcz13_11 : w11.cell? ⟨gb283, 11, none⟩ = some (.int .u8 a0_11) := (blk_cell BK283.out 11).trans rfl; have hfz13_0 := blk_frozen BK283.out 0; have hfz13_1 := blk_frozen BK283.out 1; have hfz13_2 := blk_frozen BK283.out 2; have hfz13_3 := blk_frozen BK283.out 3; have hfz13_4 := blk_frozen BK283.out 4; have hfz13_5 := blk_frozen BK283.out 5; have hfz13_6 := blk_frozen BK283.out 6; have hfz13_7 := blk_frozen BK283.out 7; have hfz13_8 := blk_frozen BK283.out 8; have hfz13_9 := blk_frozen BK283.out 9; have hfz13_10 := blk_frozen BK283.out 10; have hfz13_11 := blk_frozen BK283.out 11) | ((with_reducible refine gate_callee (f := 8) rfl ?_); refine goesL_ (some 19) rfl rfl Try.func8 (by kernel_rfl) rfl #[.agg #[.int .u8 a0_0, .int .u8 a0_1, .int .u8 a0_2, .int .u8 a0_3, .int .u8 a0_4, .int .u8 a0_5, .int .u8 a0_6, .int .u8 a0_7, .int .u8 a0_8, .int .u8 a0_9, .int .u8 a0_10, .int .u8 a0_11]] rfl (by (try simp only [List.map_toArray, List.map_cons, List.map_nil]); first | done | rfl | (simp only [List.length_drop, List.length_take]; rfl)) ?_; (with_reducible refine (thresherlaw12_made.calls k a0_0 a0_1 a0_2 a0_3 a0_4 a0_5 a0_6 a0_7 a0_8 a0_9 a0_10 a0_11 t286 t289 t290 t291 _ A5.out).mono ?_); rintro e w14 ⟨v287, rfl, ho0, hb⟩; refine ⟨_, rfl, ?_⟩; have n0_ := Aside0.mk (Kd.R_lower ho0 (below_size (by repeat (first | (with_reducible first | exact HB.out | apply below_alloc | apply pw_below_drewN | apply below_drew1 | refine below_set ?_ GE283.out | refine below_set ?_ GE284.out) | exact HB.out)))); have n1_ := Aside0.mk (blk_below (g := gb283) (o := .cells #[.int .u8 a0_0, .int .u8 a0_1, .int .u8 a0_2, .int .u8 a0_3, .int .u8 a0_4, .int .u8 a0_5, .int .u8 a0_6, .int .u8 a0_7, .int .u8 a0_8, .int .u8 a0_9, .int .u8 a0_10, .int .u8 a0_11] 24 (0, 0)) (by (with_reducible repeat (first | refine blk_drewN ?_ _ | refine blk_drew ?_ | refine blk_alloc ?_ _)); exact BK283.out) hb); have n2_ := Aside0.mk (blk_below (g := gb284) (o := .cells #[.bool a2_0, .bool a2_1, .slice A2_2 l2_2.length c2_2, .slice A2_3 l2_3.length c2_3] 29 (0, 0)) (by (with_reducible repeat (first | refine blk_drewN ?_ _ | refine blk_drew ?_ | refine blk_alloc ?_ _)); exact BK284.out) hb); have n3_ := Aside0.mk (below_step (by repeat (first | (with_reducible first | exact HB.out | apply below_alloc | apply pw_below_drewN | apply below_drew1 | refine below_set ?_ GE283.out | refine below_set ?_ GE284.out) | exact HB.out)) hb); clear BK283; clear BK284; clear HB; have HO288 := n0_; have BK283 := n1_; have BK284 := n2_; have HB := n3_; clear n0_ n1_ n2_ n3_; (try clear hb); (try clear hb2); (try clear hk); (try clear hi); (try clear ho0)) | ((with_reducible refine gate_dst (N := 8) rfl ?_); refine box_event ?hg (N := 8) ?hd (cs := #[.slice none 0 0, .int .i64 0, .int .i64 0, .int .i64 0]) (t := 33) ?hr ?_; (case hd => rfl); (case hg => rfl); (case hr => first | (go_simp; done) | (go_simp; rfl)); intro gb292 hg w15 hbox hb; have n0_ := Aside0.mk (Kd.R_below (by (with_reducible repeat (first | apply Kd.R_alloc | apply Kd.R_drewN | apply Kd.R_drew)); exact HO288.out) hb); have n1_ := Aside0.mk (blk_below (g := gb283) (o := .cells #[.int .u8 a0_0, .int .u8 a0_1, .int .u8 a0_2, .int .u8 a0_3, .int .u8 a0_4, .int .u8 a0_5, .int .u8 a0_6, .int .u8 a0_7, .int .u8 a0_8, .int .u8 a0_9, .int .u8 a0_10, .int .u8 a0_11] 24 (0, 0)) (by (with_reducible repeat (first | refine blk_drewN ?_ _ | refine blk_drew ?_ | refine blk_alloc ?_ _)); exact BK283.out) hb); have n2_ := Aside0.mk (blk_below (g := gb284) (o := .cells #[.bool a2_0, .bool a2_1, .slice A2_2 l2_2.length c2_2, .slice A2_3 l2_3.length c2_3] 29 (0, 0)) (by (with_reducible repeat (first | refine blk_drewN ?_ _ | refine blk_drew ?_ | refine blk_alloc ?_ _)); exact BK284.out) hb); have n3_ := Aside0.mk (below_step (by repeat (first | (with_reducible first | exact HB.out | apply below_alloc | apply pw_below_drewN | apply below_drew1 | refine below_set ?_ GE283.out | refine below_set ?_ GE284.out) | exact HB.out)) hb); have n4_ := Aside0.mk (hbox); have n5_ := Aside0.mk ((by rw [hg]; exact (below_size (by repeat (first | (with_reducible first | exact HB.out | apply below_alloc | apply pw_below_drewN | apply below_drew1 | refine below_set ?_ GE283.out | refine below_set ?_ GE284.out) | exact HB.out))) : w.heap.size ≤ gb292)); have n6_ := Aside0.mk ((by rw [hg]; exact (below_size (by repeat (first | (with_reducible first | exact HB.out | apply below_alloc | apply pw_below_drewN | apply below_drew1 | refine below_set ?_ GE283.out | refine below_set ?_ GE284.out) | exact HB.out))) : w.heap.size ≤ gb292)); have n7_ := Aside0.mk ((by rw [hg]; exact Nat.ne_of_lt (blk_lt (g := gb283) (o := .cells #[.int .u8 a0_0, .int .u8 a0_1, .int .u8 a0_2, .int .u8 a0_3, .int .u8 a0_4, .int .u8 a0_5, .int .u8 a0_6, .int .u8 a0_7, .int .u8 a0_8, .int .u8 a0_9, .int .u8 a0_10, .int .u8 a0_11] 24 (0, 0)) (by (with_reducible repeat (first | refine blk_drewN ?_ _ | refine blk_drew ?_ | refine blk_alloc ?_ _)); exact BK283.out)) : gb283 ≠ gb292)); have n8_ := Aside0.mk ((by rw [hg]; exact Nat.ne_of_gt (blk_lt (g := gb283) (o := .cells #[.int .u8 a0_0, .int .u8 a0_1, .int .u8 a0_2, .int .u8 a0_3, .int .u8 a0_4, .int .u8 a0_5, .int .u8 a0_6, .int .u8 a0_7, .int .u8 a0_8, .int .u8 a0_9, .int .u8 a0_10, .int .u8 a0_11] 24 (0, 0)) (by (with_reducible repeat (first | refine blk_drewN ?_ _ | refine blk_drew ?_ | refine blk_alloc ?_ _)); exact BK283.out)) : gb292 ≠ gb283)); have n9_ := Aside0.mk ((by rw [hg]; exact Nat.ne_of_lt (blk_lt (g := gb284) (o := .cells #[.bool a2_0, .bool a2_1, .slice A2_2 l2_2.length c2_2, .slice A2_3 l2_3.length c2_3] 29 (0, 0)) (by (with_reducible repeat (first | refine blk_drewN ?_ _ | refine blk_drew ?_ | refine blk_alloc ?_ _)); exact BK284.out)) : gb284 ≠ gb292)); have n10_ := Aside0.mk ((by rw [hg]; exact Nat.ne_of_gt (blk_lt (g := gb284) (o := .cells #[.bool a2_0, .bool a2_1, .slice A2_2 l2_2.length c2_2, .slice A2_3 l2_3.length c2_3] 29 (0, 0)) (by (with_reducible repeat (first | refine blk_drewN ?_ _ | refine blk_drew ?_ | refine blk_alloc ?_ _)); exact BK284.out)) : gb292 ≠ gb284)); clear HO288; clear BK283; clear BK284; clear HB; have HO288 := n0_; have BK283 := n1_; have BK284 := n2_; have HB := n3_; have BK292 := n4_; have GW292 := n5_; have GE292 := n6_; have NB283_292 := n7_; have NB292_283 := n8_; have NB284_292 := n9_; have NB292_284 := n10_; clear n0_ n1_ n2_ n3_ n4_ n5_ n6_ n7_ n8_ n9_ n10_; clear hb hbox hg; obtain ⟨Ao16, co16, eo16⟩ := Kd.R_slice HO288.out; subst eo16; have hnb17 := NB292_283.out; have hnc17 := NB283_292.out; have hnb18 := NB292_284.out; have hnc18 := NB284_292.out; have hcz19_0 : w15.cell? ⟨gb292, 0, none⟩ = some (.slice none 0 0) := (blk_cell BK292.out 0).trans rfl; have hcz19_1 : w15.cell? ⟨gb292, 1, none⟩ = some (.int .i64 0) := (blk_cell BK292.out 1).trans rfl; have hcz19_2 : w15.cell? ⟨gb292, 2, none⟩ = some (.int .i64 0) := (blk_cell BK292.out 2).trans rfl; have hcz19_3 : w15.cell? ⟨gb292, 3, none⟩ = some (.int .i64 0) := (blk_cell BK292.out 3).trans rfl; have hfz19_0 := blk_frozen BK292.out 0; have hfz19_1 := blk_frozen BK292.out 1; have hfz19_2 := blk_frozen BK292.out 2; have hfz19_3 := blk_frozen BK292.out 3))
 have n0_ : Aside0 (Kd.R (Kd.int .i64) 3 ((((w15.setCell ⟨gb292, 0, none⟩ (.slice Ao16 t286.length co16)).setCell ⟨gb292, 1, none⟩ (.int .i64 t289)).setCell ⟨gb292, 2, none⟩ (.int .i64 t290)).setCell ⟨gb292, 3, none⟩ (.int .i64 t291)) w.heap.size (fun _ => True) (.slice Ao16 t286.length co16) t286) := ⟨by (with_reducible repeat (first | apply Kd.R_alloc | apply Kd.R_drewN | apply Kd.R_drew)); exact Kd.R_mono (Kd.R_far (p := ⟨gb292, 3, none⟩) (Kd.R_far (p := ⟨gb292, 2, none⟩) (Kd.R_far (p := ⟨gb292, 1, none⟩) (Kd.R_far (p := ⟨gb292, 0, none⟩) (Kd.R_types HO288.out BK292.out (by decide)) (fun _ hk => hk.2) (.slice Ao16 t286.length co16)) (fun _ hk => hk.2) (.int .i64 t289)) (fun _ hk => hk.2) (.int .i64 t290)) (fun _ hk => hk.2) (.int .i64 t291)) (fun _ hk => trivial)⟩
 have n1_ : Aside0 (((((w15.setCell ⟨gb292, 0, none⟩ (.slice Ao16 t286.length co16)).setCell ⟨gb292, 1, none⟩ (.int .i64 t289)).setCell ⟨gb292, 2, none⟩ (.int .i64 t290)).setCell ⟨gb292, 3, none⟩ (.int .i64 t291)).heap[gb283]? = some (.cells #[.int .u8 a0_0, .int .u8 a0_1, .int .u8 a0_2, .int .u8 a0_3, .int .u8 a0_4, .int .u8 a0_5, .int .u8 a0_6, .int .u8 a0_7, .int .u8 a0_8, .int .u8 a0_9, .int .u8 a0_10, .int .u8 a0_11] 24 (0, 0))) := ⟨by (with_reducible repeat (first | refine blk_drewN ?_ _ | refine blk_drew ?_ | refine blk_alloc ?_ _)); refine blk_far ?_ NB283_292.out _; (with_reducible repeat (first | refine blk_drewN ?_ _ | refine blk_drew ?_ | refine blk_alloc ?_ _)); refine blk_far ?_ NB283_292.out _; (with_reducible repeat (first | refine blk_drewN ?_ _ | refine blk_drew ?_ | refine blk_alloc ?_ _)); refine blk_far ?_ NB283_292.out _; (with_reducible repeat (first | refine blk_drewN ?_ _ | refine blk_drew ?_ | refine blk_alloc ?_ _)); refine blk_far ?_ NB283_292.out _; (with_reducible repeat (first | refine blk_drewN ?_ _ | refine blk_drew ?_ | refine blk_alloc ?_ _)); exact BK283.out⟩
 have n2_ : Aside0 (((((w15.setCell ⟨gb292, 0, none⟩ (.slice Ao16 t286.length co16)).setCell ⟨gb292, 1, none⟩ (.int .i64 t289)).setCell ⟨gb292, 2, none⟩ (.int .i64 t290)).setCell ⟨gb292, 3, none⟩ (.int .i64 t291)).heap[gb284]? = some (.cells #[.bool a2_0, .bool a2_1, .slice A2_2 l2_2.length c2_2, .slice A2_3 l2_3.length c2_3] 29 (0, 0))) := ⟨by (with_reducible repeat (first | refine blk_drewN ?_ _ | refine blk_drew ?_ | refine blk_alloc ?_ _)); refine blk_far ?_ NB284_292.out _; (with_reducible repeat (first | refine blk_drewN ?_ _ | refine blk_drew ?_ | refine blk_alloc ?_ _)); refine blk_far ?_ NB284_292.out _; (with_reducible repeat (first | refine blk_drewN ?_ _ | refine blk_drew ?_ | refine blk_alloc ?_ _)); refine blk_far ?_ NB284_292.out _; (with_reducible repeat (first | refine blk_drewN ?_ _ | refine blk_drew ?_ | refine blk_alloc ?_ _)); refine blk_far ?_ NB284_292.out _; (with_reducible repeat (first | refine blk_drewN ?_ _ | refine blk_drew ?_ | refine blk_alloc ?_ _)); exact BK284.out⟩
 have n3_ : Aside0 (((((w15.setCell ⟨gb292, 0, none⟩ (.slice Ao16 t286.length co16)).setCell ⟨gb292, 1, none⟩ (.int .i64 t289)).setCell ⟨gb292, 2, none⟩ (.int .i64 t290)).setCell ⟨gb292, 3, none⟩ (.int .i64 t291)).heap[gb292]? = some (.cells #[.slice Ao16 t286.length co16, .int .i64 t289, .int .i64 t290, .int .i64 t291] 33 (0, 0))) := ⟨by (with_reducible repeat (first | refine blk_drewN ?_ _ | refine blk_drew ?_ | refine blk_alloc ?_ _)); refine blk_put (cs := #[.slice Ao16 t286.length co16, .int .i64 t289, .int .i64 t290, .int .i64 0]) ?_ 3 _ rfl; (with_reducible repeat (first | refine blk_drewN ?_ _ | refine blk_drew ?_ | refine blk_alloc ?_ _)); refine blk_put (cs := #[.slice Ao16 t286.length co16, .int .i64 t289, .int .i64 0, .int .i64 0]) ?_ 2 _ rfl; (with_reducible repeat (first | refine blk_drewN ?_ _ | refine blk_drew ?_ | refine blk_alloc ?_ _)); refine blk_put (cs := #[.slice Ao16 t286.length co16, .int .i64 0, .int .i64 0, .int .i64 0]) ?_ 1 _ rfl; (with_reducible repeat (first | refine blk_drewN ?_ _ | refine blk_drew ?_ | refine blk_alloc ?_ _)); refine blk_put (cs := #[.slice none 0 0, .int .i64 0, .int .i64 0, .int .i64 0]) ?_ 0 _ rfl; (with_reducible repeat (first | refine blk_drewN ?_ _ | refine blk_drew ?_ | refine blk_alloc ?_ _)); exact BK292.out⟩
 have n4_ : Aside0 (Below w.heap.size w ((((w15.setCell ⟨gb292, 0, none⟩ (.slice Ao16 t286.length co16)).setCell ⟨gb292, 1, none⟩ (.int .i64 t289)).setCell ⟨gb292, 2, none⟩ (.int .i64 t290)).setCell ⟨gb292, 3, none⟩ (.int .i64 t291))) := ⟨by repeat (first | (with_reducible first | exact HB.out | apply below_alloc | apply pw_below_drewN | apply below_drew1 | refine below_set ?_ GE283.out | refine below_set ?_ GE284.out | refine below_set ?_ GE292.out) | exact HB.out)⟩
 (try clear HO288)
 (try clear BK283)
 (try clear BK284)
 (try clear BK292)
 (try clear HB)
 generalize ((((w15.setCell ⟨gb292, 0, none⟩ (.slice Ao16 t286.length co16)).setCell ⟨gb292, 1, none⟩ (.int .i64 t289)).setCell ⟨gb292, 2, none⟩ (.int .i64 t290)).setCell ⟨gb292, 3, none⟩ (.int .i64 t291)) = w20 at n0_ n1_ n2_ n3_ n4_ ⊢
 have HO288 := n0_
 have BK283 := n1_
 have BK284 := n2_
 have BK292 := n3_
 have HB := n4_
 clear n0_ n1_ n2_ n3_ n4_
 have n0_ := Aside0.mk (Kd.R_drew HO288.out)
 have n1_ := Aside0.mk (blk_drew BK283.out)
 have n2_ := Aside0.mk (blk_drew BK284.out)
 have n3_ := Aside0.mk (blk_drew BK292.out)
 have n4_ := Aside0.mk (below_drew1 HB.out)
 clear HO288
 clear BK283
 clear BK284
 clear BK292
 clear HB
 have HO288 := n0_
 have BK283 := n1_
 have BK284 := n2_
 have BK292 := n3_
 have HB := n4_
 clear n0_ n1_ n2_ n3_ n4_
 refine start_ (n := 6) (S := fun w' => w'.cell? ⟨gb292, 0, none⟩ = some (.slice Ao16 t286.length co16) ∧ w'.cell? ⟨gb292, 1, none⟩ = some (.int .i64 t289) ∧ w'.cell? ⟨gb292, 2, none⟩ = some (.int .i64 t290) ∧ w'.cell? ⟨gb292, 3, none⟩ = some (.int .i64 t291)) (ds := []) #[false, false, false, false, false, false] (by kernel_rfl) rfl rfl ⟨(blk_cell BK292.out 0).trans rfl, (blk_cell BK292.out 1).trans rfl, (blk_cell BK292.out 2).trans rfl, (blk_cell BK292.out 3).trans rfl⟩ (fun hHeld => ?_)
 generalize w20.drew = w21 at HO288 BK283 BK284 BK292 HB hHeld ⊢
 refine pure_ (i := 2) (N := some 22) (v := ?_) (a' := ?_) #[false, false, true, false, false, false] rfl rfl (by kernel_rfl) (fun _ _ _ h => h) (Or.inl ⟨by rfl, ?_⟩) ?_ ?_
 rotate_left; (intro w'; go_simp; with_reducible rfl); rotate_left; (simp only [Act.put, List.setIfInBounds_toArray, List.set_cons_zero, List.set_cons_succ, i64_w, i32_w]; rfl)
 refine take_ (i := 0) (N := some 20) (v := ?_) (a' := ?_) #[true, false, true, false, false, false] rfl rfl (by kernel_rfl) (fun _ _ _ h => h) (Or.inl ⟨by rfl, ?_⟩) hHeld ?_ ?_
 rotate_left; (rintro w' ⟨s0, s1, s2, s3⟩; go_simp; with_reducible rfl); rotate_left; (simp only [Act.put, List.setIfInBounds_toArray, List.set_cons_zero, List.set_cons_succ, i64_w, i32_w]; rfl)
 refine take_ (i := 1) (N := some 21) (v := ?_) (a' := ?_) #[true, true, true, false, false, false] rfl rfl (by kernel_rfl) (fun _ _ _ h => h) (Or.inl ⟨by rfl, ?_⟩) hHeld ?_ ?_
 rotate_left; (rintro w' ⟨s0, s1, s2, s3⟩; go_simp; with_reducible rfl); rotate_left; (simp only [Act.put, List.setIfInBounds_toArray, List.set_cons_zero, List.set_cons_succ, i64_w, i32_w]; rfl)
 refine one_ (i := 3) (N := some 23) #[true, true, true, true, false, false] rfl rfl (by kernel_rfl) (by decide) (fun K hK => ?_)
 refine goes_ Try.func10 (by kernel_rfl) rfl #[.agg #[.slice Ao16 t286.length co16, .int .i64 t289, .int .i64 t290, .int .i64 t291], .slice A1 l1.length c1, .int .i64 60] (by rfl) rfl rfl (by (try simp only [List.map_toArray, List.map_cons, List.map_nil]); first | done | rfl | (simp only [List.length_drop, List.length_take]; rfl)) ?_
 with_reducible refine (thresherref04_Fits.calls k _ _ t286 t289 t290 t291 _ _ l1 60 t293 _ ?side1 ?side2 ?side3 ?side4 A6.out).mono ?_
 (case side1 => repeat (first | exact (Kd.R_reads' HO288.out).2.2 | (with_reducible refine Kd.C_alloc ?_ _) | (with_reducible refine Kd.C_drewN ?_ _) | (with_reducible refine Kd.C_drew ?_)))
 (case side2 => exact (Kd.R_reads' HO288.out).2.1)
 (case side3 => repeat (first | exact (Kd.C_below HR1.out HB.out) | (with_reducible refine Kd.C_alloc ?_ _) | (with_reducible refine Kd.C_drewN ?_ _) | (with_reducible refine Kd.C_drew ?_)))
 (case side4 => exact HC1.out)
 rintro e w22 ⟨v294, rfl, ho0, hb⟩
 refine ⟨_, rfl, ?_⟩
 have n0_ := Aside0.mk (Kd.R_below (by (with_reducible repeat (first | apply Kd.R_alloc | apply Kd.R_drewN | apply Kd.R_drew)); exact HO288.out) hb)
 have n1_ := Aside0.mk (Kd.N_lower (Kd.N_mono (ok' := fun k_ => some k_ ≠ (.slice Ao16 t286.length co16 : Value).ownBlock ∧ k_ ≠ gb283 ∧ k_ ≠ gb284 ∧ k_ ≠ gb292) (Kd.S_N (Kd.S_bound ho0)) (fun k_ hk_ => ⟨(Kd.fresh' (Kd.R_lt (by (with_reducible repeat (first | apply Kd.R_alloc | apply Kd.R_drewN | apply Kd.R_drew)); exact HO288.out)) k_ hk_.2.1), (Kd.freshB (g := gb283) (o := .cells #[.int .u8 a0_0, .int .u8 a0_1, .int .u8 a0_2, .int .u8 a0_3, .int .u8 a0_4, .int .u8 a0_5, .int .u8 a0_6, .int .u8 a0_7, .int .u8 a0_8, .int .u8 a0_9, .int .u8 a0_10, .int .u8 a0_11] 24 (0, 0)) (by (with_reducible repeat (first | refine blk_drewN ?_ _ | refine blk_drew ?_ | refine blk_alloc ?_ _)); exact BK283.out) k_ hk_.2.1), (Kd.freshB (g := gb284) (o := .cells #[.bool a2_0, .bool a2_1, .slice A2_2 l2_2.length c2_2, .slice A2_3 l2_3.length c2_3] 29 (0, 0)) (by (with_reducible repeat (first | refine blk_drewN ?_ _ | refine blk_drew ?_ | refine blk_alloc ?_ _)); exact BK284.out) k_ hk_.2.1), (Kd.freshB (g := gb292) (o := .cells #[.slice Ao16 t286.length co16, .int .i64 t289, .int .i64 t290, .int .i64 t291] 33 (0, 0)) (by (with_reducible repeat (first | refine blk_drewN ?_ _ | refine blk_drew ?_ | refine blk_alloc ?_ _)); exact BK292.out) k_ hk_.2.1)⟩)) (below_size (by repeat (first | (with_reducible first | exact HB.out | apply below_alloc | apply pw_below_drewN | apply below_drew1 | refine below_set ?_ GE283.out | refine below_set ?_ GE284.out | refine below_set ?_ GE292.out) | exact HB.out))))
 have n2_ := Aside0.mk (blk_below (g := gb283) (o := .cells #[.int .u8 a0_0, .int .u8 a0_1, .int .u8 a0_2, .int .u8 a0_3, .int .u8 a0_4, .int .u8 a0_5, .int .u8 a0_6, .int .u8 a0_7, .int .u8 a0_8, .int .u8 a0_9, .int .u8 a0_10, .int .u8 a0_11] 24 (0, 0)) (by (with_reducible repeat (first | refine blk_drewN ?_ _ | refine blk_drew ?_ | refine blk_alloc ?_ _)); exact BK283.out) hb)
 have n3_ := Aside0.mk (blk_below (g := gb284) (o := .cells #[.bool a2_0, .bool a2_1, .slice A2_2 l2_2.length c2_2, .slice A2_3 l2_3.length c2_3] 29 (0, 0)) (by (with_reducible repeat (first | refine blk_drewN ?_ _ | refine blk_drew ?_ | refine blk_alloc ?_ _)); exact BK284.out) hb)
 have n4_ := Aside0.mk (blk_below (g := gb292) (o := .cells #[.slice Ao16 t286.length co16, .int .i64 t289, .int .i64 t290, .int .i64 t291] 33 (0, 0)) (by (with_reducible repeat (first | refine blk_drewN ?_ _ | refine blk_drew ?_ | refine blk_alloc ?_ _)); exact BK292.out) hb)
 have n5_ := Aside0.mk (below_step (by repeat (first | (with_reducible first | exact HB.out | apply below_alloc | apply pw_below_drewN | apply below_drew1 | refine below_set ?_ GE283.out | refine below_set ?_ GE284.out | refine below_set ?_ GE292.out) | exact HB.out)) hb)
 clear HO288
 clear BK283
 clear BK284
 clear BK292
 clear HB
 have HO288 := n0_
 have HO295 := n1_
 have BK283 := n2_
 have BK284 := n3_
 have BK292 := n4_
 have HB := n5_
 clear n0_ n1_ n2_ n3_ n4_ n5_
 (try clear hb)
 (try clear hb2)
 (try clear hk)
 (try clear hi)
 (try clear ho0)
 obtain ⟨Ao23, co23, eo23⟩ := Kd.N_slice HO295.out
 (first | subst eo23 | (injection eo23 with f1_ f2_ f3_; have f4_ := f1_.symm; have f5_ := f3_.symm; clear f1_ f2_ f3_; subst f4_; subst f5_))
 refine hK.out _ _ ⟨(blk_cell BK292.out 0).trans rfl, (blk_cell BK292.out 1).trans rfl, (blk_cell BK292.out 2).trans rfl, (blk_cell BK292.out 3).trans rfl⟩ (fun hHeld => ?_)
 clear hK K
 refine norm_ (a' := ?_) ?_ ?_
 rotate_left
 ·show Act.put _ (some 23) _ = _
  simp only [Act.put, List.setIfInBounds_toArray, List.set_cons_zero, List.set_cons_succ, i64_w, i32_w]
  rfl
 refine one_ (i := 4) (N := some 24) #[true, true, true, true, true, false] rfl rfl (by kernel_rfl) (by decide) (fun K hK => ?_)
 refine goes_ Try.func9 (by kernel_rfl) rfl #[.agg #[.slice Ao16 t286.length co16, .int .i64 t289, .int .i64 t290, .int .i64 t291], .slice Ao23 t293.length co23] (by rfl) rfl rfl (by (try simp only [List.map_toArray, List.map_cons, List.map_nil]); first | done | rfl | (simp only [List.length_drop, List.length_take]; rfl)) ?_
 with_reducible refine (thresherref09_Sort.calls k _ _ t286 t289 t290 t291 (fun k_ => (some k_ ≠ (.slice Ao16 t286.length co16 : Value).ownBlock ∧ (k_ ≠ gb283 ∧ (k_ ≠ gb284 ∧ k_ ≠ gb292)))) _ _ t293 t296 _ ?side1 ?side2 ?side3 A7.out).mono ?_
 (case side1 => repeat (first | exact (Kd.R_reads' HO288.out).2.2 | (with_reducible refine Kd.C_alloc ?_ _) | (with_reducible refine Kd.C_drewN ?_ _) | (with_reducible refine Kd.C_drew ?_)))
 (case side2 => exact (Kd.R_reads' HO288.out).2.1)
 (case side3 => exact Kd.N_V (HO295.out))
 rintro e w24 ⟨v297, rfl, ho0, hb⟩
 refine ⟨_, rfl, ?_⟩
 have n0_ := Aside0.mk (Kd.R_below (by (with_reducible repeat (first | apply Kd.R_alloc | apply Kd.R_drewN | apply Kd.R_drew)); exact HO288.out) hb)
 have n1_ := Aside0.mk (Kd.N_elder' (by (with_reducible repeat (first | apply Kd.N_alloc | apply Kd.N_drewN | apply Kd.N_drew)); exact HO295.out) (by first | exact Kd.N_base ho0 | exact Kd.S_base ho0) hb)
 have n2_ := Aside0.mk (Kd.N_lower (Kd.N_mono (ok' := fun k_ => some k_ ≠ (.slice Ao16 t286.length co16 : Value).ownBlock ∧ k_ ≠ gb283 ∧ k_ ≠ gb284 ∧ k_ ≠ gb292) ho0 (fun k_ hk_ => ⟨Or.elim hk_ (fun hs_ => hs_.1) (fun hn_ => (Kd.fresh' (Kd.R_lt (by (with_reducible repeat (first | apply Kd.R_alloc | apply Kd.R_drewN | apply Kd.R_drew)); exact HO288.out)) k_ hn_)), Or.elim hk_ (fun hs_ => hs_.2.1) (fun hn_ => (Kd.freshB (g := gb283) (o := .cells #[.int .u8 a0_0, .int .u8 a0_1, .int .u8 a0_2, .int .u8 a0_3, .int .u8 a0_4, .int .u8 a0_5, .int .u8 a0_6, .int .u8 a0_7, .int .u8 a0_8, .int .u8 a0_9, .int .u8 a0_10, .int .u8 a0_11] 24 (0, 0)) (by (with_reducible repeat (first | refine blk_drewN ?_ _ | refine blk_drew ?_ | refine blk_alloc ?_ _)); exact BK283.out) k_ hn_)), Or.elim hk_ (fun hs_ => hs_.2.2.1) (fun hn_ => (Kd.freshB (g := gb284) (o := .cells #[.bool a2_0, .bool a2_1, .slice A2_2 l2_2.length c2_2, .slice A2_3 l2_3.length c2_3] 29 (0, 0)) (by (with_reducible repeat (first | refine blk_drewN ?_ _ | refine blk_drew ?_ | refine blk_alloc ?_ _)); exact BK284.out) k_ hn_)), Or.elim hk_ (fun hs_ => hs_.2.2.2) (fun hn_ => (Kd.freshB (g := gb292) (o := .cells #[.slice Ao16 t286.length co16, .int .i64 t289, .int .i64 t290, .int .i64 t291] 33 (0, 0)) (by (with_reducible repeat (first | refine blk_drewN ?_ _ | refine blk_drew ?_ | refine blk_alloc ?_ _)); exact BK292.out) k_ hn_))⟩)) (below_size (by repeat (first | (with_reducible first | exact HB.out | apply below_alloc | apply pw_below_drewN | apply below_drew1 | refine below_set ?_ GE283.out | refine below_set ?_ GE284.out | refine below_set ?_ GE292.out) | exact HB.out))))
 have n3_ := Aside0.mk (blk_below (g := gb283) (o := .cells #[.int .u8 a0_0, .int .u8 a0_1, .int .u8 a0_2, .int .u8 a0_3, .int .u8 a0_4, .int .u8 a0_5, .int .u8 a0_6, .int .u8 a0_7, .int .u8 a0_8, .int .u8 a0_9, .int .u8 a0_10, .int .u8 a0_11] 24 (0, 0)) (by (with_reducible repeat (first | refine blk_drewN ?_ _ | refine blk_drew ?_ | refine blk_alloc ?_ _)); exact BK283.out) hb)
 have n4_ := Aside0.mk (blk_below (g := gb284) (o := .cells #[.bool a2_0, .bool a2_1, .slice A2_2 l2_2.length c2_2, .slice A2_3 l2_3.length c2_3] 29 (0, 0)) (by (with_reducible repeat (first | refine blk_drewN ?_ _ | refine blk_drew ?_ | refine blk_alloc ?_ _)); exact BK284.out) hb)
 have n5_ := Aside0.mk (blk_below (g := gb292) (o := .cells #[.slice Ao16 t286.length co16, .int .i64 t289, .int .i64 t290, .int .i64 t291] 33 (0, 0)) (by (with_reducible repeat (first | refine blk_drewN ?_ _ | refine blk_drew ?_ | refine blk_alloc ?_ _)); exact BK292.out) hb)
 have n6_ := Aside0.mk (below_step (by repeat (first | (with_reducible first | exact HB.out | apply below_alloc | apply pw_below_drewN | apply below_drew1 | refine below_set ?_ GE283.out | refine below_set ?_ GE284.out | refine below_set ?_ GE292.out) | exact HB.out)) hb)
 clear HO288
 clear HO295
 clear BK283
 clear BK284
 clear BK292
 clear HB
 have HO288 := n0_
 have HO295 := n1_
 have HO298 := n2_
 have BK283 := n3_
 have BK284 := n4_
 have BK292 := n5_
 have HB := n6_
 clear n0_ n1_ n2_ n3_ n4_ n5_ n6_
 (try clear hb)
 (try clear hb2)
 (try clear hk)
 (try clear hi)
 (try clear ho0)
 refine hK.out _ _ ⟨(blk_cell BK292.out 0).trans rfl, (blk_cell BK292.out 1).trans rfl, (blk_cell BK292.out 2).trans rfl, (blk_cell BK292.out 3).trans rfl⟩ (fun hHeld => ?_)
 clear hK K
 refine norm_ (a' := ?_) ?_ ?_
 rotate_left
 ·show Act.put _ (some 24) _ = _
  simp only [Act.put, List.setIfInBounds_toArray, List.set_cons_zero, List.set_cons_succ, i64_w, i32_w]
  rfl
 refine pure_ (i := 5) (N := some 9) (v := ?_) (a' := ?_) #[true, true, true, true, true, true] rfl rfl (by kernel_rfl) (fun _ _ _ h => h) (Or.inl ⟨by rfl, ?_⟩) ?_ ?_
 rotate_left; (intro w'; go_simp; with_reducible rfl); rotate_left; (simp only [Act.put, List.setIfInBounds_toArray, List.set_cons_zero, List.set_cons_succ, i64_w, i32_w]; rfl)
 refine done_ (by kernel_rfl) ?_
 have hcz25_0 : w24.cell? ⟨gb292, 0, none⟩ = some (.slice Ao16 t286.length co16) := (blk_cell BK292.out 0).trans rfl
 have hcz25_1 : w24.cell? ⟨gb292, 1, none⟩ = some (.int .i64 t289) := (blk_cell BK292.out 1).trans rfl
 have hcz25_2 : w24.cell? ⟨gb292, 2, none⟩ = some (.int .i64 t290) := (blk_cell BK292.out 2).trans rfl
 have hcz25_3 : w24.cell? ⟨gb292, 3, none⟩ = some (.int .i64 t291) := (blk_cell BK292.out 3).trans rfl
 have hfz25_0 := blk_frozen BK292.out 0
 have hfz25_1 := blk_frozen BK292.out 1
 have hfz25_2 := blk_frozen BK292.out 2
 have hfz25_3 := blk_frozen BK292.out 3
 have hcz26_0 : w24.cell? ⟨gb284, 0, none⟩ = some (.bool a2_0) := (blk_cell BK284.out 0).trans rfl
 have hcz26_1 : w24.cell? ⟨gb284, 1, none⟩ = some (.bool a2_1) := (blk_cell BK284.out 1).trans rfl
 have hcz26_2 : w24.cell? ⟨gb284, 2, none⟩ = some (.slice A2_2 l2_2.length c2_2) := (blk_cell BK284.out 2).trans rfl
 have hcz26_3 : w24.cell? ⟨gb284, 3, none⟩ = some (.slice A2_3 l2_3.length c2_3) := (blk_cell BK284.out 3).trans rfl
 have hfz26_0 := blk_frozen BK284.out 0
 have hfz26_1 := blk_frozen BK284.out 1
 have hfz26_2 := blk_frozen BK284.out 2
 have hfz26_3 := blk_frozen BK284.out 3
 try go_wp2_with (first | ((with_reducible refine gate_callee (f := 11) rfl ?_); refine goesL_ (some 27) rfl rfl Try.func11 (by kernel_rfl) rfl #[.agg #[.slice Ao16 t286.length co16, .int .i64 t289, .int .i64 t290, .int .i64 t291], .agg #[.bool a2_0, .bool a2_1, .slice A2_2 l2_2.length c2_2, .slice A2_3 l2_3.length c2_3]] rfl (by (try simp only [List.map_toArray, List.map_cons, List.map_nil]); first | done | rfl | (simp only [List.length_drop, List.length_take]; rfl)) ?_; (with_reducible refine (thresherref12_Fit.calls k _ _ t286 t289 t290 t291 a2_0 a2_1 _ _ l2_2 _ _ l2_3 t299 t300 t301 t304 _ ?side1 ?side2 ?side3 ?side4 ?side5 ?side6 A8.out).mono ?_); (case side1 => repeat (first | exact (Kd.R_reads' HO288.out).2.2 | (with_reducible refine Kd.C_alloc ?_ _) | (with_reducible refine Kd.C_drewN ?_ _) | (with_reducible refine Kd.C_drew ?_))); (case side2 => exact (Kd.R_reads' HO288.out).2.1); (case side3 => repeat (first | exact (Kd.C_below HR2_2.out HB.out) | (with_reducible refine Kd.C_alloc ?_ _) | (with_reducible refine Kd.C_drewN ?_ _) | (with_reducible refine Kd.C_drew ?_))); (case side4 => exact HC2_2.out); (case side5 => repeat (first | exact (Kd.C_below HR2_3.out HB.out) | (with_reducible refine Kd.C_alloc ?_ _) | (with_reducible refine Kd.C_drewN ?_ _) | (with_reducible refine Kd.C_drew ?_))); (case side6 => exact HC2_3.out); rintro e w27 ⟨v302, v305, rfl, ho0, ho1, hb⟩; refine ⟨_, rfl, ?_⟩; have n0_ := Aside0.mk (Kd.R_below (by (with_reducible repeat (first | apply Kd.R_alloc | apply Kd.R_drewN | apply Kd.R_drew)); exact HO288.out) hb); have n1_ := Aside0.mk (Kd.N_mono (Kd.N_told (Kd.N_told (Kd.N_old (by (with_reducible repeat (first | apply Kd.N_alloc | apply Kd.N_drewN | apply Kd.N_drew)); exact HO295.out) hb) (Kd.R_base ho0)) (Kd.R_base ho1)) (fun _ h_ => h_.1)); have n2_ := Aside0.mk (Kd.N_mono (Kd.N_told (Kd.N_told (Kd.N_old (by (with_reducible repeat (first | apply Kd.N_alloc | apply Kd.N_drewN | apply Kd.N_drew)); exact HO298.out) hb) (Kd.R_base ho0)) (Kd.R_base ho1)) (fun _ h_ => h_.1)); have n3_ := Aside0.mk (Kd.R_lower ho0 (below_size (by repeat (first | (with_reducible first | exact HB.out | apply below_alloc | apply pw_below_drewN | apply below_drew1 | refine below_set ?_ GE283.out | refine below_set ?_ GE284.out | refine below_set ?_ GE292.out) | exact HB.out)))); have n4_ := Aside0.mk (Kd.R_lower ho1 (below_size (by repeat (first | (with_reducible first | exact HB.out | apply below_alloc | apply pw_below_drewN | apply below_drew1 | refine below_set ?_ GE283.out | refine below_set ?_ GE284.out | refine below_set ?_ GE292.out) | exact HB.out)))); have n5_ := Aside0.mk (blk_below (g := gb283) (o := .cells #[.int .u8 a0_0, .int .u8 a0_1, .int .u8 a0_2, .int .u8 a0_3, .int .u8 a0_4, .int .u8 a0_5, .int .u8 a0_6, .int .u8 a0_7, .int .u8 a0_8, .int .u8 a0_9, .int .u8 a0_10, .int .u8 a0_11] 24 (0, 0)) (by (with_reducible repeat (first | refine blk_drewN ?_ _ | refine blk_drew ?_ | refine blk_alloc ?_ _)); exact BK283.out) hb); have n6_ := Aside0.mk (blk_below (g := gb284) (o := .cells #[.bool a2_0, .bool a2_1, .slice A2_2 l2_2.length c2_2, .slice A2_3 l2_3.length c2_3] 29 (0, 0)) (by (with_reducible repeat (first | refine blk_drewN ?_ _ | refine blk_drew ?_ | refine blk_alloc ?_ _)); exact BK284.out) hb); have n7_ := Aside0.mk (blk_below (g := gb292) (o := .cells #[.slice Ao16 t286.length co16, .int .i64 t289, .int .i64 t290, .int .i64 t291] 33 (0, 0)) (by (with_reducible repeat (first | refine blk_drewN ?_ _ | refine blk_drew ?_ | refine blk_alloc ?_ _)); exact BK292.out) hb); have n8_ := Aside0.mk (below_step (by repeat (first | (with_reducible first | exact HB.out | apply below_alloc | apply pw_below_drewN | apply below_drew1 | refine below_set ?_ GE283.out | refine below_set ?_ GE284.out | refine below_set ?_ GE292.out) | exact HB.out)) hb); clear HO288; clear HO295; clear HO298; clear BK283; clear BK284; clear BK292; clear HB; have HO288 := n0_; have HO295 := n1_; have HO298 := n2_; have HO303 := n3_; have HO306 := n4_; have BK283 := n5_; have BK284 := n6_; have BK292 := n7_; have HB := n8_; clear n0_ n1_ n2_ n3_ n4_ n5_ n6_ n7_ n8_; (try clear hb); (try clear hb2); (try clear hk); (try clear hi); (try clear ho0); (try clear ho1)) | ((with_reducible refine gate_dst (N := 10) rfl ?_); refine box_event ?hg (N := 10) ?hd (cs := #[.bool false, .bool false, .slice none 0 0, .slice none 0 0]) (t := 29) ?hr ?_; (case hd => rfl); (case hg => rfl); (case hr => first | (go_simp; done) | (go_simp; rfl)); intro gb307 hg w28 hbox hb; have n0_ := Aside0.mk (Kd.R_below (by (with_reducible repeat (first | apply Kd.R_alloc | apply Kd.R_drewN | apply Kd.R_drew)); exact HO288.out) hb); have n1_ := Aside0.mk (Kd.N_below (Kd.N_elderB (by (with_reducible repeat (first | apply Kd.N_alloc | apply Kd.N_drewN | apply Kd.N_drew)); exact HO295.out) gb307 (Nat.le_of_eq hg.symm)) hb); have n2_ := Aside0.mk (Kd.N_below (Kd.N_elderB (by (with_reducible repeat (first | apply Kd.N_alloc | apply Kd.N_drewN | apply Kd.N_drew)); exact HO298.out) gb307 (Nat.le_of_eq hg.symm)) hb); have n3_ := Aside0.mk (Kd.R_below (by (with_reducible repeat (first | apply Kd.R_alloc | apply Kd.R_drewN | apply Kd.R_drew)); exact HO303.out) hb); have n4_ := Aside0.mk (Kd.R_below (by (with_reducible repeat (first | apply Kd.R_alloc | apply Kd.R_drewN | apply Kd.R_drew)); exact HO306.out) hb); have n5_ := Aside0.mk (blk_below (g := gb283) (o := .cells #[.int .u8 a0_0, .int .u8 a0_1, .int .u8 a0_2, .int .u8 a0_3, .int .u8 a0_4, .int .u8 a0_5, .int .u8 a0_6, .int .u8 a0_7, .int .u8 a0_8, .int .u8 a0_9, .int .u8 a0_10, .int .u8 a0_11] 24 (0, 0)) (by (with_reducible repeat (first | refine blk_drewN ?_ _ | refine blk_drew ?_ | refine blk_alloc ?_ _)); exact BK283.out) hb); have n6_ := Aside0.mk (blk_below (g := gb284) (o := .cells #[.bool a2_0, .bool a2_1, .slice A2_2 l2_2.length c2_2, .slice A2_3 l2_3.length c2_3] 29 (0, 0)) (by (with_reducible repeat (first | refine blk_drewN ?_ _ | refine blk_drew ?_ | refine blk_alloc ?_ _)); exact BK284.out) hb); have n7_ := Aside0.mk (blk_below (g := gb292) (o := .cells #[.slice Ao16 t286.length co16, .int .i64 t289, .int .i64 t290, .int .i64 t291] 33 (0, 0)) (by (with_reducible repeat (first | refine blk_drewN ?_ _ | refine blk_drew ?_ | refine blk_alloc ?_ _)); exact BK292.out) hb); have n8_ := Aside0.mk (below_step (by repeat (first | (with_reducible first | exact HB.out | apply below_alloc | apply pw_below_drewN | apply below_drew1 | refine below_set ?_ GE283.out | refine below_set ?_ GE284.out | refine below_set ?_ GE292.out) | exact HB.out)) hb); have n9_ := Aside0.mk (hbox); have n10_ := Aside0.mk ((by rw [hg]; exact (below_size (by repeat (first | (with_reducible first | exact HB.out | apply below_alloc | apply pw_below_drewN | apply below_drew1 | refine below_set ?_ GE283.out | refine below_set ?_ GE284.out | refine below_set ?_ GE292.out) | exact HB.out))) : w.heap.size ≤ gb307)); have n11_ := Aside0.mk ((by rw [hg]; exact (below_size (by repeat (first | (with_reducible first | exact HB.out | apply below_alloc | apply pw_below_drewN | apply below_drew1 | refine below_set ?_ GE283.out | refine below_set ?_ GE284.out | refine below_set ?_ GE292.out) | exact HB.out))) : w.heap.size ≤ gb307)); have n12_ := Aside0.mk ((by rw [hg]; exact Nat.ne_of_lt (blk_lt (g := gb283) (o := .cells #[.int .u8 a0_0, .int .u8 a0_1, .int .u8 a0_2, .int .u8 a0_3, .int .u8 a0_4, .int .u8 a0_5, .int .u8 a0_6, .int .u8 a0_7, .int .u8 a0_8, .int .u8 a0_9, .int .u8 a0_10, .int .u8 a0_11] 24 (0, 0)) (by (with_reducible repeat (first | refine blk_drewN ?_ _ | refine blk_drew ?_ | refine blk_alloc ?_ _)); exact BK283.out)) : gb283 ≠ gb307)); have n13_ := Aside0.mk ((by rw [hg]; exact Nat.ne_of_gt (blk_lt (g := gb283) (o := .cells #[.int .u8 a0_0, .int .u8 a0_1, .int .u8 a0_2, .int .u8 a0_3, .int .u8 a0_4, .int .u8 a0_5, .int .u8 a0_6, .int .u8 a0_7, .int .u8 a0_8, .int .u8 a0_9, .int .u8 a0_10, .int .u8 a0_11] 24 (0, 0)) (by (with_reducible repeat (first | refine blk_drewN ?_ _ | refine blk_drew ?_ | refine blk_alloc ?_ _)); exact BK283.out)) : gb307 ≠ gb283)); have n14_ := Aside0.mk ((by rw [hg]; exact Nat.ne_of_lt (blk_lt (g := gb284) (o := .cells #[.bool a2_0, .bool a2_1, .slice A2_2 l2_2.length c2_2, .slice A2_3 l2_3.length c2_3] 29 (0, 0)) (by (with_reducible repeat (first | refine blk_drewN ?_ _ | refine blk_drew ?_ | refine blk_alloc ?_ _)); exact BK284.out)) : gb284 ≠ gb307)); have n15_ := Aside0.mk ((by rw [hg]; exact Nat.ne_of_gt (blk_lt (g := gb284) (o := .cells #[.bool a2_0, .bool a2_1, .slice A2_2 l2_2.length c2_2, .slice A2_3 l2_3.length c2_3] 29 (0, 0)) (by (with_reducible repeat (first | refine blk_drewN ?_ _ | refine blk_drew ?_ | refine blk_alloc ?_ _)); exact BK284.out)) : gb307 ≠ gb284)); have n16_ := Aside0.mk ((by rw [hg]; exact Nat.ne_of_lt (blk_lt (g := gb292) (o := .cells #[.slice Ao16 t286.length co16, .int .i64 t289, .int .i64 t290, .int .i64 t291] 33 (0, 0)) (by (with_reducible repeat (first | refine blk_drewN ?_ _ | refine blk_drew ?_ | refine blk_alloc ?_ _)); exact BK292.out)) : gb292 ≠ gb307)); have n17_ := Aside0.mk ((by rw [hg]; exact Nat.ne_of_gt (blk_lt (g := gb292) (o := .cells #[.slice Ao16 t286.length co16, .int .i64 t289, .int .i64 t290, .int .i64 t291] 33 (0, 0)) (by (with_reducible repeat (first | refine blk_drewN ?_ _ | refine blk_drew ?_ | refine blk_alloc ?_ _)); exact BK292.out)) : gb307 ≠ gb292)); clear HO288; clear HO295; clear HO298; clear HO303; clear HO306; clear BK283; clear BK284; clear BK292; clear HB; have HO288 := n0_; have HO295 := n1_; have HO298 := n2_; have HO303 := n3_; have HO306 := n4_; have BK283 := n5_; have BK284 := n6_; have BK292 := n7_; have HB := n8_; have BK307 := n9_; have GW307 := n10_; have GE307 := n11_; have NB283_307 := n12_; have NB307_283 := n13_; have NB284_307 := n14_; have NB307_284 := n15_; have NB292_307 := n16_; have NB307_292 := n17_; clear n0_ n1_ n2_ n3_ n4_ n5_ n6_ n7_ n8_ n9_ n10_ n11_ n12_ n13_ n14_ n15_ n16_ n17_; clear hb hbox hg; have hnb29 := NB307_283.out; have hnc29 := NB283_307.out; have hnb30 := NB307_284.out; have hnc30 := NB284_307.out; have hnb31 := NB307_292.out; have hnc31 := NB292_307.out; have hcz32_0 : w28.cell? ⟨gb307, 0, none⟩ = some (.bool false) := (blk_cell BK307.out 0).trans rfl; have hcz32_1 : w28.cell? ⟨gb307, 1, none⟩ = some (.bool false) := (blk_cell BK307.out 1).trans rfl; have hcz32_2 : w28.cell? ⟨gb307, 2, none⟩ = some (.slice none 0 0) := (blk_cell BK307.out 2).trans rfl; have hcz32_3 : w28.cell? ⟨gb307, 3, none⟩ = some (.slice none 0 0) := (blk_cell BK307.out 3).trans rfl; have hfz32_0 := blk_frozen BK307.out 0; have hfz32_1 := blk_frozen BK307.out 1; have hfz32_2 := blk_frozen BK307.out 2; have hfz32_3 := blk_frozen BK307.out 3; obtain ⟨Ao33, co33, eo33⟩ := Kd.R_slice HO303.out; subst eo33; obtain ⟨Ao34, co34, eo34⟩ := Kd.R_slice HO306.out; subst eo34))
 go_loopg [11] k (fun kq v11 w' => ∃ (x11_1 : Int), v11 = .int .i64 x11_1 ∧ Aside0 (thresherlaw12_IndexAll.l0 kq t285 t296 x11_1 t286 t289 t290 t291 t299 t300 t301 t304 = some r) ∧ Aside0 (kq ≤ k) ∧ Aside0 (Kd.N (Kd.slice 44 k44) 27 w' w.heap.size (fun k_ => some k_ ≠ ((.slice Ao16 t286.length co16) : Value).ownBlock ∧ some k_ ≠ ((.slice Ao33 t301.length co33) : Value).ownBlock ∧ some k_ ≠ ((.slice Ao34 t304.length co34) : Value).ownBlock ∧ k_ ≠ gb283 ∧ k_ ≠ gb284 ∧ k_ ≠ gb292 ∧ k_ ≠ gb307) v297 t296) ∧ Aside0 (Kd.R (Kd.int .i64) 3 w' w.heap.size (fun _ => True) (.slice Ao16 t286.length co16) t286) ∧ Aside0 (Kd.R k44 44 w' w.heap.size (fun k_ => some k_ ≠ ((.slice Ao34 t304.length co34) : Value).ownBlock) (.slice Ao33 t301.length co33) t301) ∧ Aside0 (Kd.R k44 44 w' w.heap.size (fun k_ => some k_ ≠ ((.slice Ao33 t301.length co33) : Value).ownBlock) (.slice Ao34 t304.length co34) t304) ∧ Aside0 (w'.heap[gb283]? = some (.cells #[.int .u8 a0_0, .int .u8 a0_1, .int .u8 a0_2, .int .u8 a0_3, .int .u8 a0_4, .int .u8 a0_5, .int .u8 a0_6, .int .u8 a0_7, .int .u8 a0_8, .int .u8 a0_9, .int .u8 a0_10, .int .u8 a0_11] 24 (0, 0))) ∧ Aside0 (w'.heap[gb284]? = some (.cells #[.bool a2_0, .bool a2_1, (.slice A2_2 l2_2.length c2_2), (.slice A2_3 l2_3.length c2_3)] 29 (0, 0))) ∧ Aside0 (w'.heap[gb292]? = some (.cells #[(.slice Ao16 t286.length co16), .int .i64 t289, .int .i64 t290, .int .i64 t291] 33 (0, 0))) ∧ Aside0 (w'.heap[gb307]? = some (.cells #[.bool t299, .bool t300, (.slice Ao33 t301.length co33), (.slice Ao34 t304.length co34)] 29 (0, 0))) ∧ Aside0 (Below w.heap.size w w'))
 case atStart => exact ⟨(0), (by first | rfl | (simp; done) | (simp [*]; done)), H', ⟨Nat.le_refl _⟩, ⟨by (with_reducible repeat (first | apply Kd.N_alloc | apply Kd.N_drewN | apply Kd.N_drew)); exact Kd.N_mono (Kd.N_far (p := ⟨gb307, 3, none⟩) (Kd.N_far (p := ⟨gb307, 2, none⟩) (Kd.N_far (p := ⟨gb307, 1, none⟩) (Kd.N_far (p := ⟨gb307, 0, none⟩) (Kd.N_mono HO298.out (fun k_ hk => (⟨hk, hk.2⟩ : _ ∧ k_ ≠ gb307))) (fun _ hk => hk.2) (.bool t299)) (fun _ hk => hk.2) (.bool t300)) (fun _ hk => hk.2) (.slice Ao33 t301.length co33)) (fun _ hk => hk.2) (.slice Ao34 t304.length co34)) (fun _ hk => ⟨hk.1.1.1.1.1, ⟨hk.1.1.1.2, ⟨hk.1.1.2, ⟨hk.1.1.1.1.2.1, ⟨hk.1.1.1.1.2.2.1, ⟨hk.1.1.1.1.2.2.2, hk.1.2⟩⟩⟩⟩⟩⟩)⟩, ⟨by (with_reducible repeat (first | apply Kd.R_alloc | apply Kd.R_drewN | apply Kd.R_drew)); exact Kd.R_mono (Kd.R_far (p := ⟨gb307, 3, none⟩) (Kd.R_far (p := ⟨gb307, 2, none⟩) (Kd.R_far (p := ⟨gb307, 1, none⟩) (Kd.R_far (p := ⟨gb307, 0, none⟩) (Kd.R_types HO288.out BK307.out (by decide)) (fun _ hk => hk.2) (.bool t299)) (fun _ hk => hk.2) (.bool t300)) (fun _ hk => hk.2) (.slice Ao33 t301.length co33)) (fun _ hk => hk.2) (.slice Ao34 t304.length co34)) (fun _ hk => trivial)⟩, ⟨by (with_reducible repeat (first | apply Kd.R_alloc | apply Kd.R_drewN | apply Kd.R_drew)); exact Kd.R_mono (Kd.R_far (p := ⟨gb307, 3, none⟩) (Kd.R_far (p := ⟨gb307, 2, none⟩) (Kd.R_far (p := ⟨gb307, 1, none⟩) (Kd.R_far (p := ⟨gb307, 0, none⟩) (Kd.R_types HO303.out BK307.out (by decide)) (fun _ hk => hk.2) (.bool t299)) (fun _ hk => hk.2) (.bool t300)) (fun _ hk => hk.2) (.slice Ao33 t301.length co33)) (fun _ hk => hk.2) (.slice Ao34 t304.length co34)) (fun _ hk => hk.1)⟩, ⟨by (with_reducible repeat (first | apply Kd.R_alloc | apply Kd.R_drewN | apply Kd.R_drew)); exact Kd.R_mono (Kd.R_far (p := ⟨gb307, 3, none⟩) (Kd.R_far (p := ⟨gb307, 2, none⟩) (Kd.R_far (p := ⟨gb307, 1, none⟩) (Kd.R_far (p := ⟨gb307, 0, none⟩) (Kd.R_types HO306.out BK307.out (by decide)) (fun _ hk => hk.2) (.bool t299)) (fun _ hk => hk.2) (.bool t300)) (fun _ hk => hk.2) (.slice Ao33 t301.length co33)) (fun _ hk => hk.2) (.slice Ao34 t304.length co34)) (fun _ hk => hk.1)⟩, ⟨by (with_reducible repeat (first | refine blk_drewN ?_ _ | refine blk_drew ?_ | refine blk_alloc ?_ _)); refine blk_far ?_ NB283_307.out _; (with_reducible repeat (first | refine blk_drewN ?_ _ | refine blk_drew ?_ | refine blk_alloc ?_ _)); refine blk_far ?_ NB283_307.out _; (with_reducible repeat (first | refine blk_drewN ?_ _ | refine blk_drew ?_ | refine blk_alloc ?_ _)); refine blk_far ?_ NB283_307.out _; (with_reducible repeat (first | refine blk_drewN ?_ _ | refine blk_drew ?_ | refine blk_alloc ?_ _)); refine blk_far ?_ NB283_307.out _; (with_reducible repeat (first | refine blk_drewN ?_ _ | refine blk_drew ?_ | refine blk_alloc ?_ _)); exact BK283.out⟩, ⟨by (with_reducible repeat (first | refine blk_drewN ?_ _ | refine blk_drew ?_ | refine blk_alloc ?_ _)); refine blk_far ?_ NB284_307.out _; (with_reducible repeat (first | refine blk_drewN ?_ _ | refine blk_drew ?_ | refine blk_alloc ?_ _)); refine blk_far ?_ NB284_307.out _; (with_reducible repeat (first | refine blk_drewN ?_ _ | refine blk_drew ?_ | refine blk_alloc ?_ _)); refine blk_far ?_ NB284_307.out _; (with_reducible repeat (first | refine blk_drewN ?_ _ | refine blk_drew ?_ | refine blk_alloc ?_ _)); refine blk_far ?_ NB284_307.out _; (with_reducible repeat (first | refine blk_drewN ?_ _ | refine blk_drew ?_ | refine blk_alloc ?_ _)); exact BK284.out⟩, ⟨by (with_reducible repeat (first | refine blk_drewN ?_ _ | refine blk_drew ?_ | refine blk_alloc ?_ _)); refine blk_far ?_ NB292_307.out _; (with_reducible repeat (first | refine blk_drewN ?_ _ | refine blk_drew ?_ | refine blk_alloc ?_ _)); refine blk_far ?_ NB292_307.out _; (with_reducible repeat (first | refine blk_drewN ?_ _ | refine blk_drew ?_ | refine blk_alloc ?_ _)); refine blk_far ?_ NB292_307.out _; (with_reducible repeat (first | refine blk_drewN ?_ _ | refine blk_drew ?_ | refine blk_alloc ?_ _)); refine blk_far ?_ NB292_307.out _; (with_reducible repeat (first | refine blk_drewN ?_ _ | refine blk_drew ?_ | refine blk_alloc ?_ _)); exact BK292.out⟩, ⟨by (with_reducible repeat (first | refine blk_drewN ?_ _ | refine blk_drew ?_ | refine blk_alloc ?_ _)); refine blk_put (cs := #[.bool t299, .bool t300, .slice Ao33 t301.length co33, .slice none 0 0]) ?_ 3 _ rfl; (with_reducible repeat (first | refine blk_drewN ?_ _ | refine blk_drew ?_ | refine blk_alloc ?_ _)); refine blk_put (cs := #[.bool t299, .bool t300, .slice none 0 0, .slice none 0 0]) ?_ 2 _ rfl; (with_reducible repeat (first | refine blk_drewN ?_ _ | refine blk_drew ?_ | refine blk_alloc ?_ _)); refine blk_put (cs := #[.bool t299, .bool false, .slice none 0 0, .slice none 0 0]) ?_ 1 _ rfl; (with_reducible repeat (first | refine blk_drewN ?_ _ | refine blk_drew ?_ | refine blk_alloc ?_ _)); refine blk_put (cs := #[.bool false, .bool false, .slice none 0 0, .slice none 0 0]) ?_ 0 _ rfl; (with_reducible repeat (first | refine blk_drewN ?_ _ | refine blk_drew ?_ | refine blk_alloc ?_ _)); exact BK307.out⟩, ⟨by repeat (first | (with_reducible first | exact HB.out | apply below_alloc | apply pw_below_drewN | apply below_drew1 | refine below_set ?_ GE283.out | refine below_set ?_ GE284.out | refine below_set ?_ GE292.out | refine below_set ?_ GE307.out) | exact HB.out)⟩⟩
 case round =>
  clear H'
  try clear c1
  try clear c2
  try clear p2
  try clear c3
  try clear c7
  try clear c8
  try clear c9
  try clear c10
  try clear c11
  try clear c12
  try clear c17
  try clear c18
  try clear c29
  try clear c30
  try clear c31
  try clear hcz13_0
  try clear hcz13_1
  try clear hcz13_10
  try clear hcz13_11
  try clear hcz13_2
  try clear hcz13_3
  try clear hcz13_4
  try clear hcz13_5
  try clear hcz13_6
  try clear hcz13_7
  try clear hcz13_8
  try clear hcz13_9
  try clear hcz19_0
  try clear hcz19_1
  try clear hcz19_2
  try clear hcz19_3
  try clear hcz25_0
  try clear hcz25_1
  try clear hcz25_2
  try clear hcz25_3
  try clear hcz26_0
  try clear hcz26_1
  try clear hcz26_2
  try clear hcz26_3
  try clear hcz32_0
  try clear hcz32_1
  try clear hcz32_2
  try clear hcz32_3
  try clear hfz13_0
  try clear hfz13_1
  try clear hfz13_10
  try clear hfz13_11
  try clear hfz13_2
  try clear hfz13_3
  try clear hfz13_4
  try clear hfz13_5
  try clear hfz13_6
  try clear hfz13_7
  try clear hfz13_8
  try clear hfz13_9
  try clear hfz19_0
  try clear hfz19_1
  try clear hfz19_2
  try clear hfz19_3
  try clear hfz25_0
  try clear hfz25_1
  try clear hfz25_2
  try clear hfz25_3
  try clear hfz26_0
  try clear hfz26_1
  try clear hfz26_2
  try clear hfz26_3
  try clear hfz32_0
  try clear hfz32_1
  try clear hfz32_2
  try clear hfz32_3
  obtain ⟨x11_1, rfl, HA, HK1, HO_9, HO_293000, HO_308002, HO_308003, BK283, BK284, BK292, BK307, HB⟩ := hrel
  cases gk with
  | zero => exact absurd HA.out (by simp [thresherlaw12_IndexAll.l0])
  | succ k1 =>
   have H := HA.out
   clear HA
   simp only [thresherlaw12_IndexAll.l0] at H
   by_cases c35 : x11_1 < (t296.length : Int)
   ·rw [if_pos c35] at H
    have c35b0 : decide (x11_1 < (t296.length : Int)) = true := decide_eq_true c35
    clear c35
    by_cases c36 : 0 ≤ x11_1
    ·rw [if_pos c36] at H
     have c36b0 : decide (0 ≤ x11_1) = true := decide_eq_true c36
     clear c36
     replace H := Option.bind_eq_some_iff.mp H
     obtain ⟨t309, A370, H⟩ := H
     replace H : ((thresherref12_In.f k1 t286 t289 t290 t291 t299 t300 t301 t304 (rd_L5 t296 x11_1)).bind fun t311 => (if (t309 != t311) = true then (some false) else (thresherlaw12_IndexAll.l0 k1 t285 t296 (wrap64 (x11_1 + 1)) t286 t289 t290 t291 t299 t300 t301 t304))) = some r := H
     have A37 := Aside0.mk A370
     clear A370
     replace H := Option.bind_eq_some_iff.mp H
     obtain ⟨t311, A380, H⟩ := H
     replace H : (if (t309 != t311) = true then (some false) else (thresherlaw12_IndexAll.l0 k1 t285 t296 (wrap64 (x11_1 + 1)) t286 t289 t290 t291 t299 t300 t301 t304)) = some r := H
     have A38 := Aside0.mk A380
     clear A380
     by_cases c39 : (t309 != t311) = true
     ·rw [if_pos c39] at H
      have c39b0 : (t309 != t311) = true := c39
      (try (have c39b1 : decide (t309 = t311) = false := by simpa using c39))
      (try (have c39b2 : (t309 == t311) = false := by simpa using c39))
      (try (have c39b3 : ¬ (t309 = t311) := by simpa using c39))
      clear c39
      obtain rfl := Option.some.inj H
      obtain ⟨Ao40, co40, eo40⟩ := Kd.N_slice HO_9.out
      subst eo40
      try go_wp2
      have n0_ := Aside0.mk (Kd.N_drew HO_9.out)
      have n1_ := Aside0.mk (Kd.R_drew HO_293000.out)
      have n2_ := Aside0.mk (Kd.R_drew HO_308002.out)
      have n3_ := Aside0.mk (Kd.R_drew HO_308003.out)
      have n4_ := Aside0.mk (blk_drew BK283.out)
      have n5_ := Aside0.mk (blk_drew BK284.out)
      have n6_ := Aside0.mk (blk_drew BK292.out)
      have n7_ := Aside0.mk (blk_drew BK307.out)
      have n8_ := Aside0.mk (below_drew1 HB.out)
      clear HO_9
      clear HO_293000
      clear HO_308002
      clear HO_308003
      clear BK283
      clear BK284
      clear BK292
      clear BK307
      clear HB
      have HO_9 := n0_
      have HO_293000 := n1_
      have HO_308002 := n2_
      have HO_308003 := n3_
      have BK283 := n4_
      have BK284 := n5_
      have BK292 := n6_
      have BK307 := n7_
      have HB := n8_
      clear n0_ n1_ n2_ n3_ n4_ n5_ n6_ n7_ n8_
      have p308 : 0 ≤ (x11_1 : Int) := of_decide_eq_true (by first | (with_reducible assumption) | assumption)
      have q308 : x11_1 < (t296.length : Int) := of_decide_eq_true (by first | (with_reducible assumption) | assumption)
      obtain ⟨ad308, A308_0, c308_0, e308, hx308_0, hl308_0, hi308_0⟩ := at_L5 (Kd.N_reads' HO_9.out).2.2 x11_1 p308 q308
      cases e308
      obtain ⟨ce308, hce308, hMe308, hcc308⟩ := Kd.N_get HO_9.out [] x11_1 p308 (by first | exact q308 | exact of_decide_eq_true (by first | (with_reducible assumption) | assumption) | (have e_ := (Kd.N_reads' HO_9.out).1; omega))
      obtain ⟨ua308_0, uc308_0, rfl, ul308_0, ge308_0⟩ := Kd.FK_slice_open hMe308
      have hv308_0 := hcc308 0 _ rfl
      rw [Nat.add_zero, show ((Kd.slice 44 k44)).sz = 1 from rfl, Nat.mul_one] at hv308_0
      replace hv308_0 := Option.some.inj (hv308_0.symm.trans hx308_0)
      injection hv308_0 with hva_ hvn_ hvc_
      rw [hva_] at ge308_0
      rw [hvc_] at ul308_0
      have HL308_0 := Aside0.mk (show Kd.V k44 44 _ w.heap.size _ _ (rd_L5 t296 x11_1) from Kd.V_mk ul308_0 ge308_0)
      clear hva_ hvn_ hvc_ ge308_0 ul308_0
      clear hcc308 hce308
      have HR308_0 := Aside0.mk hi308_0
      have HC308_0 := Aside0.mk hl308_0
      clear hi308_0 hl308_0
      replace p308 := eq_true p308
      replace q308 := eq_true q308
      have p310 : 0 ≤ (x11_1 : Int) := of_decide_eq_true (by first | (with_reducible assumption) | assumption)
      have q310 : x11_1 < (t296.length : Int) := of_decide_eq_true (by first | (with_reducible assumption) | assumption)
      obtain ⟨ad310, A310_0, c310_0, e310, hx310_0, hl310_0, hi310_0⟩ := at_L5 (Kd.N_reads' HO_9.out).2.2 x11_1 p310 q310
      obtain rfl : ad308 = ad310 := (by injection e310)
      obtain ⟨ce310, hce310, hMe310, hcc310⟩ := Kd.N_get HO_9.out [] x11_1 p310 (by first | exact q310 | exact of_decide_eq_true (by first | (with_reducible assumption) | assumption) | (have e_ := (Kd.N_reads' HO_9.out).1; omega))
      obtain ⟨ua310_0, uc310_0, rfl, ul310_0, ge310_0⟩ := Kd.FK_slice_open hMe310
      have hv310_0 := hcc310 0 _ rfl
      rw [Nat.add_zero, show ((Kd.slice 44 k44)).sz = 1 from rfl, Nat.mul_one] at hv310_0
      replace hv310_0 := Option.some.inj (hv310_0.symm.trans hx310_0)
      injection hv310_0 with hva_ hvn_ hvc_
      rw [hva_] at ge310_0
      rw [hvc_] at ul310_0
      have HL310_0 := Aside0.mk (show Kd.V k44 44 _ w.heap.size _ _ (rd_L5 t296 x11_1) from Kd.V_mk ul310_0 ge310_0)
      clear hva_ hvn_ hvc_ ge310_0 ul310_0
      clear hcc310 hce310
      have HR310_0 := Aside0.mk hi310_0
      have HC310_0 := Aside0.mk hl310_0
      clear hi310_0 hl310_0
      replace p310 := eq_true p310
      replace q310 := eq_true q310
      have ea_ := Option.some.inj (hx308_0.symm.trans hx310_0)
      injection ea_ with ea_ en_ ec_
      subst ea_
      subst ec_
      clear en_
      refine start_ (n := 15) (S := fun w' => w'.cell? ⟨gb292, 0, none⟩ = some (.slice Ao16 t286.length co16) ∧ w'.cell? ⟨gb292, 1, none⟩ = some (.int .i64 t289) ∧ w'.cell? ⟨gb292, 2, none⟩ = some (.int .i64 t290) ∧ w'.cell? ⟨gb292, 3, none⟩ = some (.int .i64 t291) ∧ w'.cell? ⟨gb307, 0, none⟩ = some (.bool t299) ∧ w'.cell? ⟨gb307, 1, none⟩ = some (.bool t300) ∧ w'.cell? ⟨gb307, 2, none⟩ = some (.slice Ao33 t301.length co33) ∧ w'.cell? ⟨gb307, 3, none⟩ = some (.slice Ao34 t304.length co34) ∧ w'.cell? (ad308.add (x11_1).toNat) = some (.slice A308_0 (rd_L5 t296 x11_1).length c308_0) ∧ w'.cell? (ad308.add (x11_1).toNat) = some (.slice A308_0 (rd_L5 t296 x11_1).length c308_0)) (ds := []) #[false, false, false, false, false, false, false, false, false, false, false, false, false, false, false] (by kernel_rfl) rfl rfl ⟨(blk_cell BK292.out 0).trans rfl, (blk_cell BK292.out 1).trans rfl, (blk_cell BK292.out 2).trans rfl, (blk_cell BK292.out 3).trans rfl, (blk_cell BK307.out 0).trans rfl, (blk_cell BK307.out 1).trans rfl, (blk_cell BK307.out 2).trans rfl, (blk_cell BK307.out 3).trans rfl, hx308_0, hx310_0⟩ (fun hHeld => ?_); refine with_tabW thresherlaw12_IndexAll.tab8 thresherlaw12_IndexAll.bits8 (fun HT_ HW_ => ?_)
      generalize wr.drew = w41 at HO_9 HO_293000 HO_308002 HO_308003 BK283 BK284 BK292 BK307 HB HL308_0 HL310_0 HR308_0 HR310_0 hx308_0 hx310_0 hHeld ⊢
      refine pure_ (i := 2) (N := some 36) (v := ?_) (a' := ?_) #[false, false, true, false, false, false, false, false, false, false, false, false, false, false, false] rfl rfl (any_of HT_.out (by kernel_rfl)) (fun _ _ _ h => h) (Or.inl ⟨by rfl, ?_⟩) ?_ ?_
      rotate_left; (intro w'; go_simp; with_reducible rfl); rotate_left; (simp only [Act.put, List.setIfInBounds_toArray, List.set_cons_zero, List.set_cons_succ, i64_w, i32_w]; rfl)
      refine pure_ (i := 3) (N := some 37) (v := ?_) (a' := ?_) #[false, false, true, true, false, false, false, false, false, false, false, false, false, false, false] rfl rfl (any_of HT_.out (by kernel_rfl)) (fun _ _ _ h => h) (Or.inl ⟨by rfl, ?_⟩) ?_ ?_
      rotate_left; (intro w'; go_simp; with_reducible rfl); rotate_left; (simp only [Act.put, List.setIfInBounds_toArray, List.set_cons_zero, List.set_cons_succ, i64_w, i32_w]; rfl)
      refine pure_ (i := 4) (N := some 38) (v := ?_) (a' := ?_) #[false, false, true, true, true, false, false, false, false, false, false, false, false, false, false] rfl rfl (any_of HT_.out (by kernel_rfl)) (fun _ _ _ h => h) (Or.inl ⟨by rfl, ?_⟩) ?_ ?_
      rotate_left; (intro w'; go_simp; with_reducible rfl); rotate_left; (simp only [Act.put, List.setIfInBounds_toArray, List.set_cons_zero, List.set_cons_succ, i64_w, i32_w]; rfl)
      refine pure_ (i := 9) (N := some 43) (v := ?_) (a' := ?_) #[false, false, true, true, true, false, false, false, false, true, false, false, false, false, false] rfl rfl (any_of HT_.out (by kernel_rfl)) (fun _ _ _ h => h) (Or.inl ⟨by rfl, ?_⟩) ?_ ?_
      rotate_left; (intro w'; go_simp; with_reducible rfl); rotate_left; (simp only [Act.put, List.setIfInBounds_toArray, List.set_cons_zero, List.set_cons_succ, i64_w, i32_w]; rfl)
      refine pure_ (i := 10) (N := some 44) (v := ?_) (a' := ?_) #[false, false, true, true, true, false, false, false, false, true, true, false, false, false, false] rfl rfl (any_of HT_.out (by kernel_rfl)) (fun _ _ _ h => h) (Or.inl ⟨by rfl, ?_⟩) ?_ ?_
      rotate_left; (intro w'; go_simp; with_reducible rfl); rotate_left; (simp only [Act.put, List.setIfInBounds_toArray, List.set_cons_zero, List.set_cons_succ, i64_w, i32_w]; rfl)
      refine pure_ (i := 11) (N := some 45) (v := ?_) (a' := ?_) #[false, false, true, true, true, false, false, false, false, true, true, true, false, false, false] rfl rfl (any_of HT_.out (by kernel_rfl)) (fun _ _ _ h => h) (Or.inl ⟨by rfl, ?_⟩) ?_ ?_
      rotate_left; (intro w'; go_simp; with_reducible rfl); rotate_left; (simp only [Act.put, List.setIfInBounds_toArray, List.set_cons_zero, List.set_cons_succ, i64_w, i32_w]; rfl)
      refine take_ (i := 0) (N := some 34) (v := ?_) (a' := ?_) #[true, false, true, true, true, false, false, false, false, true, true, true, false, false, false] rfl rfl (take_ofW HT_.out HW_.out (by kernel_rfl)) (fun _ _ _ h => h) (Or.inl ⟨by rfl, ?_⟩) hHeld ?_ ?_
      rotate_left; (rintro w' ⟨s0, s1, s2, s3, s4, s5, s6, s7, s8, s9⟩; go_simp; with_reducible rfl); rotate_left; (simp only [Act.put, List.setIfInBounds_toArray, List.set_cons_zero, List.set_cons_succ, i64_w, i32_w]; rfl)
      refine take_ (i := 1) (N := some 35) (v := ?_) (a' := ?_) #[true, true, true, true, true, false, false, false, false, true, true, true, false, false, false] rfl rfl (take_ofW HT_.out HW_.out (by kernel_rfl)) (fun _ _ _ h => h) (Or.inl ⟨by rfl, ?_⟩) hHeld ?_ ?_
      rotate_left; (rintro w' ⟨s0, s1, s2, s3, s4, s5, s6, s7, s8, s9⟩; go_simp; with_reducible rfl); rotate_left; (simp only [Act.put, List.setIfInBounds_toArray, List.set_cons_zero, List.set_cons_succ, i64_w, i32_w]; rfl)
      refine take_ (i := 5) (N := some 39) (v := ?_) (a' := ?_) #[true, true, true, true, true, true, false, false, false, true, true, true, false, false, false] rfl rfl (take_ofW HT_.out HW_.out (by kernel_rfl)) (fun _ _ _ h => h) (Or.inl ⟨by rfl, ?_⟩) hHeld ?_ ?_
      rotate_left; (rintro w' ⟨s0, s1, s2, s3, s4, s5, s6, s7, s8, s9⟩; go_simp; with_reducible rfl); rotate_left; (simp only [Act.put, List.setIfInBounds_toArray, List.set_cons_zero, List.set_cons_succ, i64_w, i32_w]; rfl)
      refine take_ (i := 7) (N := some 41) (v := ?_) (a' := ?_) #[true, true, true, true, true, true, false, true, false, true, true, true, false, false, false] rfl rfl (take_ofW HT_.out HW_.out (by kernel_rfl)) (fun _ _ _ h => h) (Or.inl ⟨by rfl, ?_⟩) hHeld ?_ ?_
      rotate_left; (rintro w' ⟨s0, s1, s2, s3, s4, s5, s6, s7, s8, s9⟩; go_simp; with_reducible rfl); rotate_left; (simp only [Act.put, List.setIfInBounds_toArray, List.set_cons_zero, List.set_cons_succ, i64_w, i32_w]; rfl)
      refine take_ (i := 8) (N := some 42) (v := ?_) (a' := ?_) #[true, true, true, true, true, true, false, true, true, true, true, true, false, false, false] rfl rfl (take_ofW HT_.out HW_.out (by kernel_rfl)) (fun _ _ _ h => h) (Or.inl ⟨by rfl, ?_⟩) hHeld ?_ ?_
      rotate_left; (rintro w' ⟨s0, s1, s2, s3, s4, s5, s6, s7, s8, s9⟩; go_simp; with_reducible rfl); rotate_left; (simp only [Act.put, List.setIfInBounds_toArray, List.set_cons_zero, List.set_cons_succ, i64_w, i32_w]; rfl)
      refine take_ (i := 12) (N := some 46) (v := ?_) (a' := ?_) #[true, true, true, true, true, true, false, true, true, true, true, true, true, false, false] rfl rfl (take_ofW HT_.out HW_.out (by kernel_rfl)) (fun _ _ _ h => h) (Or.inl ⟨by rfl, ?_⟩) hHeld ?_ ?_
      rotate_left; (rintro w' ⟨s0, s1, s2, s3, s4, s5, s6, s7, s8, s9⟩; go_simp; with_reducible rfl); rotate_left; (simp only [Act.put, List.setIfInBounds_toArray, List.set_cons_zero, List.set_cons_succ, i64_w, i32_w]; rfl)
      refine one_ (i := 6) (N := some 40) #[true, true, true, true, true, true, true, true, true, true, true, true, true, false, false] rfl rfl (one_of HT_.out (by kernel_rfl)) (by decide) (fun K hK => ?_)
      refine goes_ Try.func12 (by kernel_rfl) rfl #[.agg #[.slice Ao16 t286.length co16, .int .i64 t289, .int .i64 t290, .int .i64 t291], .agg #[.bool t299, .bool t300, .slice Ao33 t301.length co33, .slice Ao34 t304.length co34], .slice A308_0 (rd_L5 t296 x11_1).length c308_0] (by rfl) rfl rfl (by (try simp only [List.map_toArray, List.map_cons, List.map_nil]); first | done | rfl | (simp only [List.length_drop, List.length_take]; rfl)) ?_
      with_reducible refine (index_In.calls k1 _ _ t286 t289 t290 t291 t299 t300 _ _ t301 _ _ t304 _ _ (rd_L5 t296 x11_1) t309 _ ?side1 ?side2 ?side3 ?side4 ?side5 ?side6 ?side7 ?side8 A37.out).mono ?_
      (case side1 => repeat (first | exact (Kd.R_reads' HO_293000.out).2.2 | (with_reducible refine Kd.C_alloc ?_ _) | (with_reducible refine Kd.C_drewN ?_ _) | (with_reducible refine Kd.C_drew ?_)))
      (case side2 => exact (Kd.R_reads' HO_293000.out).2.1)
      (case side3 => repeat (first | exact (Kd.R_reads' HO_308002.out).2.2 | (with_reducible refine Kd.C_alloc ?_ _) | (with_reducible refine Kd.C_drewN ?_ _) | (with_reducible refine Kd.C_drew ?_)))
      (case side4 => exact (Kd.R_reads' HO_308002.out).2.1)
      (case side5 => repeat (first | exact (Kd.R_reads' HO_308003.out).2.2 | (with_reducible refine Kd.C_alloc ?_ _) | (with_reducible refine Kd.C_drewN ?_ _) | (with_reducible refine Kd.C_drew ?_)))
      (case side6 => exact (Kd.R_reads' HO_308003.out).2.1)
      (case side7 => repeat (first | exact (by repeat (first | (with_reducible exact HR308_0.out) | (with_reducible refine Kd.C_alloc ?_ _) | (with_reducible refine Kd.C_drewN ?_ _) | (with_reducible refine Kd.C_drew ?_) | exact HR308_0.out)) | (with_reducible refine Kd.C_alloc ?_ _) | (with_reducible refine Kd.C_drewN ?_ _) | (with_reducible refine Kd.C_drew ?_)))
      (case side8 => exact HC308_0.out)
      rintro e w42 ⟨rfl, hb⟩
      have HS8_ := (hb.cell (World.block_lt_of_cell? _ _ (hHeld.2.2.2.2.2.2.2.2.1))).trans (hHeld.2.2.2.2.2.2.2.2.1)
      have HS9_ := (hb.cell (World.block_lt_of_cell? _ _ (hHeld.2.2.2.2.2.2.2.2.2))).trans (hHeld.2.2.2.2.2.2.2.2.2)
      refine ⟨_, rfl, ?_⟩
      have n0_ := Aside0.mk (Kd.N_below (by (with_reducible repeat (first | apply Kd.N_alloc | apply Kd.N_drewN | apply Kd.N_drew)); exact HO_9.out) hb)
      have n1_ := Aside0.mk (Kd.R_below (by (with_reducible repeat (first | apply Kd.R_alloc | apply Kd.R_drewN | apply Kd.R_drew)); exact HO_293000.out) hb)
      have n2_ := Aside0.mk (Kd.R_below (by (with_reducible repeat (first | apply Kd.R_alloc | apply Kd.R_drewN | apply Kd.R_drew)); exact HO_308002.out) hb)
      have n3_ := Aside0.mk (Kd.R_below (by (with_reducible repeat (first | apply Kd.R_alloc | apply Kd.R_drewN | apply Kd.R_drew)); exact HO_308003.out) hb)
      have n4_ := Aside0.mk (Kd.V_below (by (with_reducible repeat (first | apply Kd.V_alloc | apply Kd.V_drewN | apply Kd.V_drew)); exact HL308_0.out) hb)
      have n5_ := Aside0.mk (Kd.V_below (by (with_reducible repeat (first | apply Kd.V_alloc | apply Kd.V_drewN | apply Kd.V_drew)); exact HL310_0.out) hb)
      have n6_ := Aside0.mk (blk_below (g := gb283) (o := .cells #[.int .u8 a0_0, .int .u8 a0_1, .int .u8 a0_2, .int .u8 a0_3, .int .u8 a0_4, .int .u8 a0_5, .int .u8 a0_6, .int .u8 a0_7, .int .u8 a0_8, .int .u8 a0_9, .int .u8 a0_10, .int .u8 a0_11] 24 (0, 0)) (by (with_reducible repeat (first | refine blk_drewN ?_ _ | refine blk_drew ?_ | refine blk_alloc ?_ _)); exact BK283.out) hb)
      have n7_ := Aside0.mk (blk_below (g := gb284) (o := .cells #[.bool a2_0, .bool a2_1, .slice A2_2 l2_2.length c2_2, .slice A2_3 l2_3.length c2_3] 29 (0, 0)) (by (with_reducible repeat (first | refine blk_drewN ?_ _ | refine blk_drew ?_ | refine blk_alloc ?_ _)); exact BK284.out) hb)
      have n8_ := Aside0.mk (blk_below (g := gb292) (o := .cells #[.slice Ao16 t286.length co16, .int .i64 t289, .int .i64 t290, .int .i64 t291] 33 (0, 0)) (by (with_reducible repeat (first | refine blk_drewN ?_ _ | refine blk_drew ?_ | refine blk_alloc ?_ _)); exact BK292.out) hb)
      have n9_ := Aside0.mk (blk_below (g := gb307) (o := .cells #[.bool t299, .bool t300, .slice Ao33 t301.length co33, .slice Ao34 t304.length co34] 29 (0, 0)) (by (with_reducible repeat (first | refine blk_drewN ?_ _ | refine blk_drew ?_ | refine blk_alloc ?_ _)); exact BK307.out) hb)
      have n10_ := Aside0.mk (Kd.C_below (by repeat (first | (with_reducible exact HR308_0.out) | (with_reducible refine Kd.C_alloc ?_ _) | (with_reducible refine Kd.C_drewN ?_ _) | (with_reducible refine Kd.C_drew ?_) | exact HR308_0.out)) hb)
      have n11_ := Aside0.mk (Kd.C_below (by repeat (first | (with_reducible exact HR310_0.out) | (with_reducible refine Kd.C_alloc ?_ _) | (with_reducible refine Kd.C_drewN ?_ _) | (with_reducible refine Kd.C_drew ?_) | exact HR310_0.out)) hb)
      have n12_ := Aside0.mk (below_step (by repeat (first | (with_reducible first | exact HB.out | apply below_alloc | apply pw_below_drewN | apply below_drew1 | refine below_set ?_ GE283.out | refine below_set ?_ GE284.out | refine below_set ?_ GE292.out | refine below_set ?_ GE307.out) | exact HB.out)) hb)
      clear HO_9
      clear HO_293000
      clear HO_308002
      clear HO_308003
      clear HL308_0
      clear HL310_0
      clear BK283
      clear BK284
      clear BK292
      clear BK307
      clear HR308_0
      clear HR310_0
      clear HB
      have HO_9 := n0_
      have HO_293000 := n1_
      have HO_308002 := n2_
      have HO_308003 := n3_
      have HL308_0 := n4_
      have HL310_0 := n5_
      have BK283 := n6_
      have BK284 := n7_
      have BK292 := n8_
      have BK307 := n9_
      have HR308_0 := n10_
      have HR310_0 := n11_
      have HB := n12_
      clear n0_ n1_ n2_ n3_ n4_ n5_ n6_ n7_ n8_ n9_ n10_ n11_ n12_
      (try clear hb)
      (try clear hb2)
      (try clear hk)
      (try clear hi)
      refine hK.out _ _ ⟨(blk_cell BK292.out 0).trans rfl, (blk_cell BK292.out 1).trans rfl, (blk_cell BK292.out 2).trans rfl, (blk_cell BK292.out 3).trans rfl, (blk_cell BK307.out 0).trans rfl, (blk_cell BK307.out 1).trans rfl, (blk_cell BK307.out 2).trans rfl, (blk_cell BK307.out 3).trans rfl, HS8_, HS9_⟩ (fun hHeld => ?_)
      clear hK K
      refine norm_ (a' := ?_) ?_ ?_
      rotate_left
      ·show Act.put _ (some 40) _ = _
       simp only [Act.put, List.setIfInBounds_toArray, List.set_cons_zero, List.set_cons_succ, i64_w, i32_w]
       rfl
      refine one_ (i := 13) (N := some 47) #[true, true, true, true, true, true, true, true, true, true, true, true, true, true, false] rfl rfl (one_of HT_.out (by kernel_rfl)) (by decide) (fun K hK => ?_)
      refine goes_ Try.func13 (by kernel_rfl) rfl #[.agg #[.slice Ao16 t286.length co16, .int .i64 t289, .int .i64 t290, .int .i64 t291], .agg #[.bool t299, .bool t300, .slice Ao33 t301.length co33, .slice Ao34 t304.length co34], .slice A308_0 (rd_L5 t296 x11_1).length c308_0] (by rfl) rfl rfl (by (try simp only [List.map_toArray, List.map_cons, List.map_nil]); first | done | rfl | (simp only [List.length_drop, List.length_take]; rfl)) ?_
      with_reducible refine (thresherref12_In.calls k1 _ _ t286 t289 t290 t291 t299 t300 _ _ t301 _ _ t304 _ _ (rd_L5 t296 x11_1) t311 _ ?side1 ?side2 ?side3 ?side4 ?side5 ?side6 ?side7 ?side8 A38.out).mono ?_
      (case side1 => repeat (first | exact (Kd.R_reads' HO_293000.out).2.2 | (with_reducible refine Kd.C_alloc ?_ _) | (with_reducible refine Kd.C_drewN ?_ _) | (with_reducible refine Kd.C_drew ?_)))
      (case side2 => exact (Kd.R_reads' HO_293000.out).2.1)
      (case side3 => repeat (first | exact (Kd.R_reads' HO_308002.out).2.2 | (with_reducible refine Kd.C_alloc ?_ _) | (with_reducible refine Kd.C_drewN ?_ _) | (with_reducible refine Kd.C_drew ?_)))
      (case side4 => exact (Kd.R_reads' HO_308002.out).2.1)
      (case side5 => repeat (first | exact (Kd.R_reads' HO_308003.out).2.2 | (with_reducible refine Kd.C_alloc ?_ _) | (with_reducible refine Kd.C_drewN ?_ _) | (with_reducible refine Kd.C_drew ?_)))
      (case side6 => exact (Kd.R_reads' HO_308003.out).2.1)
      (case side7 => repeat (first | exact (by repeat (first | (with_reducible exact HR310_0.out) | (with_reducible refine Kd.C_alloc ?_ _) | (with_reducible refine Kd.C_drewN ?_ _) | (with_reducible refine Kd.C_drew ?_) | exact HR310_0.out)) | (with_reducible refine Kd.C_alloc ?_ _) | (with_reducible refine Kd.C_drewN ?_ _) | (with_reducible refine Kd.C_drew ?_)))
      (case side8 => exact HC310_0.out)
      rintro e w43 ⟨rfl, hb⟩
      have HS8_ := (hb.cell (World.block_lt_of_cell? _ _ (hHeld.2.2.2.2.2.2.2.2.1))).trans (hHeld.2.2.2.2.2.2.2.2.1)
      have HS9_ := (hb.cell (World.block_lt_of_cell? _ _ (hHeld.2.2.2.2.2.2.2.2.2))).trans (hHeld.2.2.2.2.2.2.2.2.2)
      refine ⟨_, rfl, ?_⟩
      have n0_ := Aside0.mk (Kd.N_below (by (with_reducible repeat (first | apply Kd.N_alloc | apply Kd.N_drewN | apply Kd.N_drew)); exact HO_9.out) hb)
      have n1_ := Aside0.mk (Kd.R_below (by (with_reducible repeat (first | apply Kd.R_alloc | apply Kd.R_drewN | apply Kd.R_drew)); exact HO_293000.out) hb)
      have n2_ := Aside0.mk (Kd.R_below (by (with_reducible repeat (first | apply Kd.R_alloc | apply Kd.R_drewN | apply Kd.R_drew)); exact HO_308002.out) hb)
      have n3_ := Aside0.mk (Kd.R_below (by (with_reducible repeat (first | apply Kd.R_alloc | apply Kd.R_drewN | apply Kd.R_drew)); exact HO_308003.out) hb)
      have n4_ := Aside0.mk (Kd.V_below (by (with_reducible repeat (first | apply Kd.V_alloc | apply Kd.V_drewN | apply Kd.V_drew)); exact HL308_0.out) hb)
      have n5_ := Aside0.mk (Kd.V_below (by (with_reducible repeat (first | apply Kd.V_alloc | apply Kd.V_drewN | apply Kd.V_drew)); exact HL310_0.out) hb)
      have n6_ := Aside0.mk (blk_below (g := gb283) (o := .cells #[.int .u8 a0_0, .int .u8 a0_1, .int .u8 a0_2, .int .u8 a0_3, .int .u8 a0_4, .int .u8 a0_5, .int .u8 a0_6, .int .u8 a0_7, .int .u8 a0_8, .int .u8 a0_9, .int .u8 a0_10, .int .u8 a0_11] 24 (0, 0)) (by (with_reducible repeat (first | refine blk_drewN ?_ _ | refine blk_drew ?_ | refine blk_alloc ?_ _)); exact BK283.out) hb)
      have n7_ := Aside0.mk (blk_below (g := gb284) (o := .cells #[.bool a2_0, .bool a2_1, .slice A2_2 l2_2.length c2_2, .slice A2_3 l2_3.length c2_3] 29 (0, 0)) (by (with_reducible repeat (first | refine blk_drewN ?_ _ | refine blk_drew ?_ | refine blk_alloc ?_ _)); exact BK284.out) hb)
      have n8_ := Aside0.mk (blk_below (g := gb292) (o := .cells #[.slice Ao16 t286.length co16, .int .i64 t289, .int .i64 t290, .int .i64 t291] 33 (0, 0)) (by (with_reducible repeat (first | refine blk_drewN ?_ _ | refine blk_drew ?_ | refine blk_alloc ?_ _)); exact BK292.out) hb)
      have n9_ := Aside0.mk (blk_below (g := gb307) (o := .cells #[.bool t299, .bool t300, .slice Ao33 t301.length co33, .slice Ao34 t304.length co34] 29 (0, 0)) (by (with_reducible repeat (first | refine blk_drewN ?_ _ | refine blk_drew ?_ | refine blk_alloc ?_ _)); exact BK307.out) hb)
      have n10_ := Aside0.mk (Kd.C_below (by repeat (first | (with_reducible exact HR308_0.out) | (with_reducible refine Kd.C_alloc ?_ _) | (with_reducible refine Kd.C_drewN ?_ _) | (with_reducible refine Kd.C_drew ?_) | exact HR308_0.out)) hb)
      have n11_ := Aside0.mk (Kd.C_below (by repeat (first | (with_reducible exact HR310_0.out) | (with_reducible refine Kd.C_alloc ?_ _) | (with_reducible refine Kd.C_drewN ?_ _) | (with_reducible refine Kd.C_drew ?_) | exact HR310_0.out)) hb)
      have n12_ := Aside0.mk (below_step (by repeat (first | (with_reducible first | exact HB.out | apply below_alloc | apply pw_below_drewN | apply below_drew1 | refine below_set ?_ GE283.out | refine below_set ?_ GE284.out | refine below_set ?_ GE292.out | refine below_set ?_ GE307.out) | exact HB.out)) hb)
      clear HO_9
      clear HO_293000
      clear HO_308002
      clear HO_308003
      clear HL308_0
      clear HL310_0
      clear BK283
      clear BK284
      clear BK292
      clear BK307
      clear HR308_0
      clear HR310_0
      clear HB
      have HO_9 := n0_
      have HO_293000 := n1_
      have HO_308002 := n2_
      have HO_308003 := n3_
      have HL308_0 := n4_
      have HL310_0 := n5_
      have BK283 := n6_
      have BK284 := n7_
      have BK292 := n8_
      have BK307 := n9_
      have HR308_0 := n10_
      have HR310_0 := n11_
      have HB := n12_
      clear n0_ n1_ n2_ n3_ n4_ n5_ n6_ n7_ n8_ n9_ n10_ n11_ n12_
      (try clear hb)
      (try clear hb2)
      (try clear hk)
      (try clear hi)
      refine hK.out _ _ ⟨(blk_cell BK292.out 0).trans rfl, (blk_cell BK292.out 1).trans rfl, (blk_cell BK292.out 2).trans rfl, (blk_cell BK292.out 3).trans rfl, (blk_cell BK307.out 0).trans rfl, (blk_cell BK307.out 1).trans rfl, (blk_cell BK307.out 2).trans rfl, (blk_cell BK307.out 3).trans rfl, HS8_, HS9_⟩ (fun hHeld => ?_)
      clear hK K
      refine norm_ (a' := ?_) ?_ ?_
      rotate_left
      ·show Act.put _ (some 47) _ = _
       simp only [Act.put, List.setIfInBounds_toArray, List.set_cons_zero, List.set_cons_succ, i64_w, i32_w]
       rfl
      refine pure_ (i := 14) (N := some 48) (v := ?_) (a' := ?_) #[true, true, true, true, true, true, true, true, true, true, true, true, true, true, true] rfl rfl (any_of HT_.out (by kernel_rfl)) (fun _ _ _ h => h) (Or.inl ⟨by rfl, ?_⟩) ?_ ?_
      rotate_left; (intro w'; go_simp; with_reducible rfl); rotate_left; (simp only [Act.put, List.setIfInBounds_toArray, List.set_cons_zero, List.set_cons_succ, i64_w, i32_w]; rfl)
      refine done_ (done_of HT_.out (by kernel_rfl)) ?_
      (try clear HS8_); (try clear HS9_); (try clear hHeld)
      try go_wp2
      go_ret
      exact ⟨by first | rfl | (simp [errW_none, errW_some] <;> rfl) | (simp [*, errW_none, errW_some] <;> rfl), by repeat (first | (with_reducible first | exact HB.out | apply below_alloc | apply pw_below_drewN | apply below_drew1 | refine below_set ?_ GE283.out | refine below_set ?_ GE284.out | refine below_set ?_ GE292.out | refine below_set ?_ GE307.out) | exact HB.out)⟩
     ·rw [if_neg c39] at H
      have c39b0 : (t309 != t311) = false := by simpa using c39
      (try (have c39b1 : decide (t309 = t311) = true := by simpa using c39))
      (try (have c39b2 : (t309 == t311) = true := by simpa using c39))
      clear c39
      have H' := Aside0.mk H
      clear H
      obtain ⟨Ao44, co44, eo44⟩ := Kd.N_slice HO_9.out
      subst eo44
      try go_wp2
      have n0_ := Aside0.mk (Kd.N_drew HO_9.out)
      have n1_ := Aside0.mk (Kd.R_drew HO_293000.out)
      have n2_ := Aside0.mk (Kd.R_drew HO_308002.out)
      have n3_ := Aside0.mk (Kd.R_drew HO_308003.out)
      have n4_ := Aside0.mk (blk_drew BK283.out)
      have n5_ := Aside0.mk (blk_drew BK284.out)
      have n6_ := Aside0.mk (blk_drew BK292.out)
      have n7_ := Aside0.mk (blk_drew BK307.out)
      have n8_ := Aside0.mk (below_drew1 HB.out)
      clear HO_9
      clear HO_293000
      clear HO_308002
      clear HO_308003
      clear BK283
      clear BK284
      clear BK292
      clear BK307
      clear HB
      have HO_9 := n0_
      have HO_293000 := n1_
      have HO_308002 := n2_
      have HO_308003 := n3_
      have BK283 := n4_
      have BK284 := n5_
      have BK292 := n6_
      have BK307 := n7_
      have HB := n8_
      clear n0_ n1_ n2_ n3_ n4_ n5_ n6_ n7_ n8_
      have p308 : 0 ≤ (x11_1 : Int) := of_decide_eq_true (by first | (with_reducible assumption) | assumption)
      have q308 : x11_1 < (t296.length : Int) := of_decide_eq_true (by first | (with_reducible assumption) | assumption)
      obtain ⟨ad308, A308_0, c308_0, e308, hx308_0, hl308_0, hi308_0⟩ := at_L5 (Kd.N_reads' HO_9.out).2.2 x11_1 p308 q308
      cases e308
      obtain ⟨ce308, hce308, hMe308, hcc308⟩ := Kd.N_get HO_9.out [] x11_1 p308 (by first | exact q308 | exact of_decide_eq_true (by first | (with_reducible assumption) | assumption) | (have e_ := (Kd.N_reads' HO_9.out).1; omega))
      obtain ⟨ua308_0, uc308_0, rfl, ul308_0, ge308_0⟩ := Kd.FK_slice_open hMe308
      have hv308_0 := hcc308 0 _ rfl
      rw [Nat.add_zero, show ((Kd.slice 44 k44)).sz = 1 from rfl, Nat.mul_one] at hv308_0
      replace hv308_0 := Option.some.inj (hv308_0.symm.trans hx308_0)
      injection hv308_0 with hva_ hvn_ hvc_
      rw [hva_] at ge308_0
      rw [hvc_] at ul308_0
      have HL308_0 := Aside0.mk (show Kd.V k44 44 _ w.heap.size _ _ (rd_L5 t296 x11_1) from Kd.V_mk ul308_0 ge308_0)
      clear hva_ hvn_ hvc_ ge308_0 ul308_0
      clear hcc308 hce308
      have HR308_0 := Aside0.mk hi308_0
      have HC308_0 := Aside0.mk hl308_0
      clear hi308_0 hl308_0
      replace p308 := eq_true p308
      replace q308 := eq_true q308
      have p310 : 0 ≤ (x11_1 : Int) := of_decide_eq_true (by first | (with_reducible assumption) | assumption)
      have q310 : x11_1 < (t296.length : Int) := of_decide_eq_true (by first | (with_reducible assumption) | assumption)
      obtain ⟨ad310, A310_0, c310_0, e310, hx310_0, hl310_0, hi310_0⟩ := at_L5 (Kd.N_reads' HO_9.out).2.2 x11_1 p310 q310
      obtain rfl : ad308 = ad310 := (by injection e310)
      obtain ⟨ce310, hce310, hMe310, hcc310⟩ := Kd.N_get HO_9.out [] x11_1 p310 (by first | exact q310 | exact of_decide_eq_true (by first | (with_reducible assumption) | assumption) | (have e_ := (Kd.N_reads' HO_9.out).1; omega))
      obtain ⟨ua310_0, uc310_0, rfl, ul310_0, ge310_0⟩ := Kd.FK_slice_open hMe310
      have hv310_0 := hcc310 0 _ rfl
      rw [Nat.add_zero, show ((Kd.slice 44 k44)).sz = 1 from rfl, Nat.mul_one] at hv310_0
      replace hv310_0 := Option.some.inj (hv310_0.symm.trans hx310_0)
      injection hv310_0 with hva_ hvn_ hvc_
      rw [hva_] at ge310_0
      rw [hvc_] at ul310_0
      have HL310_0 := Aside0.mk (show Kd.V k44 44 _ w.heap.size _ _ (rd_L5 t296 x11_1) from Kd.V_mk ul310_0 ge310_0)
      clear hva_ hvn_ hvc_ ge310_0 ul310_0
      clear hcc310 hce310
      have HR310_0 := Aside0.mk hi310_0
      have HC310_0 := Aside0.mk hl310_0
      clear hi310_0 hl310_0
      replace p310 := eq_true p310
      replace q310 := eq_true q310
      have ea_ := Option.some.inj (hx308_0.symm.trans hx310_0)
      injection ea_ with ea_ en_ ec_
      subst ea_
      subst ec_
      clear en_
      refine start_ (n := 15) (S := fun w' => w'.cell? ⟨gb292, 0, none⟩ = some (.slice Ao16 t286.length co16) ∧ w'.cell? ⟨gb292, 1, none⟩ = some (.int .i64 t289) ∧ w'.cell? ⟨gb292, 2, none⟩ = some (.int .i64 t290) ∧ w'.cell? ⟨gb292, 3, none⟩ = some (.int .i64 t291) ∧ w'.cell? ⟨gb307, 0, none⟩ = some (.bool t299) ∧ w'.cell? ⟨gb307, 1, none⟩ = some (.bool t300) ∧ w'.cell? ⟨gb307, 2, none⟩ = some (.slice Ao33 t301.length co33) ∧ w'.cell? ⟨gb307, 3, none⟩ = some (.slice Ao34 t304.length co34) ∧ w'.cell? (ad308.add (x11_1).toNat) = some (.slice A308_0 (rd_L5 t296 x11_1).length c308_0) ∧ w'.cell? (ad308.add (x11_1).toNat) = some (.slice A308_0 (rd_L5 t296 x11_1).length c308_0)) (ds := []) #[false, false, false, false, false, false, false, false, false, false, false, false, false, false, false] (by kernel_rfl) rfl rfl ⟨(blk_cell BK292.out 0).trans rfl, (blk_cell BK292.out 1).trans rfl, (blk_cell BK292.out 2).trans rfl, (blk_cell BK292.out 3).trans rfl, (blk_cell BK307.out 0).trans rfl, (blk_cell BK307.out 1).trans rfl, (blk_cell BK307.out 2).trans rfl, (blk_cell BK307.out 3).trans rfl, hx308_0, hx310_0⟩ (fun hHeld => ?_); refine with_tabW thresherlaw12_IndexAll.tab8 thresherlaw12_IndexAll.bits8 (fun HT_ HW_ => ?_)
      generalize wr.drew = w45 at HO_9 HO_293000 HO_308002 HO_308003 BK283 BK284 BK292 BK307 HB HL308_0 HL310_0 HR308_0 HR310_0 hx308_0 hx310_0 hHeld ⊢
      refine pure_ (i := 2) (N := some 36) (v := ?_) (a' := ?_) #[false, false, true, false, false, false, false, false, false, false, false, false, false, false, false] rfl rfl (any_of HT_.out (by kernel_rfl)) (fun _ _ _ h => h) (Or.inl ⟨by rfl, ?_⟩) ?_ ?_
      rotate_left; (intro w'; go_simp; with_reducible rfl); rotate_left; (simp only [Act.put, List.setIfInBounds_toArray, List.set_cons_zero, List.set_cons_succ, i64_w, i32_w]; rfl)
      refine pure_ (i := 3) (N := some 37) (v := ?_) (a' := ?_) #[false, false, true, true, false, false, false, false, false, false, false, false, false, false, false] rfl rfl (any_of HT_.out (by kernel_rfl)) (fun _ _ _ h => h) (Or.inl ⟨by rfl, ?_⟩) ?_ ?_
      rotate_left; (intro w'; go_simp; with_reducible rfl); rotate_left; (simp only [Act.put, List.setIfInBounds_toArray, List.set_cons_zero, List.set_cons_succ, i64_w, i32_w]; rfl)
      refine pure_ (i := 4) (N := some 38) (v := ?_) (a' := ?_) #[false, false, true, true, true, false, false, false, false, false, false, false, false, false, false] rfl rfl (any_of HT_.out (by kernel_rfl)) (fun _ _ _ h => h) (Or.inl ⟨by rfl, ?_⟩) ?_ ?_
      rotate_left; (intro w'; go_simp; with_reducible rfl); rotate_left; (simp only [Act.put, List.setIfInBounds_toArray, List.set_cons_zero, List.set_cons_succ, i64_w, i32_w]; rfl)
      refine pure_ (i := 9) (N := some 43) (v := ?_) (a' := ?_) #[false, false, true, true, true, false, false, false, false, true, false, false, false, false, false] rfl rfl (any_of HT_.out (by kernel_rfl)) (fun _ _ _ h => h) (Or.inl ⟨by rfl, ?_⟩) ?_ ?_
      rotate_left; (intro w'; go_simp; with_reducible rfl); rotate_left; (simp only [Act.put, List.setIfInBounds_toArray, List.set_cons_zero, List.set_cons_succ, i64_w, i32_w]; rfl)
      refine pure_ (i := 10) (N := some 44) (v := ?_) (a' := ?_) #[false, false, true, true, true, false, false, false, false, true, true, false, false, false, false] rfl rfl (any_of HT_.out (by kernel_rfl)) (fun _ _ _ h => h) (Or.inl ⟨by rfl, ?_⟩) ?_ ?_
      rotate_left; (intro w'; go_simp; with_reducible rfl); rotate_left; (simp only [Act.put, List.setIfInBounds_toArray, List.set_cons_zero, List.set_cons_succ, i64_w, i32_w]; rfl)
      refine pure_ (i := 11) (N := some 45) (v := ?_) (a' := ?_) #[false, false, true, true, true, false, false, false, false, true, true, true, false, false, false] rfl rfl (any_of HT_.out (by kernel_rfl)) (fun _ _ _ h => h) (Or.inl ⟨by rfl, ?_⟩) ?_ ?_
      rotate_left; (intro w'; go_simp; with_reducible rfl); rotate_left; (simp only [Act.put, List.setIfInBounds_toArray, List.set_cons_zero, List.set_cons_succ, i64_w, i32_w]; rfl)
      refine take_ (i := 0) (N := some 34) (v := ?_) (a' := ?_) #[true, false, true, true, true, false, false, false, false, true, true, true, false, false, false] rfl rfl (take_ofW HT_.out HW_.out (by kernel_rfl)) (fun _ _ _ h => h) (Or.inl ⟨by rfl, ?_⟩) hHeld ?_ ?_
      rotate_left; (rintro w' ⟨s0, s1, s2, s3, s4, s5, s6, s7, s8, s9⟩; go_simp; with_reducible rfl); rotate_left; (simp only [Act.put, List.setIfInBounds_toArray, List.set_cons_zero, List.set_cons_succ, i64_w, i32_w]; rfl)
      refine take_ (i := 1) (N := some 35) (v := ?_) (a' := ?_) #[true, true, true, true, true, false, false, false, false, true, true, true, false, false, false] rfl rfl (take_ofW HT_.out HW_.out (by kernel_rfl)) (fun _ _ _ h => h) (Or.inl ⟨by rfl, ?_⟩) hHeld ?_ ?_
      rotate_left; (rintro w' ⟨s0, s1, s2, s3, s4, s5, s6, s7, s8, s9⟩; go_simp; with_reducible rfl); rotate_left; (simp only [Act.put, List.setIfInBounds_toArray, List.set_cons_zero, List.set_cons_succ, i64_w, i32_w]; rfl)
      refine take_ (i := 5) (N := some 39) (v := ?_) (a' := ?_) #[true, true, true, true, true, true, false, false, false, true, true, true, false, false, false] rfl rfl (take_ofW HT_.out HW_.out (by kernel_rfl)) (fun _ _ _ h => h) (Or.inl ⟨by rfl, ?_⟩) hHeld ?_ ?_
      rotate_left; (rintro w' ⟨s0, s1, s2, s3, s4, s5, s6, s7, s8, s9⟩; go_simp; with_reducible rfl); rotate_left; (simp only [Act.put, List.setIfInBounds_toArray, List.set_cons_zero, List.set_cons_succ, i64_w, i32_w]; rfl)
      refine take_ (i := 7) (N := some 41) (v := ?_) (a' := ?_) #[true, true, true, true, true, true, false, true, false, true, true, true, false, false, false] rfl rfl (take_ofW HT_.out HW_.out (by kernel_rfl)) (fun _ _ _ h => h) (Or.inl ⟨by rfl, ?_⟩) hHeld ?_ ?_
      rotate_left; (rintro w' ⟨s0, s1, s2, s3, s4, s5, s6, s7, s8, s9⟩; go_simp; with_reducible rfl); rotate_left; (simp only [Act.put, List.setIfInBounds_toArray, List.set_cons_zero, List.set_cons_succ, i64_w, i32_w]; rfl)
      refine take_ (i := 8) (N := some 42) (v := ?_) (a' := ?_) #[true, true, true, true, true, true, false, true, true, true, true, true, false, false, false] rfl rfl (take_ofW HT_.out HW_.out (by kernel_rfl)) (fun _ _ _ h => h) (Or.inl ⟨by rfl, ?_⟩) hHeld ?_ ?_
      rotate_left; (rintro w' ⟨s0, s1, s2, s3, s4, s5, s6, s7, s8, s9⟩; go_simp; with_reducible rfl); rotate_left; (simp only [Act.put, List.setIfInBounds_toArray, List.set_cons_zero, List.set_cons_succ, i64_w, i32_w]; rfl)
      refine take_ (i := 12) (N := some 46) (v := ?_) (a' := ?_) #[true, true, true, true, true, true, false, true, true, true, true, true, true, false, false] rfl rfl (take_ofW HT_.out HW_.out (by kernel_rfl)) (fun _ _ _ h => h) (Or.inl ⟨by rfl, ?_⟩) hHeld ?_ ?_
      rotate_left; (rintro w' ⟨s0, s1, s2, s3, s4, s5, s6, s7, s8, s9⟩; go_simp; with_reducible rfl); rotate_left; (simp only [Act.put, List.setIfInBounds_toArray, List.set_cons_zero, List.set_cons_succ, i64_w, i32_w]; rfl)
      refine one_ (i := 6) (N := some 40) #[true, true, true, true, true, true, true, true, true, true, true, true, true, false, false] rfl rfl (one_of HT_.out (by kernel_rfl)) (by decide) (fun K hK => ?_)
      refine goes_ Try.func12 (by kernel_rfl) rfl #[.agg #[.slice Ao16 t286.length co16, .int .i64 t289, .int .i64 t290, .int .i64 t291], .agg #[.bool t299, .bool t300, .slice Ao33 t301.length co33, .slice Ao34 t304.length co34], .slice A308_0 (rd_L5 t296 x11_1).length c308_0] (by rfl) rfl rfl (by (try simp only [List.map_toArray, List.map_cons, List.map_nil]); first | done | rfl | (simp only [List.length_drop, List.length_take]; rfl)) ?_
      with_reducible refine (index_In.calls k1 _ _ t286 t289 t290 t291 t299 t300 _ _ t301 _ _ t304 _ _ (rd_L5 t296 x11_1) t309 _ ?side1 ?side2 ?side3 ?side4 ?side5 ?side6 ?side7 ?side8 A37.out).mono ?_
      (case side1 => repeat (first | exact (Kd.R_reads' HO_293000.out).2.2 | (with_reducible refine Kd.C_alloc ?_ _) | (with_reducible refine Kd.C_drewN ?_ _) | (with_reducible refine Kd.C_drew ?_)))
      (case side2 => exact (Kd.R_reads' HO_293000.out).2.1)
      (case side3 => repeat (first | exact (Kd.R_reads' HO_308002.out).2.2 | (with_reducible refine Kd.C_alloc ?_ _) | (with_reducible refine Kd.C_drewN ?_ _) | (with_reducible refine Kd.C_drew ?_)))
      (case side4 => exact (Kd.R_reads' HO_308002.out).2.1)
      (case side5 => repeat (first | exact (Kd.R_reads' HO_308003.out).2.2 | (with_reducible refine Kd.C_alloc ?_ _) | (with_reducible refine Kd.C_drewN ?_ _) | (with_reducible refine Kd.C_drew ?_)))
      (case side6 => exact (Kd.R_reads' HO_308003.out).2.1)
      (case side7 => repeat (first | exact (by repeat (first | (with_reducible exact HR308_0.out) | (with_reducible refine Kd.C_alloc ?_ _) | (with_reducible refine Kd.C_drewN ?_ _) | (with_reducible refine Kd.C_drew ?_) | exact HR308_0.out)) | (with_reducible refine Kd.C_alloc ?_ _) | (with_reducible refine Kd.C_drewN ?_ _) | (with_reducible refine Kd.C_drew ?_)))
      (case side8 => exact HC308_0.out)
      rintro e w46 ⟨rfl, hb⟩
      have HS8_ := (hb.cell (World.block_lt_of_cell? _ _ (hHeld.2.2.2.2.2.2.2.2.1))).trans (hHeld.2.2.2.2.2.2.2.2.1)
      have HS9_ := (hb.cell (World.block_lt_of_cell? _ _ (hHeld.2.2.2.2.2.2.2.2.2))).trans (hHeld.2.2.2.2.2.2.2.2.2)
      refine ⟨_, rfl, ?_⟩
      have n0_ := Aside0.mk (Kd.N_below (by (with_reducible repeat (first | apply Kd.N_alloc | apply Kd.N_drewN | apply Kd.N_drew)); exact HO_9.out) hb)
      have n1_ := Aside0.mk (Kd.R_below (by (with_reducible repeat (first | apply Kd.R_alloc | apply Kd.R_drewN | apply Kd.R_drew)); exact HO_293000.out) hb)
      have n2_ := Aside0.mk (Kd.R_below (by (with_reducible repeat (first | apply Kd.R_alloc | apply Kd.R_drewN | apply Kd.R_drew)); exact HO_308002.out) hb)
      have n3_ := Aside0.mk (Kd.R_below (by (with_reducible repeat (first | apply Kd.R_alloc | apply Kd.R_drewN | apply Kd.R_drew)); exact HO_308003.out) hb)
      have n4_ := Aside0.mk (Kd.V_below (by (with_reducible repeat (first | apply Kd.V_alloc | apply Kd.V_drewN | apply Kd.V_drew)); exact HL308_0.out) hb)
      have n5_ := Aside0.mk (Kd.V_below (by (with_reducible repeat (first | apply Kd.V_alloc | apply Kd.V_drewN | apply Kd.V_drew)); exact HL310_0.out) hb)
      have n6_ := Aside0.mk (blk_below (g := gb283) (o := .cells #[.int .u8 a0_0, .int .u8 a0_1, .int .u8 a0_2, .int .u8 a0_3, .int .u8 a0_4, .int .u8 a0_5, .int .u8 a0_6, .int .u8 a0_7, .int .u8 a0_8, .int .u8 a0_9, .int .u8 a0_10, .int .u8 a0_11] 24 (0, 0)) (by (with_reducible repeat (first | refine blk_drewN ?_ _ | refine blk_drew ?_ | refine blk_alloc ?_ _)); exact BK283.out) hb)
      have n7_ := Aside0.mk (blk_below (g := gb284) (o := .cells #[.bool a2_0, .bool a2_1, .slice A2_2 l2_2.length c2_2, .slice A2_3 l2_3.length c2_3] 29 (0, 0)) (by (with_reducible repeat (first | refine blk_drewN ?_ _ | refine blk_drew ?_ | refine blk_alloc ?_ _)); exact BK284.out) hb)
      have n8_ := Aside0.mk (blk_below (g := gb292) (o := .cells #[.slice Ao16 t286.length co16, .int .i64 t289, .int .i64 t290, .int .i64 t291] 33 (0, 0)) (by (with_reducible repeat (first | refine blk_drewN ?_ _ | refine blk_drew ?_ | refine blk_alloc ?_ _)); exact BK292.out) hb)
      have n9_ := Aside0.mk (blk_below (g := gb307) (o := .cells #[.bool t299, .bool t300, .slice Ao33 t301.length co33, .slice Ao34 t304.length co34] 29 (0, 0)) (by (with_reducible repeat (first | refine blk_drewN ?_ _ | refine blk_drew ?_ | refine blk_alloc ?_ _)); exact BK307.out) hb)
      have n10_ := Aside0.mk (Kd.C_below (by repeat (first | (with_reducible exact HR308_0.out) | (with_reducible refine Kd.C_alloc ?_ _) | (with_reducible refine Kd.C_drewN ?_ _) | (with_reducible refine Kd.C_drew ?_) | exact HR308_0.out)) hb)
      have n11_ := Aside0.mk (Kd.C_below (by repeat (first | (with_reducible exact HR310_0.out) | (with_reducible refine Kd.C_alloc ?_ _) | (with_reducible refine Kd.C_drewN ?_ _) | (with_reducible refine Kd.C_drew ?_) | exact HR310_0.out)) hb)
      have n12_ := Aside0.mk (below_step (by repeat (first | (with_reducible first | exact HB.out | apply below_alloc | apply pw_below_drewN | apply below_drew1 | refine below_set ?_ GE283.out | refine below_set ?_ GE284.out | refine below_set ?_ GE292.out | refine below_set ?_ GE307.out) | exact HB.out)) hb)
      clear HO_9
      clear HO_293000
      clear HO_308002
      clear HO_308003
      clear HL308_0
      clear HL310_0
      clear BK283
      clear BK284
      clear BK292
      clear BK307
      clear HR308_0
      clear HR310_0
      clear HB
      have HO_9 := n0_
      have HO_293000 := n1_
      have HO_308002 := n2_
      have HO_308003 := n3_
      have HL308_0 := n4_
      have HL310_0 := n5_
      have BK283 := n6_
      have BK284 := n7_
      have BK292 := n8_
      have BK307 := n9_
      have HR308_0 := n10_
      have HR310_0 := n11_
      have HB := n12_
      clear n0_ n1_ n2_ n3_ n4_ n5_ n6_ n7_ n8_ n9_ n10_ n11_ n12_
      (try clear hb)
      (try clear hb2)
      (try clear hk)
      (try clear hi)
      refine hK.out _ _ ⟨(blk_cell BK292.out 0).trans rfl, (blk_cell BK292.out 1).trans rfl, (blk_cell BK292.out 2).trans rfl, (blk_cell BK292.out 3).trans rfl, (blk_cell BK307.out 0).trans rfl, (blk_cell BK307.out 1).trans rfl, (blk_cell BK307.out 2).trans rfl, (blk_cell BK307.out 3).trans rfl, HS8_, HS9_⟩ (fun hHeld => ?_)
      clear hK K
      refine norm_ (a' := ?_) ?_ ?_
      rotate_left
      ·show Act.put _ (some 40) _ = _
       simp only [Act.put, List.setIfInBounds_toArray, List.set_cons_zero, List.set_cons_succ, i64_w, i32_w]
       rfl
      refine one_ (i := 13) (N := some 47) #[true, true, true, true, true, true, true, true, true, true, true, true, true, true, false] rfl rfl (one_of HT_.out (by kernel_rfl)) (by decide) (fun K hK => ?_)
      refine goes_ Try.func13 (by kernel_rfl) rfl #[.agg #[.slice Ao16 t286.length co16, .int .i64 t289, .int .i64 t290, .int .i64 t291], .agg #[.bool t299, .bool t300, .slice Ao33 t301.length co33, .slice Ao34 t304.length co34], .slice A308_0 (rd_L5 t296 x11_1).length c308_0] (by rfl) rfl rfl (by (try simp only [List.map_toArray, List.map_cons, List.map_nil]); first | done | rfl | (simp only [List.length_drop, List.length_take]; rfl)) ?_
      with_reducible refine (thresherref12_In.calls k1 _ _ t286 t289 t290 t291 t299 t300 _ _ t301 _ _ t304 _ _ (rd_L5 t296 x11_1) t311 _ ?side1 ?side2 ?side3 ?side4 ?side5 ?side6 ?side7 ?side8 A38.out).mono ?_
      (case side1 => repeat (first | exact (Kd.R_reads' HO_293000.out).2.2 | (with_reducible refine Kd.C_alloc ?_ _) | (with_reducible refine Kd.C_drewN ?_ _) | (with_reducible refine Kd.C_drew ?_)))
      (case side2 => exact (Kd.R_reads' HO_293000.out).2.1)
      (case side3 => repeat (first | exact (Kd.R_reads' HO_308002.out).2.2 | (with_reducible refine Kd.C_alloc ?_ _) | (with_reducible refine Kd.C_drewN ?_ _) | (with_reducible refine Kd.C_drew ?_)))
      (case side4 => exact (Kd.R_reads' HO_308002.out).2.1)
      (case side5 => repeat (first | exact (Kd.R_reads' HO_308003.out).2.2 | (with_reducible refine Kd.C_alloc ?_ _) | (with_reducible refine Kd.C_drewN ?_ _) | (with_reducible refine Kd.C_drew ?_)))
      (case side6 => exact (Kd.R_reads' HO_308003.out).2.1)
      (case side7 => repeat (first | exact (by repeat (first | (with_reducible exact HR310_0.out) | (with_reducible refine Kd.C_alloc ?_ _) | (with_reducible refine Kd.C_drewN ?_ _) | (with_reducible refine Kd.C_drew ?_) | exact HR310_0.out)) | (with_reducible refine Kd.C_alloc ?_ _) | (with_reducible refine Kd.C_drewN ?_ _) | (with_reducible refine Kd.C_drew ?_)))
      (case side8 => exact HC310_0.out)
      rintro e w47 ⟨rfl, hb⟩
      have HS8_ := (hb.cell (World.block_lt_of_cell? _ _ (hHeld.2.2.2.2.2.2.2.2.1))).trans (hHeld.2.2.2.2.2.2.2.2.1)
      have HS9_ := (hb.cell (World.block_lt_of_cell? _ _ (hHeld.2.2.2.2.2.2.2.2.2))).trans (hHeld.2.2.2.2.2.2.2.2.2)
      refine ⟨_, rfl, ?_⟩
      have n0_ := Aside0.mk (Kd.N_below (by (with_reducible repeat (first | apply Kd.N_alloc | apply Kd.N_drewN | apply Kd.N_drew)); exact HO_9.out) hb)
      have n1_ := Aside0.mk (Kd.R_below (by (with_reducible repeat (first | apply Kd.R_alloc | apply Kd.R_drewN | apply Kd.R_drew)); exact HO_293000.out) hb)
      have n2_ := Aside0.mk (Kd.R_below (by (with_reducible repeat (first | apply Kd.R_alloc | apply Kd.R_drewN | apply Kd.R_drew)); exact HO_308002.out) hb)
      have n3_ := Aside0.mk (Kd.R_below (by (with_reducible repeat (first | apply Kd.R_alloc | apply Kd.R_drewN | apply Kd.R_drew)); exact HO_308003.out) hb)
      have n4_ := Aside0.mk (Kd.V_below (by (with_reducible repeat (first | apply Kd.V_alloc | apply Kd.V_drewN | apply Kd.V_drew)); exact HL308_0.out) hb)
      have n5_ := Aside0.mk (Kd.V_below (by (with_reducible repeat (first | apply Kd.V_alloc | apply Kd.V_drewN | apply Kd.V_drew)); exact HL310_0.out) hb)
      have n6_ := Aside0.mk (blk_below (g := gb283) (o := .cells #[.int .u8 a0_0, .int .u8 a0_1, .int .u8 a0_2, .int .u8 a0_3, .int .u8 a0_4, .int .u8 a0_5, .int .u8 a0_6, .int .u8 a0_7, .int .u8 a0_8, .int .u8 a0_9, .int .u8 a0_10, .int .u8 a0_11] 24 (0, 0)) (by (with_reducible repeat (first | refine blk_drewN ?_ _ | refine blk_drew ?_ | refine blk_alloc ?_ _)); exact BK283.out) hb)
      have n7_ := Aside0.mk (blk_below (g := gb284) (o := .cells #[.bool a2_0, .bool a2_1, .slice A2_2 l2_2.length c2_2, .slice A2_3 l2_3.length c2_3] 29 (0, 0)) (by (with_reducible repeat (first | refine blk_drewN ?_ _ | refine blk_drew ?_ | refine blk_alloc ?_ _)); exact BK284.out) hb)
      have n8_ := Aside0.mk (blk_below (g := gb292) (o := .cells #[.slice Ao16 t286.length co16, .int .i64 t289, .int .i64 t290, .int .i64 t291] 33 (0, 0)) (by (with_reducible repeat (first | refine blk_drewN ?_ _ | refine blk_drew ?_ | refine blk_alloc ?_ _)); exact BK292.out) hb)
      have n9_ := Aside0.mk (blk_below (g := gb307) (o := .cells #[.bool t299, .bool t300, .slice Ao33 t301.length co33, .slice Ao34 t304.length co34] 29 (0, 0)) (by (with_reducible repeat (first | refine blk_drewN ?_ _ | refine blk_drew ?_ | refine blk_alloc ?_ _)); exact BK307.out) hb)
      have n10_ := Aside0.mk (Kd.C_below (by repeat (first | (with_reducible exact HR308_0.out) | (with_reducible refine Kd.C_alloc ?_ _) | (with_reducible refine Kd.C_drewN ?_ _) | (with_reducible refine Kd.C_drew ?_) | exact HR308_0.out)) hb)
      have n11_ := Aside0.mk (Kd.C_below (by repeat (first | (with_reducible exact HR310_0.out) | (with_reducible refine Kd.C_alloc ?_ _) | (with_reducible refine Kd.C_drewN ?_ _) | (with_reducible refine Kd.C_drew ?_) | exact HR310_0.out)) hb)
      have n12_ := Aside0.mk (below_step (by repeat (first | (with_reducible first | exact HB.out | apply below_alloc | apply pw_below_drewN | apply below_drew1 | refine below_set ?_ GE283.out | refine below_set ?_ GE284.out | refine below_set ?_ GE292.out | refine below_set ?_ GE307.out) | exact HB.out)) hb)
      clear HO_9
      clear HO_293000
      clear HO_308002
      clear HO_308003
      clear HL308_0
      clear HL310_0
      clear BK283
      clear BK284
      clear BK292
      clear BK307
      clear HR308_0
      clear HR310_0
      clear HB
      have HO_9 := n0_
      have HO_293000 := n1_
      have HO_308002 := n2_
      have HO_308003 := n3_
      have HL308_0 := n4_
      have HL310_0 := n5_
      have BK283 := n6_
      have BK284 := n7_
      have BK292 := n8_
      have BK307 := n9_
      have HR308_0 := n10_
      have HR310_0 := n11_
      have HB := n12_
      clear n0_ n1_ n2_ n3_ n4_ n5_ n6_ n7_ n8_ n9_ n10_ n11_ n12_
      (try clear hb)
      (try clear hb2)
      (try clear hk)
      (try clear hi)
      refine hK.out _ _ ⟨(blk_cell BK292.out 0).trans rfl, (blk_cell BK292.out 1).trans rfl, (blk_cell BK292.out 2).trans rfl, (blk_cell BK292.out 3).trans rfl, (blk_cell BK307.out 0).trans rfl, (blk_cell BK307.out 1).trans rfl, (blk_cell BK307.out 2).trans rfl, (blk_cell BK307.out 3).trans rfl, HS8_, HS9_⟩ (fun hHeld => ?_)
      clear hK K
      refine norm_ (a' := ?_) ?_ ?_
      rotate_left
      ·show Act.put _ (some 47) _ = _
       simp only [Act.put, List.setIfInBounds_toArray, List.set_cons_zero, List.set_cons_succ, i64_w, i32_w]
       rfl
      refine pure_ (i := 14) (N := some 48) (v := ?_) (a' := ?_) #[true, true, true, true, true, true, true, true, true, true, true, true, true, true, true] rfl rfl (any_of HT_.out (by kernel_rfl)) (fun _ _ _ h => h) (Or.inl ⟨by rfl, ?_⟩) ?_ ?_
      rotate_left; (intro w'; go_simp; with_reducible rfl); rotate_left; (simp only [Act.put, List.setIfInBounds_toArray, List.set_cons_zero, List.set_cons_succ, i64_w, i32_w]; rfl)
      refine done_ (done_of HT_.out (by kernel_rfl)) ?_
      (try clear HS8_); (try clear HS9_); (try clear hHeld)
      try go_wp2
      go_roundg k1
      case measure => have := HK1.out; omega
      case rel => exact ⟨(wrap64 (x11_1 + 1)), (by first | rfl | (simp; done) | (simp [*]; done)), (by first | exact H' | (subst_vars; exact H')), ⟨by have := HK1.out; omega⟩, ⟨by (with_reducible repeat (first | apply Kd.N_alloc | apply Kd.N_drewN | apply Kd.N_drew)); exact HO_9.out⟩, ⟨by (with_reducible repeat (first | apply Kd.R_alloc | apply Kd.R_drewN | apply Kd.R_drew)); exact HO_293000.out⟩, ⟨by (with_reducible repeat (first | apply Kd.R_alloc | apply Kd.R_drewN | apply Kd.R_drew)); exact HO_308002.out⟩, ⟨by (with_reducible repeat (first | apply Kd.R_alloc | apply Kd.R_drewN | apply Kd.R_drew)); exact HO_308003.out⟩, ⟨by (with_reducible repeat (first | refine blk_drewN ?_ _ | refine blk_drew ?_ | refine blk_alloc ?_ _)); exact BK283.out⟩, ⟨by (with_reducible repeat (first | refine blk_drewN ?_ _ | refine blk_drew ?_ | refine blk_alloc ?_ _)); exact BK284.out⟩, ⟨by (with_reducible repeat (first | refine blk_drewN ?_ _ | refine blk_drew ?_ | refine blk_alloc ?_ _)); exact BK292.out⟩, ⟨by (with_reducible repeat (first | refine blk_drewN ?_ _ | refine blk_drew ?_ | refine blk_alloc ?_ _)); exact BK307.out⟩, ⟨by repeat (first | (with_reducible first | exact HB.out | apply below_alloc | apply pw_below_drewN | apply below_drew1 | refine below_set ?_ GE283.out | refine below_set ?_ GE284.out | refine below_set ?_ GE292.out | refine below_set ?_ GE307.out) | exact HB.out)⟩⟩
    ·rw [if_neg c36] at H
     exact absurd H (by simp)
   ·rw [if_neg c35] at H
    have c35b0 : decide (x11_1 < (t296.length : Int)) = false := decide_eq_false c35
    clear c35
    replace H := Option.bind_eq_some_iff.mp H
    obtain ⟨t312, A480, H⟩ := H
    replace H : ((index_Meets.f k1 t286 t289 t290 t291 t312 t299 t300 t301 t304).bind fun bt315 => ((thresherref12_Meets.f k1 t286 t289 t290 t291 t312 t299 t300 t301 t304).bind fun bt317 => (if t285 = true then (if bt315.1 = bt317.1 then (if bt315.2 = bt317.2 then ((index_Empty.f k1 t286 t289 t290 t291 t299 t300 t301 t304).bind fun t319 => ((thresherref12_Empty.f k1 t286 t289 t290 t291 t299 t300 t301 t304).bind fun t320 => (thresherlaw12_IndexAll.j1 k1 (t319 == t320)))) else (thresherlaw12_IndexAll.j1 k1 false)) else (thresherlaw12_IndexAll.j1 k1 false)) else (thresherlaw12_IndexAll.j1 k1 false)))) = some r := H
    have A48 := Aside0.mk A480
    clear A480
    replace H := Option.bind_eq_some_iff.mp H
    obtain ⟨⟨t315, t316⟩, A490, H⟩ := H
    replace H : ((thresherref12_Meets.f k1 t286 t289 t290 t291 t312 t299 t300 t301 t304).bind fun bt317 => (if t285 = true then (if t315 = bt317.1 then (if t316 = bt317.2 then ((index_Empty.f k1 t286 t289 t290 t291 t299 t300 t301 t304).bind fun t319 => ((thresherref12_Empty.f k1 t286 t289 t290 t291 t299 t300 t301 t304).bind fun t320 => (thresherlaw12_IndexAll.j1 k1 (t319 == t320)))) else (thresherlaw12_IndexAll.j1 k1 false)) else (thresherlaw12_IndexAll.j1 k1 false)) else (thresherlaw12_IndexAll.j1 k1 false))) = some r := H
    have A49 := Aside0.mk A490
    clear A490
    replace H := Option.bind_eq_some_iff.mp H
    obtain ⟨⟨t317, t318⟩, A500, H⟩ := H
    replace H : (if t285 = true then (if t315 = t317 then (if t316 = t318 then ((index_Empty.f k1 t286 t289 t290 t291 t299 t300 t301 t304).bind fun t319 => ((thresherref12_Empty.f k1 t286 t289 t290 t291 t299 t300 t301 t304).bind fun t320 => (thresherlaw12_IndexAll.j1 k1 (t319 == t320)))) else (thresherlaw12_IndexAll.j1 k1 false)) else (thresherlaw12_IndexAll.j1 k1 false)) else (thresherlaw12_IndexAll.j1 k1 false)) = some r := H
    have A50 := Aside0.mk A500
    clear A500
    have HC51 := Aside0.mk H
    clear H
    obtain ⟨Ao52, co52, eo52⟩ := Kd.N_slice HO_9.out
    subst eo52
    have hnb53 := NB292_283.out
    have hnc53 := NB283_292.out
    have hnb54 := NB292_284.out
    have hnc54 := NB284_292.out
    have hnb55 := NB292_307.out
    have hnc55 := NB307_292.out
    have hcz56_0 : wr.cell? ⟨gb292, 0, none⟩ = some (.slice Ao16 t286.length co16) := (blk_cell BK292.out 0).trans rfl
    have hcz56_1 : wr.cell? ⟨gb292, 1, none⟩ = some (.int .i64 t289) := (blk_cell BK292.out 1).trans rfl
    have hcz56_2 : wr.cell? ⟨gb292, 2, none⟩ = some (.int .i64 t290) := (blk_cell BK292.out 2).trans rfl
    have hcz56_3 : wr.cell? ⟨gb292, 3, none⟩ = some (.int .i64 t291) := (blk_cell BK292.out 3).trans rfl
    have hfz56_0 := blk_frozen BK292.out 0
    have hfz56_1 := blk_frozen BK292.out 1
    have hfz56_2 := blk_frozen BK292.out 2
    have hfz56_3 := blk_frozen BK292.out 3
    go_upto_region 13 with (first | ((with_reducible refine gate_callee (f := 14) rfl ?_); refine goesL_ (some 51) rfl rfl Try.func14 (by kernel_rfl) rfl #[.agg #[.slice Ao16 t286.length co16, .int .i64 t289, .int .i64 t290, .int .i64 t291], .slice Ao52 t296.length co52] rfl (by (try simp only [List.map_toArray, List.map_cons, List.map_nil]); first | done | rfl | (simp only [List.length_drop, List.length_take]; rfl)) ?_; (with_reducible refine (thresherref10_Marks.calls k1 _ _ t286 t289 t290 t291 _ _ t296 t312 _ ?side1 ?side2 ?side3 ?side4 A48.out).mono ?_); (case side1 => repeat (first | exact (Kd.R_reads' HO_293000.out).2.2 | (with_reducible refine Kd.C_alloc ?_ _) | (with_reducible refine Kd.C_drewN ?_ _) | (with_reducible refine Kd.C_drew ?_))); (case side2 => exact (Kd.R_reads' HO_293000.out).2.1); (case side3 => repeat (first | exact (Kd.N_reads' HO_9.out).2.2 | (with_reducible refine Kd.C_alloc ?_ _) | (with_reducible refine Kd.C_drewN ?_ _) | (with_reducible refine Kd.C_drew ?_))); (case side4 => exact (Kd.N_reads' HO_9.out).2.1); rintro e w57 ⟨v313, rfl, ho0, hb⟩; refine ⟨_, rfl, ?_⟩; have n0_ := Aside0.mk (Kd.N_elder' (by (with_reducible repeat (first | apply Kd.N_alloc | apply Kd.N_drewN | apply Kd.N_drew)); exact HO_9.out) (by first | exact Kd.N_base ho0 | exact Kd.S_base ho0) hb); have n1_ := Aside0.mk (Kd.R_below (by (with_reducible repeat (first | apply Kd.R_alloc | apply Kd.R_drewN | apply Kd.R_drew)); exact HO_293000.out) hb); have n2_ := Aside0.mk (Kd.R_below (by (with_reducible repeat (first | apply Kd.R_alloc | apply Kd.R_drewN | apply Kd.R_drew)); exact HO_308002.out) hb); have n3_ := Aside0.mk (Kd.R_below (by (with_reducible repeat (first | apply Kd.R_alloc | apply Kd.R_drewN | apply Kd.R_drew)); exact HO_308003.out) hb); have n4_ := Aside0.mk (Kd.N_lower (Kd.N_mono (ok' := fun k_ => some k_ ≠ (.slice Ao52 t296.length co52 : Value).ownBlock ∧ some k_ ≠ (.slice Ao16 t286.length co16 : Value).ownBlock ∧ some k_ ≠ (.slice Ao33 t301.length co33 : Value).ownBlock ∧ some k_ ≠ (.slice Ao34 t304.length co34 : Value).ownBlock ∧ k_ ≠ gb283 ∧ k_ ≠ gb284 ∧ k_ ≠ gb292 ∧ k_ ≠ gb307) (Kd.S_N (Kd.S_bound ho0)) (fun k_ hk_ => ⟨(Kd.fresh' (Kd.N_lt (by (with_reducible repeat (first | apply Kd.N_alloc | apply Kd.N_drewN | apply Kd.N_drew)); exact HO_9.out)) k_ hk_.2.1), (Kd.fresh' (Kd.R_lt (by (with_reducible repeat (first | apply Kd.R_alloc | apply Kd.R_drewN | apply Kd.R_drew)); exact HO_293000.out)) k_ hk_.2.1), (Kd.fresh' (Kd.R_lt (by (with_reducible repeat (first | apply Kd.R_alloc | apply Kd.R_drewN | apply Kd.R_drew)); exact HO_308002.out)) k_ hk_.2.1), (Kd.fresh' (Kd.R_lt (by (with_reducible repeat (first | apply Kd.R_alloc | apply Kd.R_drewN | apply Kd.R_drew)); exact HO_308003.out)) k_ hk_.2.1), (Kd.freshB (g := gb283) (o := .cells #[.int .u8 a0_0, .int .u8 a0_1, .int .u8 a0_2, .int .u8 a0_3, .int .u8 a0_4, .int .u8 a0_5, .int .u8 a0_6, .int .u8 a0_7, .int .u8 a0_8, .int .u8 a0_9, .int .u8 a0_10, .int .u8 a0_11] 24 (0, 0)) (by (with_reducible repeat (first | refine blk_drewN ?_ _ | refine blk_drew ?_ | refine blk_alloc ?_ _)); exact BK283.out) k_ hk_.2.1), (Kd.freshB (g := gb284) (o := .cells #[.bool a2_0, .bool a2_1, .slice A2_2 l2_2.length c2_2, .slice A2_3 l2_3.length c2_3] 29 (0, 0)) (by (with_reducible repeat (first | refine blk_drewN ?_ _ | refine blk_drew ?_ | refine blk_alloc ?_ _)); exact BK284.out) k_ hk_.2.1), (Kd.freshB (g := gb292) (o := .cells #[.slice Ao16 t286.length co16, .int .i64 t289, .int .i64 t290, .int .i64 t291] 33 (0, 0)) (by (with_reducible repeat (first | refine blk_drewN ?_ _ | refine blk_drew ?_ | refine blk_alloc ?_ _)); exact BK292.out) k_ hk_.2.1), (Kd.freshB (g := gb307) (o := .cells #[.bool t299, .bool t300, .slice Ao33 t301.length co33, .slice Ao34 t304.length co34] 29 (0, 0)) (by (with_reducible repeat (first | refine blk_drewN ?_ _ | refine blk_drew ?_ | refine blk_alloc ?_ _)); exact BK307.out) k_ hk_.2.1)⟩)) (below_size (by repeat (first | (with_reducible first | exact HB.out | apply below_alloc | apply pw_below_drewN | apply below_drew1 | refine below_set ?_ GE283.out | refine below_set ?_ GE284.out | refine below_set ?_ GE292.out | refine below_set ?_ GE307.out) | exact HB.out)))); have n5_ := Aside0.mk (blk_below (g := gb283) (o := .cells #[.int .u8 a0_0, .int .u8 a0_1, .int .u8 a0_2, .int .u8 a0_3, .int .u8 a0_4, .int .u8 a0_5, .int .u8 a0_6, .int .u8 a0_7, .int .u8 a0_8, .int .u8 a0_9, .int .u8 a0_10, .int .u8 a0_11] 24 (0, 0)) (by (with_reducible repeat (first | refine blk_drewN ?_ _ | refine blk_drew ?_ | refine blk_alloc ?_ _)); exact BK283.out) hb); have n6_ := Aside0.mk (blk_below (g := gb284) (o := .cells #[.bool a2_0, .bool a2_1, .slice A2_2 l2_2.length c2_2, .slice A2_3 l2_3.length c2_3] 29 (0, 0)) (by (with_reducible repeat (first | refine blk_drewN ?_ _ | refine blk_drew ?_ | refine blk_alloc ?_ _)); exact BK284.out) hb); have n7_ := Aside0.mk (blk_below (g := gb292) (o := .cells #[.slice Ao16 t286.length co16, .int .i64 t289, .int .i64 t290, .int .i64 t291] 33 (0, 0)) (by (with_reducible repeat (first | refine blk_drewN ?_ _ | refine blk_drew ?_ | refine blk_alloc ?_ _)); exact BK292.out) hb); have n8_ := Aside0.mk (blk_below (g := gb307) (o := .cells #[.bool t299, .bool t300, .slice Ao33 t301.length co33, .slice Ao34 t304.length co34] 29 (0, 0)) (by (with_reducible repeat (first | refine blk_drewN ?_ _ | refine blk_drew ?_ | refine blk_alloc ?_ _)); exact BK307.out) hb); have n9_ := Aside0.mk (below_step (by repeat (first | (with_reducible first | exact HB.out | apply below_alloc | apply pw_below_drewN | apply below_drew1 | refine below_set ?_ GE283.out | refine below_set ?_ GE284.out | refine below_set ?_ GE292.out | refine below_set ?_ GE307.out) | exact HB.out)) hb); clear HO_9; clear HO_293000; clear HO_308002; clear HO_308003; clear BK283; clear BK284; clear BK292; clear BK307; clear HB; have HO_9 := n0_; have HO_293000 := n1_; have HO_308002 := n2_; have HO_308003 := n3_; have HO314 := n4_; have BK283 := n5_; have BK284 := n6_; have BK292 := n7_; have BK307 := n8_; have HB := n9_; clear n0_ n1_ n2_ n3_ n4_ n5_ n6_ n7_ n8_ n9_; (try clear hb); (try clear hb2); (try clear hk); (try clear hi); (try clear ho0); have hcz58_0 : w57.cell? ⟨gb292, 0, none⟩ = some (.slice Ao16 t286.length co16) := (blk_cell BK292.out 0).trans rfl; have hcz58_1 : w57.cell? ⟨gb292, 1, none⟩ = some (.int .i64 t289) := (blk_cell BK292.out 1).trans rfl; have hcz58_2 : w57.cell? ⟨gb292, 2, none⟩ = some (.int .i64 t290) := (blk_cell BK292.out 2).trans rfl; have hcz58_3 : w57.cell? ⟨gb292, 3, none⟩ = some (.int .i64 t291) := (blk_cell BK292.out 3).trans rfl; have hfz58_0 := blk_frozen BK292.out 0; have hfz58_1 := blk_frozen BK292.out 1; have hfz58_2 := blk_frozen BK292.out 2; have hfz58_3 := blk_frozen BK292.out 3; have hnb59 := NB307_283.out; have hnc59 := NB283_307.out; have hnb60 := NB307_284.out; have hnc60 := NB284_307.out; have hcz61_0 : w57.cell? ⟨gb307, 0, none⟩ = some (.bool t299) := (blk_cell BK307.out 0).trans rfl; have hcz61_1 : w57.cell? ⟨gb307, 1, none⟩ = some (.bool t300) := (blk_cell BK307.out 1).trans rfl; have hcz61_2 : w57.cell? ⟨gb307, 2, none⟩ = some (.slice Ao33 t301.length co33) := (blk_cell BK307.out 2).trans rfl; have hcz61_3 : w57.cell? ⟨gb307, 3, none⟩ = some (.slice Ao34 t304.length co34) := (blk_cell BK307.out 3).trans rfl; have hfz61_0 := blk_frozen BK307.out 0; have hfz61_1 := blk_frozen BK307.out 1; have hfz61_2 := blk_frozen BK307.out 2; have hfz61_3 := blk_frozen BK307.out 3; obtain ⟨Ao62, co62, eo62⟩ := Kd.N_slice HO314.out; subst eo62) | ((with_reducible refine gate_callee (f := 15) rfl ?_); refine goesL_ (some 56) rfl rfl Try.func15 (by kernel_rfl) rfl #[.agg #[.slice Ao16 t286.length co16, .int .i64 t289, .int .i64 t290, .int .i64 t291], .slice Ao62 t312.length co62, .agg #[.bool t299, .bool t300, .slice Ao33 t301.length co33, .slice Ao34 t304.length co34]] rfl (by (try simp only [List.map_toArray, List.map_cons, List.map_nil]); first | done | rfl | (simp only [List.length_drop, List.length_take]; rfl)) ?_; (with_reducible refine (index_Meets.calls k1 _ _ t286 t289 t290 t291 _ _ t312 t299 t300 _ _ t301 _ _ t304 t315 t316 _ ?side1 ?side2 ?side3 ?side4 ?side5 ?side6 ?side7 ?side8 A49.out).mono ?_); (case side1 => repeat (first | exact (Kd.R_reads' HO_293000.out).2.2 | (with_reducible refine Kd.C_alloc ?_ _) | (with_reducible refine Kd.C_drewN ?_ _) | (with_reducible refine Kd.C_drew ?_))); (case side2 => exact (Kd.R_reads' HO_293000.out).2.1); (case side3 => repeat (first | exact (Kd.N_reads' HO314.out).2.2 | (with_reducible refine Kd.C_alloc ?_ _) | (with_reducible refine Kd.C_drewN ?_ _) | (with_reducible refine Kd.C_drew ?_))); (case side4 => exact (Kd.N_reads' HO314.out).2.1); (case side5 => repeat (first | exact (Kd.R_reads' HO_308002.out).2.2 | (with_reducible refine Kd.C_alloc ?_ _) | (with_reducible refine Kd.C_drewN ?_ _) | (with_reducible refine Kd.C_drew ?_))); (case side6 => exact (Kd.R_reads' HO_308002.out).2.1); (case side7 => repeat (first | exact (Kd.R_reads' HO_308003.out).2.2 | (with_reducible refine Kd.C_alloc ?_ _) | (with_reducible refine Kd.C_drewN ?_ _) | (with_reducible refine Kd.C_drew ?_))); (case side8 => exact (Kd.R_reads' HO_308003.out).2.1); rintro e w63 ⟨rfl, hb⟩; refine ⟨_, rfl, ?_⟩; have n0_ := Aside0.mk (Kd.N_below (by (with_reducible repeat (first | apply Kd.N_alloc | apply Kd.N_drewN | apply Kd.N_drew)); exact HO_9.out) hb); have n1_ := Aside0.mk (Kd.R_below (by (with_reducible repeat (first | apply Kd.R_alloc | apply Kd.R_drewN | apply Kd.R_drew)); exact HO_293000.out) hb); have n2_ := Aside0.mk (Kd.R_below (by (with_reducible repeat (first | apply Kd.R_alloc | apply Kd.R_drewN | apply Kd.R_drew)); exact HO_308002.out) hb); have n3_ := Aside0.mk (Kd.R_below (by (with_reducible repeat (first | apply Kd.R_alloc | apply Kd.R_drewN | apply Kd.R_drew)); exact HO_308003.out) hb); have n4_ := Aside0.mk (Kd.N_below (by (with_reducible repeat (first | apply Kd.N_alloc | apply Kd.N_drewN | apply Kd.N_drew)); exact HO314.out) hb); have n5_ := Aside0.mk (blk_below (g := gb283) (o := .cells #[.int .u8 a0_0, .int .u8 a0_1, .int .u8 a0_2, .int .u8 a0_3, .int .u8 a0_4, .int .u8 a0_5, .int .u8 a0_6, .int .u8 a0_7, .int .u8 a0_8, .int .u8 a0_9, .int .u8 a0_10, .int .u8 a0_11] 24 (0, 0)) (by (with_reducible repeat (first | refine blk_drewN ?_ _ | refine blk_drew ?_ | refine blk_alloc ?_ _)); exact BK283.out) hb); have n6_ := Aside0.mk (blk_below (g := gb284) (o := .cells #[.bool a2_0, .bool a2_1, .slice A2_2 l2_2.length c2_2, .slice A2_3 l2_3.length c2_3] 29 (0, 0)) (by (with_reducible repeat (first | refine blk_drewN ?_ _ | refine blk_drew ?_ | refine blk_alloc ?_ _)); exact BK284.out) hb); have n7_ := Aside0.mk (blk_below (g := gb292) (o := .cells #[.slice Ao16 t286.length co16, .int .i64 t289, .int .i64 t290, .int .i64 t291] 33 (0, 0)) (by (with_reducible repeat (first | refine blk_drewN ?_ _ | refine blk_drew ?_ | refine blk_alloc ?_ _)); exact BK292.out) hb); have n8_ := Aside0.mk (blk_below (g := gb307) (o := .cells #[.bool t299, .bool t300, .slice Ao33 t301.length co33, .slice Ao34 t304.length co34] 29 (0, 0)) (by (with_reducible repeat (first | refine blk_drewN ?_ _ | refine blk_drew ?_ | refine blk_alloc ?_ _)); exact BK307.out) hb); have n9_ := Aside0.mk (below_step (by repeat (first | (with_reducible first | exact HB.out | apply below_alloc | apply pw_below_drewN | apply below_drew1 | refine below_set ?_ GE283.out | refine below_set ?_ GE284.out | refine below_set ?_ GE292.out | refine below_set ?_ GE307.out) | exact HB.out)) hb); clear HO_9; clear HO_293000; clear HO_308002; clear HO_308003; clear HO314; clear BK283; clear BK284; clear BK292; clear BK307; clear HB; have HO_9 := n0_; have HO_293000 := n1_; have HO_308002 := n2_; have HO_308003 := n3_; have HO314 := n4_; have BK283 := n5_; have BK284 := n6_; have BK292 := n7_; have BK307 := n8_; have HB := n9_; clear n0_ n1_ n2_ n3_ n4_ n5_ n6_ n7_ n8_ n9_; (try clear hb); (try clear hb2); (try clear hk); (try clear hi); have hcz64_0 : w63.cell? ⟨gb292, 0, none⟩ = some (.slice Ao16 t286.length co16) := (blk_cell BK292.out 0).trans rfl; have hcz64_1 : w63.cell? ⟨gb292, 1, none⟩ = some (.int .i64 t289) := (blk_cell BK292.out 1).trans rfl; have hcz64_2 : w63.cell? ⟨gb292, 2, none⟩ = some (.int .i64 t290) := (blk_cell BK292.out 2).trans rfl; have hcz64_3 : w63.cell? ⟨gb292, 3, none⟩ = some (.int .i64 t291) := (blk_cell BK292.out 3).trans rfl; have hfz64_0 := blk_frozen BK292.out 0; have hfz64_1 := blk_frozen BK292.out 1; have hfz64_2 := blk_frozen BK292.out 2; have hfz64_3 := blk_frozen BK292.out 3; have hcz65_0 : w63.cell? ⟨gb307, 0, none⟩ = some (.bool t299) := (blk_cell BK307.out 0).trans rfl; have hcz65_1 : w63.cell? ⟨gb307, 1, none⟩ = some (.bool t300) := (blk_cell BK307.out 1).trans rfl; have hcz65_2 : w63.cell? ⟨gb307, 2, none⟩ = some (.slice Ao33 t301.length co33) := (blk_cell BK307.out 2).trans rfl; have hcz65_3 : w63.cell? ⟨gb307, 3, none⟩ = some (.slice Ao34 t304.length co34) := (blk_cell BK307.out 3).trans rfl; have hfz65_0 := blk_frozen BK307.out 0; have hfz65_1 := blk_frozen BK307.out 1; have hfz65_2 := blk_frozen BK307.out 2; have hfz65_3 := blk_frozen BK307.out 3) | ((with_reducible refine gate_callee (f := 16) rfl ?_); refine goesL_ (some 63) rfl rfl Try.func16 (by kernel_rfl) rfl #[.agg #[.slice Ao16 t286.length co16, .int .i64 t289, .int .i64 t290, .int .i64 t291], .slice Ao62 t312.length co62, .agg #[.bool t299, .bool t300, .slice Ao33 t301.length co33, .slice Ao34 t304.length co34]] rfl (by (try simp only [List.map_toArray, List.map_cons, List.map_nil]); first | done | rfl | (simp only [List.length_drop, List.length_take]; rfl)) ?_; (with_reducible refine (thresherref12_Meets.calls k1 _ _ t286 t289 t290 t291 _ _ t312 t299 t300 _ _ t301 _ _ t304 t317 t318 _ ?side1 ?side2 ?side3 ?side4 ?side5 ?side6 ?side7 ?side8 A50.out).mono ?_); (case side1 => repeat (first | exact (Kd.R_reads' HO_293000.out).2.2 | (with_reducible refine Kd.C_alloc ?_ _) | (with_reducible refine Kd.C_drewN ?_ _) | (with_reducible refine Kd.C_drew ?_))); (case side2 => exact (Kd.R_reads' HO_293000.out).2.1); (case side3 => repeat (first | exact (Kd.N_reads' HO314.out).2.2 | (with_reducible refine Kd.C_alloc ?_ _) | (with_reducible refine Kd.C_drewN ?_ _) | (with_reducible refine Kd.C_drew ?_))); (case side4 => exact (Kd.N_reads' HO314.out).2.1); (case side5 => repeat (first | exact (Kd.R_reads' HO_308002.out).2.2 | (with_reducible refine Kd.C_alloc ?_ _) | (with_reducible refine Kd.C_drewN ?_ _) | (with_reducible refine Kd.C_drew ?_))); (case side6 => exact (Kd.R_reads' HO_308002.out).2.1); (case side7 => repeat (first | exact (Kd.R_reads' HO_308003.out).2.2 | (with_reducible refine Kd.C_alloc ?_ _) | (with_reducible refine Kd.C_drewN ?_ _) | (with_reducible refine Kd.C_drew ?_))); (case side8 => exact (Kd.R_reads' HO_308003.out).2.1); rintro e w66 ⟨rfl, hb⟩; refine ⟨_, rfl, ?_⟩; have n0_ := Aside0.mk (Kd.N_below (by (with_reducible repeat (first | apply Kd.N_alloc | apply Kd.N_drewN | apply Kd.N_drew)); exact HO_9.out) hb); have n1_ := Aside0.mk (Kd.R_below (by (with_reducible repeat (first | apply Kd.R_alloc | apply Kd.R_drewN | apply Kd.R_drew)); exact HO_293000.out) hb); have n2_ := Aside0.mk (Kd.R_below (by (with_reducible repeat (first | apply Kd.R_alloc | apply Kd.R_drewN | apply Kd.R_drew)); exact HO_308002.out) hb); have n3_ := Aside0.mk (Kd.R_below (by (with_reducible repeat (first | apply Kd.R_alloc | apply Kd.R_drewN | apply Kd.R_drew)); exact HO_308003.out) hb); have n4_ := Aside0.mk (Kd.N_below (by (with_reducible repeat (first | apply Kd.N_alloc | apply Kd.N_drewN | apply Kd.N_drew)); exact HO314.out) hb); have n5_ := Aside0.mk (blk_below (g := gb283) (o := .cells #[.int .u8 a0_0, .int .u8 a0_1, .int .u8 a0_2, .int .u8 a0_3, .int .u8 a0_4, .int .u8 a0_5, .int .u8 a0_6, .int .u8 a0_7, .int .u8 a0_8, .int .u8 a0_9, .int .u8 a0_10, .int .u8 a0_11] 24 (0, 0)) (by (with_reducible repeat (first | refine blk_drewN ?_ _ | refine blk_drew ?_ | refine blk_alloc ?_ _)); exact BK283.out) hb); have n6_ := Aside0.mk (blk_below (g := gb284) (o := .cells #[.bool a2_0, .bool a2_1, .slice A2_2 l2_2.length c2_2, .slice A2_3 l2_3.length c2_3] 29 (0, 0)) (by (with_reducible repeat (first | refine blk_drewN ?_ _ | refine blk_drew ?_ | refine blk_alloc ?_ _)); exact BK284.out) hb); have n7_ := Aside0.mk (blk_below (g := gb292) (o := .cells #[.slice Ao16 t286.length co16, .int .i64 t289, .int .i64 t290, .int .i64 t291] 33 (0, 0)) (by (with_reducible repeat (first | refine blk_drewN ?_ _ | refine blk_drew ?_ | refine blk_alloc ?_ _)); exact BK292.out) hb); have n8_ := Aside0.mk (blk_below (g := gb307) (o := .cells #[.bool t299, .bool t300, .slice Ao33 t301.length co33, .slice Ao34 t304.length co34] 29 (0, 0)) (by (with_reducible repeat (first | refine blk_drewN ?_ _ | refine blk_drew ?_ | refine blk_alloc ?_ _)); exact BK307.out) hb); have n9_ := Aside0.mk (below_step (by repeat (first | (with_reducible first | exact HB.out | apply below_alloc | apply pw_below_drewN | apply below_drew1 | refine below_set ?_ GE283.out | refine below_set ?_ GE284.out | refine below_set ?_ GE292.out | refine below_set ?_ GE307.out) | exact HB.out)) hb); clear HO_9; clear HO_293000; clear HO_308002; clear HO_308003; clear HO314; clear BK283; clear BK284; clear BK292; clear BK307; clear HB; have HO_9 := n0_; have HO_293000 := n1_; have HO_308002 := n2_; have HO_308003 := n3_; have HO314 := n4_; have BK283 := n5_; have BK284 := n6_; have BK292 := n7_; have BK307 := n8_; have HB := n9_; clear n0_ n1_ n2_ n3_ n4_ n5_ n6_ n7_ n8_ n9_; (try clear hb); (try clear hb2); (try clear hk); (try clear hi)))
    (try simp only [Act.put, List.setIfInBounds_toArray, List.set_cons_zero, List.set_cons_succ])
    go_cut [6] (fun v6 wc => ∃ (kq : Nat) (x6_50 : Bool), v6 = .bool x6_50 ∧ Aside0 (thresherlaw12_IndexAll.j1 kq x6_50 = some r) ∧ Aside0 (kq ≤ k1) ∧ Aside0 (Kd.R (Kd.int .i64) 3 wc w.heap.size (fun _ => True) (.slice Ao16 t286.length co16) t286) ∧ Aside0 (Kd.R k44 44 wc w.heap.size (fun k_ => some k_ ≠ ((.slice Ao34 t304.length co34) : Value).ownBlock) (.slice Ao33 t301.length co33) t301) ∧ Aside0 (Kd.R k44 44 wc w.heap.size (fun k_ => some k_ ≠ ((.slice Ao33 t301.length co33) : Value).ownBlock) (.slice Ao34 t304.length co34) t304) ∧ Aside0 (wc.heap[gb283]? = some (.cells #[.int .u8 a0_0, .int .u8 a0_1, .int .u8 a0_2, .int .u8 a0_3, .int .u8 a0_4, .int .u8 a0_5, .int .u8 a0_6, .int .u8 a0_7, .int .u8 a0_8, .int .u8 a0_9, .int .u8 a0_10, .int .u8 a0_11] 24 (0, 0))) ∧ Aside0 (wc.heap[gb284]? = some (.cells #[.bool a2_0, .bool a2_1, (.slice A2_2 l2_2.length c2_2), (.slice A2_3 l2_3.length c2_3)] 29 (0, 0))) ∧ Aside0 (wc.heap[gb292]? = some (.cells #[(.slice Ao16 t286.length co16), .int .i64 t289, .int .i64 t290, .int .i64 t291] 33 (0, 0))) ∧ Aside0 (wc.heap[gb307]? = some (.cells #[.bool t299, .bool t300, (.slice Ao33 t301.length co33), (.slice Ao34 t304.length co34)] 29 (0, 0))) ∧ Aside0 (Below w.heap.size w wc))
    case first =>
     have H := HC51.out
     clear HC51
     by_cases c67 : t285 = true
     ·subst c67
      have H1 : (if t315 = t317 then (if t316 = t318 then ((index_Empty.f k1 t286 t289 t290 t291 t299 t300 t301 t304).bind fun t319 => ((thresherref12_Empty.f k1 t286 t289 t290 t291 t299 t300 t301 t304).bind fun t320 => (thresherlaw12_IndexAll.j1 k1 (t319 == t320)))) else (thresherlaw12_IndexAll.j1 k1 false)) else (thresherlaw12_IndexAll.j1 k1 false)) = some r := by rw [if_pos rfl] at H; exact H
      clear H
      have H := H1
      clear H1
      by_cases c68 : t315 = t317
      ·rw [if_pos c68] at H
       have c68b0 : (t315 == t317) = true := beq_iff_eq.mpr c68
       have c68b1 : (t315 != t317) = false := bne_eq_false_iff_eq.mpr c68
       clear c68
       (first | rw [c68b0] | (simp only [i64_w, i32_w]; rw [c68b0]) | skip)
       by_cases c69 : t316 = t318
       ·rw [if_pos c69] at H
        have c69b0 : (t316 == t318) = true := beq_iff_eq.mpr c69
        have c69b1 : (t316 != t318) = false := bne_eq_false_iff_eq.mpr c69
        clear c69
        replace H := Option.bind_eq_some_iff.mp H
        obtain ⟨t319, A700, H⟩ := H
        replace H : ((thresherref12_Empty.f k1 t286 t289 t290 t291 t299 t300 t301 t304).bind fun t320 => (thresherlaw12_IndexAll.j1 k1 (t319 == t320))) = some r := H
        have A70 := Aside0.mk A700
        clear A700
        replace H := Option.bind_eq_some_iff.mp H
        obtain ⟨t320, A710, H⟩ := H
        replace H : (thresherlaw12_IndexAll.j1 k1 (t319 == t320)) = some r := H
        have A71 := Aside0.mk A710
        clear A710
        have H' := Aside0.mk H
        clear H
        try go_wp2
        have n0_ := Aside0.mk (Kd.N_drew HO_9.out)
        have n1_ := Aside0.mk (Kd.R_drew HO_293000.out)
        have n2_ := Aside0.mk (Kd.R_drew HO_308002.out)
        have n3_ := Aside0.mk (Kd.R_drew HO_308003.out)
        have n4_ := Aside0.mk (Kd.N_drew HO314.out)
        have n5_ := Aside0.mk (blk_drew BK283.out)
        have n6_ := Aside0.mk (blk_drew BK284.out)
        have n7_ := Aside0.mk (blk_drew BK292.out)
        have n8_ := Aside0.mk (blk_drew BK307.out)
        have n9_ := Aside0.mk (below_drew1 HB.out)
        clear HO_9
        clear HO_293000
        clear HO_308002
        clear HO_308003
        clear HO314
        clear BK283
        clear BK284
        clear BK292
        clear BK307
        clear HB
        have HO_9 := n0_
        have HO_293000 := n1_
        have HO_308002 := n2_
        have HO_308003 := n3_
        have HO314 := n4_
        have BK283 := n5_
        have BK284 := n6_
        have BK292 := n7_
        have BK307 := n8_
        have HB := n9_
        clear n0_ n1_ n2_ n3_ n4_ n5_ n6_ n7_ n8_ n9_
        refine start_ (n := 21) (S := fun w' => w'.cell? ⟨gb292, 0, none⟩ = some (.slice Ao16 t286.length co16) ∧ w'.cell? ⟨gb292, 1, none⟩ = some (.int .i64 t289) ∧ w'.cell? ⟨gb292, 2, none⟩ = some (.int .i64 t290) ∧ w'.cell? ⟨gb292, 3, none⟩ = some (.int .i64 t291) ∧ w'.cell? ⟨gb307, 0, none⟩ = some (.bool t299) ∧ w'.cell? ⟨gb307, 1, none⟩ = some (.bool t300) ∧ w'.cell? ⟨gb307, 2, none⟩ = some (.slice Ao33 t301.length co33) ∧ w'.cell? ⟨gb307, 3, none⟩ = some (.slice Ao34 t304.length co34)) (ds := []) #[false, false, false, false, false, false, false, false, false, false, false, false, false, false, false, false, false, false, false, false, false] (by kernel_rfl) rfl rfl ⟨(blk_cell BK292.out 0).trans rfl, (blk_cell BK292.out 1).trans rfl, (blk_cell BK292.out 2).trans rfl, (blk_cell BK292.out 3).trans rfl, (blk_cell BK307.out 0).trans rfl, (blk_cell BK307.out 1).trans rfl, (blk_cell BK307.out 2).trans rfl, (blk_cell BK307.out 3).trans rfl⟩ (fun hHeld => ?_); refine with_tabW thresherlaw12_IndexAll.tab13 thresherlaw12_IndexAll.bits13 (fun HT_ HW_ => ?_)
        generalize w66.drew = w72 at HO_9 HO_293000 HO_308002 HO_308003 HO314 BK283 BK284 BK292 BK307 HB hHeld ⊢
        refine pure_ (i := 0) (N := some 66) (v := ?_) (a' := ?_) #[true, false, false, false, false, false, false, false, false, false, false, false, false, false, false, false, false, false, false, false, false] rfl rfl (any_of HT_.out (by kernel_rfl)) (fun _ _ _ h => h) (Or.inl ⟨by rfl, ?_⟩) ?_ ?_
        rotate_left; (intro w'; go_simp; with_reducible rfl); rotate_left; (simp only [Act.put, List.setIfInBounds_toArray, List.set_cons_zero, List.set_cons_succ, i64_w, i32_w]; rfl)
        refine pure_ (i := 1) (N := some 67) (v := ?_) (a' := ?_) #[true, true, false, false, false, false, false, false, false, false, false, false, false, false, false, false, false, false, false, false, false] rfl rfl (any_of HT_.out (by kernel_rfl)) (fun _ _ _ h => h) (Or.inl ⟨by rfl, ?_⟩) ?_ ?_
        rotate_left; (intro w'; go_simp; with_reducible rfl); rotate_left; (simp only [Act.put, List.setIfInBounds_toArray, List.set_cons_zero, List.set_cons_succ, i64_w, i32_w]; rfl)
        refine pure_ (i := 2) (N := some 68) (v := ?_) (a' := ?_) #[true, true, true, false, false, false, false, false, false, false, false, false, false, false, false, false, false, false, false, false, false] rfl rfl (any_of HT_.out (by kernel_rfl)) (fun _ _ _ h => h) (Or.inl ⟨by rfl, ?_⟩) ?_ ?_
        rotate_left; (intro w'; go_simp; with_reducible rfl); rotate_left; (simp only [Act.put, List.setIfInBounds_toArray, List.set_cons_zero, List.set_cons_succ, i64_w, i32_w]; rfl)
        refine pure_ (i := 3) (N := some 69) (v := ?_) (a' := ?_) #[true, true, true, true, false, false, false, false, false, false, false, false, false, false, false, false, false, false, false, false, false] rfl rfl (any_of HT_.out (by kernel_rfl)) (fun _ _ _ h => h) (Or.inl ⟨by rfl, ?_⟩) ?_ ?_
        rotate_left; (intro w'; go_simp; with_reducible rfl); rotate_left; (simp only [Act.put, List.setIfInBounds_toArray, List.set_cons_zero, List.set_cons_succ, i64_w, i32_w]; rfl)
        refine pure_ (i := 4) (N := some 70) (v := ?_) (a' := ?_) #[true, true, true, true, true, false, false, false, false, false, false, false, false, false, false, false, false, false, false, false, false] rfl rfl (any_of HT_.out (by kernel_rfl)) (fun _ _ _ h => h) (Or.inl ⟨by rfl, ?_⟩) ?_ ?_
        rotate_left; (intro w'; go_simp; with_reducible rfl); rotate_left; (simp only [Act.put, List.setIfInBounds_toArray, List.set_cons_zero, List.set_cons_succ, i64_w, i32_w]; rfl)
        refine pure_ (i := 5) (N := some 71) (v := ?_) (a' := ?_) #[true, true, true, true, true, true, false, false, false, false, false, false, false, false, false, false, false, false, false, false, false] rfl rfl (any_of HT_.out (by kernel_rfl)) (fun _ _ _ h => h) (Or.inl ⟨by rfl, ?_⟩) ?_ ?_
        rotate_left; (intro w'; go_simp; with_reducible rfl); rotate_left; (simp only [Act.put, List.setIfInBounds_toArray, List.set_cons_zero, List.set_cons_succ, i64_w, i32_w]; rfl)
        refine pure_ (i := 6) (N := some 72) (v := ?_) (a' := ?_) #[true, true, true, true, true, true, true, false, false, false, false, false, false, false, false, false, false, false, false, false, false] rfl rfl (any_of HT_.out (by kernel_rfl)) (fun _ _ _ h => h) (Or.inl ⟨by rfl, ?_⟩) ?_ ?_
        rotate_left; (intro w'; go_simp; with_reducible rfl); rotate_left; (simp only [Act.put, List.setIfInBounds_toArray, List.set_cons_zero, List.set_cons_succ, i64_w, i32_w]; rfl)
        refine pure_ (i := 7) (N := some 73) (v := ?_) (a' := ?_) #[true, true, true, true, true, true, true, true, false, false, false, false, false, false, false, false, false, false, false, false, false] rfl rfl (any_of HT_.out (by kernel_rfl)) (fun _ _ _ h => h) (Or.inl ⟨by rfl, ?_⟩) ?_ ?_
        rotate_left; (intro w'; go_simp; with_reducible rfl); rotate_left; (simp only [Act.put, List.setIfInBounds_toArray, List.set_cons_zero, List.set_cons_succ, i64_w, i32_w]; rfl)
        refine pure_ (i := 8) (N := some 74) (v := ?_) (a' := ?_) #[true, true, true, true, true, true, true, true, true, false, false, false, false, false, false, false, false, false, false, false, false] rfl rfl (any_of HT_.out (by kernel_rfl)) (fun _ _ _ h => h) (Or.inl ⟨by rfl, ?_⟩) ?_ ?_
        rotate_left; (intro w'; go_simp; with_reducible rfl); rotate_left; (simp only [Act.put, List.setIfInBounds_toArray, List.set_cons_zero, List.set_cons_succ, i64_w, i32_w]; rfl)
        refine pure_ (i := 9) (N := some 75) (v := ?_) (a' := ?_) #[true, true, true, true, true, true, true, true, true, true, false, false, false, false, false, false, false, false, false, false, false] rfl rfl (any_of HT_.out (by kernel_rfl)) (fun _ _ _ h => h) (Or.inl ⟨by rfl, ?_⟩) ?_ ?_
        rotate_left; (intro w'; go_simp; with_reducible rfl); rotate_left; (simp only [Act.put, List.setIfInBounds_toArray, List.set_cons_zero, List.set_cons_succ, i64_w, i32_w]; rfl)
        refine pure_ (i := 10) (N := some 76) (v := ?_) (a' := ?_) #[true, true, true, true, true, true, true, true, true, true, true, false, false, false, false, false, false, false, false, false, false] rfl rfl (any_of HT_.out (by kernel_rfl)) (fun _ _ _ h => h) (Or.inl ⟨by rfl, ?_⟩) ?_ ?_
        rotate_left; (intro w'; go_simp; with_reducible rfl); rotate_left; (simp only [Act.put, List.setIfInBounds_toArray, List.set_cons_zero, List.set_cons_succ, i64_w, i32_w]; rfl)
        refine pure_ (i := 11) (N := some 77) (v := ?_) (a' := ?_) #[true, true, true, true, true, true, true, true, true, true, true, true, false, false, false, false, false, false, false, false, false] rfl rfl (any_of HT_.out (by kernel_rfl)) (fun _ _ _ h => h) (Or.inl ⟨by rfl, ?_⟩) ?_ ?_
        rotate_left; (intro w'; go_simp; with_reducible rfl); rotate_left; (simp only [Act.put, List.setIfInBounds_toArray, List.set_cons_zero, List.set_cons_succ, i64_w, i32_w]; rfl)
        refine take_ (i := 12) (N := some 78) (v := ?_) (a' := ?_) #[true, true, true, true, true, true, true, true, true, true, true, true, true, false, false, false, false, false, false, false, false] rfl rfl (take_ofW HT_.out HW_.out (by kernel_rfl)) (fun _ _ _ h => h) (Or.inl ⟨by rfl, ?_⟩) hHeld ?_ ?_
        rotate_left; (rintro w' ⟨s0, s1, s2, s3, s4, s5, s6, s7⟩; go_simp; with_reducible rfl); rotate_left; (simp only [Act.put, List.setIfInBounds_toArray, List.set_cons_zero, List.set_cons_succ, i64_w, i32_w]; rfl)
        refine take_ (i := 13) (N := some 79) (v := ?_) (a' := ?_) #[true, true, true, true, true, true, true, true, true, true, true, true, true, true, false, false, false, false, false, false, false] rfl rfl (take_ofW HT_.out HW_.out (by kernel_rfl)) (fun _ _ _ h => h) (Or.inl ⟨by rfl, ?_⟩) hHeld ?_ ?_
        rotate_left; (rintro w' ⟨s0, s1, s2, s3, s4, s5, s6, s7⟩; go_simp; with_reducible rfl); rotate_left; (simp only [Act.put, List.setIfInBounds_toArray, List.set_cons_zero, List.set_cons_succ, i64_w, i32_w]; rfl)
        refine take_ (i := 15) (N := some 81) (v := ?_) (a' := ?_) #[true, true, true, true, true, true, true, true, true, true, true, true, true, true, false, true, false, false, false, false, false] rfl rfl (take_ofW HT_.out HW_.out (by kernel_rfl)) (fun _ _ _ h => h) (Or.inl ⟨by rfl, ?_⟩) hHeld ?_ ?_
        rotate_left; (rintro w' ⟨s0, s1, s2, s3, s4, s5, s6, s7⟩; go_simp; with_reducible rfl); rotate_left; (simp only [Act.put, List.setIfInBounds_toArray, List.set_cons_zero, List.set_cons_succ, i64_w, i32_w]; rfl)
        refine take_ (i := 16) (N := some 82) (v := ?_) (a' := ?_) #[true, true, true, true, true, true, true, true, true, true, true, true, true, true, false, true, true, false, false, false, false] rfl rfl (take_ofW HT_.out HW_.out (by kernel_rfl)) (fun _ _ _ h => h) (Or.inl ⟨by rfl, ?_⟩) hHeld ?_ ?_
        rotate_left; (rintro w' ⟨s0, s1, s2, s3, s4, s5, s6, s7⟩; go_simp; with_reducible rfl); rotate_left; (simp only [Act.put, List.setIfInBounds_toArray, List.set_cons_zero, List.set_cons_succ, i64_w, i32_w]; rfl)
        refine one_ (i := 14) (N := some 80) #[true, true, true, true, true, true, true, true, true, true, true, true, true, true, true, true, true, false, false, false, false] rfl rfl (one_of HT_.out (by kernel_rfl)) (by decide) (fun K hK => ?_)
        refine goes_ Try.func17 (by kernel_rfl) rfl #[.agg #[.slice Ao16 t286.length co16, .int .i64 t289, .int .i64 t290, .int .i64 t291], .agg #[.bool t299, .bool t300, .slice Ao33 t301.length co33, .slice Ao34 t304.length co34]] (by rfl) rfl rfl (by (try simp only [List.map_toArray, List.map_cons, List.map_nil]); first | done | rfl | (simp only [List.length_drop, List.length_take]; rfl)) ?_
        with_reducible refine (index_Empty.calls k1 _ _ t286 t289 t290 t291 t299 t300 _ _ t301 _ _ t304 t319 _ ?side1 ?side2 ?side3 ?side4 ?side5 ?side6 A70.out).mono ?_
        (case side1 => repeat (first | exact (Kd.R_reads' HO_293000.out).2.2 | (with_reducible refine Kd.C_alloc ?_ _) | (with_reducible refine Kd.C_drewN ?_ _) | (with_reducible refine Kd.C_drew ?_)))
        (case side2 => exact (Kd.R_reads' HO_293000.out).2.1)
        (case side3 => repeat (first | exact (Kd.R_reads' HO_308002.out).2.2 | (with_reducible refine Kd.C_alloc ?_ _) | (with_reducible refine Kd.C_drewN ?_ _) | (with_reducible refine Kd.C_drew ?_)))
        (case side4 => exact (Kd.R_reads' HO_308002.out).2.1)
        (case side5 => repeat (first | exact (Kd.R_reads' HO_308003.out).2.2 | (with_reducible refine Kd.C_alloc ?_ _) | (with_reducible refine Kd.C_drewN ?_ _) | (with_reducible refine Kd.C_drew ?_)))
        (case side6 => exact (Kd.R_reads' HO_308003.out).2.1)
        rintro e w73 ⟨rfl, hb⟩
        refine ⟨_, rfl, ?_⟩
        have n0_ := Aside0.mk (Kd.N_below (by (with_reducible repeat (first | apply Kd.N_alloc | apply Kd.N_drewN | apply Kd.N_drew)); exact HO_9.out) hb)
        have n1_ := Aside0.mk (Kd.R_below (by (with_reducible repeat (first | apply Kd.R_alloc | apply Kd.R_drewN | apply Kd.R_drew)); exact HO_293000.out) hb)
        have n2_ := Aside0.mk (Kd.R_below (by (with_reducible repeat (first | apply Kd.R_alloc | apply Kd.R_drewN | apply Kd.R_drew)); exact HO_308002.out) hb)
        have n3_ := Aside0.mk (Kd.R_below (by (with_reducible repeat (first | apply Kd.R_alloc | apply Kd.R_drewN | apply Kd.R_drew)); exact HO_308003.out) hb)
        have n4_ := Aside0.mk (Kd.N_below (by (with_reducible repeat (first | apply Kd.N_alloc | apply Kd.N_drewN | apply Kd.N_drew)); exact HO314.out) hb)
        have n5_ := Aside0.mk (blk_below (g := gb283) (o := .cells #[.int .u8 a0_0, .int .u8 a0_1, .int .u8 a0_2, .int .u8 a0_3, .int .u8 a0_4, .int .u8 a0_5, .int .u8 a0_6, .int .u8 a0_7, .int .u8 a0_8, .int .u8 a0_9, .int .u8 a0_10, .int .u8 a0_11] 24 (0, 0)) (by (with_reducible repeat (first | refine blk_drewN ?_ _ | refine blk_drew ?_ | refine blk_alloc ?_ _)); exact BK283.out) hb)
        have n6_ := Aside0.mk (blk_below (g := gb284) (o := .cells #[.bool a2_0, .bool a2_1, .slice A2_2 l2_2.length c2_2, .slice A2_3 l2_3.length c2_3] 29 (0, 0)) (by (with_reducible repeat (first | refine blk_drewN ?_ _ | refine blk_drew ?_ | refine blk_alloc ?_ _)); exact BK284.out) hb)
        have n7_ := Aside0.mk (blk_below (g := gb292) (o := .cells #[.slice Ao16 t286.length co16, .int .i64 t289, .int .i64 t290, .int .i64 t291] 33 (0, 0)) (by (with_reducible repeat (first | refine blk_drewN ?_ _ | refine blk_drew ?_ | refine blk_alloc ?_ _)); exact BK292.out) hb)
        have n8_ := Aside0.mk (blk_below (g := gb307) (o := .cells #[.bool t299, .bool t300, .slice Ao33 t301.length co33, .slice Ao34 t304.length co34] 29 (0, 0)) (by (with_reducible repeat (first | refine blk_drewN ?_ _ | refine blk_drew ?_ | refine blk_alloc ?_ _)); exact BK307.out) hb)
        have n9_ := Aside0.mk (below_step (by repeat (first | (with_reducible first | exact HB.out | apply below_alloc | apply pw_below_drewN | apply below_drew1 | refine below_set ?_ GE283.out | refine below_set ?_ GE284.out | refine below_set ?_ GE292.out | refine below_set ?_ GE307.out) | exact HB.out)) hb)
        clear HO_9
        clear HO_293000
        clear HO_308002
        clear HO_308003
        clear HO314
        clear BK283
        clear BK284
        clear BK292
        clear BK307
        clear HB
        have HO_9 := n0_
        have HO_293000 := n1_
        have HO_308002 := n2_
        have HO_308003 := n3_
        have HO314 := n4_
        have BK283 := n5_
        have BK284 := n6_
        have BK292 := n7_
        have BK307 := n8_
        have HB := n9_
        clear n0_ n1_ n2_ n3_ n4_ n5_ n6_ n7_ n8_ n9_
        (try clear hb)
        (try clear hb2)
        (try clear hk)
        (try clear hi)
        refine hK.out _ _ ⟨(blk_cell BK292.out 0).trans rfl, (blk_cell BK292.out 1).trans rfl, (blk_cell BK292.out 2).trans rfl, (blk_cell BK292.out 3).trans rfl, (blk_cell BK307.out 0).trans rfl, (blk_cell BK307.out 1).trans rfl, (blk_cell BK307.out 2).trans rfl, (blk_cell BK307.out 3).trans rfl⟩ (fun hHeld => ?_)
        clear hK K
        refine norm_ (a' := ?_) ?_ ?_
        rotate_left
        ·show Act.put _ (some 80) _ = _
         simp only [Act.put, List.setIfInBounds_toArray, List.set_cons_zero, List.set_cons_succ, i64_w, i32_w]
         rfl
        refine one_ (i := 17) (N := some 83) #[true, true, true, true, true, true, true, true, true, true, true, true, true, true, true, true, true, true, false, false, false] rfl rfl (one_of HT_.out (by kernel_rfl)) (by decide) (fun K hK => ?_)
        refine goes_ Try.func18 (by kernel_rfl) rfl #[.agg #[.slice Ao16 t286.length co16, .int .i64 t289, .int .i64 t290, .int .i64 t291], .agg #[.bool t299, .bool t300, .slice Ao33 t301.length co33, .slice Ao34 t304.length co34]] (by rfl) rfl rfl (by (try simp only [List.map_toArray, List.map_cons, List.map_nil]); first | done | rfl | (simp only [List.length_drop, List.length_take]; rfl)) ?_
        with_reducible refine (thresherref12_Empty.calls k1 _ _ t286 t289 t290 t291 t299 t300 _ _ t301 _ _ t304 t320 _ ?side1 ?side2 ?side3 ?side4 ?side5 ?side6 A71.out).mono ?_
        (case side1 => repeat (first | exact (Kd.R_reads' HO_293000.out).2.2 | (with_reducible refine Kd.C_alloc ?_ _) | (with_reducible refine Kd.C_drewN ?_ _) | (with_reducible refine Kd.C_drew ?_)))
        (case side2 => exact (Kd.R_reads' HO_293000.out).2.1)
        (case side3 => repeat (first | exact (Kd.R_reads' HO_308002.out).2.2 | (with_reducible refine Kd.C_alloc ?_ _) | (with_reducible refine Kd.C_drewN ?_ _) | (with_reducible refine Kd.C_drew ?_)))
        (case side4 => exact (Kd.R_reads' HO_308002.out).2.1)
        (case side5 => repeat (first | exact (Kd.R_reads' HO_308003.out).2.2 | (with_reducible refine Kd.C_alloc ?_ _) | (with_reducible refine Kd.C_drewN ?_ _) | (with_reducible refine Kd.C_drew ?_)))
        (case side6 => exact (Kd.R_reads' HO_308003.out).2.1)
        rintro e w74 ⟨rfl, hb⟩
        refine ⟨_, rfl, ?_⟩
        have n0_ := Aside0.mk (Kd.N_below (by (with_reducible repeat (first | apply Kd.N_alloc | apply Kd.N_drewN | apply Kd.N_drew)); exact HO_9.out) hb)
        have n1_ := Aside0.mk (Kd.R_below (by (with_reducible repeat (first | apply Kd.R_alloc | apply Kd.R_drewN | apply Kd.R_drew)); exact HO_293000.out) hb)
        have n2_ := Aside0.mk (Kd.R_below (by (with_reducible repeat (first | apply Kd.R_alloc | apply Kd.R_drewN | apply Kd.R_drew)); exact HO_308002.out) hb)
        have n3_ := Aside0.mk (Kd.R_below (by (with_reducible repeat (first | apply Kd.R_alloc | apply Kd.R_drewN | apply Kd.R_drew)); exact HO_308003.out) hb)
        have n4_ := Aside0.mk (Kd.N_below (by (with_reducible repeat (first | apply Kd.N_alloc | apply Kd.N_drewN | apply Kd.N_drew)); exact HO314.out) hb)
        have n5_ := Aside0.mk (blk_below (g := gb283) (o := .cells #[.int .u8 a0_0, .int .u8 a0_1, .int .u8 a0_2, .int .u8 a0_3, .int .u8 a0_4, .int .u8 a0_5, .int .u8 a0_6, .int .u8 a0_7, .int .u8 a0_8, .int .u8 a0_9, .int .u8 a0_10, .int .u8 a0_11] 24 (0, 0)) (by (with_reducible repeat (first | refine blk_drewN ?_ _ | refine blk_drew ?_ | refine blk_alloc ?_ _)); exact BK283.out) hb)
        have n6_ := Aside0.mk (blk_below (g := gb284) (o := .cells #[.bool a2_0, .bool a2_1, .slice A2_2 l2_2.length c2_2, .slice A2_3 l2_3.length c2_3] 29 (0, 0)) (by (with_reducible repeat (first | refine blk_drewN ?_ _ | refine blk_drew ?_ | refine blk_alloc ?_ _)); exact BK284.out) hb)
        have n7_ := Aside0.mk (blk_below (g := gb292) (o := .cells #[.slice Ao16 t286.length co16, .int .i64 t289, .int .i64 t290, .int .i64 t291] 33 (0, 0)) (by (with_reducible repeat (first | refine blk_drewN ?_ _ | refine blk_drew ?_ | refine blk_alloc ?_ _)); exact BK292.out) hb)
        have n8_ := Aside0.mk (blk_below (g := gb307) (o := .cells #[.bool t299, .bool t300, .slice Ao33 t301.length co33, .slice Ao34 t304.length co34] 29 (0, 0)) (by (with_reducible repeat (first | refine blk_drewN ?_ _ | refine blk_drew ?_ | refine blk_alloc ?_ _)); exact BK307.out) hb)
        have n9_ := Aside0.mk (below_step (by repeat (first | (with_reducible first | exact HB.out | apply below_alloc | apply pw_below_drewN | apply below_drew1 | refine below_set ?_ GE283.out | refine below_set ?_ GE284.out | refine below_set ?_ GE292.out | refine below_set ?_ GE307.out) | exact HB.out)) hb)
        clear HO_9
        clear HO_293000
        clear HO_308002
        clear HO_308003
        clear HO314
        clear BK283
        clear BK284
        clear BK292
        clear BK307
        clear HB
        have HO_9 := n0_
        have HO_293000 := n1_
        have HO_308002 := n2_
        have HO_308003 := n3_
        have HO314 := n4_
        have BK283 := n5_
        have BK284 := n6_
        have BK292 := n7_
        have BK307 := n8_
        have HB := n9_
        clear n0_ n1_ n2_ n3_ n4_ n5_ n6_ n7_ n8_ n9_
        (try clear hb)
        (try clear hb2)
        (try clear hk)
        (try clear hi)
        refine hK.out _ _ ⟨(blk_cell BK292.out 0).trans rfl, (blk_cell BK292.out 1).trans rfl, (blk_cell BK292.out 2).trans rfl, (blk_cell BK292.out 3).trans rfl, (blk_cell BK307.out 0).trans rfl, (blk_cell BK307.out 1).trans rfl, (blk_cell BK307.out 2).trans rfl, (blk_cell BK307.out 3).trans rfl⟩ (fun hHeld => ?_)
        clear hK K
        refine norm_ (a' := ?_) ?_ ?_
        rotate_left
        ·show Act.put _ (some 83) _ = _
         simp only [Act.put, List.setIfInBounds_toArray, List.set_cons_zero, List.set_cons_succ, i64_w, i32_w]
         rfl
        refine pure_ (i := 18) (N := some 84) (v := ?_) (a' := ?_) #[true, true, true, true, true, true, true, true, true, true, true, true, true, true, true, true, true, true, true, false, false] rfl rfl (any_of HT_.out (by kernel_rfl)) (fun _ _ _ h => h) (Or.inl ⟨by rfl, ?_⟩) ?_ ?_
        rotate_left; (intro w'; go_simp; with_reducible rfl); rotate_left; (simp only [Act.put, List.setIfInBounds_toArray, List.set_cons_zero, List.set_cons_succ, i64_w, i32_w]; rfl)
        refine pure_ (i := 19) (N := some 85) (v := ?_) (a' := ?_) #[true, true, true, true, true, true, true, true, true, true, true, true, true, true, true, true, true, true, true, true, false] rfl rfl (any_of HT_.out (by kernel_rfl)) (fun _ _ _ h => h) (Or.inl ⟨by rfl, ?_⟩) ?_ ?_
        rotate_left; (intro w'; go_simp; with_reducible rfl); rotate_left; (simp only [Act.put, List.setIfInBounds_toArray, List.set_cons_zero, List.set_cons_succ, i64_w, i32_w]; rfl)
        refine pure_ (i := 20) (N := some 6) (v := ?_) (a' := ?_) #[true, true, true, true, true, true, true, true, true, true, true, true, true, true, true, true, true, true, true, true, true] rfl rfl (any_of HT_.out (by kernel_rfl)) (fun _ _ _ h => h) (Or.inl ⟨by rfl, ?_⟩) ?_ ?_
        rotate_left; (intro w'; go_simp; with_reducible rfl); rotate_left; (simp only [Act.put, List.setIfInBounds_toArray, List.set_cons_zero, List.set_cons_succ, i64_w, i32_w]; rfl)
        refine done_ (done_of HT_.out (by kernel_rfl)) ?_
        (try clear hHeld)
        try go_wp2
        go_meet
        case rel => exact ⟨_, ((t319 == t320)), (by first | rfl | (simp; done) | (simp [*]; done)), (by first | exact H' | (subst_vars; exact H')), ⟨by have := HK1.out; first | omega | exact Nat.le_refl _⟩, ⟨by (with_reducible repeat (first | apply Kd.R_alloc | apply Kd.R_drewN | apply Kd.R_drew)); exact HO_293000.out⟩, ⟨by (with_reducible repeat (first | apply Kd.R_alloc | apply Kd.R_drewN | apply Kd.R_drew)); exact HO_308002.out⟩, ⟨by (with_reducible repeat (first | apply Kd.R_alloc | apply Kd.R_drewN | apply Kd.R_drew)); exact HO_308003.out⟩, ⟨by (with_reducible repeat (first | refine blk_drewN ?_ _ | refine blk_drew ?_ | refine blk_alloc ?_ _)); exact BK283.out⟩, ⟨by (with_reducible repeat (first | refine blk_drewN ?_ _ | refine blk_drew ?_ | refine blk_alloc ?_ _)); exact BK284.out⟩, ⟨by (with_reducible repeat (first | refine blk_drewN ?_ _ | refine blk_drew ?_ | refine blk_alloc ?_ _)); exact BK292.out⟩, ⟨by (with_reducible repeat (first | refine blk_drewN ?_ _ | refine blk_drew ?_ | refine blk_alloc ?_ _)); exact BK307.out⟩, ⟨by repeat (first | (with_reducible first | exact HB.out | apply below_alloc | apply pw_below_drewN | apply below_drew1 | refine below_set ?_ GE283.out | refine below_set ?_ GE284.out | refine below_set ?_ GE292.out | refine below_set ?_ GE307.out) | exact HB.out)⟩⟩
       ·rw [if_neg c69] at H
        have c69b0 : (t316 == t318) = false := beq_eq_false_iff_ne.mpr c69
        have c69b1 : (t316 != t318) = true := bne_iff_ne.mpr c69
        have H' := Aside0.mk H
        clear H
        try go_wp2
        have n0_ := Aside0.mk (Kd.N_drew HO_9.out)
        have n1_ := Aside0.mk (Kd.R_drew HO_293000.out)
        have n2_ := Aside0.mk (Kd.R_drew HO_308002.out)
        have n3_ := Aside0.mk (Kd.R_drew HO_308003.out)
        have n4_ := Aside0.mk (Kd.N_drew HO314.out)
        have n5_ := Aside0.mk (blk_drew BK283.out)
        have n6_ := Aside0.mk (blk_drew BK284.out)
        have n7_ := Aside0.mk (blk_drew BK292.out)
        have n8_ := Aside0.mk (blk_drew BK307.out)
        have n9_ := Aside0.mk (below_drew1 HB.out)
        clear HO_9
        clear HO_293000
        clear HO_308002
        clear HO_308003
        clear HO314
        clear BK283
        clear BK284
        clear BK292
        clear BK307
        clear HB
        have HO_9 := n0_
        have HO_293000 := n1_
        have HO_308002 := n2_
        have HO_308003 := n3_
        have HO314 := n4_
        have BK283 := n5_
        have BK284 := n6_
        have BK292 := n7_
        have BK307 := n8_
        have HB := n9_
        clear n0_ n1_ n2_ n3_ n4_ n5_ n6_ n7_ n8_ n9_
        refine start_ (n := 21) (S := fun w' => True) (ds := []) #[false, false, false, false, false, false, false, false, false, false, false, false, false, false, false, false, false, false, false, false, false] (by kernel_rfl) rfl rfl trivial (fun hHeld => ?_); refine with_tabW thresherlaw12_IndexAll.tab13 thresherlaw12_IndexAll.bits13 (fun HT_ HW_ => ?_)
        generalize w66.drew = w75 at HO_9 HO_293000 HO_308002 HO_308003 HO314 BK283 BK284 BK292 BK307 HB hHeld ⊢
        refine pure_ (i := 0) (N := some 66) (v := ?_) (a' := ?_) #[true, false, false, false, false, false, false, false, false, false, false, false, false, false, false, false, false, false, false, false, false] rfl rfl (any_of HT_.out (by kernel_rfl)) (fun _ _ _ h => h) (Or.inl ⟨by rfl, ?_⟩) ?_ ?_
        rotate_left; (intro w'; go_simp; with_reducible rfl); rotate_left; (simp only [Act.put, List.setIfInBounds_toArray, List.set_cons_zero, List.set_cons_succ, i64_w, i32_w]; rfl)
        refine pure_ (i := 1) (N := some 67) (v := ?_) (a' := ?_) #[true, true, false, false, false, false, false, false, false, false, false, false, false, false, false, false, false, false, false, false, false] rfl rfl (any_of HT_.out (by kernel_rfl)) (fun _ _ _ h => h) (Or.inl ⟨by rfl, ?_⟩) ?_ ?_
        rotate_left; (intro w'; go_simp; with_reducible rfl); rotate_left; (simp only [Act.put, List.setIfInBounds_toArray, List.set_cons_zero, List.set_cons_succ, i64_w, i32_w]; rfl)
        refine pure_ (i := 2) (N := some 68) (v := ?_) (a' := ?_) #[true, true, true, false, false, false, false, false, false, false, false, false, false, false, false, false, false, false, false, false, false] rfl rfl (any_of HT_.out (by kernel_rfl)) (fun _ _ _ h => h) (Or.inl ⟨by rfl, ?_⟩) ?_ ?_
        rotate_left; (intro w'; go_simp; with_reducible rfl); rotate_left; (simp only [Act.put, List.setIfInBounds_toArray, List.set_cons_zero, List.set_cons_succ, i64_w, i32_w]; rfl)
        refine pure_ (i := 3) (N := some 69) (v := ?_) (a' := ?_) #[true, true, true, true, false, false, false, false, false, false, false, false, false, false, false, false, false, false, false, false, false] rfl rfl (any_of HT_.out (by kernel_rfl)) (fun _ _ _ h => h) (Or.inl ⟨by rfl, ?_⟩) ?_ ?_
        rotate_left; (intro w'; go_simp; with_reducible rfl); rotate_left; (simp only [Act.put, List.setIfInBounds_toArray, List.set_cons_zero, List.set_cons_succ, i64_w, i32_w]; rfl)
        refine pure_ (i := 4) (N := some 70) (v := ?_) (a' := ?_) #[true, true, true, true, true, false, false, false, false, false, false, false, false, false, false, false, false, false, false, false, false] rfl rfl (any_of HT_.out (by kernel_rfl)) (fun _ _ _ h => h) (Or.inl ⟨by rfl, ?_⟩) ?_ ?_
        rotate_left; (intro w'; go_simp; with_reducible rfl); rotate_left; (simp only [Act.put, List.setIfInBounds_toArray, List.set_cons_zero, List.set_cons_succ, i64_w, i32_w]; rfl)
        refine pure_ (i := 5) (N := some 71) (v := ?_) (a' := ?_) #[true, true, true, true, true, true, false, false, false, false, false, false, false, false, false, false, false, false, false, false, false] rfl rfl (any_of HT_.out (by kernel_rfl)) (fun _ _ _ h => h) (Or.inl ⟨by rfl, ?_⟩) ?_ ?_
        rotate_left; (intro w'; go_simp; with_reducible rfl); rotate_left; (simp only [Act.put, List.setIfInBounds_toArray, List.set_cons_zero, List.set_cons_succ, i64_w, i32_w]; rfl)
        refine pure_ (i := 6) (N := some 72) (v := ?_) (a' := ?_) #[true, true, true, true, true, true, true, false, false, false, false, false, false, false, false, false, false, false, false, false, false] rfl rfl (any_of HT_.out (by kernel_rfl)) (fun _ _ _ h => h) (Or.inl ⟨by rfl, ?_⟩) ?_ ?_
        rotate_left; (intro w'; go_simp; with_reducible rfl); rotate_left; (simp only [Act.put, List.setIfInBounds_toArray, List.set_cons_zero, List.set_cons_succ, i64_w, i32_w]; rfl)
        refine pure_ (i := 7) (N := some 73) (v := ?_) (a' := ?_) #[true, true, true, true, true, true, true, true, false, false, false, false, false, false, false, false, false, false, false, false, false] rfl rfl (any_of HT_.out (by kernel_rfl)) (fun _ _ _ h => h) (Or.inl ⟨by rfl, ?_⟩) ?_ ?_
        rotate_left; (intro w'; go_simp; with_reducible rfl); rotate_left; (simp only [Act.put, List.setIfInBounds_toArray, List.set_cons_zero, List.set_cons_succ, i64_w, i32_w]; rfl)
        refine pure_ (i := 8) (N := some 74) (v := ?_) (a' := ?_) #[true, true, true, true, true, true, true, true, true, false, false, false, false, false, false, false, false, false, false, false, false] rfl rfl (any_of HT_.out (by kernel_rfl)) (fun _ _ _ h => h) (Or.inl ⟨by rfl, ?_⟩) ?_ ?_
        rotate_left; (intro w'; go_simp; with_reducible rfl); rotate_left; (simp only [Act.put, List.setIfInBounds_toArray, List.set_cons_zero, List.set_cons_succ, i64_w, i32_w]; rfl)
        refine pure_ (i := 9) (N := some 75) (v := ?_) (a' := ?_) #[true, true, true, true, true, true, true, true, true, true, false, false, false, false, false, false, false, false, false, false, false] rfl rfl (any_of HT_.out (by kernel_rfl)) (fun _ _ _ h => h) (Or.inl ⟨by rfl, ?_⟩) ?_ ?_
        rotate_left; (intro w'; go_simp; with_reducible rfl); rotate_left; (simp only [Act.put, List.setIfInBounds_toArray, List.set_cons_zero, List.set_cons_succ, i64_w, i32_w]; rfl)
        refine pure_ (i := 10) (N := some 76) (v := ?_) (a' := ?_) #[true, true, true, true, true, true, true, true, true, true, true, false, false, false, false, false, false, false, false, false, false] rfl rfl (any_of HT_.out (by kernel_rfl)) (fun _ _ _ h => h) (Or.inl ⟨by rfl, ?_⟩) ?_ ?_
        rotate_left; (intro w'; go_simp; with_reducible rfl); rotate_left; (simp only [Act.put, List.setIfInBounds_toArray, List.set_cons_zero, List.set_cons_succ, i64_w, i32_w]; rfl)
        refine pure_ (i := 11) (N := some 77) (v := ?_) (a' := ?_) #[true, true, true, true, true, true, true, true, true, true, true, true, false, false, false, false, false, false, false, false, false] rfl rfl (any_of HT_.out (by kernel_rfl)) (fun _ _ _ h => h) (Or.inl ⟨by rfl, ?_⟩) ?_ ?_
        rotate_left; (intro w'; go_simp; with_reducible rfl); rotate_left; (simp only [Act.put, List.setIfInBounds_toArray, List.set_cons_zero, List.set_cons_succ, i64_w, i32_w]; rfl)
        refine pure_ (i := 12) (N := some 78) (v := undef) (a' := ?_) #[true, true, true, true, true, true, true, true, true, true, true, true, true, false, false, false, false, false, false, false, false] rfl rfl (any_of HT_.out (by kernel_rfl)) (fun _ _ _ h => h) (Or.inr ⟨by rfl, rfl⟩) ?_ ?_
        rotate_left
        ·simp only [Act.put, List.setIfInBounds_toArray, List.set_cons_zero, List.set_cons_succ, i64_w, i32_w]
         rfl
        refine pure_ (i := 13) (N := some 79) (v := undef) (a' := ?_) #[true, true, true, true, true, true, true, true, true, true, true, true, true, true, false, false, false, false, false, false, false] rfl rfl (any_of HT_.out (by kernel_rfl)) (fun _ _ _ h => h) (Or.inr ⟨by rfl, rfl⟩) ?_ ?_
        rotate_left
        ·simp only [Act.put, List.setIfInBounds_toArray, List.set_cons_zero, List.set_cons_succ, i64_w, i32_w]
         rfl
        refine pure_ (i := 14) (N := some 80) (v := undef) (a' := ?_) #[true, true, true, true, true, true, true, true, true, true, true, true, true, true, true, false, false, false, false, false, false] rfl rfl (any_of HT_.out (by kernel_rfl)) (fun _ _ _ h => h) (Or.inr ⟨by rfl, rfl⟩) ?_ ?_
        rotate_left
        ·simp only [Act.put, List.setIfInBounds_toArray, List.set_cons_zero, List.set_cons_succ, i64_w, i32_w]
         rfl
        refine pure_ (i := 15) (N := some 81) (v := undef) (a' := ?_) #[true, true, true, true, true, true, true, true, true, true, true, true, true, true, true, true, false, false, false, false, false] rfl rfl (any_of HT_.out (by kernel_rfl)) (fun _ _ _ h => h) (Or.inr ⟨by rfl, rfl⟩) ?_ ?_
        rotate_left
        ·simp only [Act.put, List.setIfInBounds_toArray, List.set_cons_zero, List.set_cons_succ, i64_w, i32_w]
         rfl
        refine pure_ (i := 16) (N := some 82) (v := undef) (a' := ?_) #[true, true, true, true, true, true, true, true, true, true, true, true, true, true, true, true, true, false, false, false, false] rfl rfl (any_of HT_.out (by kernel_rfl)) (fun _ _ _ h => h) (Or.inr ⟨by rfl, rfl⟩) ?_ ?_
        rotate_left
        ·simp only [Act.put, List.setIfInBounds_toArray, List.set_cons_zero, List.set_cons_succ, i64_w, i32_w]
         rfl
        refine pure_ (i := 17) (N := some 83) (v := undef) (a' := ?_) #[true, true, true, true, true, true, true, true, true, true, true, true, true, true, true, true, true, true, false, false, false] rfl rfl (any_of HT_.out (by kernel_rfl)) (fun _ _ _ h => h) (Or.inr ⟨by rfl, rfl⟩) ?_ ?_
        rotate_left
        ·simp only [Act.put, List.setIfInBounds_toArray, List.set_cons_zero, List.set_cons_succ, i64_w, i32_w]
         rfl
        refine pure_ (i := 18) (N := some 84) (v := undef) (a' := ?_) #[true, true, true, true, true, true, true, true, true, true, true, true, true, true, true, true, true, true, true, false, false] rfl rfl (any_of HT_.out (by kernel_rfl)) (fun _ _ _ h => h) (Or.inr ⟨by rfl, rfl⟩) ?_ ?_
        rotate_left
        ·simp only [Act.put, List.setIfInBounds_toArray, List.set_cons_zero, List.set_cons_succ, i64_w, i32_w]
         rfl
        refine pure_ (i := 19) (N := some 85) (v := ?_) (a' := ?_) #[true, true, true, true, true, true, true, true, true, true, true, true, true, true, true, true, true, true, true, true, false] rfl rfl (any_of HT_.out (by kernel_rfl)) (fun _ _ _ h => h) (Or.inl ⟨by rfl, ?_⟩) ?_ ?_
        rotate_left; (intro w'; go_simp; with_reducible rfl); rotate_left; (simp only [Act.put, List.setIfInBounds_toArray, List.set_cons_zero, List.set_cons_succ, i64_w, i32_w]; rfl)
        refine pure_ (i := 20) (N := some 6) (v := ?_) (a' := ?_) #[true, true, true, true, true, true, true, true, true, true, true, true, true, true, true, true, true, true, true, true, true] rfl rfl (any_of HT_.out (by kernel_rfl)) (fun _ _ _ h => h) (Or.inl ⟨by rfl, ?_⟩) ?_ ?_
        rotate_left; (intro w'; go_simp; with_reducible rfl); rotate_left; (simp only [Act.put, List.setIfInBounds_toArray, List.set_cons_zero, List.set_cons_succ, i64_w, i32_w]; rfl)
        refine done_ (done_of HT_.out (by kernel_rfl)) ?_
        (try clear hHeld)
        try go_wp2
        go_meet
        case rel => exact ⟨_, (false), (by first | rfl | (simp; done) | (simp [*]; done)), (by first | exact H' | (subst_vars; exact H')), ⟨by have := HK1.out; first | omega | exact Nat.le_refl _⟩, ⟨by (with_reducible repeat (first | apply Kd.R_alloc | apply Kd.R_drewN | apply Kd.R_drew)); exact HO_293000.out⟩, ⟨by (with_reducible repeat (first | apply Kd.R_alloc | apply Kd.R_drewN | apply Kd.R_drew)); exact HO_308002.out⟩, ⟨by (with_reducible repeat (first | apply Kd.R_alloc | apply Kd.R_drewN | apply Kd.R_drew)); exact HO_308003.out⟩, ⟨by (with_reducible repeat (first | refine blk_drewN ?_ _ | refine blk_drew ?_ | refine blk_alloc ?_ _)); exact BK283.out⟩, ⟨by (with_reducible repeat (first | refine blk_drewN ?_ _ | refine blk_drew ?_ | refine blk_alloc ?_ _)); exact BK284.out⟩, ⟨by (with_reducible repeat (first | refine blk_drewN ?_ _ | refine blk_drew ?_ | refine blk_alloc ?_ _)); exact BK292.out⟩, ⟨by (with_reducible repeat (first | refine blk_drewN ?_ _ | refine blk_drew ?_ | refine blk_alloc ?_ _)); exact BK307.out⟩, ⟨by repeat (first | (with_reducible first | exact HB.out | apply below_alloc | apply pw_below_drewN | apply below_drew1 | refine below_set ?_ GE283.out | refine below_set ?_ GE284.out | refine below_set ?_ GE292.out | refine below_set ?_ GE307.out) | exact HB.out)⟩⟩
      ·rw [if_neg c68] at H
       have c68b0 : (t315 == t317) = false := beq_eq_false_iff_ne.mpr c68
       have c68b1 : (t315 != t317) = true := bne_iff_ne.mpr c68
       (first | rw [c68b0] | (simp only [i64_w, i32_w]; rw [c68b0]) | skip)
       have H' := Aside0.mk H
       clear H
       try go_wp2
       have n0_ := Aside0.mk (Kd.N_drew HO_9.out)
       have n1_ := Aside0.mk (Kd.R_drew HO_293000.out)
       have n2_ := Aside0.mk (Kd.R_drew HO_308002.out)
       have n3_ := Aside0.mk (Kd.R_drew HO_308003.out)
       have n4_ := Aside0.mk (Kd.N_drew HO314.out)
       have n5_ := Aside0.mk (blk_drew BK283.out)
       have n6_ := Aside0.mk (blk_drew BK284.out)
       have n7_ := Aside0.mk (blk_drew BK292.out)
       have n8_ := Aside0.mk (blk_drew BK307.out)
       have n9_ := Aside0.mk (below_drew1 HB.out)
       clear HO_9
       clear HO_293000
       clear HO_308002
       clear HO_308003
       clear HO314
       clear BK283
       clear BK284
       clear BK292
       clear BK307
       clear HB
       have HO_9 := n0_
       have HO_293000 := n1_
       have HO_308002 := n2_
       have HO_308003 := n3_
       have HO314 := n4_
       have BK283 := n5_
       have BK284 := n6_
       have BK292 := n7_
       have BK307 := n8_
       have HB := n9_
       clear n0_ n1_ n2_ n3_ n4_ n5_ n6_ n7_ n8_ n9_
       refine start_ (n := 21) (S := fun w' => True) (ds := []) #[false, false, false, false, false, false, false, false, false, false, false, false, false, false, false, false, false, false, false, false, false] (by kernel_rfl) rfl rfl trivial (fun hHeld => ?_); refine with_tabW thresherlaw12_IndexAll.tab13 thresherlaw12_IndexAll.bits13 (fun HT_ HW_ => ?_)
       generalize w66.drew = w76 at HO_9 HO_293000 HO_308002 HO_308003 HO314 BK283 BK284 BK292 BK307 HB hHeld ⊢
       refine pure_ (i := 0) (N := some 66) (v := ?_) (a' := ?_) #[true, false, false, false, false, false, false, false, false, false, false, false, false, false, false, false, false, false, false, false, false] rfl rfl (any_of HT_.out (by kernel_rfl)) (fun _ _ _ h => h) (Or.inl ⟨by rfl, ?_⟩) ?_ ?_
       rotate_left; (intro w'; go_simp; with_reducible rfl); rotate_left; (simp only [Act.put, List.setIfInBounds_toArray, List.set_cons_zero, List.set_cons_succ, i64_w, i32_w]; rfl)
       refine pure_ (i := 1) (N := some 67) (v := ?_) (a' := ?_) #[true, true, false, false, false, false, false, false, false, false, false, false, false, false, false, false, false, false, false, false, false] rfl rfl (any_of HT_.out (by kernel_rfl)) (fun _ _ _ h => h) (Or.inl ⟨by rfl, ?_⟩) ?_ ?_
       rotate_left; (intro w'; go_simp; with_reducible rfl); rotate_left; (simp only [Act.put, List.setIfInBounds_toArray, List.set_cons_zero, List.set_cons_succ, i64_w, i32_w]; rfl)
       refine pure_ (i := 2) (N := some 68) (v := ?_) (a' := ?_) #[true, true, true, false, false, false, false, false, false, false, false, false, false, false, false, false, false, false, false, false, false] rfl rfl (any_of HT_.out (by kernel_rfl)) (fun _ _ _ h => h) (Or.inl ⟨by rfl, ?_⟩) ?_ ?_
       rotate_left; (intro w'; go_simp; with_reducible rfl); rotate_left; (simp only [Act.put, List.setIfInBounds_toArray, List.set_cons_zero, List.set_cons_succ, i64_w, i32_w]; rfl)
       refine pure_ (i := 3) (N := some 69) (v := ?_) (a' := ?_) #[true, true, true, true, false, false, false, false, false, false, false, false, false, false, false, false, false, false, false, false, false] rfl rfl (any_of HT_.out (by kernel_rfl)) (fun _ _ _ h => h) (Or.inl ⟨by rfl, ?_⟩) ?_ ?_
       rotate_left; (intro w'; go_simp; with_reducible rfl); rotate_left; (simp only [Act.put, List.setIfInBounds_toArray, List.set_cons_zero, List.set_cons_succ, i64_w, i32_w]; rfl)
       refine pure_ (i := 4) (N := some 70) (v := ?_) (a' := ?_) #[true, true, true, true, true, false, false, false, false, false, false, false, false, false, false, false, false, false, false, false, false] rfl rfl (any_of HT_.out (by kernel_rfl)) (fun _ _ _ h => h) (Or.inl ⟨by rfl, ?_⟩) ?_ ?_
       rotate_left; (intro w'; go_simp; with_reducible rfl); rotate_left; (simp only [Act.put, List.setIfInBounds_toArray, List.set_cons_zero, List.set_cons_succ, i64_w, i32_w]; rfl)
       refine pure_ (i := 5) (N := some 71) (v := ?_) (a' := ?_) #[true, true, true, true, true, true, false, false, false, false, false, false, false, false, false, false, false, false, false, false, false] rfl rfl (any_of HT_.out (by kernel_rfl)) (fun _ _ _ h => h) (Or.inl ⟨by rfl, ?_⟩) ?_ ?_
       rotate_left; (intro w'; go_simp; with_reducible rfl); rotate_left; (simp only [Act.put, List.setIfInBounds_toArray, List.set_cons_zero, List.set_cons_succ, i64_w, i32_w]; rfl)
       refine pure_ (i := 6) (N := some 72) (v := ?_) (a' := ?_) #[true, true, true, true, true, true, true, false, false, false, false, false, false, false, false, false, false, false, false, false, false] rfl rfl (any_of HT_.out (by kernel_rfl)) (fun _ _ _ h => h) (Or.inl ⟨by rfl, ?_⟩) ?_ ?_
       rotate_left; (intro w'; go_simp; with_reducible rfl); rotate_left; (simp only [Act.put, List.setIfInBounds_toArray, List.set_cons_zero, List.set_cons_succ, i64_w, i32_w]; rfl)
       refine pure_ (i := 7) (N := some 73) (v := undef) (a' := ?_) #[true, true, true, true, true, true, true, true, false, false, false, false, false, false, false, false, false, false, false, false, false] rfl rfl (any_of HT_.out (by kernel_rfl)) (fun _ _ _ h => h) (Or.inr ⟨by rfl, rfl⟩) ?_ ?_
       rotate_left
       ·simp only [Act.put, List.setIfInBounds_toArray, List.set_cons_zero, List.set_cons_succ, i64_w, i32_w]
        rfl
       refine pure_ (i := 8) (N := some 74) (v := undef) (a' := ?_) #[true, true, true, true, true, true, true, true, true, false, false, false, false, false, false, false, false, false, false, false, false] rfl rfl (any_of HT_.out (by kernel_rfl)) (fun _ _ _ h => h) (Or.inr ⟨by rfl, rfl⟩) ?_ ?_
       rotate_left
       ·simp only [Act.put, List.setIfInBounds_toArray, List.set_cons_zero, List.set_cons_succ, i64_w, i32_w]
        rfl
       refine pure_ (i := 9) (N := some 75) (v := undef) (a' := ?_) #[true, true, true, true, true, true, true, true, true, true, false, false, false, false, false, false, false, false, false, false, false] rfl rfl (any_of HT_.out (by kernel_rfl)) (fun _ _ _ h => h) (Or.inr ⟨by rfl, rfl⟩) ?_ ?_
       rotate_left
       ·simp only [Act.put, List.setIfInBounds_toArray, List.set_cons_zero, List.set_cons_succ, i64_w, i32_w]
        rfl
       refine pure_ (i := 10) (N := some 76) (v := ?_) (a' := ?_) #[true, true, true, true, true, true, true, true, true, true, true, false, false, false, false, false, false, false, false, false, false] rfl rfl (any_of HT_.out (by kernel_rfl)) (fun _ _ _ h => h) (Or.inl ⟨by rfl, ?_⟩) ?_ ?_
       rotate_left; (intro w'; go_simp; with_reducible rfl); rotate_left; (simp only [Act.put, List.setIfInBounds_toArray, List.set_cons_zero, List.set_cons_succ, i64_w, i32_w]; rfl)
       refine pure_ (i := 11) (N := some 77) (v := ?_) (a' := ?_) #[true, true, true, true, true, true, true, true, true, true, true, true, false, false, false, false, false, false, false, false, false] rfl rfl (any_of HT_.out (by kernel_rfl)) (fun _ _ _ h => h) (Or.inl ⟨by rfl, ?_⟩) ?_ ?_
       rotate_left; (intro w'; go_simp; with_reducible rfl); rotate_left; (simp only [Act.put, List.setIfInBounds_toArray, List.set_cons_zero, List.set_cons_succ, i64_w, i32_w]; rfl)
       refine pure_ (i := 12) (N := some 78) (v := undef) (a' := ?_) #[true, true, true, true, true, true, true, true, true, true, true, true, true, false, false, false, false, false, false, false, false] rfl rfl (any_of HT_.out (by kernel_rfl)) (fun _ _ _ h => h) (Or.inr ⟨by rfl, rfl⟩) ?_ ?_
       rotate_left
       ·simp only [Act.put, List.setIfInBounds_toArray, List.set_cons_zero, List.set_cons_succ, i64_w, i32_w]
        rfl
       refine pure_ (i := 13) (N := some 79) (v := undef) (a' := ?_) #[true, true, true, true, true, true, true, true, true, true, true, true, true, true, false, false, false, false, false, false, false] rfl rfl (any_of HT_.out (by kernel_rfl)) (fun _ _ _ h => h) (Or.inr ⟨by rfl, rfl⟩) ?_ ?_
       rotate_left
       ·simp only [Act.put, List.setIfInBounds_toArray, List.set_cons_zero, List.set_cons_succ, i64_w, i32_w]
        rfl
       refine pure_ (i := 14) (N := some 80) (v := undef) (a' := ?_) #[true, true, true, true, true, true, true, true, true, true, true, true, true, true, true, false, false, false, false, false, false] rfl rfl (any_of HT_.out (by kernel_rfl)) (fun _ _ _ h => h) (Or.inr ⟨by rfl, rfl⟩) ?_ ?_
       rotate_left
       ·simp only [Act.put, List.setIfInBounds_toArray, List.set_cons_zero, List.set_cons_succ, i64_w, i32_w]
        rfl
       refine pure_ (i := 15) (N := some 81) (v := undef) (a' := ?_) #[true, true, true, true, true, true, true, true, true, true, true, true, true, true, true, true, false, false, false, false, false] rfl rfl (any_of HT_.out (by kernel_rfl)) (fun _ _ _ h => h) (Or.inr ⟨by rfl, rfl⟩) ?_ ?_
       rotate_left
       ·simp only [Act.put, List.setIfInBounds_toArray, List.set_cons_zero, List.set_cons_succ, i64_w, i32_w]
        rfl
       refine pure_ (i := 16) (N := some 82) (v := undef) (a' := ?_) #[true, true, true, true, true, true, true, true, true, true, true, true, true, true, true, true, true, false, false, false, false] rfl rfl (any_of HT_.out (by kernel_rfl)) (fun _ _ _ h => h) (Or.inr ⟨by rfl, rfl⟩) ?_ ?_
       rotate_left
       ·simp only [Act.put, List.setIfInBounds_toArray, List.set_cons_zero, List.set_cons_succ, i64_w, i32_w]
        rfl
       refine pure_ (i := 17) (N := some 83) (v := undef) (a' := ?_) #[true, true, true, true, true, true, true, true, true, true, true, true, true, true, true, true, true, true, false, false, false] rfl rfl (any_of HT_.out (by kernel_rfl)) (fun _ _ _ h => h) (Or.inr ⟨by rfl, rfl⟩) ?_ ?_
       rotate_left
       ·simp only [Act.put, List.setIfInBounds_toArray, List.set_cons_zero, List.set_cons_succ, i64_w, i32_w]
        rfl
       refine pure_ (i := 18) (N := some 84) (v := undef) (a' := ?_) #[true, true, true, true, true, true, true, true, true, true, true, true, true, true, true, true, true, true, true, false, false] rfl rfl (any_of HT_.out (by kernel_rfl)) (fun _ _ _ h => h) (Or.inr ⟨by rfl, rfl⟩) ?_ ?_
       rotate_left
       ·simp only [Act.put, List.setIfInBounds_toArray, List.set_cons_zero, List.set_cons_succ, i64_w, i32_w]
        rfl
       refine pure_ (i := 19) (N := some 85) (v := ?_) (a' := ?_) #[true, true, true, true, true, true, true, true, true, true, true, true, true, true, true, true, true, true, true, true, false] rfl rfl (any_of HT_.out (by kernel_rfl)) (fun _ _ _ h => h) (Or.inl ⟨by rfl, ?_⟩) ?_ ?_
       rotate_left; (intro w'; go_simp; with_reducible rfl); rotate_left; (simp only [Act.put, List.setIfInBounds_toArray, List.set_cons_zero, List.set_cons_succ, i64_w, i32_w]; rfl)
       refine pure_ (i := 20) (N := some 6) (v := ?_) (a' := ?_) #[true, true, true, true, true, true, true, true, true, true, true, true, true, true, true, true, true, true, true, true, true] rfl rfl (any_of HT_.out (by kernel_rfl)) (fun _ _ _ h => h) (Or.inl ⟨by rfl, ?_⟩) ?_ ?_
       rotate_left; (intro w'; go_simp; with_reducible rfl); rotate_left; (simp only [Act.put, List.setIfInBounds_toArray, List.set_cons_zero, List.set_cons_succ, i64_w, i32_w]; rfl)
       refine done_ (done_of HT_.out (by kernel_rfl)) ?_
       (try clear hHeld)
       try go_wp2
       go_meet
       case rel => exact ⟨_, (false), (by first | rfl | (simp; done) | (simp [*]; done)), (by first | exact H' | (subst_vars; exact H')), ⟨by have := HK1.out; first | omega | exact Nat.le_refl _⟩, ⟨by (with_reducible repeat (first | apply Kd.R_alloc | apply Kd.R_drewN | apply Kd.R_drew)); exact HO_293000.out⟩, ⟨by (with_reducible repeat (first | apply Kd.R_alloc | apply Kd.R_drewN | apply Kd.R_drew)); exact HO_308002.out⟩, ⟨by (with_reducible repeat (first | apply Kd.R_alloc | apply Kd.R_drewN | apply Kd.R_drew)); exact HO_308003.out⟩, ⟨by (with_reducible repeat (first | refine blk_drewN ?_ _ | refine blk_drew ?_ | refine blk_alloc ?_ _)); exact BK283.out⟩, ⟨by (with_reducible repeat (first | refine blk_drewN ?_ _ | refine blk_drew ?_ | refine blk_alloc ?_ _)); exact BK284.out⟩, ⟨by (with_reducible repeat (first | refine blk_drewN ?_ _ | refine blk_drew ?_ | refine blk_alloc ?_ _)); exact BK292.out⟩, ⟨by (with_reducible repeat (first | refine blk_drewN ?_ _ | refine blk_drew ?_ | refine blk_alloc ?_ _)); exact BK307.out⟩, ⟨by repeat (first | (with_reducible first | exact HB.out | apply below_alloc | apply pw_below_drewN | apply below_drew1 | refine below_set ?_ GE283.out | refine below_set ?_ GE284.out | refine below_set ?_ GE292.out | refine below_set ?_ GE307.out) | exact HB.out)⟩⟩
     ·replace c67 := Bool.eq_false_iff.mpr c67
      subst c67
      have H1 : (thresherlaw12_IndexAll.j1 k1 false) = some r := by rw [if_neg (show ¬ (false = true) by decide)] at H; exact H
      clear H
      have H := H1
      clear H1
      have H' := Aside0.mk H
      clear H
      try go_wp2
      have n0_ := Aside0.mk (Kd.N_drew HO_9.out)
      have n1_ := Aside0.mk (Kd.R_drew HO_293000.out)
      have n2_ := Aside0.mk (Kd.R_drew HO_308002.out)
      have n3_ := Aside0.mk (Kd.R_drew HO_308003.out)
      have n4_ := Aside0.mk (Kd.N_drew HO314.out)
      have n5_ := Aside0.mk (blk_drew BK283.out)
      have n6_ := Aside0.mk (blk_drew BK284.out)
      have n7_ := Aside0.mk (blk_drew BK292.out)
      have n8_ := Aside0.mk (blk_drew BK307.out)
      have n9_ := Aside0.mk (below_drew1 HB.out)
      clear HO_9
      clear HO_293000
      clear HO_308002
      clear HO_308003
      clear HO314
      clear BK283
      clear BK284
      clear BK292
      clear BK307
      clear HB
      have HO_9 := n0_
      have HO_293000 := n1_
      have HO_308002 := n2_
      have HO_308003 := n3_
      have HO314 := n4_
      have BK283 := n5_
      have BK284 := n6_
      have BK292 := n7_
      have BK307 := n8_
      have HB := n9_
      clear n0_ n1_ n2_ n3_ n4_ n5_ n6_ n7_ n8_ n9_
      refine start_ (n := 21) (S := fun w' => True) (ds := []) #[false, false, false, false, false, false, false, false, false, false, false, false, false, false, false, false, false, false, false, false, false] (by kernel_rfl) rfl rfl trivial (fun hHeld => ?_); refine with_tabW thresherlaw12_IndexAll.tab13 thresherlaw12_IndexAll.bits13 (fun HT_ HW_ => ?_)
      generalize w66.drew = w77 at HO_9 HO_293000 HO_308002 HO_308003 HO314 BK283 BK284 BK292 BK307 HB hHeld ⊢
      refine pure_ (i := 0) (N := some 66) (v := ?_) (a' := ?_) #[true, false, false, false, false, false, false, false, false, false, false, false, false, false, false, false, false, false, false, false, false] rfl rfl (any_of HT_.out (by kernel_rfl)) (fun _ _ _ h => h) (Or.inl ⟨by rfl, ?_⟩) ?_ ?_
      rotate_left; (intro w'; go_simp; with_reducible rfl); rotate_left; (simp only [Act.put, List.setIfInBounds_toArray, List.set_cons_zero, List.set_cons_succ, i64_w, i32_w]; rfl)
      refine pure_ (i := 1) (N := some 67) (v := ?_) (a' := ?_) #[true, true, false, false, false, false, false, false, false, false, false, false, false, false, false, false, false, false, false, false, false] rfl rfl (any_of HT_.out (by kernel_rfl)) (fun _ _ _ h => h) (Or.inl ⟨by rfl, ?_⟩) ?_ ?_
      rotate_left; (intro w'; go_simp; with_reducible rfl); rotate_left; (simp only [Act.put, List.setIfInBounds_toArray, List.set_cons_zero, List.set_cons_succ, i64_w, i32_w]; rfl)
      refine pure_ (i := 2) (N := some 68) (v := undef) (a' := ?_) #[true, true, true, false, false, false, false, false, false, false, false, false, false, false, false, false, false, false, false, false, false] rfl rfl (any_of HT_.out (by kernel_rfl)) (fun _ _ _ h => h) (Or.inr ⟨by rfl, rfl⟩) ?_ ?_
      rotate_left
      ·simp only [Act.put, List.setIfInBounds_toArray, List.set_cons_zero, List.set_cons_succ, i64_w, i32_w]
       rfl
      refine pure_ (i := 3) (N := some 69) (v := undef) (a' := ?_) #[true, true, true, true, false, false, false, false, false, false, false, false, false, false, false, false, false, false, false, false, false] rfl rfl (any_of HT_.out (by kernel_rfl)) (fun _ _ _ h => h) (Or.inr ⟨by rfl, rfl⟩) ?_ ?_
      rotate_left
      ·simp only [Act.put, List.setIfInBounds_toArray, List.set_cons_zero, List.set_cons_succ, i64_w, i32_w]
       rfl
      refine pure_ (i := 4) (N := some 70) (v := undef) (a' := ?_) #[true, true, true, true, true, false, false, false, false, false, false, false, false, false, false, false, false, false, false, false, false] rfl rfl (any_of HT_.out (by kernel_rfl)) (fun _ _ _ h => h) (Or.inr ⟨by rfl, rfl⟩) ?_ ?_
      rotate_left
      ·simp only [Act.put, List.setIfInBounds_toArray, List.set_cons_zero, List.set_cons_succ, i64_w, i32_w]
       rfl
      refine pure_ (i := 5) (N := some 71) (v := ?_) (a' := ?_) #[true, true, true, true, true, true, false, false, false, false, false, false, false, false, false, false, false, false, false, false, false] rfl rfl (any_of HT_.out (by kernel_rfl)) (fun _ _ _ h => h) (Or.inl ⟨by rfl, ?_⟩) ?_ ?_
      rotate_left; (intro w'; go_simp; with_reducible rfl); rotate_left; (simp only [Act.put, List.setIfInBounds_toArray, List.set_cons_zero, List.set_cons_succ, i64_w, i32_w]; rfl)
      refine pure_ (i := 6) (N := some 72) (v := ?_) (a' := ?_) #[true, true, true, true, true, true, true, false, false, false, false, false, false, false, false, false, false, false, false, false, false] rfl rfl (any_of HT_.out (by kernel_rfl)) (fun _ _ _ h => h) (Or.inl ⟨by rfl, ?_⟩) ?_ ?_
      rotate_left; (intro w'; go_simp; with_reducible rfl); rotate_left; (simp only [Act.put, List.setIfInBounds_toArray, List.set_cons_zero, List.set_cons_succ, i64_w, i32_w]; rfl)
      refine pure_ (i := 7) (N := some 73) (v := undef) (a' := ?_) #[true, true, true, true, true, true, true, true, false, false, false, false, false, false, false, false, false, false, false, false, false] rfl rfl (any_of HT_.out (by kernel_rfl)) (fun _ _ _ h => h) (Or.inr ⟨by rfl, rfl⟩) ?_ ?_
      rotate_left
      ·simp only [Act.put, List.setIfInBounds_toArray, List.set_cons_zero, List.set_cons_succ, i64_w, i32_w]
       rfl
      refine pure_ (i := 8) (N := some 74) (v := undef) (a' := ?_) #[true, true, true, true, true, true, true, true, true, false, false, false, false, false, false, false, false, false, false, false, false] rfl rfl (any_of HT_.out (by kernel_rfl)) (fun _ _ _ h => h) (Or.inr ⟨by rfl, rfl⟩) ?_ ?_
      rotate_left
      ·simp only [Act.put, List.setIfInBounds_toArray, List.set_cons_zero, List.set_cons_succ, i64_w, i32_w]
       rfl
      refine pure_ (i := 9) (N := some 75) (v := undef) (a' := ?_) #[true, true, true, true, true, true, true, true, true, true, false, false, false, false, false, false, false, false, false, false, false] rfl rfl (any_of HT_.out (by kernel_rfl)) (fun _ _ _ h => h) (Or.inr ⟨by rfl, rfl⟩) ?_ ?_
      rotate_left
      ·simp only [Act.put, List.setIfInBounds_toArray, List.set_cons_zero, List.set_cons_succ, i64_w, i32_w]
       rfl
      refine pure_ (i := 10) (N := some 76) (v := ?_) (a' := ?_) #[true, true, true, true, true, true, true, true, true, true, true, false, false, false, false, false, false, false, false, false, false] rfl rfl (any_of HT_.out (by kernel_rfl)) (fun _ _ _ h => h) (Or.inl ⟨by rfl, ?_⟩) ?_ ?_
      rotate_left; (intro w'; go_simp; with_reducible rfl); rotate_left; (simp only [Act.put, List.setIfInBounds_toArray, List.set_cons_zero, List.set_cons_succ, i64_w, i32_w]; rfl)
      refine pure_ (i := 11) (N := some 77) (v := ?_) (a' := ?_) #[true, true, true, true, true, true, true, true, true, true, true, true, false, false, false, false, false, false, false, false, false] rfl rfl (any_of HT_.out (by kernel_rfl)) (fun _ _ _ h => h) (Or.inl ⟨by rfl, ?_⟩) ?_ ?_
      rotate_left; (intro w'; go_simp; with_reducible rfl); rotate_left; (simp only [Act.put, List.setIfInBounds_toArray, List.set_cons_zero, List.set_cons_succ, i64_w, i32_w]; rfl)
      refine pure_ (i := 12) (N := some 78) (v := undef) (a' := ?_) #[true, true, true, true, true, true, true, true, true, true, true, true, true, false, false, false, false, false, false, false, false] rfl rfl (any_of HT_.out (by kernel_rfl)) (fun _ _ _ h => h) (Or.inr ⟨by rfl, rfl⟩) ?_ ?_
      rotate_left
      ·simp only [Act.put, List.setIfInBounds_toArray, List.set_cons_zero, List.set_cons_succ, i64_w, i32_w]
       rfl
      refine pure_ (i := 13) (N := some 79) (v := undef) (a' := ?_) #[true, true, true, true, true, true, true, true, true, true, true, true, true, true, false, false, false, false, false, false, false] rfl rfl (any_of HT_.out (by kernel_rfl)) (fun _ _ _ h => h) (Or.inr ⟨by rfl, rfl⟩) ?_ ?_
      rotate_left
      ·simp only [Act.put, List.setIfInBounds_toArray, List.set_cons_zero, List.set_cons_succ, i64_w, i32_w]
       rfl
      refine pure_ (i := 14) (N := some 80) (v := undef) (a' := ?_) #[true, true, true, true, true, true, true, true, true, true, true, true, true, true, true, false, false, false, false, false, false] rfl rfl (any_of HT_.out (by kernel_rfl)) (fun _ _ _ h => h) (Or.inr ⟨by rfl, rfl⟩) ?_ ?_
      rotate_left
      ·simp only [Act.put, List.setIfInBounds_toArray, List.set_cons_zero, List.set_cons_succ, i64_w, i32_w]
       rfl
      refine pure_ (i := 15) (N := some 81) (v := undef) (a' := ?_) #[true, true, true, true, true, true, true, true, true, true, true, true, true, true, true, true, false, false, false, false, false] rfl rfl (any_of HT_.out (by kernel_rfl)) (fun _ _ _ h => h) (Or.inr ⟨by rfl, rfl⟩) ?_ ?_
      rotate_left
      ·simp only [Act.put, List.setIfInBounds_toArray, List.set_cons_zero, List.set_cons_succ, i64_w, i32_w]
       rfl
      refine pure_ (i := 16) (N := some 82) (v := undef) (a' := ?_) #[true, true, true, true, true, true, true, true, true, true, true, true, true, true, true, true, true, false, false, false, false] rfl rfl (any_of HT_.out (by kernel_rfl)) (fun _ _ _ h => h) (Or.inr ⟨by rfl, rfl⟩) ?_ ?_
      rotate_left
      ·simp only [Act.put, List.setIfInBounds_toArray, List.set_cons_zero, List.set_cons_succ, i64_w, i32_w]
       rfl
      refine pure_ (i := 17) (N := some 83) (v := undef) (a' := ?_) #[true, true, true, true, true, true, true, true, true, true, true, true, true, true, true, true, true, true, false, false, false] rfl rfl (any_of HT_.out (by kernel_rfl)) (fun _ _ _ h => h) (Or.inr ⟨by rfl, rfl⟩) ?_ ?_
      rotate_left
      ·simp only [Act.put, List.setIfInBounds_toArray, List.set_cons_zero, List.set_cons_succ, i64_w, i32_w]
       rfl
      refine pure_ (i := 18) (N := some 84) (v := undef) (a' := ?_) #[true, true, true, true, true, true, true, true, true, true, true, true, true, true, true, true, true, true, true, false, false] rfl rfl (any_of HT_.out (by kernel_rfl)) (fun _ _ _ h => h) (Or.inr ⟨by rfl, rfl⟩) ?_ ?_
      rotate_left
      ·simp only [Act.put, List.setIfInBounds_toArray, List.set_cons_zero, List.set_cons_succ, i64_w, i32_w]
       rfl
      refine pure_ (i := 19) (N := some 85) (v := ?_) (a' := ?_) #[true, true, true, true, true, true, true, true, true, true, true, true, true, true, true, true, true, true, true, true, false] rfl rfl (any_of HT_.out (by kernel_rfl)) (fun _ _ _ h => h) (Or.inl ⟨by rfl, ?_⟩) ?_ ?_
      rotate_left; (intro w'; go_simp; with_reducible rfl); rotate_left; (simp only [Act.put, List.setIfInBounds_toArray, List.set_cons_zero, List.set_cons_succ, i64_w, i32_w]; rfl)
      refine pure_ (i := 20) (N := some 6) (v := ?_) (a' := ?_) #[true, true, true, true, true, true, true, true, true, true, true, true, true, true, true, true, true, true, true, true, true] rfl rfl (any_of HT_.out (by kernel_rfl)) (fun _ _ _ h => h) (Or.inl ⟨by rfl, ?_⟩) ?_ ?_
      rotate_left; (intro w'; go_simp; with_reducible rfl); rotate_left; (simp only [Act.put, List.setIfInBounds_toArray, List.set_cons_zero, List.set_cons_succ, i64_w, i32_w]; rfl)
      refine done_ (done_of HT_.out (by kernel_rfl)) ?_
      (try clear hHeld)
      try go_wp2
      go_meet
      case rel => exact ⟨_, (false), (by first | rfl | (simp; done) | (simp [*]; done)), (by first | exact H' | (subst_vars; exact H')), ⟨by have := HK1.out; first | omega | exact Nat.le_refl _⟩, ⟨by (with_reducible repeat (first | apply Kd.R_alloc | apply Kd.R_drewN | apply Kd.R_drew)); exact HO_293000.out⟩, ⟨by (with_reducible repeat (first | apply Kd.R_alloc | apply Kd.R_drewN | apply Kd.R_drew)); exact HO_308002.out⟩, ⟨by (with_reducible repeat (first | apply Kd.R_alloc | apply Kd.R_drewN | apply Kd.R_drew)); exact HO_308003.out⟩, ⟨by (with_reducible repeat (first | refine blk_drewN ?_ _ | refine blk_drew ?_ | refine blk_alloc ?_ _)); exact BK283.out⟩, ⟨by (with_reducible repeat (first | refine blk_drewN ?_ _ | refine blk_drew ?_ | refine blk_alloc ?_ _)); exact BK284.out⟩, ⟨by (with_reducible repeat (first | refine blk_drewN ?_ _ | refine blk_drew ?_ | refine blk_alloc ?_ _)); exact BK292.out⟩, ⟨by (with_reducible repeat (first | refine blk_drewN ?_ _ | refine blk_drew ?_ | refine blk_alloc ?_ _)); exact BK307.out⟩, ⟨by repeat (first | (with_reducible first | exact HB.out | apply below_alloc | apply pw_below_drewN | apply below_drew1 | refine below_set ?_ GE283.out | refine below_set ?_ GE284.out | refine below_set ?_ GE292.out | refine below_set ?_ GE307.out) | exact HB.out)⟩⟩
    case rest =>
     clear HC51
     try clear c1
     try clear c2
     try clear p2
     try clear c6
     try clear c18
     try clear c67
     try clear c68
     try clear c68b0
     try clear c68b1
     try clear c69
     try clear c69b0
     try clear c69b1
     obtain ⟨kq, x6_50, rfl, HA, HJ50, HO_293000, HO_308002, HO_308003, BK283, BK284, BK292, BK307, HB⟩ := hcut
     cases kq with
     | zero => exact absurd HA.out (by simp [thresherlaw12_IndexAll.j1])
     | succ kj50 =>
      have H := HA.out
      clear HA
      simp only [thresherlaw12_IndexAll.j1] at H
      obtain rfl := Option.some.inj H
      go_wp2
      go_ret
      exact ⟨by first | rfl | (simp [errW_none, errW_some] <;> rfl) | (simp [*, errW_none, errW_some] <;> rfl), by repeat (first | (with_reducible first | exact HB.out | apply below_alloc | apply pw_below_drewN | apply below_drew1 | refine below_set ?_ GE283.out | refine below_set ?_ GE284.out | refine below_set ?_ GE292.out | refine below_set ?_ GE307.out) | exact HB.out)⟩

end Go.Proofs.Ytfccebnoflhkcaa.P

