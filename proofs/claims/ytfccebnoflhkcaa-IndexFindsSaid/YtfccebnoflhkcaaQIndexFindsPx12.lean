/- Texts of IndexFinds. Merged: Px12. -/
import Derived.Test.YtfccebnoflhkcaaQIndexFindsPx0
import Derived.Test.YtfccebnoflhkcaaQIndexFindsPx2
import Derived.Test.YtfccebnoflhkcaaQIndexFindsPx3
import Derived.Test.YtfccebnoflhkcaaQIndexFindsPx6
import Derived.Test.YtfccebnoflhkcaaQIndexFindsPx7
import Derived.Test.YtfccebnoflhkcaaQIndexFindsPx8
import Derived.Test.YtfccebnoflhkcaaQIndexFindsHFit12
import Derived.Test.YtfccebnoflhkcaaQIndexFindsHMeets
-- Written by wip/tools/myprint.py over the kit's print (a program's print; Lean checks it).
namespace Go.Proofs.Ytfccebnoflhkcaa.P
open Go.RowKit Go.Proofs.YtfccebnoflhkcaaW.PrintWords Go.Proofs.YtfccebnoflhkcaaW.PrintLast Go.Proofs.YtfccebnoflhkcaaW.PrintMore
attribute [local go_sem] max2_int min2_int max_two min_two max_three min_three max_four min_four   -- for this text's walks alone
set_option linter.unusedVariables false
set_option linter.unusedSimpArgs false

/-! ### thresherlaw12_IndexFinds: function 4 -/
mutual
def thresherlaw12_IndexFinds.j0 : Nat → Bool → List (List (S44)) → List (List (S44)) → Int → Int → Bool → List Int → Int → Int → Int → Bool → Bool → List (S44) → List (S44) → Option (Bool)
 | 0, _, _, _, _, _, _, _, _, _, _, _, _, _, _ => none
 | k + 1, x7, x9, x11, x12, x13, x51, x331000, x331001, x331002, x331003, x346000, x346001, x346002, x346003 => if x51 = true then (some false) else (thresherlaw12_IndexFinds.l0 k x7 x9 x11 x12 x13 0 x331000 x331001 x331002 x331003 x346000 x346001 x346002 x346003)
def thresherlaw12_IndexFinds.l0 : Nat → Bool → List (List (S44)) → List (List (S44)) → Int → Int → Int → List Int → Int → Int → Int → Bool → Bool → List (S44) → List (S44) → Option (Bool)
 | 0, _, _, _, _, _, _, _, _, _, _, _, _, _, _ => none
 | k + 1, x7, x9, x11, x12, x13, x14, x331000, x331001, x331002, x331003, x346000, x346001, x346002, x346003 => if x14 < (x9.length : Int) then (if x331003 = 0 then (none) else (if 0 ≤ x14 then ((index_In.f k x331000 x331001 x331002 x331003 x346000 x346001 x346002 x346003 (rd_L5 x9 x14)).bind fun t352 => (if t352 = true then (if (wrap64 (Int.tdiv x14 x331003)) < x12 then (thresherlaw12_IndexFinds.j2 k x7 x9 x11 x12 x13 x14 true x331000 x331001 x331002 x331003 x346000 x346001 x346002 x346003) else (thresherlaw12_IndexFinds.j2 k x7 x9 x11 x12 x13 x14 (decide ((wrap64 (Int.tdiv x14 x331003)) ≥ x13)) x331000 x331001 x331002 x331003 x346000 x346001 x346002 x346003)) else (thresherlaw12_IndexFinds.j2 k x7 x9 x11 x12 x13 x14 false x331000 x331001 x331002 x331003 x346000 x346001 x346002 x346003))) else (none))) else (thresherlaw12_IndexFinds.l1 k x7 x11 x13 (wrap64 (x12 + 1)) x331000 x331001 x331002 x331003 x346000 x346001 x346002 x346003)
def thresherlaw12_IndexFinds.j2 : Nat → Bool → List (List (S44)) → List (List (S44)) → Int → Int → Int → Bool → List Int → Int → Int → Int → Bool → Bool → List (S44) → List (S44) → Option (Bool)
 | 0, _, _, _, _, _, _, _, _, _, _, _, _, _, _, _ => none
 | k + 1, x7, x9, x11, x12, x13, x14, x79, x331000, x331001, x331002, x331003, x346000, x346001, x346002, x346003 => if x79 = true then (some false) else (thresherlaw12_IndexFinds.l0 k x7 x9 x11 x12 x13 (wrap64 (x14 + 1)) x331000 x331001 x331002 x331003 x346000 x346001 x346002 x346003)
def thresherlaw12_IndexFinds.l1 : Nat → Bool → List (List (S44)) → Int → Int → List Int → Int → Int → Int → Bool → Bool → List (S44) → List (S44) → Option (Bool)
 | 0, _, _, _, _, _, _, _, _, _, _, _, _ => none
 | k + 1, x7, x11, x13, x17, x331000, x331001, x331002, x331003, x346000, x346001, x346002, x346003 => if x17 < x13 then (if 0 ≤ x17 then (if x17 < (x11.length : Int) then ((index_In.f k x331000 x331001 x331002 x331003 x346000 x346001 x346002 x346003 (rd_L5 x11 x17)).bind fun t355 => (if t355 = true then (thresherlaw12_IndexFinds.l1 k x7 x11 x13 (wrap64 (x17 + 1)) x331000 x331001 x331002 x331003 x346000 x346001 x346002 x346003) else (some false))) else (none)) else (none)) else (if x7 = true then ((index_Empty.f k x331000 x331001 x331002 x331003 x346000 x346001 x346002 x346003).bind fun t353 => (if t353 = true then (some (x13 == 0)) else (some true))) else (some false))
end
def thresherlaw12_IndexFinds.f (k : Nat) (a0_0 : Int) (a0_1 : Int) (a0_2 : Int) (a0_3 : Int) (a0_4 : Int) (a0_5 : Int) (a0_6 : Int) (a0_7 : Int) (a0_8 : Int) (a0_9 : Int) (a0_10 : Int) (a0_11 : Int) (l1 : List (List (S44))) (a2_0 : Bool) (a2_1 : Bool) (l2_2 : List (S44)) (l2_3 : List (S44)) : Option (Bool) := (thresherlaw12_shown.f k).bind fun t323 => ((thresherlaw12_made.f k a0_0 a0_1 a0_2 a0_3 a0_4 a0_5 a0_6 a0_7 a0_8 a0_9 a0_10 a0_11).bind fun bt324 => ((thresherref04_Fits.f k bt324.1 bt324.2.1 bt324.2.2.1 bt324.2.2.2 l1 60).bind fun t331 => ((thresherref09_Sort.f k bt324.1 bt324.2.1 bt324.2.2.1 bt324.2.2.2 t331).bind fun t334 => ((thresherref12_Fit.f k bt324.1 bt324.2.1 bt324.2.2.1 bt324.2.2.2 a2_0 a2_1 l2_2 l2_3).bind fun bt337 => ((thresherref10_Marks.f k bt324.1 bt324.2.1 bt324.2.2.1 bt324.2.2.2 t334).bind fun t346 => ((index_Meets.f k bt324.1 bt324.2.1 bt324.2.2.1 bt324.2.2.2 t346 bt337.1 bt337.2.1 bt337.2.2.1 bt337.2.2.2).bind fun bt349 => (if bt349.1 < 0 then (thresherlaw12_IndexFinds.j0 k t323 t334 t346 bt349.1 bt349.2 true bt324.1 bt324.2.1 bt324.2.2.1 bt324.2.2.2 bt337.1 bt337.2.1 bt337.2.2.1 bt337.2.2.2) else (if bt349.1 > bt349.2 then (thresherlaw12_IndexFinds.j0 k t323 t334 t346 bt349.1 bt349.2 true bt324.1 bt324.2.1 bt324.2.2.1 bt324.2.2.2 bt337.1 bt337.2.1 bt337.2.2.1 bt337.2.2.2) else (thresherlaw12_IndexFinds.j0 k t323 t334 t346 bt349.1 bt349.2 (decide (bt349.2 > (t346.length : Int))) bt324.1 bt324.2.1 bt324.2.2.1 bt324.2.2.2 bt337.1 bt337.2.1 bt337.2.2.1 bt337.2.2.2)))))))))
theorem thresherlaw12_IndexFinds.mono_l : ∀ k, (∀ y0 y1 y2 y3 y4 y5 y6 y7 y8 y9 y10 y11 y12 y13, LeO (thresherlaw12_IndexFinds.j0 k y0 y1 y2 y3 y4 y5 y6 y7 y8 y9 y10 y11 y12 y13) (thresherlaw12_IndexFinds.j0 (k + 1) y0 y1 y2 y3 y4 y5 y6 y7 y8 y9 y10 y11 y12 y13)) ∧ (∀ y0 y1 y2 y3 y4 y5 y6 y7 y8 y9 y10 y11 y12 y13, LeO (thresherlaw12_IndexFinds.l0 k y0 y1 y2 y3 y4 y5 y6 y7 y8 y9 y10 y11 y12 y13) (thresherlaw12_IndexFinds.l0 (k + 1) y0 y1 y2 y3 y4 y5 y6 y7 y8 y9 y10 y11 y12 y13)) ∧ (∀ y0 y1 y2 y3 y4 y5 y6 y7 y8 y9 y10 y11 y12 y13 y14, LeO (thresherlaw12_IndexFinds.j2 k y0 y1 y2 y3 y4 y5 y6 y7 y8 y9 y10 y11 y12 y13 y14) (thresherlaw12_IndexFinds.j2 (k + 1) y0 y1 y2 y3 y4 y5 y6 y7 y8 y9 y10 y11 y12 y13 y14)) ∧ (∀ y0 y1 y2 y3 y4 y5 y6 y7 y8 y9 y10 y11, LeO (thresherlaw12_IndexFinds.l1 k y0 y1 y2 y3 y4 y5 y6 y7 y8 y9 y10 y11) (thresherlaw12_IndexFinds.l1 (k + 1) y0 y1 y2 y3 y4 y5 y6 y7 y8 y9 y10 y11))
 | 0 => ⟨fun _ _ _ _ _ _ _ _ _ _ _ _ _ _ r h => by simp [thresherlaw12_IndexFinds.j0] at h, fun _ _ _ _ _ _ _ _ _ _ _ _ _ _ r h => by simp [thresherlaw12_IndexFinds.l0] at h, fun _ _ _ _ _ _ _ _ _ _ _ _ _ _ _ r h => by simp [thresherlaw12_IndexFinds.j2] at h, fun _ _ _ _ _ _ _ _ _ _ _ _ r h => by simp [thresherlaw12_IndexFinds.l1] at h⟩
 | k + 1 => by
  obtain ⟨ih0, ih1, ih2, ih3⟩ := thresherlaw12_IndexFinds.mono_l k
  refine ⟨?_, ?_, ?_, ?_⟩
  ·intro y0 y1 y2 y3 y4 y5 y6 y7 y8 y9 y10 y11 y12 y13
   unfold thresherlaw12_IndexFinds.j0
   repeat' first
   | (with_reducible exact ih0 _ _ _ _ _ _ _ _ _ _ _ _ _ _)
   | (with_reducible exact ih1 _ _ _ _ _ _ _ _ _ _ _ _ _ _)
   | (with_reducible exact ih2 _ _ _ _ _ _ _ _ _ _ _ _ _ _ _)
   | (with_reducible exact ih3 _ _ _ _ _ _ _ _ _ _ _ _)
   | (with_reducible exact index_Empty.mono _ _ _ _ _ _ _ _ _)
   | (with_reducible exact index_In.mono _ _ _ _ _ _ _ _ _ _)
   | (with_reducible exact index_Meets.mono _ _ _ _ _ _ _ _ _ _)
   | (with_reducible exact thresherlaw12_made.mono _ _ _ _ _ _ _ _ _ _ _ _ _)
   | (with_reducible exact thresherlaw12_shown.mono _)
   | (with_reducible exact thresherref04_Fits.mono _ _ _ _ _ _ _)
   | (with_reducible exact thresherref09_Sort.mono _ _ _ _ _ _)
   | (with_reducible exact thresherref10_Marks.mono _ _ _ _ _ _)
   | (with_reducible exact thresherref12_Fit.mono _ _ _ _ _ _ _ _ _)
   | (with_reducible exact LeO.refl _)
   | (with_reducible exact LeO.none _)
   | (with_reducible refine LeO.ite ?_ ?_)
   | (with_reducible refine LeO.bind ?_ (fun _ => ?_))
   | exact ih0 _ _ _ _ _ _ _ _ _ _ _ _ _ _
   | exact ih1 _ _ _ _ _ _ _ _ _ _ _ _ _ _
   | exact ih2 _ _ _ _ _ _ _ _ _ _ _ _ _ _ _
   | exact ih3 _ _ _ _ _ _ _ _ _ _ _ _
   | exact index_Empty.mono _ _ _ _ _ _ _ _ _
   | exact index_In.mono _ _ _ _ _ _ _ _ _ _
   | exact index_Meets.mono _ _ _ _ _ _ _ _ _ _
   | exact thresherlaw12_made.mono _ _ _ _ _ _ _ _ _ _ _ _ _
   | exact thresherlaw12_shown.mono _
   | exact thresherref04_Fits.mono _ _ _ _ _ _ _
   | exact thresherref09_Sort.mono _ _ _ _ _ _
   | exact thresherref10_Marks.mono _ _ _ _ _ _
   | exact thresherref12_Fit.mono _ _ _ _ _ _ _ _ _
   | exact LeO.none _
   | refine LeO.ite ?_ ?_
   | refine LeO.bind ?_ (fun _ => ?_)
  ·intro y0 y1 y2 y3 y4 y5 y6 y7 y8 y9 y10 y11 y12 y13
   unfold thresherlaw12_IndexFinds.l0
   repeat' first
   | (with_reducible exact ih0 _ _ _ _ _ _ _ _ _ _ _ _ _ _)
   | (with_reducible exact ih1 _ _ _ _ _ _ _ _ _ _ _ _ _ _)
   | (with_reducible exact ih2 _ _ _ _ _ _ _ _ _ _ _ _ _ _ _)
   | (with_reducible exact ih3 _ _ _ _ _ _ _ _ _ _ _ _)
   | (with_reducible exact index_Empty.mono _ _ _ _ _ _ _ _ _)
   | (with_reducible exact index_In.mono _ _ _ _ _ _ _ _ _ _)
   | (with_reducible exact index_Meets.mono _ _ _ _ _ _ _ _ _ _)
   | (with_reducible exact thresherlaw12_made.mono _ _ _ _ _ _ _ _ _ _ _ _ _)
   | (with_reducible exact thresherlaw12_shown.mono _)
   | (with_reducible exact thresherref04_Fits.mono _ _ _ _ _ _ _)
   | (with_reducible exact thresherref09_Sort.mono _ _ _ _ _ _)
   | (with_reducible exact thresherref10_Marks.mono _ _ _ _ _ _)
   | (with_reducible exact thresherref12_Fit.mono _ _ _ _ _ _ _ _ _)
   | (with_reducible exact LeO.refl _)
   | (with_reducible exact LeO.none _)
   | (with_reducible refine LeO.ite ?_ ?_)
   | (with_reducible refine LeO.bind ?_ (fun _ => ?_))
   | exact ih0 _ _ _ _ _ _ _ _ _ _ _ _ _ _
   | exact ih1 _ _ _ _ _ _ _ _ _ _ _ _ _ _
   | exact ih2 _ _ _ _ _ _ _ _ _ _ _ _ _ _ _
   | exact ih3 _ _ _ _ _ _ _ _ _ _ _ _
   | exact index_Empty.mono _ _ _ _ _ _ _ _ _
   | exact index_In.mono _ _ _ _ _ _ _ _ _ _
   | exact index_Meets.mono _ _ _ _ _ _ _ _ _ _
   | exact thresherlaw12_made.mono _ _ _ _ _ _ _ _ _ _ _ _ _
   | exact thresherlaw12_shown.mono _
   | exact thresherref04_Fits.mono _ _ _ _ _ _ _
   | exact thresherref09_Sort.mono _ _ _ _ _ _
   | exact thresherref10_Marks.mono _ _ _ _ _ _
   | exact thresherref12_Fit.mono _ _ _ _ _ _ _ _ _
   | exact LeO.none _
   | refine LeO.ite ?_ ?_
   | refine LeO.bind ?_ (fun _ => ?_)
  ·intro y0 y1 y2 y3 y4 y5 y6 y7 y8 y9 y10 y11 y12 y13 y14
   unfold thresherlaw12_IndexFinds.j2
   repeat' first
   | (with_reducible exact ih0 _ _ _ _ _ _ _ _ _ _ _ _ _ _)
   | (with_reducible exact ih1 _ _ _ _ _ _ _ _ _ _ _ _ _ _)
   | (with_reducible exact ih2 _ _ _ _ _ _ _ _ _ _ _ _ _ _ _)
   | (with_reducible exact ih3 _ _ _ _ _ _ _ _ _ _ _ _)
   | (with_reducible exact index_Empty.mono _ _ _ _ _ _ _ _ _)
   | (with_reducible exact index_In.mono _ _ _ _ _ _ _ _ _ _)
   | (with_reducible exact index_Meets.mono _ _ _ _ _ _ _ _ _ _)
   | (with_reducible exact thresherlaw12_made.mono _ _ _ _ _ _ _ _ _ _ _ _ _)
   | (with_reducible exact thresherlaw12_shown.mono _)
   | (with_reducible exact thresherref04_Fits.mono _ _ _ _ _ _ _)
   | (with_reducible exact thresherref09_Sort.mono _ _ _ _ _ _)
   | (with_reducible exact thresherref10_Marks.mono _ _ _ _ _ _)
   | (with_reducible exact thresherref12_Fit.mono _ _ _ _ _ _ _ _ _)
   | (with_reducible exact LeO.refl _)
   | (with_reducible exact LeO.none _)
   | (with_reducible refine LeO.ite ?_ ?_)
   | (with_reducible refine LeO.bind ?_ (fun _ => ?_))
   | exact ih0 _ _ _ _ _ _ _ _ _ _ _ _ _ _
   | exact ih1 _ _ _ _ _ _ _ _ _ _ _ _ _ _
   | exact ih2 _ _ _ _ _ _ _ _ _ _ _ _ _ _ _
   | exact ih3 _ _ _ _ _ _ _ _ _ _ _ _
   | exact index_Empty.mono _ _ _ _ _ _ _ _ _
   | exact index_In.mono _ _ _ _ _ _ _ _ _ _
   | exact index_Meets.mono _ _ _ _ _ _ _ _ _ _
   | exact thresherlaw12_made.mono _ _ _ _ _ _ _ _ _ _ _ _ _
   | exact thresherlaw12_shown.mono _
   | exact thresherref04_Fits.mono _ _ _ _ _ _ _
   | exact thresherref09_Sort.mono _ _ _ _ _ _
   | exact thresherref10_Marks.mono _ _ _ _ _ _
   | exact thresherref12_Fit.mono _ _ _ _ _ _ _ _ _
   | exact LeO.none _
   | refine LeO.ite ?_ ?_
   | refine LeO.bind ?_ (fun _ => ?_)
  ·intro y0 y1 y2 y3 y4 y5 y6 y7 y8 y9 y10 y11
   unfold thresherlaw12_IndexFinds.l1
   repeat' first
   | (with_reducible exact ih0 _ _ _ _ _ _ _ _ _ _ _ _ _ _)
   | (with_reducible exact ih1 _ _ _ _ _ _ _ _ _ _ _ _ _ _)
   | (with_reducible exact ih2 _ _ _ _ _ _ _ _ _ _ _ _ _ _ _)
   | (with_reducible exact ih3 _ _ _ _ _ _ _ _ _ _ _ _)
   | (with_reducible exact index_Empty.mono _ _ _ _ _ _ _ _ _)
   | (with_reducible exact index_In.mono _ _ _ _ _ _ _ _ _ _)
   | (with_reducible exact index_Meets.mono _ _ _ _ _ _ _ _ _ _)
   | (with_reducible exact thresherlaw12_made.mono _ _ _ _ _ _ _ _ _ _ _ _ _)
   | (with_reducible exact thresherlaw12_shown.mono _)
   | (with_reducible exact thresherref04_Fits.mono _ _ _ _ _ _ _)
   | (with_reducible exact thresherref09_Sort.mono _ _ _ _ _ _)
   | (with_reducible exact thresherref10_Marks.mono _ _ _ _ _ _)
   | (with_reducible exact thresherref12_Fit.mono _ _ _ _ _ _ _ _ _)
   | (with_reducible exact LeO.refl _)
   | (with_reducible exact LeO.none _)
   | (with_reducible refine LeO.ite ?_ ?_)
   | (with_reducible refine LeO.bind ?_ (fun _ => ?_))
   | exact ih0 _ _ _ _ _ _ _ _ _ _ _ _ _ _
   | exact ih1 _ _ _ _ _ _ _ _ _ _ _ _ _ _
   | exact ih2 _ _ _ _ _ _ _ _ _ _ _ _ _ _ _
   | exact ih3 _ _ _ _ _ _ _ _ _ _ _ _
   | exact index_Empty.mono _ _ _ _ _ _ _ _ _
   | exact index_In.mono _ _ _ _ _ _ _ _ _ _
   | exact index_Meets.mono _ _ _ _ _ _ _ _ _ _
   | exact thresherlaw12_made.mono _ _ _ _ _ _ _ _ _ _ _ _ _
   | exact thresherlaw12_shown.mono _
   | exact thresherref04_Fits.mono _ _ _ _ _ _ _
   | exact thresherref09_Sort.mono _ _ _ _ _ _
   | exact thresherref10_Marks.mono _ _ _ _ _ _
   | exact thresherref12_Fit.mono _ _ _ _ _ _ _ _ _
   | exact LeO.none _
   | refine LeO.ite ?_ ?_
   | refine LeO.bind ?_ (fun _ => ?_)
theorem thresherlaw12_IndexFinds.mono : ∀ a0 a1 a2 a3 a4 a5 a6 a7 a8 a9 a10 a11 a12 a13 a14 a15 a16 k, LeO (thresherlaw12_IndexFinds.f k a0 a1 a2 a3 a4 a5 a6 a7 a8 a9 a10 a11 a12 a13 a14 a15 a16) (thresherlaw12_IndexFinds.f (k + 1) a0 a1 a2 a3 a4 a5 a6 a7 a8 a9 a10 a11 a12 a13 a14 a15 a16) := by
 intro a0 a1 a2 a3 a4 a5 a6 a7 a8 a9 a10 a11 a12 a13 a14 a15 a16 k
 obtain ⟨ih0, ih1, ih2, ih3⟩ := thresherlaw12_IndexFinds.mono_l k
 unfold thresherlaw12_IndexFinds.f
 repeat' first
   | (with_reducible exact ih0 _ _ _ _ _ _ _ _ _ _ _ _ _ _)
   | (with_reducible exact ih1 _ _ _ _ _ _ _ _ _ _ _ _ _ _)
   | (with_reducible exact ih2 _ _ _ _ _ _ _ _ _ _ _ _ _ _ _)
   | (with_reducible exact ih3 _ _ _ _ _ _ _ _ _ _ _ _)
   | (with_reducible exact index_Empty.mono _ _ _ _ _ _ _ _ _)
   | (with_reducible exact index_In.mono _ _ _ _ _ _ _ _ _ _)
   | (with_reducible exact index_Meets.mono _ _ _ _ _ _ _ _ _ _)
   | (with_reducible exact thresherlaw12_made.mono _ _ _ _ _ _ _ _ _ _ _ _ _)
   | (with_reducible exact thresherlaw12_shown.mono _)
   | (with_reducible exact thresherref04_Fits.mono _ _ _ _ _ _ _)
   | (with_reducible exact thresherref09_Sort.mono _ _ _ _ _ _)
   | (with_reducible exact thresherref10_Marks.mono _ _ _ _ _ _)
   | (with_reducible exact thresherref12_Fit.mono _ _ _ _ _ _ _ _ _)
   | (with_reducible exact LeO.refl _)
   | (with_reducible exact LeO.none _)
   | (with_reducible refine LeO.ite ?_ ?_)
   | (with_reducible refine LeO.bind ?_ (fun _ => ?_))
   | exact ih0 _ _ _ _ _ _ _ _ _ _ _ _ _ _
   | exact ih1 _ _ _ _ _ _ _ _ _ _ _ _ _ _
   | exact ih2 _ _ _ _ _ _ _ _ _ _ _ _ _ _ _
   | exact ih3 _ _ _ _ _ _ _ _ _ _ _ _
   | exact index_Empty.mono _ _ _ _ _ _ _ _ _
   | exact index_In.mono _ _ _ _ _ _ _ _ _ _
   | exact index_Meets.mono _ _ _ _ _ _ _ _ _ _
   | exact thresherlaw12_made.mono _ _ _ _ _ _ _ _ _ _ _ _ _
   | exact thresherlaw12_shown.mono _
   | exact thresherref04_Fits.mono _ _ _ _ _ _ _
   | exact thresherref09_Sort.mono _ _ _ _ _ _
   | exact thresherref10_Marks.mono _ _ _ _ _ _
   | exact thresherref12_Fit.mono _ _ _ _ _ _ _ _ _
   | exact LeO.none _
   | refine LeO.ite ?_ ?_
   | refine LeO.bind ?_ (fun _ => ?_)
def thresherlaw12_IndexFinds.T13 : Bool × List (List Nat × List Nat) := (true, [([], []), ([], []), ([], []), ([], []), ([2, 3], [2, 3]), ([4], [4]), ([0, 1, 5], [0, 1, 5]), ([6, 6, 0, 1, 2, 3, 4, 5, 6], [6])])
def thresherlaw12_IndexFinds.B13 : List Nat := [0, 0, 0, 0, 12, 28, 63, 127]
theorem thresherlaw12_IndexFinds.tab13 : rtab .any (opsOf Try.f4 13) = thresherlaw12_IndexFinds.T13 := by kernel_rfl
theorem thresherlaw12_IndexFinds.bits13 : waitsOk thresherlaw12_IndexFinds.T13.2 thresherlaw12_IndexFinds.B13 = true := by kernel_rfl
def thresherlaw12_IndexFinds.T19 : Bool × List (List Nat × List Nat) := (true, [([], []), ([], []), ([], []), ([], []), ([2, 3], [2, 3]), ([4], [4]), ([0, 1, 5], [0, 1, 5]), ([6], [6])])
def thresherlaw12_IndexFinds.B19 : List Nat := [0, 0, 0, 0, 12, 28, 63, 127]
theorem thresherlaw12_IndexFinds.tab19 : rtab .any (opsOf Try.f4 19) = thresherlaw12_IndexFinds.T19 := by kernel_rfl
theorem thresherlaw12_IndexFinds.bits19 : waitsOk thresherlaw12_IndexFinds.T19.2 thresherlaw12_IndexFinds.B19 = true := by kernel_rfl
set_option maxHeartbeats 8000000 in
set_option maxRecDepth 100000 in
theorem thresherlaw12_IndexFinds.calls (k : Nat) (a0_0 : Int) (a0_1 : Int) (a0_2 : Int) (a0_3 : Int) (a0_4 : Int) (a0_5 : Int) (a0_6 : Int) (a0_7 : Int) (a0_8 : Int) (a0_9 : Int) (a0_10 : Int) (a0_11 : Int) (A1 : Option Addr) (c1 : Nat) (l1 : List (List (S44))) (a2_0 : Bool) (a2_1 : Bool) (A2_2 : Option Addr) (c2_2 : Nat) (l2_2 : List (S44)) (A2_3 : Option Addr) (c2_3 : Nat) (l2_3 : List (S44)) (r : Bool) (w : World) (hr1 : Kd.C (Kd.slice 44 k44) w A1 l1.length l1) (hc1 : l1.length ≤ c1) (hr2_2 : Kd.C k44 w A2_2 l2_2.length l2_2) (hc2_2 : l2_2.length ≤ c2_2) (hr2_3 : Kd.C k44 w A2_3 l2_3.length l2_3) (hc2_3 : l2_3.length ≤ c2_3) (h : thresherlaw12_IndexFinds.f k a0_0 a0_1 a0_2 a0_3 a0_4 a0_5 a0_6 a0_7 a0_8 a0_9 a0_10 a0_11 l1 a2_0 a2_1 l2_2 l2_3 = some r) :
  Calls Try.prog 4 #[.agg #[.int .u8 a0_0, .int .u8 a0_1, .int .u8 a0_2, .int .u8 a0_3, .int .u8 a0_4, .int .u8 a0_5, .int .u8 a0_6, .int .u8 a0_7, .int .u8 a0_8, .int .u8 a0_9, .int .u8 a0_10, .int .u8 a0_11], .slice A1 l1.length c1, .agg #[.bool a2_0, .bool a2_1, .slice A2_2 l2_2.length c2_2, .slice A2_3 l2_3.length c2_3]] w fun e w' => e = .returned (.bool r) ∧ Below w.heap.size w w' := by
 have hu24 := Try.underlying24
 have hu29 := Try.underlying29
 have hu33 := Try.underlying33
 have HR1 := Aside0.mk hr1
 have HC1 := Aside0.mk hc1
 clear hr1 hc1
 have HR2_2 := Aside0.mk hr2_2
 have HC2_2 := Aside0.mk hc2_2
 clear hr2_2 hc2_2
 have HR2_3 := Aside0.mk hr2_3
 have HC2_3 := Aside0.mk hc2_3
 clear hr2_3 hc2_3
 have HB := Aside0.mk (Below.refl w.heap.size w)
 have H : ((thresherlaw12_shown.f k).bind fun t323 => ((thresherlaw12_made.f k a0_0 a0_1 a0_2 a0_3 a0_4 a0_5 a0_6 a0_7 a0_8 a0_9 a0_10 a0_11).bind fun bt324 => ((thresherref04_Fits.f k bt324.1 bt324.2.1 bt324.2.2.1 bt324.2.2.2 l1 60).bind fun t331 => ((thresherref09_Sort.f k bt324.1 bt324.2.1 bt324.2.2.1 bt324.2.2.2 t331).bind fun t334 => ((thresherref12_Fit.f k bt324.1 bt324.2.1 bt324.2.2.1 bt324.2.2.2 a2_0 a2_1 l2_2 l2_3).bind fun bt337 => ((thresherref10_Marks.f k bt324.1 bt324.2.1 bt324.2.2.1 bt324.2.2.2 t334).bind fun t346 => ((index_Meets.f k bt324.1 bt324.2.1 bt324.2.2.1 bt324.2.2.2 t346 bt337.1 bt337.2.1 bt337.2.2.1 bt337.2.2.2).bind fun bt349 => (if bt349.1 < 0 then (thresherlaw12_IndexFinds.j0 k t323 t334 t346 bt349.1 bt349.2 true bt324.1 bt324.2.1 bt324.2.2.1 bt324.2.2.2 bt337.1 bt337.2.1 bt337.2.2.1 bt337.2.2.2) else (if bt349.1 > bt349.2 then (thresherlaw12_IndexFinds.j0 k t323 t334 t346 bt349.1 bt349.2 true bt324.1 bt324.2.1 bt324.2.2.1 bt324.2.2.2 bt337.1 bt337.2.1 bt337.2.2.1 bt337.2.2.2) else (thresherlaw12_IndexFinds.j0 k t323 t334 t346 bt349.1 bt349.2 (decide (bt349.2 > (t346.length : Int))) bt324.1 bt324.2.1 bt324.2.2.1 bt324.2.2.2 bt337.1 bt337.2.1 bt337.2.2.1 bt337.2.2.2)))))))))) = some r := h
 clear h
 replace H := Option.bind_eq_some_iff.mp H
 obtain ⟨t323, A40, H⟩ := H
 replace H : ((thresherlaw12_made.f k a0_0 a0_1 a0_2 a0_3 a0_4 a0_5 a0_6 a0_7 a0_8 a0_9 a0_10 a0_11).bind fun bt324 => ((thresherref04_Fits.f k bt324.1 bt324.2.1 bt324.2.2.1 bt324.2.2.2 l1 60).bind fun t331 => ((thresherref09_Sort.f k bt324.1 bt324.2.1 bt324.2.2.1 bt324.2.2.2 t331).bind fun t334 => ((thresherref12_Fit.f k bt324.1 bt324.2.1 bt324.2.2.1 bt324.2.2.2 a2_0 a2_1 l2_2 l2_3).bind fun bt337 => ((thresherref10_Marks.f k bt324.1 bt324.2.1 bt324.2.2.1 bt324.2.2.2 t334).bind fun t346 => ((index_Meets.f k bt324.1 bt324.2.1 bt324.2.2.1 bt324.2.2.2 t346 bt337.1 bt337.2.1 bt337.2.2.1 bt337.2.2.2).bind fun bt349 => (if bt349.1 < 0 then (thresherlaw12_IndexFinds.j0 k t323 t334 t346 bt349.1 bt349.2 true bt324.1 bt324.2.1 bt324.2.2.1 bt324.2.2.2 bt337.1 bt337.2.1 bt337.2.2.1 bt337.2.2.2) else (if bt349.1 > bt349.2 then (thresherlaw12_IndexFinds.j0 k t323 t334 t346 bt349.1 bt349.2 true bt324.1 bt324.2.1 bt324.2.2.1 bt324.2.2.2 bt337.1 bt337.2.1 bt337.2.2.1 bt337.2.2.2) else (thresherlaw12_IndexFinds.j0 k t323 t334 t346 bt349.1 bt349.2 (decide (bt349.2 > (t346.length : Int))) bt324.1 bt324.2.1 bt324.2.2.1 bt324.2.2.2 bt337.1 bt337.2.1 bt337.2.2.1 bt337.2.2.2))))))))) = some r := H
 have A4 := Aside0.mk A40
 clear A40
 replace H := Option.bind_eq_some_iff.mp H
 obtain ⟨⟨t324, t327, t328, t329⟩, A50, H⟩ := H
 replace H : ((thresherref04_Fits.f k t324 t327 t328 t329 l1 60).bind fun t331 => ((thresherref09_Sort.f k t324 t327 t328 t329 t331).bind fun t334 => ((thresherref12_Fit.f k t324 t327 t328 t329 a2_0 a2_1 l2_2 l2_3).bind fun bt337 => ((thresherref10_Marks.f k t324 t327 t328 t329 t334).bind fun t346 => ((index_Meets.f k t324 t327 t328 t329 t346 bt337.1 bt337.2.1 bt337.2.2.1 bt337.2.2.2).bind fun bt349 => (if bt349.1 < 0 then (thresherlaw12_IndexFinds.j0 k t323 t334 t346 bt349.1 bt349.2 true t324 t327 t328 t329 bt337.1 bt337.2.1 bt337.2.2.1 bt337.2.2.2) else (if bt349.1 > bt349.2 then (thresherlaw12_IndexFinds.j0 k t323 t334 t346 bt349.1 bt349.2 true t324 t327 t328 t329 bt337.1 bt337.2.1 bt337.2.2.1 bt337.2.2.2) else (thresherlaw12_IndexFinds.j0 k t323 t334 t346 bt349.1 bt349.2 (decide (bt349.2 > (t346.length : Int))) t324 t327 t328 t329 bt337.1 bt337.2.1 bt337.2.2.1 bt337.2.2.2)))))))) = some r := H
 have A5 := Aside0.mk A50
 clear A50
 replace H := Option.bind_eq_some_iff.mp H
 obtain ⟨t331, A60, H⟩ := H
 replace H : ((thresherref09_Sort.f k t324 t327 t328 t329 t331).bind fun t334 => ((thresherref12_Fit.f k t324 t327 t328 t329 a2_0 a2_1 l2_2 l2_3).bind fun bt337 => ((thresherref10_Marks.f k t324 t327 t328 t329 t334).bind fun t346 => ((index_Meets.f k t324 t327 t328 t329 t346 bt337.1 bt337.2.1 bt337.2.2.1 bt337.2.2.2).bind fun bt349 => (if bt349.1 < 0 then (thresherlaw12_IndexFinds.j0 k t323 t334 t346 bt349.1 bt349.2 true t324 t327 t328 t329 bt337.1 bt337.2.1 bt337.2.2.1 bt337.2.2.2) else (if bt349.1 > bt349.2 then (thresherlaw12_IndexFinds.j0 k t323 t334 t346 bt349.1 bt349.2 true t324 t327 t328 t329 bt337.1 bt337.2.1 bt337.2.2.1 bt337.2.2.2) else (thresherlaw12_IndexFinds.j0 k t323 t334 t346 bt349.1 bt349.2 (decide (bt349.2 > (t346.length : Int))) t324 t327 t328 t329 bt337.1 bt337.2.1 bt337.2.2.1 bt337.2.2.2))))))) = some r := H
 have A6 := Aside0.mk A60
 clear A60
 replace H := Option.bind_eq_some_iff.mp H
 obtain ⟨t334, A70, H⟩ := H
 replace H : ((thresherref12_Fit.f k t324 t327 t328 t329 a2_0 a2_1 l2_2 l2_3).bind fun bt337 => ((thresherref10_Marks.f k t324 t327 t328 t329 t334).bind fun t346 => ((index_Meets.f k t324 t327 t328 t329 t346 bt337.1 bt337.2.1 bt337.2.2.1 bt337.2.2.2).bind fun bt349 => (if bt349.1 < 0 then (thresherlaw12_IndexFinds.j0 k t323 t334 t346 bt349.1 bt349.2 true t324 t327 t328 t329 bt337.1 bt337.2.1 bt337.2.2.1 bt337.2.2.2) else (if bt349.1 > bt349.2 then (thresherlaw12_IndexFinds.j0 k t323 t334 t346 bt349.1 bt349.2 true t324 t327 t328 t329 bt337.1 bt337.2.1 bt337.2.2.1 bt337.2.2.2) else (thresherlaw12_IndexFinds.j0 k t323 t334 t346 bt349.1 bt349.2 (decide (bt349.2 > (t346.length : Int))) t324 t327 t328 t329 bt337.1 bt337.2.1 bt337.2.2.1 bt337.2.2.2)))))) = some r := H
 have A7 := Aside0.mk A70
 clear A70
 replace H := Option.bind_eq_some_iff.mp H
 obtain ⟨⟨t337, t338, t339, t342⟩, A80, H⟩ := H
 replace H : ((thresherref10_Marks.f k t324 t327 t328 t329 t334).bind fun t346 => ((index_Meets.f k t324 t327 t328 t329 t346 t337 t338 t339 t342).bind fun bt349 => (if bt349.1 < 0 then (thresherlaw12_IndexFinds.j0 k t323 t334 t346 bt349.1 bt349.2 true t324 t327 t328 t329 t337 t338 t339 t342) else (if bt349.1 > bt349.2 then (thresherlaw12_IndexFinds.j0 k t323 t334 t346 bt349.1 bt349.2 true t324 t327 t328 t329 t337 t338 t339 t342) else (thresherlaw12_IndexFinds.j0 k t323 t334 t346 bt349.1 bt349.2 (decide (bt349.2 > (t346.length : Int))) t324 t327 t328 t329 t337 t338 t339 t342))))) = some r := H
 have A8 := Aside0.mk A80
 clear A80
 replace H := Option.bind_eq_some_iff.mp H
 obtain ⟨t346, A90, H⟩ := H
 replace H : ((index_Meets.f k t324 t327 t328 t329 t346 t337 t338 t339 t342).bind fun bt349 => (if bt349.1 < 0 then (thresherlaw12_IndexFinds.j0 k t323 t334 t346 bt349.1 bt349.2 true t324 t327 t328 t329 t337 t338 t339 t342) else (if bt349.1 > bt349.2 then (thresherlaw12_IndexFinds.j0 k t323 t334 t346 bt349.1 bt349.2 true t324 t327 t328 t329 t337 t338 t339 t342) else (thresherlaw12_IndexFinds.j0 k t323 t334 t346 bt349.1 bt349.2 (decide (bt349.2 > (t346.length : Int))) t324 t327 t328 t329 t337 t338 t339 t342)))) = some r := H
 have A9 := Aside0.mk A90
 clear A90
 replace H := Option.bind_eq_some_iff.mp H
 obtain ⟨⟨t349, t350⟩, A100, H⟩ := H
 replace H : (if t349 < 0 then (thresherlaw12_IndexFinds.j0 k t323 t334 t346 t349 t350 true t324 t327 t328 t329 t337 t338 t339 t342) else (if t349 > t350 then (thresherlaw12_IndexFinds.j0 k t323 t334 t346 t349 t350 true t324 t327 t328 t329 t337 t338 t339 t342) else (thresherlaw12_IndexFinds.j0 k t323 t334 t346 t349 t350 (decide (t350 > (t346.length : Int))) t324 t327 t328 t329 t337 t338 t339 t342))) = some r := H
 have A10 := Aside0.mk A100
 clear A100
 have HC11 := Aside0.mk H
 clear H
 go_enter Try.func4, Try.ntmps4
 try go_wp2_with (first | ((with_reducible refine gate_dst (N := 3) rfl ?_); (try (refine gate_guard (by rfl) ?_; dsimp only)); refine box_event ?hg (N := 3) ?hd (cs := #[.int .u8 a0_0, .int .u8 a0_1, .int .u8 a0_2, .int .u8 a0_3, .int .u8 a0_4, .int .u8 a0_5, .int .u8 a0_6, .int .u8 a0_7, .int .u8 a0_8, .int .u8 a0_9, .int .u8 a0_10, .int .u8 a0_11]) (t := 24) ?hr ?_; (case hd => rfl); (case hg => rfl); (case hr => first | (go_simp; done) | (go_simp; rfl)); intro gb321 hg w12 hbox hb; have n0_ := Aside0.mk (below_step (by repeat (first | (with_reducible first | exact HB.out | apply below_alloc | apply pw_below_drewN | apply below_drew1) | exact HB.out)) hb); have n1_ := Aside0.mk (hbox); have n2_ := Aside0.mk ((by rw [hg]; exact (below_size (by repeat (first | (with_reducible first | exact HB.out | apply below_alloc | apply pw_below_drewN | apply below_drew1) | exact HB.out))) : w.heap.size ≤ gb321)); have n3_ := Aside0.mk ((by rw [hg]; exact (below_size (by repeat (first | (with_reducible first | exact HB.out | apply below_alloc | apply pw_below_drewN | apply below_drew1) | exact HB.out))) : w.heap.size ≤ gb321)); clear HB; have HB := n0_; have BK321 := n1_; have GW321 := n2_; have GE321 := n3_; clear n0_ n1_ n2_ n3_; clear hb hbox hg) | ((with_reducible refine gate_dst (N := 5) rfl ?_); (try (refine gate_guard (by rfl) ?_; dsimp only)); refine box_event ?hg (N := 5) ?hd (cs := #[.bool a2_0, .bool a2_1, .slice A2_2 l2_2.length c2_2, .slice A2_3 l2_3.length c2_3]) (t := 29) ?hr ?_; (case hd => rfl); (case hg => rfl); (case hr => first | (go_simp; done) | (go_simp; rfl)); intro gb322 hg w13 hbox hb; have n0_ := Aside0.mk (blk_below (g := gb321) (o := .cells #[.int .u8 a0_0, .int .u8 a0_1, .int .u8 a0_2, .int .u8 a0_3, .int .u8 a0_4, .int .u8 a0_5, .int .u8 a0_6, .int .u8 a0_7, .int .u8 a0_8, .int .u8 a0_9, .int .u8 a0_10, .int .u8 a0_11] 24 (0, 0)) (by (with_reducible repeat (first | refine blk_drewN ?_ _ | refine blk_drew ?_ | refine blk_alloc ?_ _)); exact BK321.out) hb); have n1_ := Aside0.mk (below_step (by repeat (first | (with_reducible first | exact HB.out | apply below_alloc | apply pw_below_drewN | apply below_drew1 | refine below_set ?_ GE321.out) | exact HB.out)) hb); have n2_ := Aside0.mk (hbox); have n3_ := Aside0.mk ((by rw [hg]; exact (below_size (by repeat (first | (with_reducible first | exact HB.out | apply below_alloc | apply pw_below_drewN | apply below_drew1 | refine below_set ?_ GE321.out) | exact HB.out))) : w.heap.size ≤ gb322)); have n4_ := Aside0.mk ((by rw [hg]; exact (below_size (by repeat (first | (with_reducible first | exact HB.out | apply below_alloc | apply pw_below_drewN | apply below_drew1 | refine below_set ?_ GE321.out) | exact HB.out))) : w.heap.size ≤ gb322)); have n5_ := Aside0.mk ((by rw [hg]; exact Nat.ne_of_lt (blk_lt (g := gb321) (o := .cells #[.int .u8 a0_0, .int .u8 a0_1, .int .u8 a0_2, .int .u8 a0_3, .int .u8 a0_4, .int .u8 a0_5, .int .u8 a0_6, .int .u8 a0_7, .int .u8 a0_8, .int .u8 a0_9, .int .u8 a0_10, .int .u8 a0_11] 24 (0, 0)) (by (with_reducible repeat (first | refine blk_drewN ?_ _ | refine blk_drew ?_ | refine blk_alloc ?_ _)); exact BK321.out)) : gb321 ≠ gb322)); have n6_ := Aside0.mk ((by rw [hg]; exact Nat.ne_of_gt (blk_lt (g := gb321) (o := .cells #[.int .u8 a0_0, .int .u8 a0_1, .int .u8 a0_2, .int .u8 a0_3, .int .u8 a0_4, .int .u8 a0_5, .int .u8 a0_6, .int .u8 a0_7, .int .u8 a0_8, .int .u8 a0_9, .int .u8 a0_10, .int .u8 a0_11] 24 (0, 0)) (by (with_reducible repeat (first | refine blk_drewN ?_ _ | refine blk_drew ?_ | refine blk_alloc ?_ _)); exact BK321.out)) : gb322 ≠ gb321)); clear BK321; clear HB; have BK321 := n0_; have HB := n1_; have BK322 := n2_; have GW322 := n3_; have GE322 := n4_; have NB321_322 := n5_; have NB322_321 := n6_; clear n0_ n1_ n2_ n3_ n4_ n5_ n6_; clear hb hbox hg) | ((with_reducible refine gate_callee (f := 7) rfl ?_); refine goesL_ (some 18) rfl rfl Try.func7 (by kernel_rfl) rfl #[] rfl (by (try simp only [List.map_toArray, List.map_cons, List.map_nil]); first | done | rfl | (simp only [List.length_drop, List.length_take]; rfl)) ?_; (with_reducible refine (thresherlaw12_shown.calls k  t323 _ A4.out).mono ?_); rintro e w14 ⟨rfl, hb⟩; refine ⟨_, rfl, ?_⟩; have n0_ := Aside0.mk (blk_below (g := gb321) (o := .cells #[.int .u8 a0_0, .int .u8 a0_1, .int .u8 a0_2, .int .u8 a0_3, .int .u8 a0_4, .int .u8 a0_5, .int .u8 a0_6, .int .u8 a0_7, .int .u8 a0_8, .int .u8 a0_9, .int .u8 a0_10, .int .u8 a0_11] 24 (0, 0)) (by (with_reducible repeat (first | refine blk_drewN ?_ _ | refine blk_drew ?_ | refine blk_alloc ?_ _)); exact BK321.out) hb); have n1_ := Aside0.mk (blk_below (g := gb322) (o := .cells #[.bool a2_0, .bool a2_1, .slice A2_2 l2_2.length c2_2, .slice A2_3 l2_3.length c2_3] 29 (0, 0)) (by (with_reducible repeat (first | refine blk_drewN ?_ _ | refine blk_drew ?_ | refine blk_alloc ?_ _)); exact BK322.out) hb); have n2_ := Aside0.mk (below_step (by repeat (first | (with_reducible first | exact HB.out | apply below_alloc | apply pw_below_drewN | apply below_drew1 | refine below_set ?_ GE321.out | refine below_set ?_ GE322.out) | exact HB.out)) hb); clear BK321; clear BK322; clear HB; have BK321 := n0_; have BK322 := n1_; have HB := n2_; clear n0_ n1_ n2_; (try clear hb); (try clear hb2); (try clear hk); (try clear hi); have hnb15 := NB321_322.out; have hnc15 := NB322_321.out; have hcz16_0 : w14.cell? ⟨gb321, 0, none⟩ = some (.int .u8 a0_0) := (blk_cell BK321.out 0).trans rfl; have hcz16_1 : w14.cell? ⟨gb321, 1, none⟩ = some (.int .u8 a0_1) := (blk_cell BK321.out 1).trans rfl; have hcz16_2 : w14.cell? ⟨gb321, 2, none⟩ = some (.int .u8 a0_2) := (blk_cell BK321.out 2).trans rfl; have hcz16_3 : w14.cell? ⟨gb321, 3, none⟩ = some (.int .u8 a0_3) := (blk_cell BK321.out 3).trans rfl; have hcz16_4 : w14.cell? ⟨gb321, 4, none⟩ = some (.int .u8 a0_4) := (blk_cell BK321.out 4).trans rfl; have hcz16_5 : w14.cell? ⟨gb321, 5, none⟩ = some (.int .u8 a0_5) := (blk_cell BK321.out 5).trans rfl; have hcz16_6 : w14.cell? ⟨gb321, 6, none⟩ = some (.int .u8 a0_6) := (blk_cell BK321.out 6).trans rfl; have hcz16_7 : w14.cell? ⟨gb321, 7, none⟩ = some (.int .u8 a0_7) := (blk_cell BK321.out 7).trans rfl; have hcz16_8 : w14.cell? ⟨gb321, 8, none⟩ = some (.int .u8 a0_8) := (blk_cell BK321.out 8).trans rfl; have hcz16_9 : w14.cell? ⟨gb321, 9, none⟩ = some (.int .u8 a0_9) := (blk_cell BK321.out 9).trans rfl; have hcz16_10 : w14.cell? ⟨gb321, 10, none⟩ = some (.int .u8 a0_10) := (blk_cell BK321.out 10).trans rfl; have hcz16_11 : w14.cell? ⟨gb321, 11, none⟩ = some (.int .u8 a0_11) := (blk_cell BK321.out 11).trans rfl; have hfz16_0 := blk_frozen BK321.out 0; have hfz16_1 := blk_frozen BK321.out 1; have hfz16_2 := blk_frozen BK321.out 2; have hfz16_3 := blk_frozen BK321.out 3; have hfz16_4 := blk_frozen BK321.out 4; have hfz16_5 := blk_frozen BK321.out 5; have hfz16_6 := blk_frozen BK321.out 6; have hfz16_7 := blk_frozen BK321.out 7; have hfz16_8 := blk_frozen BK321.out 8; have hfz16_9 := blk_frozen BK321.out 9; have hfz16_10 := blk_frozen BK321.out 10; have hfz16_11 := blk_frozen BK321.out 11) | ((with_reducible refine gate_callee (f := 8) rfl ?_); refine goesL_ (some 20) rfl rfl Try.func8 (by kernel_rfl) rfl #[.agg #[.int .u8 a0_0, .int .u8 a0_1, .int .u8 a0_2, .int .u8 a0_3, .int .u8 a0_4, .int .u8 a0_5, .int .u8 a0_6, .int .u8 a0_7, .int .u8 a0_8, .int .u8 a0_9, .int .u8 a0_10, .int .u8 a0_11]] rfl (by (try simp only [List.map_toArray, List.map_cons, List.map_nil]); first | done | rfl | (simp only [List.length_drop, List.length_take]; rfl)) ?_; (with_reducible refine (thresherlaw12_made.calls k a0_0 a0_1 a0_2 a0_3 a0_4 a0_5 a0_6 a0_7 a0_8 a0_9 a0_10 a0_11 t324 t327 t328 t329 _ A5.out).mono ?_); rintro e w17 ⟨v325, rfl, ho0, hb⟩; refine ⟨_, rfl, ?_⟩; have n0_ := Aside0.mk (Kd.R_lower ho0 (below_size (by repeat (first | (with_reducible first | exact HB.out | apply below_alloc | apply pw_below_drewN | apply below_drew1 | refine below_set ?_ GE321.out | refine below_set ?_ GE322.out) | exact HB.out)))); have n1_ := Aside0.mk (blk_below (g := gb321) (o := .cells #[.int .u8 a0_0, .int .u8 a0_1, .int .u8 a0_2, .int .u8 a0_3, .int .u8 a0_4, .int .u8 a0_5, .int .u8 a0_6, .int .u8 a0_7, .int .u8 a0_8, .int .u8 a0_9, .int .u8 a0_10, .int .u8 a0_11] 24 (0, 0)) (by (with_reducible repeat (first | refine blk_drewN ?_ _ | refine blk_drew ?_ | refine blk_alloc ?_ _)); exact BK321.out) hb); have n2_ := Aside0.mk (blk_below (g := gb322) (o := .cells #[.bool a2_0, .bool a2_1, .slice A2_2 l2_2.length c2_2, .slice A2_3 l2_3.length c2_3] 29 (0, 0)) (by (with_reducible repeat (first | refine blk_drewN ?_ _ | refine blk_drew ?_ | refine blk_alloc ?_ _)); exact BK322.out) hb); have n3_ := Aside0.mk (below_step (by repeat (first | (with_reducible first | exact HB.out | apply below_alloc | apply pw_below_drewN | apply below_drew1 | refine below_set ?_ GE321.out | refine below_set ?_ GE322.out) | exact HB.out)) hb); clear BK321; clear BK322; clear HB; have HO326 := n0_; have BK321 := n1_; have BK322 := n2_; have HB := n3_; clear n0_ n1_ n2_ n3_; (try clear hb); (try clear hb2); (try clear hk); (try clear hi); (try clear ho0)) | ((with_reducible refine gate_dst (N := 8) rfl ?_); (try (refine gate_guard (by rfl) ?_; dsimp only)); refine box_event ?hg (N := 8) ?hd (cs := #[.slice none 0 0, .int .i64 0, .int .i64 0, .int .i64 0]) (t := 33) ?hr ?_; (case hd => rfl); (case hg => rfl); (case hr => first | (go_simp; done) | (go_simp; rfl)); intro gb330 hg w18 hbox hb; have n0_ := Aside0.mk (Kd.R_below (by (with_reducible repeat (first | apply Kd.R_alloc | apply Kd.R_drewN | apply Kd.R_drew)); exact HO326.out) hb); have n1_ := Aside0.mk (blk_below (g := gb321) (o := .cells #[.int .u8 a0_0, .int .u8 a0_1, .int .u8 a0_2, .int .u8 a0_3, .int .u8 a0_4, .int .u8 a0_5, .int .u8 a0_6, .int .u8 a0_7, .int .u8 a0_8, .int .u8 a0_9, .int .u8 a0_10, .int .u8 a0_11] 24 (0, 0)) (by (with_reducible repeat (first | refine blk_drewN ?_ _ | refine blk_drew ?_ | refine blk_alloc ?_ _)); exact BK321.out) hb); have n2_ := Aside0.mk (blk_below (g := gb322) (o := .cells #[.bool a2_0, .bool a2_1, .slice A2_2 l2_2.length c2_2, .slice A2_3 l2_3.length c2_3] 29 (0, 0)) (by (with_reducible repeat (first | refine blk_drewN ?_ _ | refine blk_drew ?_ | refine blk_alloc ?_ _)); exact BK322.out) hb); have n3_ := Aside0.mk (below_step (by repeat (first | (with_reducible first | exact HB.out | apply below_alloc | apply pw_below_drewN | apply below_drew1 | refine below_set ?_ GE321.out | refine below_set ?_ GE322.out) | exact HB.out)) hb); have n4_ := Aside0.mk (hbox); have n5_ := Aside0.mk ((by rw [hg]; exact (below_size (by repeat (first | (with_reducible first | exact HB.out | apply below_alloc | apply pw_below_drewN | apply below_drew1 | refine below_set ?_ GE321.out | refine below_set ?_ GE322.out) | exact HB.out))) : w.heap.size ≤ gb330)); have n6_ := Aside0.mk ((by rw [hg]; exact (below_size (by repeat (first | (with_reducible first | exact HB.out | apply below_alloc | apply pw_below_drewN | apply below_drew1 | refine below_set ?_ GE321.out | refine below_set ?_ GE322.out) | exact HB.out))) : w.heap.size ≤ gb330)); have n7_ := Aside0.mk ((by rw [hg]; exact Nat.ne_of_lt (blk_lt (g := gb321) (o := .cells #[.int .u8 a0_0, .int .u8 a0_1, .int .u8 a0_2, .int .u8 a0_3, .int .u8 a0_4, .int .u8 a0_5, .int .u8 a0_6, .int .u8 a0_7, .int .u8 a0_8, .int .u8 a0_9, .int .u8 a0_10, .int .u8 a0_11] 24 (0, 0)) (by (with_reducible repeat (first | refine blk_drewN ?_ _ | refine blk_drew ?_ | refine blk_alloc ?_ _)); exact BK321.out)) : gb321 ≠ gb330)); have n8_ := Aside0.mk ((by rw [hg]; exact Nat.ne_of_gt (blk_lt (g := gb321) (o := .cells #[.int .u8 a0_0, .int .u8 a0_1, .int .u8 a0_2, .int .u8 a0_3, .int .u8 a0_4, .int .u8 a0_5, .int .u8 a0_6, .int .u8 a0_7, .int .u8 a0_8, .int .u8 a0_9, .int .u8 a0_10, .int .u8 a0_11] 24 (0, 0)) (by (with_reducible repeat (first | refine blk_drewN ?_ _ | refine blk_drew ?_ | refine blk_alloc ?_ _)); exact BK321.out)) : gb330 ≠ gb321)); have n9_ := Aside0.mk ((by rw [hg]; exact Nat.ne_of_lt (blk_lt (g := gb322) (o := .cells #[.bool a2_0, .bool a2_1, .slice A2_2 l2_2.length c2_2, .slice A2_3 l2_3.length c2_3] 29 (0, 0)) (by (with_reducible repeat (first | refine blk_drewN ?_ _ | refine blk_drew ?_ | refine blk_alloc ?_ _)); exact BK322.out)) : gb322 ≠ gb330)); have n10_ := Aside0.mk ((by rw [hg]; exact Nat.ne_of_gt (blk_lt (g := gb322) (o := .cells #[.bool a2_0, .bool a2_1, .slice A2_2 l2_2.length c2_2, .slice A2_3 l2_3.length c2_3] 29 (0, 0)) (by (with_reducible repeat (first | refine blk_drewN ?_ _ | refine blk_drew ?_ | refine blk_alloc ?_ _)); exact BK322.out)) : gb330 ≠ gb322)); clear HO326; clear BK321; clear BK322; clear HB; have HO326 := n0_; have BK321 := n1_; have BK322 := n2_; have HB := n3_; have BK330 := n4_; have GW330 := n5_; have GE330 := n6_; have NB321_330 := n7_; have NB330_321 := n8_; have NB322_330 := n9_; have NB330_322 := n10_; clear n0_ n1_ n2_ n3_ n4_ n5_ n6_ n7_ n8_ n9_ n10_; clear hb hbox hg; obtain ⟨Ao19, co19, eo19⟩ := Kd.R_slice HO326.out; subst eo19; have hnb20 := NB330_321.out; have hnc20 := NB321_330.out; have hnb21 := NB330_322.out; have hnc21 := NB322_330.out; have hcz22_0 : w18.cell? ⟨gb330, 0, none⟩ = some (.slice none 0 0) := (blk_cell BK330.out 0).trans rfl; have hcz22_1 : w18.cell? ⟨gb330, 1, none⟩ = some (.int .i64 0) := (blk_cell BK330.out 1).trans rfl; have hcz22_2 : w18.cell? ⟨gb330, 2, none⟩ = some (.int .i64 0) := (blk_cell BK330.out 2).trans rfl; have hcz22_3 : w18.cell? ⟨gb330, 3, none⟩ = some (.int .i64 0) := (blk_cell BK330.out 3).trans rfl; have hfz22_0 := blk_frozen BK330.out 0; have hfz22_1 := blk_frozen BK330.out 1; have hfz22_2 := blk_frozen BK330.out 2; have hfz22_3 := blk_frozen BK330.out 3))
 have n0_ : Aside0 (Kd.R (Kd.int .i64) 3 ((((w18.setCell ⟨gb330, 0, none⟩ (.slice Ao19 t324.length co19)).setCell ⟨gb330, 1, none⟩ (.int .i64 t327)).setCell ⟨gb330, 2, none⟩ (.int .i64 t328)).setCell ⟨gb330, 3, none⟩ (.int .i64 t329)) w.heap.size (fun _ => True) (.slice Ao19 t324.length co19) t324) := ⟨by (with_reducible repeat (first | apply Kd.R_alloc | apply Kd.R_drewN | apply Kd.R_drew)); exact Kd.R_mono (Kd.R_far (p := ⟨gb330, 3, none⟩) (Kd.R_far (p := ⟨gb330, 2, none⟩) (Kd.R_far (p := ⟨gb330, 1, none⟩) (Kd.R_far (p := ⟨gb330, 0, none⟩) (Kd.R_types HO326.out BK330.out (by decide)) (fun _ hk => hk.2) (.slice Ao19 t324.length co19)) (fun _ hk => hk.2) (.int .i64 t327)) (fun _ hk => hk.2) (.int .i64 t328)) (fun _ hk => hk.2) (.int .i64 t329)) (fun _ hk => trivial)⟩
 have n1_ : Aside0 (((((w18.setCell ⟨gb330, 0, none⟩ (.slice Ao19 t324.length co19)).setCell ⟨gb330, 1, none⟩ (.int .i64 t327)).setCell ⟨gb330, 2, none⟩ (.int .i64 t328)).setCell ⟨gb330, 3, none⟩ (.int .i64 t329)).heap[gb321]? = some (.cells #[.int .u8 a0_0, .int .u8 a0_1, .int .u8 a0_2, .int .u8 a0_3, .int .u8 a0_4, .int .u8 a0_5, .int .u8 a0_6, .int .u8 a0_7, .int .u8 a0_8, .int .u8 a0_9, .int .u8 a0_10, .int .u8 a0_11] 24 (0, 0))) := ⟨by (with_reducible repeat (first | refine blk_drewN ?_ _ | refine blk_drew ?_ | refine blk_alloc ?_ _)); refine blk_far ?_ NB321_330.out _; (with_reducible repeat (first | refine blk_drewN ?_ _ | refine blk_drew ?_ | refine blk_alloc ?_ _)); refine blk_far ?_ NB321_330.out _; (with_reducible repeat (first | refine blk_drewN ?_ _ | refine blk_drew ?_ | refine blk_alloc ?_ _)); refine blk_far ?_ NB321_330.out _; (with_reducible repeat (first | refine blk_drewN ?_ _ | refine blk_drew ?_ | refine blk_alloc ?_ _)); refine blk_far ?_ NB321_330.out _; (with_reducible repeat (first | refine blk_drewN ?_ _ | refine blk_drew ?_ | refine blk_alloc ?_ _)); exact BK321.out⟩
 have n2_ : Aside0 (((((w18.setCell ⟨gb330, 0, none⟩ (.slice Ao19 t324.length co19)).setCell ⟨gb330, 1, none⟩ (.int .i64 t327)).setCell ⟨gb330, 2, none⟩ (.int .i64 t328)).setCell ⟨gb330, 3, none⟩ (.int .i64 t329)).heap[gb322]? = some (.cells #[.bool a2_0, .bool a2_1, .slice A2_2 l2_2.length c2_2, .slice A2_3 l2_3.length c2_3] 29 (0, 0))) := ⟨by (with_reducible repeat (first | refine blk_drewN ?_ _ | refine blk_drew ?_ | refine blk_alloc ?_ _)); refine blk_far ?_ NB322_330.out _; (with_reducible repeat (first | refine blk_drewN ?_ _ | refine blk_drew ?_ | refine blk_alloc ?_ _)); refine blk_far ?_ NB322_330.out _; (with_reducible repeat (first | refine blk_drewN ?_ _ | refine blk_drew ?_ | refine blk_alloc ?_ _)); refine blk_far ?_ NB322_330.out _; (with_reducible repeat (first | refine blk_drewN ?_ _ | refine blk_drew ?_ | refine blk_alloc ?_ _)); refine blk_far ?_ NB322_330.out _; (with_reducible repeat (first | refine blk_drewN ?_ _ | refine blk_drew ?_ | refine blk_alloc ?_ _)); exact BK322.out⟩
 have n3_ : Aside0 (((((w18.setCell ⟨gb330, 0, none⟩ (.slice Ao19 t324.length co19)).setCell ⟨gb330, 1, none⟩ (.int .i64 t327)).setCell ⟨gb330, 2, none⟩ (.int .i64 t328)).setCell ⟨gb330, 3, none⟩ (.int .i64 t329)).heap[gb330]? = some (.cells #[.slice Ao19 t324.length co19, .int .i64 t327, .int .i64 t328, .int .i64 t329] 33 (0, 0))) := ⟨by (with_reducible repeat (first | refine blk_drewN ?_ _ | refine blk_drew ?_ | refine blk_alloc ?_ _)); refine blk_put (cs := #[.slice Ao19 t324.length co19, .int .i64 t327, .int .i64 t328, .int .i64 0]) ?_ 3 _ rfl; (with_reducible repeat (first | refine blk_drewN ?_ _ | refine blk_drew ?_ | refine blk_alloc ?_ _)); refine blk_put (cs := #[.slice Ao19 t324.length co19, .int .i64 t327, .int .i64 0, .int .i64 0]) ?_ 2 _ rfl; (with_reducible repeat (first | refine blk_drewN ?_ _ | refine blk_drew ?_ | refine blk_alloc ?_ _)); refine blk_put (cs := #[.slice Ao19 t324.length co19, .int .i64 0, .int .i64 0, .int .i64 0]) ?_ 1 _ rfl; (with_reducible repeat (first | refine blk_drewN ?_ _ | refine blk_drew ?_ | refine blk_alloc ?_ _)); refine blk_put (cs := #[.slice none 0 0, .int .i64 0, .int .i64 0, .int .i64 0]) ?_ 0 _ rfl; (with_reducible repeat (first | refine blk_drewN ?_ _ | refine blk_drew ?_ | refine blk_alloc ?_ _)); exact BK330.out⟩
 have n4_ : Aside0 (Below w.heap.size w ((((w18.setCell ⟨gb330, 0, none⟩ (.slice Ao19 t324.length co19)).setCell ⟨gb330, 1, none⟩ (.int .i64 t327)).setCell ⟨gb330, 2, none⟩ (.int .i64 t328)).setCell ⟨gb330, 3, none⟩ (.int .i64 t329))) := ⟨by repeat (first | (with_reducible first | exact HB.out | apply below_alloc | apply pw_below_drewN | apply below_drew1 | refine below_set ?_ GE321.out | refine below_set ?_ GE322.out | refine below_set ?_ GE330.out) | exact HB.out)⟩
 (try clear HO326)
 (try clear BK321)
 (try clear BK322)
 (try clear BK330)
 (try clear HB)
 generalize ((((w18.setCell ⟨gb330, 0, none⟩ (.slice Ao19 t324.length co19)).setCell ⟨gb330, 1, none⟩ (.int .i64 t327)).setCell ⟨gb330, 2, none⟩ (.int .i64 t328)).setCell ⟨gb330, 3, none⟩ (.int .i64 t329)) = w23 at n0_ n1_ n2_ n3_ n4_ ⊢
 have HO326 := n0_
 have BK321 := n1_
 have BK322 := n2_
 have BK330 := n3_
 have HB := n4_
 clear n0_ n1_ n2_ n3_ n4_
 have n0_ := Aside0.mk (Kd.R_drew HO326.out)
 have n1_ := Aside0.mk (blk_drew BK321.out)
 have n2_ := Aside0.mk (blk_drew BK322.out)
 have n3_ := Aside0.mk (blk_drew BK330.out)
 have n4_ := Aside0.mk (below_drew1 HB.out)
 clear HO326
 clear BK321
 clear BK322
 clear BK330
 clear HB
 have HO326 := n0_
 have BK321 := n1_
 have BK322 := n2_
 have BK330 := n3_
 have HB := n4_
 clear n0_ n1_ n2_ n3_ n4_
 refine start_ (n := 6) (S := fun w' => w'.cell? ⟨gb330, 0, none⟩ = some (.slice Ao19 t324.length co19) ∧ w'.cell? ⟨gb330, 1, none⟩ = some (.int .i64 t327) ∧ w'.cell? ⟨gb330, 2, none⟩ = some (.int .i64 t328) ∧ w'.cell? ⟨gb330, 3, none⟩ = some (.int .i64 t329)) (ds := []) #[false, false, false, false, false, false] (by kernel_rfl) rfl rfl ⟨(blk_cell BK330.out 0).trans rfl, (blk_cell BK330.out 1).trans rfl, (blk_cell BK330.out 2).trans rfl, (blk_cell BK330.out 3).trans rfl⟩ (fun hHeld => ?_)
 generalize w23.drew = w24 at HO326 BK321 BK322 BK330 HB hHeld ⊢
 refine pure_ (i := 2) (N := some 23) (v := ?_) (a' := ?_) #[false, false, true, false, false, false] rfl rfl (by kernel_rfl) (fun _ _ _ h => h) (Or.inl ⟨by rfl, ?_⟩) ?_ ?_
 rotate_left; (intro w'; go_simp; with_reducible rfl); rotate_left; (simp only [Act.put, List.setIfInBounds_toArray, List.set_cons_zero, List.set_cons_succ, i64_w, i32_w]; rfl)
 refine take_ (i := 0) (N := some 21) (v := ?_) (a' := ?_) #[true, false, true, false, false, false] rfl rfl (by kernel_rfl) (fun _ _ _ h => h) (Or.inl ⟨by rfl, ?_⟩) hHeld ?_ ?_
 rotate_left; (rintro w' ⟨s0, s1, s2, s3⟩; go_simp; with_reducible rfl); rotate_left; (simp only [Act.put, List.setIfInBounds_toArray, List.set_cons_zero, List.set_cons_succ, i64_w, i32_w]; rfl)
 refine take_ (i := 1) (N := some 22) (v := ?_) (a' := ?_) #[true, true, true, false, false, false] rfl rfl (by kernel_rfl) (fun _ _ _ h => h) (Or.inl ⟨by rfl, ?_⟩) hHeld ?_ ?_
 rotate_left; (rintro w' ⟨s0, s1, s2, s3⟩; go_simp; with_reducible rfl); rotate_left; (simp only [Act.put, List.setIfInBounds_toArray, List.set_cons_zero, List.set_cons_succ, i64_w, i32_w]; rfl)
 refine one_ (i := 3) (N := some 24) #[true, true, true, true, false, false] rfl rfl (by kernel_rfl) (by decide) (fun K hK => ?_)
 refine goes_ Try.func10 (by kernel_rfl) rfl #[.agg #[.slice Ao19 t324.length co19, .int .i64 t327, .int .i64 t328, .int .i64 t329], .slice A1 l1.length c1, .int .i64 60] (by rfl) rfl rfl (by (try simp only [List.map_toArray, List.map_cons, List.map_nil]); first | done | rfl | (simp only [List.length_drop, List.length_take]; rfl)) ?_
 with_reducible refine (thresherref04_Fits.calls k _ _ t324 t327 t328 t329 _ _ l1 60 t331 _ ?side1 ?side2 ?side3 ?side4 A6.out).mono ?_
 (case side1 => repeat (first | exact (Kd.R_reads' HO326.out).2.2 | (with_reducible refine Kd.C_alloc ?_ _) | (with_reducible refine Kd.C_drewN ?_ _) | (with_reducible refine Kd.C_drew ?_)))
 (case side2 => exact (Kd.R_reads' HO326.out).2.1)
 (case side3 => repeat (first | exact (Kd.C_below HR1.out HB.out) | (with_reducible refine Kd.C_alloc ?_ _) | (with_reducible refine Kd.C_drewN ?_ _) | (with_reducible refine Kd.C_drew ?_)))
 (case side4 => exact HC1.out)
 rintro e w25 ⟨v332, rfl, ho0, hb⟩
 refine ⟨_, rfl, ?_⟩
 have n0_ := Aside0.mk (Kd.R_below (by (with_reducible repeat (first | apply Kd.R_alloc | apply Kd.R_drewN | apply Kd.R_drew)); exact HO326.out) hb)
 have n1_ := Aside0.mk (Kd.N_lower (Kd.N_mono (ok' := fun k_ => some k_ ≠ (.slice Ao19 t324.length co19 : Value).ownBlock ∧ k_ ≠ gb321 ∧ k_ ≠ gb322 ∧ k_ ≠ gb330) (Kd.S_N (Kd.S_bound ho0)) (fun k_ hk_ => ⟨(Kd.fresh' (Kd.R_lt (by (with_reducible repeat (first | apply Kd.R_alloc | apply Kd.R_drewN | apply Kd.R_drew)); exact HO326.out)) k_ hk_.2.1), (Kd.freshB (g := gb321) (o := .cells #[.int .u8 a0_0, .int .u8 a0_1, .int .u8 a0_2, .int .u8 a0_3, .int .u8 a0_4, .int .u8 a0_5, .int .u8 a0_6, .int .u8 a0_7, .int .u8 a0_8, .int .u8 a0_9, .int .u8 a0_10, .int .u8 a0_11] 24 (0, 0)) (by (with_reducible repeat (first | refine blk_drewN ?_ _ | refine blk_drew ?_ | refine blk_alloc ?_ _)); exact BK321.out) k_ hk_.2.1), (Kd.freshB (g := gb322) (o := .cells #[.bool a2_0, .bool a2_1, .slice A2_2 l2_2.length c2_2, .slice A2_3 l2_3.length c2_3] 29 (0, 0)) (by (with_reducible repeat (first | refine blk_drewN ?_ _ | refine blk_drew ?_ | refine blk_alloc ?_ _)); exact BK322.out) k_ hk_.2.1), (Kd.freshB (g := gb330) (o := .cells #[.slice Ao19 t324.length co19, .int .i64 t327, .int .i64 t328, .int .i64 t329] 33 (0, 0)) (by (with_reducible repeat (first | refine blk_drewN ?_ _ | refine blk_drew ?_ | refine blk_alloc ?_ _)); exact BK330.out) k_ hk_.2.1)⟩)) (below_size (by repeat (first | (with_reducible first | exact HB.out | apply below_alloc | apply pw_below_drewN | apply below_drew1 | refine below_set ?_ GE321.out | refine below_set ?_ GE322.out | refine below_set ?_ GE330.out) | exact HB.out))))
 have n2_ := Aside0.mk (blk_below (g := gb321) (o := .cells #[.int .u8 a0_0, .int .u8 a0_1, .int .u8 a0_2, .int .u8 a0_3, .int .u8 a0_4, .int .u8 a0_5, .int .u8 a0_6, .int .u8 a0_7, .int .u8 a0_8, .int .u8 a0_9, .int .u8 a0_10, .int .u8 a0_11] 24 (0, 0)) (by (with_reducible repeat (first | refine blk_drewN ?_ _ | refine blk_drew ?_ | refine blk_alloc ?_ _)); exact BK321.out) hb)
 have n3_ := Aside0.mk (blk_below (g := gb322) (o := .cells #[.bool a2_0, .bool a2_1, .slice A2_2 l2_2.length c2_2, .slice A2_3 l2_3.length c2_3] 29 (0, 0)) (by (with_reducible repeat (first | refine blk_drewN ?_ _ | refine blk_drew ?_ | refine blk_alloc ?_ _)); exact BK322.out) hb)
 have n4_ := Aside0.mk (blk_below (g := gb330) (o := .cells #[.slice Ao19 t324.length co19, .int .i64 t327, .int .i64 t328, .int .i64 t329] 33 (0, 0)) (by (with_reducible repeat (first | refine blk_drewN ?_ _ | refine blk_drew ?_ | refine blk_alloc ?_ _)); exact BK330.out) hb)
 have n5_ := Aside0.mk (below_step (by repeat (first | (with_reducible first | exact HB.out | apply below_alloc | apply pw_below_drewN | apply below_drew1 | refine below_set ?_ GE321.out | refine below_set ?_ GE322.out | refine below_set ?_ GE330.out) | exact HB.out)) hb)
 clear HO326
 clear BK321
 clear BK322
 clear BK330
 clear HB
 have HO326 := n0_
 have HO333 := n1_
 have BK321 := n2_
 have BK322 := n3_
 have BK330 := n4_
 have HB := n5_
 clear n0_ n1_ n2_ n3_ n4_ n5_
 (try clear hb)
 (try clear hb2)
 (try clear hk)
 (try clear hi)
 (try clear ho0)
 obtain ⟨Ao26, co26, eo26⟩ := Kd.N_slice HO333.out
 (first | subst eo26 | (injection eo26 with f1_ f2_ f3_; have f4_ := f1_.symm; have f5_ := f3_.symm; clear f1_ f2_ f3_; subst f4_; subst f5_))
 refine hK.out _ _ ⟨(blk_cell BK330.out 0).trans rfl, (blk_cell BK330.out 1).trans rfl, (blk_cell BK330.out 2).trans rfl, (blk_cell BK330.out 3).trans rfl⟩ (fun hHeld => ?_)
 clear hK K
 refine norm_ (a' := ?_) ?_ ?_
 rotate_left
 ·show Act.put _ (some 24) _ = _
  simp only [Act.put, List.setIfInBounds_toArray, List.set_cons_zero, List.set_cons_succ, i64_w, i32_w]
  rfl
 refine one_ (i := 4) (N := some 25) #[true, true, true, true, true, false] rfl rfl (by kernel_rfl) (by decide) (fun K hK => ?_)
 refine goes_ Try.func9 (by kernel_rfl) rfl #[.agg #[.slice Ao19 t324.length co19, .int .i64 t327, .int .i64 t328, .int .i64 t329], .slice Ao26 t331.length co26] (by rfl) rfl rfl (by (try simp only [List.map_toArray, List.map_cons, List.map_nil]); first | done | rfl | (simp only [List.length_drop, List.length_take]; rfl)) ?_
 with_reducible refine (thresherref09_Sort.calls k _ _ t324 t327 t328 t329 (fun k_ => (some k_ ≠ (.slice Ao19 t324.length co19 : Value).ownBlock ∧ (k_ ≠ gb321 ∧ (k_ ≠ gb322 ∧ k_ ≠ gb330)))) _ _ t331 t334 _ ?side1 ?side2 ?side3 A7.out).mono ?_
 (case side1 => repeat (first | exact (Kd.R_reads' HO326.out).2.2 | (with_reducible refine Kd.C_alloc ?_ _) | (with_reducible refine Kd.C_drewN ?_ _) | (with_reducible refine Kd.C_drew ?_)))
 (case side2 => exact (Kd.R_reads' HO326.out).2.1)
 (case side3 => exact Kd.N_V (HO333.out))
 rintro e w27 ⟨v335, rfl, ho0, hb⟩
 refine ⟨_, rfl, ?_⟩
 have n0_ := Aside0.mk (Kd.R_below (by (with_reducible repeat (first | apply Kd.R_alloc | apply Kd.R_drewN | apply Kd.R_drew)); exact HO326.out) hb)
 have n1_ := Aside0.mk (Kd.N_elder' (by (with_reducible repeat (first | apply Kd.N_alloc | apply Kd.N_drewN | apply Kd.N_drew)); exact HO333.out) (by first | exact Kd.N_base ho0 | exact Kd.S_base ho0) hb)
 have n2_ := Aside0.mk (Kd.N_lower (Kd.N_mono (ok' := fun k_ => some k_ ≠ (.slice Ao19 t324.length co19 : Value).ownBlock ∧ k_ ≠ gb321 ∧ k_ ≠ gb322 ∧ k_ ≠ gb330) ho0 (fun k_ hk_ => ⟨Or.elim hk_ (fun hs_ => hs_.1) (fun hn_ => (Kd.fresh' (Kd.R_lt (by (with_reducible repeat (first | apply Kd.R_alloc | apply Kd.R_drewN | apply Kd.R_drew)); exact HO326.out)) k_ hn_)), Or.elim hk_ (fun hs_ => hs_.2.1) (fun hn_ => (Kd.freshB (g := gb321) (o := .cells #[.int .u8 a0_0, .int .u8 a0_1, .int .u8 a0_2, .int .u8 a0_3, .int .u8 a0_4, .int .u8 a0_5, .int .u8 a0_6, .int .u8 a0_7, .int .u8 a0_8, .int .u8 a0_9, .int .u8 a0_10, .int .u8 a0_11] 24 (0, 0)) (by (with_reducible repeat (first | refine blk_drewN ?_ _ | refine blk_drew ?_ | refine blk_alloc ?_ _)); exact BK321.out) k_ hn_)), Or.elim hk_ (fun hs_ => hs_.2.2.1) (fun hn_ => (Kd.freshB (g := gb322) (o := .cells #[.bool a2_0, .bool a2_1, .slice A2_2 l2_2.length c2_2, .slice A2_3 l2_3.length c2_3] 29 (0, 0)) (by (with_reducible repeat (first | refine blk_drewN ?_ _ | refine blk_drew ?_ | refine blk_alloc ?_ _)); exact BK322.out) k_ hn_)), Or.elim hk_ (fun hs_ => hs_.2.2.2) (fun hn_ => (Kd.freshB (g := gb330) (o := .cells #[.slice Ao19 t324.length co19, .int .i64 t327, .int .i64 t328, .int .i64 t329] 33 (0, 0)) (by (with_reducible repeat (first | refine blk_drewN ?_ _ | refine blk_drew ?_ | refine blk_alloc ?_ _)); exact BK330.out) k_ hn_))⟩)) (below_size (by repeat (first | (with_reducible first | exact HB.out | apply below_alloc | apply pw_below_drewN | apply below_drew1 | refine below_set ?_ GE321.out | refine below_set ?_ GE322.out | refine below_set ?_ GE330.out) | exact HB.out))))
 have n3_ := Aside0.mk (blk_below (g := gb321) (o := .cells #[.int .u8 a0_0, .int .u8 a0_1, .int .u8 a0_2, .int .u8 a0_3, .int .u8 a0_4, .int .u8 a0_5, .int .u8 a0_6, .int .u8 a0_7, .int .u8 a0_8, .int .u8 a0_9, .int .u8 a0_10, .int .u8 a0_11] 24 (0, 0)) (by (with_reducible repeat (first | refine blk_drewN ?_ _ | refine blk_drew ?_ | refine blk_alloc ?_ _)); exact BK321.out) hb)
 have n4_ := Aside0.mk (blk_below (g := gb322) (o := .cells #[.bool a2_0, .bool a2_1, .slice A2_2 l2_2.length c2_2, .slice A2_3 l2_3.length c2_3] 29 (0, 0)) (by (with_reducible repeat (first | refine blk_drewN ?_ _ | refine blk_drew ?_ | refine blk_alloc ?_ _)); exact BK322.out) hb)
 have n5_ := Aside0.mk (blk_below (g := gb330) (o := .cells #[.slice Ao19 t324.length co19, .int .i64 t327, .int .i64 t328, .int .i64 t329] 33 (0, 0)) (by (with_reducible repeat (first | refine blk_drewN ?_ _ | refine blk_drew ?_ | refine blk_alloc ?_ _)); exact BK330.out) hb)
 have n6_ := Aside0.mk (below_step (by repeat (first | (with_reducible first | exact HB.out | apply below_alloc | apply pw_below_drewN | apply below_drew1 | refine below_set ?_ GE321.out | refine below_set ?_ GE322.out | refine below_set ?_ GE330.out) | exact HB.out)) hb)
 clear HO326
 clear HO333
 clear BK321
 clear BK322
 clear BK330
 clear HB
 have HO326 := n0_
 have HO333 := n1_
 have HO336 := n2_
 have BK321 := n3_
 have BK322 := n4_
 have BK330 := n5_
 have HB := n6_
 clear n0_ n1_ n2_ n3_ n4_ n5_ n6_
 (try clear hb)
 (try clear hb2)
 (try clear hk)
 (try clear hi)
 (try clear ho0)
 refine hK.out _ _ ⟨(blk_cell BK330.out 0).trans rfl, (blk_cell BK330.out 1).trans rfl, (blk_cell BK330.out 2).trans rfl, (blk_cell BK330.out 3).trans rfl⟩ (fun hHeld => ?_)
 clear hK K
 refine norm_ (a' := ?_) ?_ ?_
 rotate_left
 ·show Act.put _ (some 25) _ = _
  simp only [Act.put, List.setIfInBounds_toArray, List.set_cons_zero, List.set_cons_succ, i64_w, i32_w]
  rfl
 refine pure_ (i := 5) (N := some 9) (v := ?_) (a' := ?_) #[true, true, true, true, true, true] rfl rfl (by kernel_rfl) (fun _ _ _ h => h) (Or.inl ⟨by rfl, ?_⟩) ?_ ?_
 rotate_left; (intro w'; go_simp; with_reducible rfl); rotate_left; (simp only [Act.put, List.setIfInBounds_toArray, List.set_cons_zero, List.set_cons_succ, i64_w, i32_w]; rfl)
 refine done_ (by kernel_rfl) ?_
 have hcz28_0 : w27.cell? ⟨gb330, 0, none⟩ = some (.slice Ao19 t324.length co19) := (blk_cell BK330.out 0).trans rfl
 have hcz28_1 : w27.cell? ⟨gb330, 1, none⟩ = some (.int .i64 t327) := (blk_cell BK330.out 1).trans rfl
 have hcz28_2 : w27.cell? ⟨gb330, 2, none⟩ = some (.int .i64 t328) := (blk_cell BK330.out 2).trans rfl
 have hcz28_3 : w27.cell? ⟨gb330, 3, none⟩ = some (.int .i64 t329) := (blk_cell BK330.out 3).trans rfl
 have hfz28_0 := blk_frozen BK330.out 0
 have hfz28_1 := blk_frozen BK330.out 1
 have hfz28_2 := blk_frozen BK330.out 2
 have hfz28_3 := blk_frozen BK330.out 3
 have hcz29_0 : w27.cell? ⟨gb322, 0, none⟩ = some (.bool a2_0) := (blk_cell BK322.out 0).trans rfl
 have hcz29_1 : w27.cell? ⟨gb322, 1, none⟩ = some (.bool a2_1) := (blk_cell BK322.out 1).trans rfl
 have hcz29_2 : w27.cell? ⟨gb322, 2, none⟩ = some (.slice A2_2 l2_2.length c2_2) := (blk_cell BK322.out 2).trans rfl
 have hcz29_3 : w27.cell? ⟨gb322, 3, none⟩ = some (.slice A2_3 l2_3.length c2_3) := (blk_cell BK322.out 3).trans rfl
 have hfz29_0 := blk_frozen BK322.out 0
 have hfz29_1 := blk_frozen BK322.out 1
 have hfz29_2 := blk_frozen BK322.out 2
 have hfz29_3 := blk_frozen BK322.out 3
 go_upto_region 7 with (first | ((with_reducible refine gate_callee (f := 11) rfl ?_); refine goesL_ (some 28) rfl rfl Try.func11 (by kernel_rfl) rfl #[.agg #[.slice Ao19 t324.length co19, .int .i64 t327, .int .i64 t328, .int .i64 t329], .agg #[.bool a2_0, .bool a2_1, .slice A2_2 l2_2.length c2_2, .slice A2_3 l2_3.length c2_3]] rfl (by (try simp only [List.map_toArray, List.map_cons, List.map_nil]); first | done | rfl | (simp only [List.length_drop, List.length_take]; rfl)) ?_; (with_reducible refine (thresherref12_Fit.calls k _ _ t324 t327 t328 t329 a2_0 a2_1 _ _ l2_2 _ _ l2_3 t337 t338 t339 t342 _ ?side1 ?side2 ?side3 ?side4 ?side5 ?side6 A8.out).mono ?_); (case side1 => repeat (first | exact (Kd.R_reads' HO326.out).2.2 | (with_reducible refine Kd.C_alloc ?_ _) | (with_reducible refine Kd.C_drewN ?_ _) | (with_reducible refine Kd.C_drew ?_))); (case side2 => exact (Kd.R_reads' HO326.out).2.1); (case side3 => repeat (first | exact (Kd.C_below HR2_2.out HB.out) | (with_reducible refine Kd.C_alloc ?_ _) | (with_reducible refine Kd.C_drewN ?_ _) | (with_reducible refine Kd.C_drew ?_))); (case side4 => exact HC2_2.out); (case side5 => repeat (first | exact (Kd.C_below HR2_3.out HB.out) | (with_reducible refine Kd.C_alloc ?_ _) | (with_reducible refine Kd.C_drewN ?_ _) | (with_reducible refine Kd.C_drew ?_))); (case side6 => exact HC2_3.out); rintro e w30 ⟨v340, v343, rfl, ho0, ho1, hb⟩; refine ⟨_, rfl, ?_⟩; have n0_ := Aside0.mk (Kd.R_below (by (with_reducible repeat (first | apply Kd.R_alloc | apply Kd.R_drewN | apply Kd.R_drew)); exact HO326.out) hb); have n1_ := Aside0.mk (Kd.N_mono (Kd.N_told (Kd.N_told (Kd.N_old (by (with_reducible repeat (first | apply Kd.N_alloc | apply Kd.N_drewN | apply Kd.N_drew)); exact HO333.out) hb) (Kd.R_base ho0)) (Kd.R_base ho1)) (fun _ h_ => h_.1)); have n2_ := Aside0.mk (Kd.N_mono (Kd.N_told (Kd.N_told (Kd.N_old (by (with_reducible repeat (first | apply Kd.N_alloc | apply Kd.N_drewN | apply Kd.N_drew)); exact HO336.out) hb) (Kd.R_base ho0)) (Kd.R_base ho1)) (fun _ h_ => h_.1)); have n3_ := Aside0.mk (Kd.R_lower ho0 (below_size (by repeat (first | (with_reducible first | exact HB.out | apply below_alloc | apply pw_below_drewN | apply below_drew1 | refine below_set ?_ GE321.out | refine below_set ?_ GE322.out | refine below_set ?_ GE330.out) | exact HB.out)))); have n4_ := Aside0.mk (Kd.R_lower ho1 (below_size (by repeat (first | (with_reducible first | exact HB.out | apply below_alloc | apply pw_below_drewN | apply below_drew1 | refine below_set ?_ GE321.out | refine below_set ?_ GE322.out | refine below_set ?_ GE330.out) | exact HB.out)))); have n5_ := Aside0.mk (blk_below (g := gb321) (o := .cells #[.int .u8 a0_0, .int .u8 a0_1, .int .u8 a0_2, .int .u8 a0_3, .int .u8 a0_4, .int .u8 a0_5, .int .u8 a0_6, .int .u8 a0_7, .int .u8 a0_8, .int .u8 a0_9, .int .u8 a0_10, .int .u8 a0_11] 24 (0, 0)) (by (with_reducible repeat (first | refine blk_drewN ?_ _ | refine blk_drew ?_ | refine blk_alloc ?_ _)); exact BK321.out) hb); have n6_ := Aside0.mk (blk_below (g := gb322) (o := .cells #[.bool a2_0, .bool a2_1, .slice A2_2 l2_2.length c2_2, .slice A2_3 l2_3.length c2_3] 29 (0, 0)) (by (with_reducible repeat (first | refine blk_drewN ?_ _ | refine blk_drew ?_ | refine blk_alloc ?_ _)); exact BK322.out) hb); have n7_ := Aside0.mk (blk_below (g := gb330) (o := .cells #[.slice Ao19 t324.length co19, .int .i64 t327, .int .i64 t328, .int .i64 t329] 33 (0, 0)) (by (with_reducible repeat (first | refine blk_drewN ?_ _ | refine blk_drew ?_ | refine blk_alloc ?_ _)); exact BK330.out) hb); have n8_ := Aside0.mk (below_step (by repeat (first | (with_reducible first | exact HB.out | apply below_alloc | apply pw_below_drewN | apply below_drew1 | refine below_set ?_ GE321.out | refine below_set ?_ GE322.out | refine below_set ?_ GE330.out) | exact HB.out)) hb); clear HO326; clear HO333; clear HO336; clear BK321; clear BK322; clear BK330; clear HB; have HO326 := n0_; have HO333 := n1_; have HO336 := n2_; have HO341 := n3_; have HO344 := n4_; have BK321 := n5_; have BK322 := n6_; have BK330 := n7_; have HB := n8_; clear n0_ n1_ n2_ n3_ n4_ n5_ n6_ n7_ n8_; (try clear hb); (try clear hb2); (try clear hk); (try clear hi); (try clear ho0); (try clear ho1)) | ((with_reducible refine gate_dst (N := 10) rfl ?_); (try (refine gate_guard (by rfl) ?_; dsimp only)); refine box_event ?hg (N := 10) ?hd (cs := #[.bool false, .bool false, .slice none 0 0, .slice none 0 0]) (t := 29) ?hr ?_; (case hd => rfl); (case hg => rfl); (case hr => first | (go_simp; done) | (go_simp; rfl)); intro gb345 hg w31 hbox hb; have n0_ := Aside0.mk (Kd.R_below (by (with_reducible repeat (first | apply Kd.R_alloc | apply Kd.R_drewN | apply Kd.R_drew)); exact HO326.out) hb); have n1_ := Aside0.mk (Kd.N_below (Kd.N_elderB (by (with_reducible repeat (first | apply Kd.N_alloc | apply Kd.N_drewN | apply Kd.N_drew)); exact HO333.out) gb345 (Nat.le_of_eq hg.symm)) hb); have n2_ := Aside0.mk (Kd.N_below (Kd.N_elderB (by (with_reducible repeat (first | apply Kd.N_alloc | apply Kd.N_drewN | apply Kd.N_drew)); exact HO336.out) gb345 (Nat.le_of_eq hg.symm)) hb); have n3_ := Aside0.mk (Kd.R_below (by (with_reducible repeat (first | apply Kd.R_alloc | apply Kd.R_drewN | apply Kd.R_drew)); exact HO341.out) hb); have n4_ := Aside0.mk (Kd.R_below (by (with_reducible repeat (first | apply Kd.R_alloc | apply Kd.R_drewN | apply Kd.R_drew)); exact HO344.out) hb); have n5_ := Aside0.mk (blk_below (g := gb321) (o := .cells #[.int .u8 a0_0, .int .u8 a0_1, .int .u8 a0_2, .int .u8 a0_3, .int .u8 a0_4, .int .u8 a0_5, .int .u8 a0_6, .int .u8 a0_7, .int .u8 a0_8, .int .u8 a0_9, .int .u8 a0_10, .int .u8 a0_11] 24 (0, 0)) (by (with_reducible repeat (first | refine blk_drewN ?_ _ | refine blk_drew ?_ | refine blk_alloc ?_ _)); exact BK321.out) hb); have n6_ := Aside0.mk (blk_below (g := gb322) (o := .cells #[.bool a2_0, .bool a2_1, .slice A2_2 l2_2.length c2_2, .slice A2_3 l2_3.length c2_3] 29 (0, 0)) (by (with_reducible repeat (first | refine blk_drewN ?_ _ | refine blk_drew ?_ | refine blk_alloc ?_ _)); exact BK322.out) hb); have n7_ := Aside0.mk (blk_below (g := gb330) (o := .cells #[.slice Ao19 t324.length co19, .int .i64 t327, .int .i64 t328, .int .i64 t329] 33 (0, 0)) (by (with_reducible repeat (first | refine blk_drewN ?_ _ | refine blk_drew ?_ | refine blk_alloc ?_ _)); exact BK330.out) hb); have n8_ := Aside0.mk (below_step (by repeat (first | (with_reducible first | exact HB.out | apply below_alloc | apply pw_below_drewN | apply below_drew1 | refine below_set ?_ GE321.out | refine below_set ?_ GE322.out | refine below_set ?_ GE330.out) | exact HB.out)) hb); have n9_ := Aside0.mk (hbox); have n10_ := Aside0.mk ((by rw [hg]; exact (below_size (by repeat (first | (with_reducible first | exact HB.out | apply below_alloc | apply pw_below_drewN | apply below_drew1 | refine below_set ?_ GE321.out | refine below_set ?_ GE322.out | refine below_set ?_ GE330.out) | exact HB.out))) : w.heap.size ≤ gb345)); have n11_ := Aside0.mk ((by rw [hg]; exact (below_size (by repeat (first | (with_reducible first | exact HB.out | apply below_alloc | apply pw_below_drewN | apply below_drew1 | refine below_set ?_ GE321.out | refine below_set ?_ GE322.out | refine below_set ?_ GE330.out) | exact HB.out))) : w.heap.size ≤ gb345)); have n12_ := Aside0.mk ((by rw [hg]; exact Nat.ne_of_lt (blk_lt (g := gb321) (o := .cells #[.int .u8 a0_0, .int .u8 a0_1, .int .u8 a0_2, .int .u8 a0_3, .int .u8 a0_4, .int .u8 a0_5, .int .u8 a0_6, .int .u8 a0_7, .int .u8 a0_8, .int .u8 a0_9, .int .u8 a0_10, .int .u8 a0_11] 24 (0, 0)) (by (with_reducible repeat (first | refine blk_drewN ?_ _ | refine blk_drew ?_ | refine blk_alloc ?_ _)); exact BK321.out)) : gb321 ≠ gb345)); have n13_ := Aside0.mk ((by rw [hg]; exact Nat.ne_of_gt (blk_lt (g := gb321) (o := .cells #[.int .u8 a0_0, .int .u8 a0_1, .int .u8 a0_2, .int .u8 a0_3, .int .u8 a0_4, .int .u8 a0_5, .int .u8 a0_6, .int .u8 a0_7, .int .u8 a0_8, .int .u8 a0_9, .int .u8 a0_10, .int .u8 a0_11] 24 (0, 0)) (by (with_reducible repeat (first | refine blk_drewN ?_ _ | refine blk_drew ?_ | refine blk_alloc ?_ _)); exact BK321.out)) : gb345 ≠ gb321)); have n14_ := Aside0.mk ((by rw [hg]; exact Nat.ne_of_lt (blk_lt (g := gb322) (o := .cells #[.bool a2_0, .bool a2_1, .slice A2_2 l2_2.length c2_2, .slice A2_3 l2_3.length c2_3] 29 (0, 0)) (by (with_reducible repeat (first | refine blk_drewN ?_ _ | refine blk_drew ?_ | refine blk_alloc ?_ _)); exact BK322.out)) : gb322 ≠ gb345)); have n15_ := Aside0.mk ((by rw [hg]; exact Nat.ne_of_gt (blk_lt (g := gb322) (o := .cells #[.bool a2_0, .bool a2_1, .slice A2_2 l2_2.length c2_2, .slice A2_3 l2_3.length c2_3] 29 (0, 0)) (by (with_reducible repeat (first | refine blk_drewN ?_ _ | refine blk_drew ?_ | refine blk_alloc ?_ _)); exact BK322.out)) : gb345 ≠ gb322)); have n16_ := Aside0.mk ((by rw [hg]; exact Nat.ne_of_lt (blk_lt (g := gb330) (o := .cells #[.slice Ao19 t324.length co19, .int .i64 t327, .int .i64 t328, .int .i64 t329] 33 (0, 0)) (by (with_reducible repeat (first | refine blk_drewN ?_ _ | refine blk_drew ?_ | refine blk_alloc ?_ _)); exact BK330.out)) : gb330 ≠ gb345)); have n17_ := Aside0.mk ((by rw [hg]; exact Nat.ne_of_gt (blk_lt (g := gb330) (o := .cells #[.slice Ao19 t324.length co19, .int .i64 t327, .int .i64 t328, .int .i64 t329] 33 (0, 0)) (by (with_reducible repeat (first | refine blk_drewN ?_ _ | refine blk_drew ?_ | refine blk_alloc ?_ _)); exact BK330.out)) : gb345 ≠ gb330)); clear HO326; clear HO333; clear HO336; clear HO341; clear HO344; clear BK321; clear BK322; clear BK330; clear HB; have HO326 := n0_; have HO333 := n1_; have HO336 := n2_; have HO341 := n3_; have HO344 := n4_; have BK321 := n5_; have BK322 := n6_; have BK330 := n7_; have HB := n8_; have BK345 := n9_; have GW345 := n10_; have GE345 := n11_; have NB321_345 := n12_; have NB345_321 := n13_; have NB322_345 := n14_; have NB345_322 := n15_; have NB330_345 := n16_; have NB345_330 := n17_; clear n0_ n1_ n2_ n3_ n4_ n5_ n6_ n7_ n8_ n9_ n10_ n11_ n12_ n13_ n14_ n15_ n16_ n17_; clear hb hbox hg; have hnb32 := NB345_321.out; have hnc32 := NB321_345.out; have hnb33 := NB345_322.out; have hnc33 := NB322_345.out; have hnb34 := NB345_330.out; have hnc34 := NB330_345.out; have hcz35_0 : w31.cell? ⟨gb345, 0, none⟩ = some (.bool false) := (blk_cell BK345.out 0).trans rfl; have hcz35_1 : w31.cell? ⟨gb345, 1, none⟩ = some (.bool false) := (blk_cell BK345.out 1).trans rfl; have hcz35_2 : w31.cell? ⟨gb345, 2, none⟩ = some (.slice none 0 0) := (blk_cell BK345.out 2).trans rfl; have hcz35_3 : w31.cell? ⟨gb345, 3, none⟩ = some (.slice none 0 0) := (blk_cell BK345.out 3).trans rfl; have hfz35_0 := blk_frozen BK345.out 0; have hfz35_1 := blk_frozen BK345.out 1; have hfz35_2 := blk_frozen BK345.out 2; have hfz35_3 := blk_frozen BK345.out 3; obtain ⟨Ao36, co36, eo36⟩ := Kd.R_slice HO341.out; subst eo36; obtain ⟨Ao37, co37, eo37⟩ := Kd.R_slice HO344.out; subst eo37; have hcz38_0 : w31.cell? ⟨gb330, 0, none⟩ = some (.slice Ao19 t324.length co19) := (blk_cell BK330.out 0).trans rfl; have hcz38_1 : w31.cell? ⟨gb330, 1, none⟩ = some (.int .i64 t327) := (blk_cell BK330.out 1).trans rfl; have hcz38_2 : w31.cell? ⟨gb330, 2, none⟩ = some (.int .i64 t328) := (blk_cell BK330.out 2).trans rfl; have hcz38_3 : w31.cell? ⟨gb330, 3, none⟩ = some (.int .i64 t329) := (blk_cell BK330.out 3).trans rfl; have hfz38_0 := blk_frozen BK330.out 0; have hfz38_1 := blk_frozen BK330.out 1; have hfz38_2 := blk_frozen BK330.out 2; have hfz38_3 := blk_frozen BK330.out 3; obtain ⟨Ao39, co39, eo39⟩ := Kd.N_slice HO336.out; subst eo39) | ((with_reducible refine gate_callee (f := 14) rfl ?_); refine goesL_ (some 31) rfl rfl Try.func14 (by kernel_rfl) rfl #[.agg #[.slice Ao19 t324.length co19, .int .i64 t327, .int .i64 t328, .int .i64 t329], .slice Ao39 t334.length co39] rfl (by (try simp only [List.map_toArray, List.map_cons, List.map_nil]); first | done | rfl | (simp only [List.length_drop, List.length_take]; rfl)) ?_; (with_reducible refine (thresherref10_Marks.calls k _ _ t324 t327 t328 t329 _ _ t334 t346 _ ?side1 ?side2 ?side3 ?side4 A9.out).mono ?_); (case side1 => refine (Kd.R_reads' (e := 3) (base := w.heap.size) (ok := fun k_ => True) (n := t324.length) (c := co19) ?_).2.2; exact (by (with_reducible repeat (first | apply Kd.R_alloc | apply Kd.R_drewN | apply Kd.R_drew)); exact (Kd.R_mono (Kd.R_far (p := ⟨gb345, 3, none⟩) (Kd.R_far (p := ⟨gb345, 2, none⟩) (Kd.R_far (p := ⟨gb345, 1, none⟩) (Kd.R_far (p := ⟨gb345, 0, none⟩) (Kd.R_types HO326.out BK345.out (by decide)) (fun _ hk => hk.2) (.bool t337)) (fun _ hk => hk.2) (.bool t338)) (fun _ hk => hk.2) (.slice Ao36 t339.length co36)) (fun _ hk => hk.2) (.slice Ao37 t342.length co37)) (fun _ h_ => h_.1)))); (case side2 => exact (Kd.R_reads' HO326.out).2.1); (case side3 => refine (Kd.N_reads' (e := 27) (base := w.heap.size) (ok := fun k_ => ((((some k_ ≠ (.slice Ao19 t324.length co19 : Value).ownBlock ∧ (k_ ≠ gb321 ∧ (k_ ≠ gb322 ∧ k_ ≠ gb330))) ∧ some k_ ≠ (.slice Ao36 t339.length co36 : Value).ownBlock) ∧ some k_ ≠ (.slice Ao37 t342.length co37 : Value).ownBlock) ∧ k_ ≠ gb345)) (n := t334.length) (c := co39) ?_).2.2; exact (by (with_reducible repeat (first | apply Kd.N_alloc | apply Kd.N_drewN | apply Kd.N_drew)); exact (Kd.N_mono (Kd.N_far (p := ⟨gb345, 3, none⟩) (Kd.N_far (p := ⟨gb345, 2, none⟩) (Kd.N_far (p := ⟨gb345, 1, none⟩) (Kd.N_far (p := ⟨gb345, 0, none⟩) (Kd.N_mono HO336.out (fun k_ hk => (⟨hk, hk.2⟩ : _ ∧ k_ ≠ gb345))) (fun _ hk => hk.2) (.bool t337)) (fun _ hk => hk.2) (.bool t338)) (fun _ hk => hk.2) (.slice Ao36 t339.length co36)) (fun _ hk => hk.2) (.slice Ao37 t342.length co37)) (fun _ h_ => h_.1)))); (case side4 => exact (Kd.N_reads' HO336.out).2.1); rintro e w40 ⟨v347, rfl, ho0, hb⟩; refine ⟨_, rfl, ?_⟩; have n0_ := Aside0.mk (Kd.R_below (by (with_reducible repeat (first | apply Kd.R_alloc | apply Kd.R_drewN | apply Kd.R_drew)); exact (Kd.R_mono (Kd.R_far (p := ⟨gb345, 3, none⟩) (Kd.R_far (p := ⟨gb345, 2, none⟩) (Kd.R_far (p := ⟨gb345, 1, none⟩) (Kd.R_far (p := ⟨gb345, 0, none⟩) (Kd.R_types HO326.out BK345.out (by decide)) (fun _ hk => hk.2) (.bool t337)) (fun _ hk => hk.2) (.bool t338)) (fun _ hk => hk.2) (.slice Ao36 t339.length co36)) (fun _ hk => hk.2) (.slice Ao37 t342.length co37)) (fun _ h_ => h_.1))) hb); have n1_ := Aside0.mk (Kd.N_elder' (by (with_reducible repeat (first | apply Kd.N_alloc | apply Kd.N_drewN | apply Kd.N_drew)); exact (Kd.N_mono (Kd.N_far (p := ⟨gb345, 3, none⟩) (Kd.N_far (p := ⟨gb345, 2, none⟩) (Kd.N_far (p := ⟨gb345, 1, none⟩) (Kd.N_far (p := ⟨gb345, 0, none⟩) (Kd.N_mono HO333.out (fun k_ hk => (⟨hk, hk.2⟩ : _ ∧ k_ ≠ gb345))) (fun _ hk => hk.2) (.bool t337)) (fun _ hk => hk.2) (.bool t338)) (fun _ hk => hk.2) (.slice Ao36 t339.length co36)) (fun _ hk => hk.2) (.slice Ao37 t342.length co37)) (fun _ h_ => h_.1))) (by first | exact Kd.N_base ho0 | exact Kd.S_base ho0) hb); have n2_ := Aside0.mk (Kd.N_elder' (by (with_reducible repeat (first | apply Kd.N_alloc | apply Kd.N_drewN | apply Kd.N_drew)); exact (Kd.N_mono (Kd.N_far (p := ⟨gb345, 3, none⟩) (Kd.N_far (p := ⟨gb345, 2, none⟩) (Kd.N_far (p := ⟨gb345, 1, none⟩) (Kd.N_far (p := ⟨gb345, 0, none⟩) (Kd.N_mono HO336.out (fun k_ hk => (⟨hk, hk.2⟩ : _ ∧ k_ ≠ gb345))) (fun _ hk => hk.2) (.bool t337)) (fun _ hk => hk.2) (.bool t338)) (fun _ hk => hk.2) (.slice Ao36 t339.length co36)) (fun _ hk => hk.2) (.slice Ao37 t342.length co37)) (fun _ h_ => h_.1))) (by first | exact Kd.N_base ho0 | exact Kd.S_base ho0) hb); have n3_ := Aside0.mk (Kd.R_below (by (with_reducible repeat (first | apply Kd.R_alloc | apply Kd.R_drewN | apply Kd.R_drew)); exact (Kd.R_mono (Kd.R_far (p := ⟨gb345, 3, none⟩) (Kd.R_far (p := ⟨gb345, 2, none⟩) (Kd.R_far (p := ⟨gb345, 1, none⟩) (Kd.R_far (p := ⟨gb345, 0, none⟩) (Kd.R_types HO341.out BK345.out (by decide)) (fun _ hk => hk.2) (.bool t337)) (fun _ hk => hk.2) (.bool t338)) (fun _ hk => hk.2) (.slice Ao36 t339.length co36)) (fun _ hk => hk.2) (.slice Ao37 t342.length co37)) (fun _ h_ => h_.1))) hb); have n4_ := Aside0.mk (Kd.R_below (by (with_reducible repeat (first | apply Kd.R_alloc | apply Kd.R_drewN | apply Kd.R_drew)); exact (Kd.R_mono (Kd.R_far (p := ⟨gb345, 3, none⟩) (Kd.R_far (p := ⟨gb345, 2, none⟩) (Kd.R_far (p := ⟨gb345, 1, none⟩) (Kd.R_far (p := ⟨gb345, 0, none⟩) (Kd.R_types HO344.out BK345.out (by decide)) (fun _ hk => hk.2) (.bool t337)) (fun _ hk => hk.2) (.bool t338)) (fun _ hk => hk.2) (.slice Ao36 t339.length co36)) (fun _ hk => hk.2) (.slice Ao37 t342.length co37)) (fun _ h_ => h_.1))) hb); have n5_ := Aside0.mk (Kd.N_lower (Kd.N_mono (ok' := fun k_ => some k_ ≠ (.slice Ao19 t324.length co19 : Value).ownBlock ∧ some k_ ≠ (.slice Ao26 t331.length co26 : Value).ownBlock ∧ some k_ ≠ (.slice Ao39 t334.length co39 : Value).ownBlock ∧ some k_ ≠ (.slice Ao36 t339.length co36 : Value).ownBlock ∧ some k_ ≠ (.slice Ao37 t342.length co37 : Value).ownBlock ∧ k_ ≠ gb321 ∧ k_ ≠ gb322 ∧ k_ ≠ gb330 ∧ k_ ≠ gb345) (Kd.S_N (Kd.S_bound ho0)) (fun k_ hk_ => ⟨(Kd.fresh' (Kd.R_lt (by (with_reducible repeat (first | apply Kd.R_alloc | apply Kd.R_drewN | apply Kd.R_drew)); exact (Kd.R_mono (Kd.R_far (p := ⟨gb345, 3, none⟩) (Kd.R_far (p := ⟨gb345, 2, none⟩) (Kd.R_far (p := ⟨gb345, 1, none⟩) (Kd.R_far (p := ⟨gb345, 0, none⟩) (Kd.R_types HO326.out BK345.out (by decide)) (fun _ hk => hk.2) (.bool t337)) (fun _ hk => hk.2) (.bool t338)) (fun _ hk => hk.2) (.slice Ao36 t339.length co36)) (fun _ hk => hk.2) (.slice Ao37 t342.length co37)) (fun _ h_ => h_.1)))) k_ hk_.2.1), (Kd.fresh' (Kd.N_lt (by (with_reducible repeat (first | apply Kd.N_alloc | apply Kd.N_drewN | apply Kd.N_drew)); exact (Kd.N_mono (Kd.N_far (p := ⟨gb345, 3, none⟩) (Kd.N_far (p := ⟨gb345, 2, none⟩) (Kd.N_far (p := ⟨gb345, 1, none⟩) (Kd.N_far (p := ⟨gb345, 0, none⟩) (Kd.N_mono HO333.out (fun k_ hk => (⟨hk, hk.2⟩ : _ ∧ k_ ≠ gb345))) (fun _ hk => hk.2) (.bool t337)) (fun _ hk => hk.2) (.bool t338)) (fun _ hk => hk.2) (.slice Ao36 t339.length co36)) (fun _ hk => hk.2) (.slice Ao37 t342.length co37)) (fun _ h_ => h_.1)))) k_ hk_.2.1), (Kd.fresh' (Kd.N_lt (by (with_reducible repeat (first | apply Kd.N_alloc | apply Kd.N_drewN | apply Kd.N_drew)); exact (Kd.N_mono (Kd.N_far (p := ⟨gb345, 3, none⟩) (Kd.N_far (p := ⟨gb345, 2, none⟩) (Kd.N_far (p := ⟨gb345, 1, none⟩) (Kd.N_far (p := ⟨gb345, 0, none⟩) (Kd.N_mono HO336.out (fun k_ hk => (⟨hk, hk.2⟩ : _ ∧ k_ ≠ gb345))) (fun _ hk => hk.2) (.bool t337)) (fun _ hk => hk.2) (.bool t338)) (fun _ hk => hk.2) (.slice Ao36 t339.length co36)) (fun _ hk => hk.2) (.slice Ao37 t342.length co37)) (fun _ h_ => h_.1)))) k_ hk_.2.1), (Kd.fresh' (Kd.R_lt (by (with_reducible repeat (first | apply Kd.R_alloc | apply Kd.R_drewN | apply Kd.R_drew)); exact (Kd.R_mono (Kd.R_far (p := ⟨gb345, 3, none⟩) (Kd.R_far (p := ⟨gb345, 2, none⟩) (Kd.R_far (p := ⟨gb345, 1, none⟩) (Kd.R_far (p := ⟨gb345, 0, none⟩) (Kd.R_types HO341.out BK345.out (by decide)) (fun _ hk => hk.2) (.bool t337)) (fun _ hk => hk.2) (.bool t338)) (fun _ hk => hk.2) (.slice Ao36 t339.length co36)) (fun _ hk => hk.2) (.slice Ao37 t342.length co37)) (fun _ h_ => h_.1)))) k_ hk_.2.1), (Kd.fresh' (Kd.R_lt (by (with_reducible repeat (first | apply Kd.R_alloc | apply Kd.R_drewN | apply Kd.R_drew)); exact (Kd.R_mono (Kd.R_far (p := ⟨gb345, 3, none⟩) (Kd.R_far (p := ⟨gb345, 2, none⟩) (Kd.R_far (p := ⟨gb345, 1, none⟩) (Kd.R_far (p := ⟨gb345, 0, none⟩) (Kd.R_types HO344.out BK345.out (by decide)) (fun _ hk => hk.2) (.bool t337)) (fun _ hk => hk.2) (.bool t338)) (fun _ hk => hk.2) (.slice Ao36 t339.length co36)) (fun _ hk => hk.2) (.slice Ao37 t342.length co37)) (fun _ h_ => h_.1)))) k_ hk_.2.1), (Kd.freshB (g := gb321) (o := .cells #[.int .u8 a0_0, .int .u8 a0_1, .int .u8 a0_2, .int .u8 a0_3, .int .u8 a0_4, .int .u8 a0_5, .int .u8 a0_6, .int .u8 a0_7, .int .u8 a0_8, .int .u8 a0_9, .int .u8 a0_10, .int .u8 a0_11] 24 (0, 0)) (by (with_reducible repeat (first | refine blk_drewN ?_ _ | refine blk_drew ?_ | refine blk_alloc ?_ _)); refine blk_far ?_ NB321_345.out _; (with_reducible repeat (first | refine blk_drewN ?_ _ | refine blk_drew ?_ | refine blk_alloc ?_ _)); refine blk_far ?_ NB321_345.out _; (with_reducible repeat (first | refine blk_drewN ?_ _ | refine blk_drew ?_ | refine blk_alloc ?_ _)); refine blk_far ?_ NB321_345.out _; (with_reducible repeat (first | refine blk_drewN ?_ _ | refine blk_drew ?_ | refine blk_alloc ?_ _)); refine blk_far ?_ NB321_345.out _; (with_reducible repeat (first | refine blk_drewN ?_ _ | refine blk_drew ?_ | refine blk_alloc ?_ _)); exact BK321.out) k_ hk_.2.1), (Kd.freshB (g := gb322) (o := .cells #[.bool a2_0, .bool a2_1, .slice A2_2 l2_2.length c2_2, .slice A2_3 l2_3.length c2_3] 29 (0, 0)) (by (with_reducible repeat (first | refine blk_drewN ?_ _ | refine blk_drew ?_ | refine blk_alloc ?_ _)); refine blk_far ?_ NB322_345.out _; (with_reducible repeat (first | refine blk_drewN ?_ _ | refine blk_drew ?_ | refine blk_alloc ?_ _)); refine blk_far ?_ NB322_345.out _; (with_reducible repeat (first | refine blk_drewN ?_ _ | refine blk_drew ?_ | refine blk_alloc ?_ _)); refine blk_far ?_ NB322_345.out _; (with_reducible repeat (first | refine blk_drewN ?_ _ | refine blk_drew ?_ | refine blk_alloc ?_ _)); refine blk_far ?_ NB322_345.out _; (with_reducible repeat (first | refine blk_drewN ?_ _ | refine blk_drew ?_ | refine blk_alloc ?_ _)); exact BK322.out) k_ hk_.2.1), (Kd.freshB (g := gb330) (o := .cells #[.slice Ao19 t324.length co19, .int .i64 t327, .int .i64 t328, .int .i64 t329] 33 (0, 0)) (by (with_reducible repeat (first | refine blk_drewN ?_ _ | refine blk_drew ?_ | refine blk_alloc ?_ _)); refine blk_far ?_ NB330_345.out _; (with_reducible repeat (first | refine blk_drewN ?_ _ | refine blk_drew ?_ | refine blk_alloc ?_ _)); refine blk_far ?_ NB330_345.out _; (with_reducible repeat (first | refine blk_drewN ?_ _ | refine blk_drew ?_ | refine blk_alloc ?_ _)); refine blk_far ?_ NB330_345.out _; (with_reducible repeat (first | refine blk_drewN ?_ _ | refine blk_drew ?_ | refine blk_alloc ?_ _)); refine blk_far ?_ NB330_345.out _; (with_reducible repeat (first | refine blk_drewN ?_ _ | refine blk_drew ?_ | refine blk_alloc ?_ _)); exact BK330.out) k_ hk_.2.1), (Kd.freshB (g := gb345) (o := .cells #[.bool t337, .bool t338, .slice Ao36 t339.length co36, .slice Ao37 t342.length co37] 29 (0, 0)) (by (with_reducible repeat (first | refine blk_drewN ?_ _ | refine blk_drew ?_ | refine blk_alloc ?_ _)); refine blk_put (cs := #[.bool t337, .bool t338, .slice Ao36 t339.length co36, .slice none 0 0]) ?_ 3 _ rfl; (with_reducible repeat (first | refine blk_drewN ?_ _ | refine blk_drew ?_ | refine blk_alloc ?_ _)); refine blk_put (cs := #[.bool t337, .bool t338, .slice none 0 0, .slice none 0 0]) ?_ 2 _ rfl; (with_reducible repeat (first | refine blk_drewN ?_ _ | refine blk_drew ?_ | refine blk_alloc ?_ _)); refine blk_put (cs := #[.bool t337, .bool false, .slice none 0 0, .slice none 0 0]) ?_ 1 _ rfl; (with_reducible repeat (first | refine blk_drewN ?_ _ | refine blk_drew ?_ | refine blk_alloc ?_ _)); refine blk_put (cs := #[.bool false, .bool false, .slice none 0 0, .slice none 0 0]) ?_ 0 _ rfl; (with_reducible repeat (first | refine blk_drewN ?_ _ | refine blk_drew ?_ | refine blk_alloc ?_ _)); exact BK345.out) k_ hk_.2.1)⟩)) (below_size (by repeat (first | (with_reducible first | exact HB.out | apply below_alloc | apply pw_below_drewN | apply below_drew1 | refine below_set ?_ GE321.out | refine below_set ?_ GE322.out | refine below_set ?_ GE330.out | refine below_set ?_ GE345.out) | exact HB.out)))); have n6_ := Aside0.mk (blk_below (g := gb321) (o := .cells #[.int .u8 a0_0, .int .u8 a0_1, .int .u8 a0_2, .int .u8 a0_3, .int .u8 a0_4, .int .u8 a0_5, .int .u8 a0_6, .int .u8 a0_7, .int .u8 a0_8, .int .u8 a0_9, .int .u8 a0_10, .int .u8 a0_11] 24 (0, 0)) (by (with_reducible repeat (first | refine blk_drewN ?_ _ | refine blk_drew ?_ | refine blk_alloc ?_ _)); refine blk_far ?_ NB321_345.out _; (with_reducible repeat (first | refine blk_drewN ?_ _ | refine blk_drew ?_ | refine blk_alloc ?_ _)); refine blk_far ?_ NB321_345.out _; (with_reducible repeat (first | refine blk_drewN ?_ _ | refine blk_drew ?_ | refine blk_alloc ?_ _)); refine blk_far ?_ NB321_345.out _; (with_reducible repeat (first | refine blk_drewN ?_ _ | refine blk_drew ?_ | refine blk_alloc ?_ _)); refine blk_far ?_ NB321_345.out _; (with_reducible repeat (first | refine blk_drewN ?_ _ | refine blk_drew ?_ | refine blk_alloc ?_ _)); exact BK321.out) hb); have n7_ := Aside0.mk (blk_below (g := gb322) (o := .cells #[.bool a2_0, .bool a2_1, .slice A2_2 l2_2.length c2_2, .slice A2_3 l2_3.length c2_3] 29 (0, 0)) (by (with_reducible repeat (first | refine blk_drewN ?_ _ | refine blk_drew ?_ | refine blk_alloc ?_ _)); refine blk_far ?_ NB322_345.out _; (with_reducible repeat (first | refine blk_drewN ?_ _ | refine blk_drew ?_ | refine blk_alloc ?_ _)); refine blk_far ?_ NB322_345.out _; (with_reducible repeat (first | refine blk_drewN ?_ _ | refine blk_drew ?_ | refine blk_alloc ?_ _)); refine blk_far ?_ NB322_345.out _; (with_reducible repeat (first | refine blk_drewN ?_ _ | refine blk_drew ?_ | refine blk_alloc ?_ _)); refine blk_far ?_ NB322_345.out _; (with_reducible repeat (first | refine blk_drewN ?_ _ | refine blk_drew ?_ | refine blk_alloc ?_ _)); exact BK322.out) hb); have n8_ := Aside0.mk (blk_below (g := gb330) (o := .cells #[.slice Ao19 t324.length co19, .int .i64 t327, .int .i64 t328, .int .i64 t329] 33 (0, 0)) (by (with_reducible repeat (first | refine blk_drewN ?_ _ | refine blk_drew ?_ | refine blk_alloc ?_ _)); refine blk_far ?_ NB330_345.out _; (with_reducible repeat (first | refine blk_drewN ?_ _ | refine blk_drew ?_ | refine blk_alloc ?_ _)); refine blk_far ?_ NB330_345.out _; (with_reducible repeat (first | refine blk_drewN ?_ _ | refine blk_drew ?_ | refine blk_alloc ?_ _)); refine blk_far ?_ NB330_345.out _; (with_reducible repeat (first | refine blk_drewN ?_ _ | refine blk_drew ?_ | refine blk_alloc ?_ _)); refine blk_far ?_ NB330_345.out _; (with_reducible repeat (first | refine blk_drewN ?_ _ | refine blk_drew ?_ | refine blk_alloc ?_ _)); exact BK330.out) hb); have n9_ := Aside0.mk (blk_below (g := gb345) (o := .cells #[.bool t337, .bool t338, .slice Ao36 t339.length co36, .slice Ao37 t342.length co37] 29 (0, 0)) (by (with_reducible repeat (first | refine blk_drewN ?_ _ | refine blk_drew ?_ | refine blk_alloc ?_ _)); refine blk_put (cs := #[.bool t337, .bool t338, .slice Ao36 t339.length co36, .slice none 0 0]) ?_ 3 _ rfl; (with_reducible repeat (first | refine blk_drewN ?_ _ | refine blk_drew ?_ | refine blk_alloc ?_ _)); refine blk_put (cs := #[.bool t337, .bool t338, .slice none 0 0, .slice none 0 0]) ?_ 2 _ rfl; (with_reducible repeat (first | refine blk_drewN ?_ _ | refine blk_drew ?_ | refine blk_alloc ?_ _)); refine blk_put (cs := #[.bool t337, .bool false, .slice none 0 0, .slice none 0 0]) ?_ 1 _ rfl; (with_reducible repeat (first | refine blk_drewN ?_ _ | refine blk_drew ?_ | refine blk_alloc ?_ _)); refine blk_put (cs := #[.bool false, .bool false, .slice none 0 0, .slice none 0 0]) ?_ 0 _ rfl; (with_reducible repeat (first | refine blk_drewN ?_ _ | refine blk_drew ?_ | refine blk_alloc ?_ _)); exact BK345.out) hb); have n10_ := Aside0.mk (below_step (by repeat (first | (with_reducible first | exact HB.out | apply below_alloc | apply pw_below_drewN | apply below_drew1 | refine below_set ?_ GE321.out | refine below_set ?_ GE322.out | refine below_set ?_ GE330.out | refine below_set ?_ GE345.out) | exact HB.out)) hb); clear HO326; clear HO333; clear HO336; clear HO341; clear HO344; clear BK321; clear BK322; clear BK330; clear BK345; clear HB; have HO326 := n0_; have HO333 := n1_; have HO336 := n2_; have HO341 := n3_; have HO344 := n4_; have HO348 := n5_; have BK321 := n6_; have BK322 := n7_; have BK330 := n8_; have BK345 := n9_; have HB := n10_; clear n0_ n1_ n2_ n3_ n4_ n5_ n6_ n7_ n8_ n9_ n10_; (try clear hb); (try clear hb2); (try clear hk); (try clear hi); (try clear ho0); have hcz41_0 : w40.cell? ⟨gb330, 0, none⟩ = some (.slice Ao19 t324.length co19) := (blk_cell BK330.out 0).trans rfl; have hcz41_1 : w40.cell? ⟨gb330, 1, none⟩ = some (.int .i64 t327) := (blk_cell BK330.out 1).trans rfl; have hcz41_2 : w40.cell? ⟨gb330, 2, none⟩ = some (.int .i64 t328) := (blk_cell BK330.out 2).trans rfl; have hcz41_3 : w40.cell? ⟨gb330, 3, none⟩ = some (.int .i64 t329) := (blk_cell BK330.out 3).trans rfl; have hfz41_0 := blk_frozen BK330.out 0; have hfz41_1 := blk_frozen BK330.out 1; have hfz41_2 := blk_frozen BK330.out 2; have hfz41_3 := blk_frozen BK330.out 3; have hcz42_0 : w40.cell? ⟨gb345, 0, none⟩ = some (.bool t337) := (blk_cell BK345.out 0).trans rfl; have hcz42_1 : w40.cell? ⟨gb345, 1, none⟩ = some (.bool t338) := (blk_cell BK345.out 1).trans rfl; have hcz42_2 : w40.cell? ⟨gb345, 2, none⟩ = some (.slice Ao36 t339.length co36) := (blk_cell BK345.out 2).trans rfl; have hcz42_3 : w40.cell? ⟨gb345, 3, none⟩ = some (.slice Ao37 t342.length co37) := (blk_cell BK345.out 3).trans rfl; have hfz42_0 := blk_frozen BK345.out 0; have hfz42_1 := blk_frozen BK345.out 1; have hfz42_2 := blk_frozen BK345.out 2; have hfz42_3 := blk_frozen BK345.out 3; obtain ⟨Ao43, co43, eo43⟩ := Kd.N_slice HO348.out; subst eo43) | ((with_reducible refine gate_callee (f := 15) rfl ?_); refine goesL_ (some 36) rfl rfl Try.func15 (by kernel_rfl) rfl #[.agg #[.slice Ao19 t324.length co19, .int .i64 t327, .int .i64 t328, .int .i64 t329], .slice Ao43 t346.length co43, .agg #[.bool t337, .bool t338, .slice Ao36 t339.length co36, .slice Ao37 t342.length co37]] rfl (by (try simp only [List.map_toArray, List.map_cons, List.map_nil]); first | done | rfl | (simp only [List.length_drop, List.length_take]; rfl)) ?_; (with_reducible refine (index_Meets.calls k _ _ t324 t327 t328 t329 _ _ t346 t337 t338 _ _ t339 _ _ t342 t349 t350 _ ?side1 ?side2 ?side3 ?side4 ?side5 ?side6 ?side7 ?side8 A10.out).mono ?_); (case side1 => repeat (first | exact (Kd.R_reads' HO326.out).2.2 | (with_reducible refine Kd.C_alloc ?_ _) | (with_reducible refine Kd.C_drewN ?_ _) | (with_reducible refine Kd.C_drew ?_))); (case side2 => exact (Kd.R_reads' HO326.out).2.1); (case side3 => repeat (first | exact (Kd.N_reads' HO348.out).2.2 | (with_reducible refine Kd.C_alloc ?_ _) | (with_reducible refine Kd.C_drewN ?_ _) | (with_reducible refine Kd.C_drew ?_))); (case side4 => exact (Kd.N_reads' HO348.out).2.1); (case side5 => repeat (first | exact (Kd.R_reads' HO341.out).2.2 | (with_reducible refine Kd.C_alloc ?_ _) | (with_reducible refine Kd.C_drewN ?_ _) | (with_reducible refine Kd.C_drew ?_))); (case side6 => exact (Kd.R_reads' HO341.out).2.1); (case side7 => repeat (first | exact (Kd.R_reads' HO344.out).2.2 | (with_reducible refine Kd.C_alloc ?_ _) | (with_reducible refine Kd.C_drewN ?_ _) | (with_reducible refine Kd.C_drew ?_))); (case side8 => exact (Kd.R_reads' HO344.out).2.1); rintro e w44 ⟨rfl, hb⟩; refine ⟨_, rfl, ?_⟩; have n0_ := Aside0.mk (Kd.R_below (by (with_reducible repeat (first | apply Kd.R_alloc | apply Kd.R_drewN | apply Kd.R_drew)); exact HO326.out) hb); have n1_ := Aside0.mk (Kd.N_below (by (with_reducible repeat (first | apply Kd.N_alloc | apply Kd.N_drewN | apply Kd.N_drew)); exact HO333.out) hb); have n2_ := Aside0.mk (Kd.N_below (by (with_reducible repeat (first | apply Kd.N_alloc | apply Kd.N_drewN | apply Kd.N_drew)); exact HO336.out) hb); have n3_ := Aside0.mk (Kd.R_below (by (with_reducible repeat (first | apply Kd.R_alloc | apply Kd.R_drewN | apply Kd.R_drew)); exact HO341.out) hb); have n4_ := Aside0.mk (Kd.R_below (by (with_reducible repeat (first | apply Kd.R_alloc | apply Kd.R_drewN | apply Kd.R_drew)); exact HO344.out) hb); have n5_ := Aside0.mk (Kd.N_below (by (with_reducible repeat (first | apply Kd.N_alloc | apply Kd.N_drewN | apply Kd.N_drew)); exact HO348.out) hb); have n6_ := Aside0.mk (blk_below (g := gb321) (o := .cells #[.int .u8 a0_0, .int .u8 a0_1, .int .u8 a0_2, .int .u8 a0_3, .int .u8 a0_4, .int .u8 a0_5, .int .u8 a0_6, .int .u8 a0_7, .int .u8 a0_8, .int .u8 a0_9, .int .u8 a0_10, .int .u8 a0_11] 24 (0, 0)) (by (with_reducible repeat (first | refine blk_drewN ?_ _ | refine blk_drew ?_ | refine blk_alloc ?_ _)); exact BK321.out) hb); have n7_ := Aside0.mk (blk_below (g := gb322) (o := .cells #[.bool a2_0, .bool a2_1, .slice A2_2 l2_2.length c2_2, .slice A2_3 l2_3.length c2_3] 29 (0, 0)) (by (with_reducible repeat (first | refine blk_drewN ?_ _ | refine blk_drew ?_ | refine blk_alloc ?_ _)); exact BK322.out) hb); have n8_ := Aside0.mk (blk_below (g := gb330) (o := .cells #[.slice Ao19 t324.length co19, .int .i64 t327, .int .i64 t328, .int .i64 t329] 33 (0, 0)) (by (with_reducible repeat (first | refine blk_drewN ?_ _ | refine blk_drew ?_ | refine blk_alloc ?_ _)); exact BK330.out) hb); have n9_ := Aside0.mk (blk_below (g := gb345) (o := .cells #[.bool t337, .bool t338, .slice Ao36 t339.length co36, .slice Ao37 t342.length co37] 29 (0, 0)) (by (with_reducible repeat (first | refine blk_drewN ?_ _ | refine blk_drew ?_ | refine blk_alloc ?_ _)); exact BK345.out) hb); have n10_ := Aside0.mk (below_step (by repeat (first | (with_reducible first | exact HB.out | apply below_alloc | apply pw_below_drewN | apply below_drew1 | refine below_set ?_ GE321.out | refine below_set ?_ GE322.out | refine below_set ?_ GE330.out | refine below_set ?_ GE345.out) | exact HB.out)) hb); clear HO326; clear HO333; clear HO336; clear HO341; clear HO344; clear HO348; clear BK321; clear BK322; clear BK330; clear BK345; clear HB; have HO326 := n0_; have HO333 := n1_; have HO336 := n2_; have HO341 := n3_; have HO344 := n4_; have HO348 := n5_; have BK321 := n6_; have BK322 := n7_; have BK330 := n8_; have BK345 := n9_; have HB := n10_; clear n0_ n1_ n2_ n3_ n4_ n5_ n6_ n7_ n8_ n9_ n10_; (try clear hb); (try clear hb2); (try clear hk); (try clear hi)))
 (try simp only [Act.put, List.setIfInBounds_toArray, List.set_cons_zero, List.set_cons_succ])
 go_cut [51] (fun v51 wc => ∃ (kq : Nat) (x51_10 : Bool), v51 = .bool x51_10 ∧ Aside0 (thresherlaw12_IndexFinds.j0 kq t323 t334 t346 t349 t350 x51_10 t324 t327 t328 t329 t337 t338 t339 t342 = some r) ∧ Aside0 (kq ≤ k) ∧ Aside0 (Kd.N (Kd.slice 44 k44) 27 wc w.heap.size (fun k_ => some k_ ≠ ((.slice Ao43 t346.length co43) : Value).ownBlock ∧ some k_ ≠ ((.slice Ao19 t324.length co19) : Value).ownBlock ∧ some k_ ≠ ((.slice Ao36 t339.length co36) : Value).ownBlock ∧ some k_ ≠ ((.slice Ao37 t342.length co37) : Value).ownBlock ∧ k_ ≠ gb321 ∧ k_ ≠ gb322 ∧ k_ ≠ gb330 ∧ k_ ≠ gb345) (.slice Ao39 t334.length co39) t334) ∧ Aside0 (Kd.N (Kd.slice 44 k44) 27 wc w.heap.size (fun k_ => some k_ ≠ ((.slice Ao39 t334.length co39) : Value).ownBlock ∧ some k_ ≠ ((.slice Ao19 t324.length co19) : Value).ownBlock ∧ some k_ ≠ ((.slice Ao36 t339.length co36) : Value).ownBlock ∧ some k_ ≠ ((.slice Ao37 t342.length co37) : Value).ownBlock ∧ k_ ≠ gb321 ∧ k_ ≠ gb322 ∧ k_ ≠ gb330 ∧ k_ ≠ gb345) (.slice Ao43 t346.length co43) t346) ∧ Aside0 (Kd.R (Kd.int .i64) 3 wc w.heap.size (fun _ => True) (.slice Ao19 t324.length co19) t324) ∧ Aside0 (Kd.R k44 44 wc w.heap.size (fun k_ => some k_ ≠ ((.slice Ao37 t342.length co37) : Value).ownBlock) (.slice Ao36 t339.length co36) t339) ∧ Aside0 (Kd.R k44 44 wc w.heap.size (fun k_ => some k_ ≠ ((.slice Ao36 t339.length co36) : Value).ownBlock) (.slice Ao37 t342.length co37) t342) ∧ Aside0 (wc.heap[gb321]? = some (.cells #[.int .u8 a0_0, .int .u8 a0_1, .int .u8 a0_2, .int .u8 a0_3, .int .u8 a0_4, .int .u8 a0_5, .int .u8 a0_6, .int .u8 a0_7, .int .u8 a0_8, .int .u8 a0_9, .int .u8 a0_10, .int .u8 a0_11] 24 (0, 0))) ∧ Aside0 (wc.heap[gb322]? = some (.cells #[.bool a2_0, .bool a2_1, (.slice A2_2 l2_2.length c2_2), (.slice A2_3 l2_3.length c2_3)] 29 (0, 0))) ∧ Aside0 (wc.heap[gb330]? = some (.cells #[(.slice Ao19 t324.length co19), .int .i64 t327, .int .i64 t328, .int .i64 t329] 33 (0, 0))) ∧ Aside0 (wc.heap[gb345]? = some (.cells #[.bool t337, .bool t338, (.slice Ao36 t339.length co36), (.slice Ao37 t342.length co37)] 29 (0, 0))) ∧ Aside0 (Below w.heap.size w wc))
 case first =>
  have H := HC11.out
  clear HC11
  by_cases c45 : t349 < 0
  ·rw [if_pos c45] at H
   have c45b0 : decide (t349 < 0) = true := decide_eq_true c45
   clear c45
   (first | rw [c45b0] | (simp only [i64_w, i32_w]; rw [c45b0]) | skip)
   have H' := Aside0.mk H
   clear H
   go_wp2
   go_meet
   case rel => exact ⟨_, (true), (by first | rfl | (simp; done) | (simp [*]; done)), (by first | exact H' | (subst_vars; exact H')), ⟨by first | omega | exact Nat.le_refl _⟩, ⟨by (with_reducible repeat (first | apply Kd.N_alloc | apply Kd.N_drewN | apply Kd.N_drew)); exact Kd.N_mono HO336.out (fun _ hk => ⟨hk.2, ⟨hk.1.1.1.1.1, ⟨hk.1.1.1.2, ⟨hk.1.1.2, ⟨hk.1.1.1.1.2.1, ⟨hk.1.1.1.1.2.2.1, ⟨hk.1.1.1.1.2.2.2, hk.1.2⟩⟩⟩⟩⟩⟩⟩)⟩, ⟨by (with_reducible repeat (first | apply Kd.N_alloc | apply Kd.N_drewN | apply Kd.N_drew)); exact Kd.N_mono HO348.out (fun _ hk => ⟨hk.2.2.1, ⟨hk.1, ⟨hk.2.2.2.1, ⟨hk.2.2.2.2.1, ⟨hk.2.2.2.2.2.1, ⟨hk.2.2.2.2.2.2.1, ⟨hk.2.2.2.2.2.2.2.1, hk.2.2.2.2.2.2.2.2⟩⟩⟩⟩⟩⟩⟩)⟩, ⟨by (with_reducible repeat (first | apply Kd.R_alloc | apply Kd.R_drewN | apply Kd.R_drew)); exact HO326.out⟩, ⟨by (with_reducible repeat (first | apply Kd.R_alloc | apply Kd.R_drewN | apply Kd.R_drew)); exact HO341.out⟩, ⟨by (with_reducible repeat (first | apply Kd.R_alloc | apply Kd.R_drewN | apply Kd.R_drew)); exact HO344.out⟩, ⟨by (with_reducible repeat (first | refine blk_drewN ?_ _ | refine blk_drew ?_ | refine blk_alloc ?_ _)); exact BK321.out⟩, ⟨by (with_reducible repeat (first | refine blk_drewN ?_ _ | refine blk_drew ?_ | refine blk_alloc ?_ _)); exact BK322.out⟩, ⟨by (with_reducible repeat (first | refine blk_drewN ?_ _ | refine blk_drew ?_ | refine blk_alloc ?_ _)); exact BK330.out⟩, ⟨by (with_reducible repeat (first | refine blk_drewN ?_ _ | refine blk_drew ?_ | refine blk_alloc ?_ _)); exact BK345.out⟩, ⟨by repeat (first | (with_reducible first | exact HB.out | apply below_alloc | apply pw_below_drewN | apply below_drew1 | refine below_set ?_ GE321.out | refine below_set ?_ GE322.out | refine below_set ?_ GE330.out | refine below_set ?_ GE345.out) | exact HB.out)⟩⟩
  ·rw [if_neg c45] at H
   have c45b0 : decide (t349 < 0) = false := decide_eq_false c45
   clear c45
   (first | rw [c45b0] | (simp only [i64_w, i32_w]; rw [c45b0]) | skip)
   by_cases c46 : t349 > t350
   ·rw [if_pos c46] at H
    have c46b0 : decide (t350 < t349) = true := decide_eq_true c46
    clear c46
    have H' := Aside0.mk H
    clear H
    go_wp2
    go_meet
    case rel => exact ⟨_, (true), (by first | rfl | (simp; done) | (simp [*]; done)), (by first | exact H' | (subst_vars; exact H')), ⟨by first | omega | exact Nat.le_refl _⟩, ⟨by (with_reducible repeat (first | apply Kd.N_alloc | apply Kd.N_drewN | apply Kd.N_drew)); exact Kd.N_mono HO336.out (fun _ hk => ⟨hk.2, ⟨hk.1.1.1.1.1, ⟨hk.1.1.1.2, ⟨hk.1.1.2, ⟨hk.1.1.1.1.2.1, ⟨hk.1.1.1.1.2.2.1, ⟨hk.1.1.1.1.2.2.2, hk.1.2⟩⟩⟩⟩⟩⟩⟩)⟩, ⟨by (with_reducible repeat (first | apply Kd.N_alloc | apply Kd.N_drewN | apply Kd.N_drew)); exact Kd.N_mono HO348.out (fun _ hk => ⟨hk.2.2.1, ⟨hk.1, ⟨hk.2.2.2.1, ⟨hk.2.2.2.2.1, ⟨hk.2.2.2.2.2.1, ⟨hk.2.2.2.2.2.2.1, ⟨hk.2.2.2.2.2.2.2.1, hk.2.2.2.2.2.2.2.2⟩⟩⟩⟩⟩⟩⟩)⟩, ⟨by (with_reducible repeat (first | apply Kd.R_alloc | apply Kd.R_drewN | apply Kd.R_drew)); exact HO326.out⟩, ⟨by (with_reducible repeat (first | apply Kd.R_alloc | apply Kd.R_drewN | apply Kd.R_drew)); exact HO341.out⟩, ⟨by (with_reducible repeat (first | apply Kd.R_alloc | apply Kd.R_drewN | apply Kd.R_drew)); exact HO344.out⟩, ⟨by (with_reducible repeat (first | refine blk_drewN ?_ _ | refine blk_drew ?_ | refine blk_alloc ?_ _)); exact BK321.out⟩, ⟨by (with_reducible repeat (first | refine blk_drewN ?_ _ | refine blk_drew ?_ | refine blk_alloc ?_ _)); exact BK322.out⟩, ⟨by (with_reducible repeat (first | refine blk_drewN ?_ _ | refine blk_drew ?_ | refine blk_alloc ?_ _)); exact BK330.out⟩, ⟨by (with_reducible repeat (first | refine blk_drewN ?_ _ | refine blk_drew ?_ | refine blk_alloc ?_ _)); exact BK345.out⟩, ⟨by repeat (first | (with_reducible first | exact HB.out | apply below_alloc | apply pw_below_drewN | apply below_drew1 | refine below_set ?_ GE321.out | refine below_set ?_ GE322.out | refine below_set ?_ GE330.out | refine below_set ?_ GE345.out) | exact HB.out)⟩⟩
   ·rw [if_neg c46] at H
    have c46b0 : decide (t350 < t349) = false := decide_eq_false c46
    clear c46
    have H' := Aside0.mk H
    clear H
    go_wp2
    go_meet
    case rel => exact ⟨_, (decide (t350 > (t346.length : Int))), (by first | rfl | (simp; done) | (simp [*]; done)), (by first | exact H' | (subst_vars; exact H')), ⟨by first | omega | exact Nat.le_refl _⟩, ⟨by (with_reducible repeat (first | apply Kd.N_alloc | apply Kd.N_drewN | apply Kd.N_drew)); exact Kd.N_mono HO336.out (fun _ hk => ⟨hk.2, ⟨hk.1.1.1.1.1, ⟨hk.1.1.1.2, ⟨hk.1.1.2, ⟨hk.1.1.1.1.2.1, ⟨hk.1.1.1.1.2.2.1, ⟨hk.1.1.1.1.2.2.2, hk.1.2⟩⟩⟩⟩⟩⟩⟩)⟩, ⟨by (with_reducible repeat (first | apply Kd.N_alloc | apply Kd.N_drewN | apply Kd.N_drew)); exact Kd.N_mono HO348.out (fun _ hk => ⟨hk.2.2.1, ⟨hk.1, ⟨hk.2.2.2.1, ⟨hk.2.2.2.2.1, ⟨hk.2.2.2.2.2.1, ⟨hk.2.2.2.2.2.2.1, ⟨hk.2.2.2.2.2.2.2.1, hk.2.2.2.2.2.2.2.2⟩⟩⟩⟩⟩⟩⟩)⟩, ⟨by (with_reducible repeat (first | apply Kd.R_alloc | apply Kd.R_drewN | apply Kd.R_drew)); exact HO326.out⟩, ⟨by (with_reducible repeat (first | apply Kd.R_alloc | apply Kd.R_drewN | apply Kd.R_drew)); exact HO341.out⟩, ⟨by (with_reducible repeat (first | apply Kd.R_alloc | apply Kd.R_drewN | apply Kd.R_drew)); exact HO344.out⟩, ⟨by (with_reducible repeat (first | refine blk_drewN ?_ _ | refine blk_drew ?_ | refine blk_alloc ?_ _)); exact BK321.out⟩, ⟨by (with_reducible repeat (first | refine blk_drewN ?_ _ | refine blk_drew ?_ | refine blk_alloc ?_ _)); exact BK322.out⟩, ⟨by (with_reducible repeat (first | refine blk_drewN ?_ _ | refine blk_drew ?_ | refine blk_alloc ?_ _)); exact BK330.out⟩, ⟨by (with_reducible repeat (first | refine blk_drewN ?_ _ | refine blk_drew ?_ | refine blk_alloc ?_ _)); exact BK345.out⟩, ⟨by repeat (first | (with_reducible first | exact HB.out | apply below_alloc | apply pw_below_drewN | apply below_drew1 | refine below_set ?_ GE321.out | refine below_set ?_ GE322.out | refine below_set ?_ GE330.out | refine below_set ?_ GE345.out) | exact HB.out)⟩⟩
 case rest =>
  clear HC11
  try clear c1
  try clear c2
  try clear p2
  try clear c3
  try clear c4
  try clear c7
  try clear c8
  try clear c9
  try clear c10
  try clear c11
  try clear c14
  try clear c15
  try clear c20
  try clear c21
  try clear c32
  try clear c33
  try clear c34
  try clear c45
  try clear c45b0
  try clear c46
  try clear c46b0
  try clear hcz16_0
  try clear hcz16_1
  try clear hcz16_10
  try clear hcz16_11
  try clear hcz16_2
  try clear hcz16_3
  try clear hcz16_4
  try clear hcz16_5
  try clear hcz16_6
  try clear hcz16_7
  try clear hcz16_8
  try clear hcz16_9
  try clear hcz22_0
  try clear hcz22_1
  try clear hcz22_2
  try clear hcz22_3
  try clear hcz28_0
  try clear hcz28_1
  try clear hcz28_2
  try clear hcz28_3
  try clear hcz29_0
  try clear hcz29_1
  try clear hcz29_2
  try clear hcz29_3
  try clear hcz35_0
  try clear hcz35_1
  try clear hcz35_2
  try clear hcz35_3
  try clear hcz38_0
  try clear hcz38_1
  try clear hcz38_2
  try clear hcz38_3
  try clear hcz41_0
  try clear hcz41_1
  try clear hcz41_2
  try clear hcz41_3
  try clear hcz42_0
  try clear hcz42_1
  try clear hcz42_2
  try clear hcz42_3
  try clear hfz16_0
  try clear hfz16_1
  try clear hfz16_10
  try clear hfz16_11
  try clear hfz16_2
  try clear hfz16_3
  try clear hfz16_4
  try clear hfz16_5
  try clear hfz16_6
  try clear hfz16_7
  try clear hfz16_8
  try clear hfz16_9
  try clear hfz22_0
  try clear hfz22_1
  try clear hfz22_2
  try clear hfz22_3
  try clear hfz28_0
  try clear hfz28_1
  try clear hfz28_2
  try clear hfz28_3
  try clear hfz29_0
  try clear hfz29_1
  try clear hfz29_2
  try clear hfz29_3
  try clear hfz35_0
  try clear hfz35_1
  try clear hfz35_2
  try clear hfz35_3
  try clear hfz38_0
  try clear hfz38_1
  try clear hfz38_2
  try clear hfz38_3
  try clear hfz41_0
  try clear hfz41_1
  try clear hfz41_2
  try clear hfz41_3
  try clear hfz42_0
  try clear hfz42_1
  try clear hfz42_2
  try clear hfz42_3
  obtain ⟨kq, x51_10, rfl, HA, HJ10, HO_9, HO_11, HO_331000, HO_346002, HO_346003, BK321, BK322, BK330, BK345, HB⟩ := hcut
  cases kq with
  | zero => exact absurd HA.out (by simp [thresherlaw12_IndexFinds.j0])
  | succ kj10 =>
   have H := HA.out
   clear HA
   simp only [thresherlaw12_IndexFinds.j0] at H
   by_cases c47 : x51_10 = true
   ·subst c47
    have H1 : (some false) = some r := by rw [if_pos rfl] at H; exact H
    clear H
    have H := H1
    clear H1
    obtain rfl := Option.some.inj H
    go_wp2
    go_ret
    exact ⟨by first | rfl | (simp [errW_none, errW_some] <;> rfl) | (simp [*, errW_none, errW_some] <;> rfl), by repeat (first | (with_reducible first | exact HB.out | apply below_alloc | apply pw_below_drewN | apply below_drew1 | refine below_set ?_ GE321.out | refine below_set ?_ GE322.out | refine below_set ?_ GE330.out | refine below_set ?_ GE345.out) | exact HB.out)⟩
   ·replace c47 := Bool.eq_false_iff.mpr c47
    subst c47
    have H1 : (thresherlaw12_IndexFinds.l0 kj10 t323 t334 t346 t349 t350 0 t324 t327 t328 t329 t337 t338 t339 t342) = some r := by rw [if_neg (show ¬ (false = true) by decide)] at H; exact H
    clear H
    have H := H1
    clear H1
    have H' := Aside0.mk H
    clear H
    go_wp2
    go_loopg [14] kj10 (fun kq v14 w' => ∃ (x14_2 : Int), v14 = .int .i64 x14_2 ∧ Aside0 (thresherlaw12_IndexFinds.l0 kq t323 t334 t346 t349 t350 x14_2 t324 t327 t328 t329 t337 t338 t339 t342 = some r) ∧ Aside0 (kq ≤ kj10) ∧ Aside0 (Kd.N (Kd.slice 44 k44) 27 w' w.heap.size (fun k_ => some k_ ≠ ((.slice Ao43 t346.length co43) : Value).ownBlock ∧ some k_ ≠ ((.slice Ao19 t324.length co19) : Value).ownBlock ∧ some k_ ≠ ((.slice Ao36 t339.length co36) : Value).ownBlock ∧ some k_ ≠ ((.slice Ao37 t342.length co37) : Value).ownBlock ∧ k_ ≠ gb321 ∧ k_ ≠ gb322 ∧ k_ ≠ gb330 ∧ k_ ≠ gb345) (.slice Ao39 t334.length co39) t334) ∧ Aside0 (Kd.N (Kd.slice 44 k44) 27 w' w.heap.size (fun k_ => some k_ ≠ ((.slice Ao39 t334.length co39) : Value).ownBlock ∧ some k_ ≠ ((.slice Ao19 t324.length co19) : Value).ownBlock ∧ some k_ ≠ ((.slice Ao36 t339.length co36) : Value).ownBlock ∧ some k_ ≠ ((.slice Ao37 t342.length co37) : Value).ownBlock ∧ k_ ≠ gb321 ∧ k_ ≠ gb322 ∧ k_ ≠ gb330 ∧ k_ ≠ gb345) (.slice Ao43 t346.length co43) t346) ∧ Aside0 (Kd.R (Kd.int .i64) 3 w' w.heap.size (fun _ => True) (.slice Ao19 t324.length co19) t324) ∧ Aside0 (Kd.R k44 44 w' w.heap.size (fun k_ => some k_ ≠ ((.slice Ao37 t342.length co37) : Value).ownBlock) (.slice Ao36 t339.length co36) t339) ∧ Aside0 (Kd.R k44 44 w' w.heap.size (fun k_ => some k_ ≠ ((.slice Ao36 t339.length co36) : Value).ownBlock) (.slice Ao37 t342.length co37) t342) ∧ Aside0 (w'.heap[gb321]? = some (.cells #[.int .u8 a0_0, .int .u8 a0_1, .int .u8 a0_2, .int .u8 a0_3, .int .u8 a0_4, .int .u8 a0_5, .int .u8 a0_6, .int .u8 a0_7, .int .u8 a0_8, .int .u8 a0_9, .int .u8 a0_10, .int .u8 a0_11] 24 (0, 0))) ∧ Aside0 (w'.heap[gb322]? = some (.cells #[.bool a2_0, .bool a2_1, (.slice A2_2 l2_2.length c2_2), (.slice A2_3 l2_3.length c2_3)] 29 (0, 0))) ∧ Aside0 (w'.heap[gb330]? = some (.cells #[(.slice Ao19 t324.length co19), .int .i64 t327, .int .i64 t328, .int .i64 t329] 33 (0, 0))) ∧ Aside0 (w'.heap[gb345]? = some (.cells #[.bool t337, .bool t338, (.slice Ao36 t339.length co36), (.slice Ao37 t342.length co37)] 29 (0, 0))) ∧ Aside0 (Below w.heap.size w w'))
    case atStart => exact ⟨(0), (by first | rfl | (simp; done) | (simp [*]; done)), H', ⟨Nat.le_refl _⟩, ⟨by (with_reducible repeat (first | apply Kd.N_alloc | apply Kd.N_drewN | apply Kd.N_drew)); exact HO_9.out⟩, ⟨by (with_reducible repeat (first | apply Kd.N_alloc | apply Kd.N_drewN | apply Kd.N_drew)); exact HO_11.out⟩, ⟨by (with_reducible repeat (first | apply Kd.R_alloc | apply Kd.R_drewN | apply Kd.R_drew)); exact HO_331000.out⟩, ⟨by (with_reducible repeat (first | apply Kd.R_alloc | apply Kd.R_drewN | apply Kd.R_drew)); exact HO_346002.out⟩, ⟨by (with_reducible repeat (first | apply Kd.R_alloc | apply Kd.R_drewN | apply Kd.R_drew)); exact HO_346003.out⟩, ⟨by (with_reducible repeat (first | refine blk_drewN ?_ _ | refine blk_drew ?_ | refine blk_alloc ?_ _)); exact BK321.out⟩, ⟨by (with_reducible repeat (first | refine blk_drewN ?_ _ | refine blk_drew ?_ | refine blk_alloc ?_ _)); exact BK322.out⟩, ⟨by (with_reducible repeat (first | refine blk_drewN ?_ _ | refine blk_drew ?_ | refine blk_alloc ?_ _)); exact BK330.out⟩, ⟨by (with_reducible repeat (first | refine blk_drewN ?_ _ | refine blk_drew ?_ | refine blk_alloc ?_ _)); exact BK345.out⟩, ⟨by repeat (first | (with_reducible first | exact HB.out | apply below_alloc | apply pw_below_drewN | apply below_drew1 | refine below_set ?_ GE321.out | refine below_set ?_ GE322.out | refine below_set ?_ GE330.out | refine below_set ?_ GE345.out) | exact HB.out)⟩⟩
    case round =>
     clear H'
     try clear c1
     try clear c2
     try clear p2
     try clear c3
     try clear c4
     try clear c7
     try clear c8
     try clear c9
     try clear c10
     try clear c11
     try clear c14
     try clear c15
     try clear c20
     try clear c21
     try clear c32
     try clear c33
     try clear c34
     try clear c45
     try clear c45b0
     try clear c46
     try clear c46b0
     try clear c47
     try clear hcz16_0
     try clear hcz16_1
     try clear hcz16_10
     try clear hcz16_11
     try clear hcz16_2
     try clear hcz16_3
     try clear hcz16_4
     try clear hcz16_5
     try clear hcz16_6
     try clear hcz16_7
     try clear hcz16_8
     try clear hcz16_9
     try clear hcz22_0
     try clear hcz22_1
     try clear hcz22_2
     try clear hcz22_3
     try clear hcz28_0
     try clear hcz28_1
     try clear hcz28_2
     try clear hcz28_3
     try clear hcz29_0
     try clear hcz29_1
     try clear hcz29_2
     try clear hcz29_3
     try clear hcz35_0
     try clear hcz35_1
     try clear hcz35_2
     try clear hcz35_3
     try clear hcz38_0
     try clear hcz38_1
     try clear hcz38_2
     try clear hcz38_3
     try clear hcz41_0
     try clear hcz41_1
     try clear hcz41_2
     try clear hcz41_3
     try clear hcz42_0
     try clear hcz42_1
     try clear hcz42_2
     try clear hcz42_3
     try clear hfz16_0
     try clear hfz16_1
     try clear hfz16_10
     try clear hfz16_11
     try clear hfz16_2
     try clear hfz16_3
     try clear hfz16_4
     try clear hfz16_5
     try clear hfz16_6
     try clear hfz16_7
     try clear hfz16_8
     try clear hfz16_9
     try clear hfz22_0
     try clear hfz22_1
     try clear hfz22_2
     try clear hfz22_3
     try clear hfz28_0
     try clear hfz28_1
     try clear hfz28_2
     try clear hfz28_3
     try clear hfz29_0
     try clear hfz29_1
     try clear hfz29_2
     try clear hfz29_3
     try clear hfz35_0
     try clear hfz35_1
     try clear hfz35_2
     try clear hfz35_3
     try clear hfz38_0
     try clear hfz38_1
     try clear hfz38_2
     try clear hfz38_3
     try clear hfz41_0
     try clear hfz41_1
     try clear hfz41_2
     try clear hfz41_3
     try clear hfz42_0
     try clear hfz42_1
     try clear hfz42_2
     try clear hfz42_3
     try clear p2
     obtain ⟨x14_2, rfl, HA, HK2, HO_9, HO_11, HO_331000, HO_346002, HO_346003, BK321, BK322, BK330, BK345, HB⟩ := hrel
     cases gk with
     | zero => exact absurd HA.out (by simp [thresherlaw12_IndexFinds.l0])
     | succ k2 =>
      have H := HA.out
      clear HA
      simp only [thresherlaw12_IndexFinds.l0] at H
      by_cases c48 : x14_2 < (t334.length : Int)
      ·rw [if_pos c48] at H
       have c48b0 : decide (x14_2 < (t334.length : Int)) = true := decide_eq_true c48
       clear c48
       by_cases c49 : t329 = 0
       ·rw [if_pos c49] at H
        exact absurd H (by simp)
       ·rw [if_neg c49] at H
        have c49b0 : (t329 == 0) = false := beq_eq_false_iff_ne.mpr c49
        have c49b1 : (t329 != 0) = true := bne_iff_ne.mpr c49
        by_cases c50 : 0 ≤ x14_2
        ·rw [if_pos c50] at H
         have c50b0 : decide (0 ≤ x14_2) = true := decide_eq_true c50
         clear c50
         replace H := Option.bind_eq_some_iff.mp H
         obtain ⟨t352, A510, H⟩ := H
         replace H : (if t352 = true then (if (wrap64 (Int.tdiv x14_2 t329)) < t349 then (thresherlaw12_IndexFinds.j2 k2 t323 t334 t346 t349 t350 x14_2 true t324 t327 t328 t329 t337 t338 t339 t342) else (thresherlaw12_IndexFinds.j2 k2 t323 t334 t346 t349 t350 x14_2 (decide ((wrap64 (Int.tdiv x14_2 t329)) ≥ t350)) t324 t327 t328 t329 t337 t338 t339 t342)) else (thresherlaw12_IndexFinds.j2 k2 t323 t334 t346 t349 t350 x14_2 false t324 t327 t328 t329 t337 t338 t339 t342)) = some r := H
         have A51 := Aside0.mk A510
         clear A510
         have HC52 := Aside0.mk H
         clear H
         have hnb53 := NB330_321.out
         have hnc53 := NB321_330.out
         have hnb54 := NB330_322.out
         have hnc54 := NB322_330.out
         have hnb55 := NB330_345.out
         have hnc55 := NB345_330.out
         have hcz56_0 : wr.cell? ⟨gb330, 0, none⟩ = some (.slice Ao19 t324.length co19) := (blk_cell BK330.out 0).trans rfl
         have hcz56_1 : wr.cell? ⟨gb330, 1, none⟩ = some (.int .i64 t327) := (blk_cell BK330.out 1).trans rfl
         have hcz56_2 : wr.cell? ⟨gb330, 2, none⟩ = some (.int .i64 t328) := (blk_cell BK330.out 2).trans rfl
         have hcz56_3 : wr.cell? ⟨gb330, 3, none⟩ = some (.int .i64 t329) := (blk_cell BK330.out 3).trans rfl
         have hfz56_0 := blk_frozen BK330.out 0
         have hfz56_1 := blk_frozen BK330.out 1
         have hfz56_2 := blk_frozen BK330.out 2
         have hfz56_3 := blk_frozen BK330.out 3
         try go_wp2
         have n0_ := Aside0.mk (Kd.N_drew HO_9.out)
         have n1_ := Aside0.mk (Kd.N_drew HO_11.out)
         have n2_ := Aside0.mk (Kd.R_drew HO_331000.out)
         have n3_ := Aside0.mk (Kd.R_drew HO_346002.out)
         have n4_ := Aside0.mk (Kd.R_drew HO_346003.out)
         have n5_ := Aside0.mk (blk_drew BK321.out)
         have n6_ := Aside0.mk (blk_drew BK322.out)
         have n7_ := Aside0.mk (blk_drew BK330.out)
         have n8_ := Aside0.mk (blk_drew BK345.out)
         have n9_ := Aside0.mk (below_drew1 HB.out)
         clear HO_9
         clear HO_11
         clear HO_331000
         clear HO_346002
         clear HO_346003
         clear BK321
         clear BK322
         clear BK330
         clear BK345
         clear HB
         have HO_9 := n0_
         have HO_11 := n1_
         have HO_331000 := n2_
         have HO_346002 := n3_
         have HO_346003 := n4_
         have BK321 := n5_
         have BK322 := n6_
         have BK330 := n7_
         have BK345 := n8_
         have HB := n9_
         clear n0_ n1_ n2_ n3_ n4_ n5_ n6_ n7_ n8_ n9_
         have p351 : 0 ≤ (x14_2 : Int) := of_decide_eq_true (by first | (with_reducible assumption) | assumption)
         have q351 : x14_2 < (t334.length : Int) := of_decide_eq_true (by first | (with_reducible assumption) | assumption)
         obtain ⟨ad351, A351_0, c351_0, e351, hx351_0, hl351_0, hi351_0⟩ := at_L5 (Kd.N_reads' HO_9.out).2.2 x14_2 p351 q351
         cases e351
         obtain ⟨ce351, hce351, hMe351, hcc351⟩ := Kd.N_get HO_9.out [] x14_2 p351 (by first | exact q351 | exact of_decide_eq_true (by first | (with_reducible assumption) | assumption) | (have e_ := (Kd.N_reads' HO_9.out).1; omega))
         obtain ⟨ua351_0, uc351_0, rfl, ul351_0, ge351_0⟩ := Kd.FK_slice_open hMe351
         have hv351_0 := hcc351 0 _ rfl
         rw [Nat.add_zero, show ((Kd.slice 44 k44)).sz = 1 from rfl, Nat.mul_one] at hv351_0
         replace hv351_0 := Option.some.inj (hv351_0.symm.trans hx351_0)
         injection hv351_0 with hva_ hvn_ hvc_
         rw [hva_] at ge351_0
         rw [hvc_] at ul351_0
         have HL351_0 := Aside0.mk (show Kd.V k44 44 _ w.heap.size _ _ (rd_L5 t334 x14_2) from Kd.V_mk ul351_0 ge351_0)
         clear hva_ hvn_ hvc_ ge351_0 ul351_0
         clear hcc351 hce351
         have HR351_0 := Aside0.mk hi351_0
         have HC351_0 := Aside0.mk hl351_0
         clear hi351_0 hl351_0
         replace p351 := eq_true p351
         replace q351 := eq_true q351
         refine start_ (n := 8) (S := fun w' => w'.cell? ⟨gb330, 0, none⟩ = some (.slice Ao19 t324.length co19) ∧ w'.cell? ⟨gb330, 1, none⟩ = some (.int .i64 t327) ∧ w'.cell? ⟨gb330, 2, none⟩ = some (.int .i64 t328) ∧ w'.cell? ⟨gb330, 3, none⟩ = some (.int .i64 t329) ∧ w'.cell? ⟨gb345, 0, none⟩ = some (.bool t337) ∧ w'.cell? ⟨gb345, 1, none⟩ = some (.bool t338) ∧ w'.cell? ⟨gb345, 2, none⟩ = some (.slice Ao36 t339.length co36) ∧ w'.cell? ⟨gb345, 3, none⟩ = some (.slice Ao37 t342.length co37) ∧ w'.cell? (ad351.add (x14_2).toNat) = some (.slice A351_0 (rd_L5 t334 x14_2).length c351_0)) (ds := []) #[false, false, false, false, false, false, false, false] (by kernel_rfl) rfl rfl ⟨(blk_cell BK330.out 0).trans rfl, (blk_cell BK330.out 1).trans rfl, (blk_cell BK330.out 2).trans rfl, (blk_cell BK330.out 3).trans rfl, (blk_cell BK345.out 0).trans rfl, (blk_cell BK345.out 1).trans rfl, (blk_cell BK345.out 2).trans rfl, (blk_cell BK345.out 3).trans rfl, hx351_0⟩ (fun hHeld => ?_); refine with_tabW thresherlaw12_IndexFinds.tab13 thresherlaw12_IndexFinds.bits13 (fun HT_ HW_ => ?_)
         generalize wr.drew = w57 at HO_9 HO_11 HO_331000 HO_346002 HO_346003 BK321 BK322 BK330 BK345 HB HL351_0 HR351_0 hx351_0 hHeld ⊢
         refine pure_ (i := 2) (N := some 64) (v := ?_) (a' := ?_) #[false, false, true, false, false, false, false, false] rfl rfl (any_of HT_.out (by kernel_rfl)) (fun _ _ _ h => h) (Or.inl ⟨by rfl, ?_⟩) ?_ ?_
         rotate_left; (intro w'; go_simp; with_reducible rfl); rotate_left; (simp only [Act.put, List.setIfInBounds_toArray, List.set_cons_zero, List.set_cons_succ, i64_w, i32_w]; rfl)
         refine pure_ (i := 3) (N := some 65) (v := ?_) (a' := ?_) #[false, false, true, true, false, false, false, false] rfl rfl (any_of HT_.out (by kernel_rfl)) (fun _ _ _ h => h) (Or.inl ⟨by rfl, ?_⟩) ?_ ?_
         rotate_left; (intro w'; go_simp; with_reducible rfl); rotate_left; (simp only [Act.put, List.setIfInBounds_toArray, List.set_cons_zero, List.set_cons_succ, i64_w, i32_w]; rfl)
         refine pure_ (i := 4) (N := some 66) (v := ?_) (a' := ?_) #[false, false, true, true, true, false, false, false] rfl rfl (any_of HT_.out (by kernel_rfl)) (fun _ _ _ h => h) (Or.inl ⟨by rfl, ?_⟩) ?_ ?_
         rotate_left; (intro w'; go_simp; with_reducible rfl); rotate_left; (simp only [Act.put, List.setIfInBounds_toArray, List.set_cons_zero, List.set_cons_succ, i64_w, i32_w]; rfl)
         refine take_ (i := 0) (N := some 62) (v := ?_) (a' := ?_) #[true, false, true, true, true, false, false, false] rfl rfl (take_ofW HT_.out HW_.out (by kernel_rfl)) (fun _ _ _ h => h) (Or.inl ⟨by rfl, ?_⟩) hHeld ?_ ?_
         rotate_left; (rintro w' ⟨s0, s1, s2, s3, s4, s5, s6, s7, s8⟩; go_simp; with_reducible rfl); rotate_left; (simp only [Act.put, List.setIfInBounds_toArray, List.set_cons_zero, List.set_cons_succ, i64_w, i32_w]; rfl)
         refine take_ (i := 1) (N := some 63) (v := ?_) (a' := ?_) #[true, true, true, true, true, false, false, false] rfl rfl (take_ofW HT_.out HW_.out (by kernel_rfl)) (fun _ _ _ h => h) (Or.inl ⟨by rfl, ?_⟩) hHeld ?_ ?_
         rotate_left; (rintro w' ⟨s0, s1, s2, s3, s4, s5, s6, s7, s8⟩; go_simp; with_reducible rfl); rotate_left; (simp only [Act.put, List.setIfInBounds_toArray, List.set_cons_zero, List.set_cons_succ, i64_w, i32_w]; rfl)
         refine take_ (i := 5) (N := some 67) (v := ?_) (a' := ?_) #[true, true, true, true, true, true, false, false] rfl rfl (take_ofW HT_.out HW_.out (by kernel_rfl)) (fun _ _ _ h => h) (Or.inl ⟨by rfl, ?_⟩) hHeld ?_ ?_
         rotate_left; (rintro w' ⟨s0, s1, s2, s3, s4, s5, s6, s7, s8⟩; go_simp; with_reducible rfl); rotate_left; (simp only [Act.put, List.setIfInBounds_toArray, List.set_cons_zero, List.set_cons_succ, i64_w, i32_w]; rfl)
         refine one_ (i := 6) (N := some 68) #[true, true, true, true, true, true, true, false] rfl rfl (one_of HT_.out (by kernel_rfl)) (by decide) (fun K hK => ?_)
         refine goes_ Try.func12 (by kernel_rfl) rfl #[.agg #[.slice Ao19 t324.length co19, .int .i64 t327, .int .i64 t328, .int .i64 t329], .agg #[.bool t337, .bool t338, .slice Ao36 t339.length co36, .slice Ao37 t342.length co37], .slice A351_0 (rd_L5 t334 x14_2).length c351_0] (by rfl) rfl rfl (by (try simp only [List.map_toArray, List.map_cons, List.map_nil]); first | done | rfl | (simp only [List.length_drop, List.length_take]; rfl)) ?_
         with_reducible refine (index_In.calls k2 _ _ t324 t327 t328 t329 t337 t338 _ _ t339 _ _ t342 _ _ (rd_L5 t334 x14_2) t352 _ ?side1 ?side2 ?side3 ?side4 ?side5 ?side6 ?side7 ?side8 A51.out).mono ?_
         (case side1 => repeat (first | exact (Kd.R_reads' HO_331000.out).2.2 | (with_reducible refine Kd.C_alloc ?_ _) | (with_reducible refine Kd.C_drewN ?_ _) | (with_reducible refine Kd.C_drew ?_)))
         (case side2 => exact (Kd.R_reads' HO_331000.out).2.1)
         (case side3 => repeat (first | exact (Kd.R_reads' HO_346002.out).2.2 | (with_reducible refine Kd.C_alloc ?_ _) | (with_reducible refine Kd.C_drewN ?_ _) | (with_reducible refine Kd.C_drew ?_)))
         (case side4 => exact (Kd.R_reads' HO_346002.out).2.1)
         (case side5 => repeat (first | exact (Kd.R_reads' HO_346003.out).2.2 | (with_reducible refine Kd.C_alloc ?_ _) | (with_reducible refine Kd.C_drewN ?_ _) | (with_reducible refine Kd.C_drew ?_)))
         (case side6 => exact (Kd.R_reads' HO_346003.out).2.1)
         (case side7 => repeat (first | exact (by repeat (first | (with_reducible exact HR351_0.out) | (with_reducible refine Kd.C_alloc ?_ _) | (with_reducible refine Kd.C_drewN ?_ _) | (with_reducible refine Kd.C_drew ?_) | exact HR351_0.out)) | (with_reducible refine Kd.C_alloc ?_ _) | (with_reducible refine Kd.C_drewN ?_ _) | (with_reducible refine Kd.C_drew ?_)))
         (case side8 => exact HC351_0.out)
         rintro e w58 ⟨rfl, hb⟩
         have HS8_ := (hb.cell (World.block_lt_of_cell? _ _ (hHeld.2.2.2.2.2.2.2.2))).trans (hHeld.2.2.2.2.2.2.2.2)
         refine ⟨_, rfl, ?_⟩
         have n0_ := Aside0.mk (Kd.N_below (by (with_reducible repeat (first | apply Kd.N_alloc | apply Kd.N_drewN | apply Kd.N_drew)); exact HO_9.out) hb)
         have n1_ := Aside0.mk (Kd.N_below (by (with_reducible repeat (first | apply Kd.N_alloc | apply Kd.N_drewN | apply Kd.N_drew)); exact HO_11.out) hb)
         have n2_ := Aside0.mk (Kd.R_below (by (with_reducible repeat (first | apply Kd.R_alloc | apply Kd.R_drewN | apply Kd.R_drew)); exact HO_331000.out) hb)
         have n3_ := Aside0.mk (Kd.R_below (by (with_reducible repeat (first | apply Kd.R_alloc | apply Kd.R_drewN | apply Kd.R_drew)); exact HO_346002.out) hb)
         have n4_ := Aside0.mk (Kd.R_below (by (with_reducible repeat (first | apply Kd.R_alloc | apply Kd.R_drewN | apply Kd.R_drew)); exact HO_346003.out) hb)
         have n5_ := Aside0.mk (Kd.V_below (by (with_reducible repeat (first | apply Kd.V_alloc | apply Kd.V_drewN | apply Kd.V_drew)); exact HL351_0.out) hb)
         have n6_ := Aside0.mk (blk_below (g := gb321) (o := .cells #[.int .u8 a0_0, .int .u8 a0_1, .int .u8 a0_2, .int .u8 a0_3, .int .u8 a0_4, .int .u8 a0_5, .int .u8 a0_6, .int .u8 a0_7, .int .u8 a0_8, .int .u8 a0_9, .int .u8 a0_10, .int .u8 a0_11] 24 (0, 0)) (by (with_reducible repeat (first | refine blk_drewN ?_ _ | refine blk_drew ?_ | refine blk_alloc ?_ _)); exact BK321.out) hb)
         have n7_ := Aside0.mk (blk_below (g := gb322) (o := .cells #[.bool a2_0, .bool a2_1, .slice A2_2 l2_2.length c2_2, .slice A2_3 l2_3.length c2_3] 29 (0, 0)) (by (with_reducible repeat (first | refine blk_drewN ?_ _ | refine blk_drew ?_ | refine blk_alloc ?_ _)); exact BK322.out) hb)
         have n8_ := Aside0.mk (blk_below (g := gb330) (o := .cells #[.slice Ao19 t324.length co19, .int .i64 t327, .int .i64 t328, .int .i64 t329] 33 (0, 0)) (by (with_reducible repeat (first | refine blk_drewN ?_ _ | refine blk_drew ?_ | refine blk_alloc ?_ _)); exact BK330.out) hb)
         have n9_ := Aside0.mk (blk_below (g := gb345) (o := .cells #[.bool t337, .bool t338, .slice Ao36 t339.length co36, .slice Ao37 t342.length co37] 29 (0, 0)) (by (with_reducible repeat (first | refine blk_drewN ?_ _ | refine blk_drew ?_ | refine blk_alloc ?_ _)); exact BK345.out) hb)
         have n10_ := Aside0.mk (Kd.C_below (by repeat (first | (with_reducible exact HR351_0.out) | (with_reducible refine Kd.C_alloc ?_ _) | (with_reducible refine Kd.C_drewN ?_ _) | (with_reducible refine Kd.C_drew ?_) | exact HR351_0.out)) hb)
         have n11_ := Aside0.mk (below_step (by repeat (first | (with_reducible first | exact HB.out | apply below_alloc | apply pw_below_drewN | apply below_drew1 | refine below_set ?_ GE321.out | refine below_set ?_ GE322.out | refine below_set ?_ GE330.out | refine below_set ?_ GE345.out) | exact HB.out)) hb)
         clear HO_9
         clear HO_11
         clear HO_331000
         clear HO_346002
         clear HO_346003
         clear HL351_0
         clear BK321
         clear BK322
         clear BK330
         clear BK345
         clear HR351_0
         clear HB
         have HO_9 := n0_
         have HO_11 := n1_
         have HO_331000 := n2_
         have HO_346002 := n3_
         have HO_346003 := n4_
         have HL351_0 := n5_
         have BK321 := n6_
         have BK322 := n7_
         have BK330 := n8_
         have BK345 := n9_
         have HR351_0 := n10_
         have HB := n11_
         clear n0_ n1_ n2_ n3_ n4_ n5_ n6_ n7_ n8_ n9_ n10_ n11_
         (try clear hb)
         (try clear hb2)
         (try clear hk)
         (try clear hi)
         refine hK.out _ _ ⟨(blk_cell BK330.out 0).trans rfl, (blk_cell BK330.out 1).trans rfl, (blk_cell BK330.out 2).trans rfl, (blk_cell BK330.out 3).trans rfl, (blk_cell BK345.out 0).trans rfl, (blk_cell BK345.out 1).trans rfl, (blk_cell BK345.out 2).trans rfl, (blk_cell BK345.out 3).trans rfl, HS8_⟩ (fun hHeld => ?_)
         clear hK K
         refine norm_ (a' := ?_) ?_ ?_
         rotate_left
         ·show Act.put _ (some 68) _ = _
          simp only [Act.put, List.setIfInBounds_toArray, List.set_cons_zero, List.set_cons_succ, i64_w, i32_w]
          rfl
         refine pure_ (i := 7) (N := some 16) (v := ?_) (a' := ?_) #[true, true, true, true, true, true, true, true] rfl rfl (any_of HT_.out (by kernel_rfl)) (fun _ _ _ h => h) (Or.inl ⟨by rfl, ?_⟩) ?_ ?_
         rotate_left; (intro w'; go_simp; with_reducible rfl); rotate_left; (simp only [Act.put, List.setIfInBounds_toArray, List.set_cons_zero, List.set_cons_succ, i64_w, i32_w]; rfl)
         refine done_ (done_of HT_.out (by kernel_rfl)) ?_
         (try clear HS8_); (try clear hHeld)
         go_upto_region 14 with (fail)
         go_cut [79] (fun v79 wc => ∃ (kq : Nat) (x79_51 : Bool), v79 = .bool x79_51 ∧ Aside0 (thresherlaw12_IndexFinds.j2 kq t323 t334 t346 t349 t350 x14_2 x79_51 t324 t327 t328 t329 t337 t338 t339 t342 = some r) ∧ Aside0 (kq ≤ k2) ∧ Aside0 (Kd.N (Kd.slice 44 k44) 27 wc w.heap.size (fun k_ => some k_ ≠ ((.slice Ao43 t346.length co43) : Value).ownBlock ∧ some k_ ≠ ((.slice Ao19 t324.length co19) : Value).ownBlock ∧ some k_ ≠ ((.slice Ao36 t339.length co36) : Value).ownBlock ∧ some k_ ≠ ((.slice Ao37 t342.length co37) : Value).ownBlock ∧ k_ ≠ gb321 ∧ k_ ≠ gb322 ∧ k_ ≠ gb330 ∧ k_ ≠ gb345) (.slice (some ad351) t334.length co39) t334) ∧ Aside0 (Kd.N (Kd.slice 44 k44) 27 wc w.heap.size (fun k_ => some k_ ≠ ((.slice (some ad351) t334.length co39) : Value).ownBlock ∧ some k_ ≠ ((.slice Ao19 t324.length co19) : Value).ownBlock ∧ some k_ ≠ ((.slice Ao36 t339.length co36) : Value).ownBlock ∧ some k_ ≠ ((.slice Ao37 t342.length co37) : Value).ownBlock ∧ k_ ≠ gb321 ∧ k_ ≠ gb322 ∧ k_ ≠ gb330 ∧ k_ ≠ gb345) (.slice Ao43 t346.length co43) t346) ∧ Aside0 (Kd.R (Kd.int .i64) 3 wc w.heap.size (fun _ => True) (.slice Ao19 t324.length co19) t324) ∧ Aside0 (Kd.R k44 44 wc w.heap.size (fun k_ => some k_ ≠ ((.slice Ao37 t342.length co37) : Value).ownBlock) (.slice Ao36 t339.length co36) t339) ∧ Aside0 (Kd.R k44 44 wc w.heap.size (fun k_ => some k_ ≠ ((.slice Ao36 t339.length co36) : Value).ownBlock) (.slice Ao37 t342.length co37) t342) ∧ Aside0 (wc.heap[gb321]? = some (.cells #[.int .u8 a0_0, .int .u8 a0_1, .int .u8 a0_2, .int .u8 a0_3, .int .u8 a0_4, .int .u8 a0_5, .int .u8 a0_6, .int .u8 a0_7, .int .u8 a0_8, .int .u8 a0_9, .int .u8 a0_10, .int .u8 a0_11] 24 (0, 0))) ∧ Aside0 (wc.heap[gb322]? = some (.cells #[.bool a2_0, .bool a2_1, (.slice A2_2 l2_2.length c2_2), (.slice A2_3 l2_3.length c2_3)] 29 (0, 0))) ∧ Aside0 (wc.heap[gb330]? = some (.cells #[(.slice Ao19 t324.length co19), .int .i64 t327, .int .i64 t328, .int .i64 t329] 33 (0, 0))) ∧ Aside0 (wc.heap[gb345]? = some (.cells #[.bool t337, .bool t338, (.slice Ao36 t339.length co36), (.slice Ao37 t342.length co37)] 29 (0, 0))) ∧ Aside0 (Kd.C k44 wc A351_0 (rd_L5 t334 x14_2).length (rd_L5 t334 x14_2)) ∧ Aside0 (Below w.heap.size w wc))
         case first =>
          have H := HC52.out
          clear HC52
          by_cases c59 : t352 = true
          ·subst c59
           have H1 : (if (wrap64 (Int.tdiv x14_2 t329)) < t349 then (thresherlaw12_IndexFinds.j2 k2 t323 t334 t346 t349 t350 x14_2 true t324 t327 t328 t329 t337 t338 t339 t342) else (thresherlaw12_IndexFinds.j2 k2 t323 t334 t346 t349 t350 x14_2 (decide ((wrap64 (Int.tdiv x14_2 t329)) ≥ t350)) t324 t327 t328 t329 t337 t338 t339 t342)) = some r := by rw [if_pos rfl] at H; exact H
           clear H
           have H := H1
           clear H1
           by_cases c60 : (wrap64 (Int.tdiv x14_2 t329)) < t349
           ·rw [if_pos c60] at H
            have c60b0 : decide ((wrap64 (Int.tdiv x14_2 t329)) < t349) = true := decide_eq_true c60
            clear c60
            (first | rw [c60b0] | (simp only [i64_w, i32_w]; rw [c60b0]) | skip)
            have H' := Aside0.mk H
            clear H
            go_wp2
            go_meet
            case rel => exact ⟨_, (true), (by first | rfl | (simp; done) | (simp [*]; done)), (by first | exact H' | (subst_vars; exact H')), ⟨by have := HJ10.out; have := HK2.out; first | omega | exact Nat.le_refl _⟩, ⟨by (with_reducible repeat (first | apply Kd.N_alloc | apply Kd.N_drewN | apply Kd.N_drew)); exact HO_9.out⟩, ⟨by (with_reducible repeat (first | apply Kd.N_alloc | apply Kd.N_drewN | apply Kd.N_drew)); exact HO_11.out⟩, ⟨by (with_reducible repeat (first | apply Kd.R_alloc | apply Kd.R_drewN | apply Kd.R_drew)); exact HO_331000.out⟩, ⟨by (with_reducible repeat (first | apply Kd.R_alloc | apply Kd.R_drewN | apply Kd.R_drew)); exact HO_346002.out⟩, ⟨by (with_reducible repeat (first | apply Kd.R_alloc | apply Kd.R_drewN | apply Kd.R_drew)); exact HO_346003.out⟩, ⟨by (with_reducible repeat (first | refine blk_drewN ?_ _ | refine blk_drew ?_ | refine blk_alloc ?_ _)); exact BK321.out⟩, ⟨by (with_reducible repeat (first | refine blk_drewN ?_ _ | refine blk_drew ?_ | refine blk_alloc ?_ _)); exact BK322.out⟩, ⟨by (with_reducible repeat (first | refine blk_drewN ?_ _ | refine blk_drew ?_ | refine blk_alloc ?_ _)); exact BK330.out⟩, ⟨by (with_reducible repeat (first | refine blk_drewN ?_ _ | refine blk_drew ?_ | refine blk_alloc ?_ _)); exact BK345.out⟩, ⟨by repeat (first | (with_reducible exact HR351_0.out) | (with_reducible refine Kd.C_alloc ?_ _) | (with_reducible refine Kd.C_drewN ?_ _) | (with_reducible refine Kd.C_drew ?_) | exact HR351_0.out)⟩, ⟨by repeat (first | (with_reducible first | exact HB.out | apply below_alloc | apply pw_below_drewN | apply below_drew1 | refine below_set ?_ GE321.out | refine below_set ?_ GE322.out | refine below_set ?_ GE330.out | refine below_set ?_ GE345.out) | exact HB.out)⟩⟩
           ·rw [if_neg c60] at H
            have c60b0 : decide ((wrap64 (Int.tdiv x14_2 t329)) < t349) = false := decide_eq_false c60
            clear c60
            (first | rw [c60b0] | (simp only [i64_w, i32_w]; rw [c60b0]) | skip)
            have H' := Aside0.mk H
            clear H
            go_wp2
            go_meet
            case rel => exact ⟨_, (decide ((wrap64 (Int.tdiv x14_2 t329)) ≥ t350)), (by first | rfl | (simp; done) | (simp [*]; done)), (by first | exact H' | (subst_vars; exact H')), ⟨by have := HJ10.out; have := HK2.out; first | omega | exact Nat.le_refl _⟩, ⟨by (with_reducible repeat (first | apply Kd.N_alloc | apply Kd.N_drewN | apply Kd.N_drew)); exact HO_9.out⟩, ⟨by (with_reducible repeat (first | apply Kd.N_alloc | apply Kd.N_drewN | apply Kd.N_drew)); exact HO_11.out⟩, ⟨by (with_reducible repeat (first | apply Kd.R_alloc | apply Kd.R_drewN | apply Kd.R_drew)); exact HO_331000.out⟩, ⟨by (with_reducible repeat (first | apply Kd.R_alloc | apply Kd.R_drewN | apply Kd.R_drew)); exact HO_346002.out⟩, ⟨by (with_reducible repeat (first | apply Kd.R_alloc | apply Kd.R_drewN | apply Kd.R_drew)); exact HO_346003.out⟩, ⟨by (with_reducible repeat (first | refine blk_drewN ?_ _ | refine blk_drew ?_ | refine blk_alloc ?_ _)); exact BK321.out⟩, ⟨by (with_reducible repeat (first | refine blk_drewN ?_ _ | refine blk_drew ?_ | refine blk_alloc ?_ _)); exact BK322.out⟩, ⟨by (with_reducible repeat (first | refine blk_drewN ?_ _ | refine blk_drew ?_ | refine blk_alloc ?_ _)); exact BK330.out⟩, ⟨by (with_reducible repeat (first | refine blk_drewN ?_ _ | refine blk_drew ?_ | refine blk_alloc ?_ _)); exact BK345.out⟩, ⟨by repeat (first | (with_reducible exact HR351_0.out) | (with_reducible refine Kd.C_alloc ?_ _) | (with_reducible refine Kd.C_drewN ?_ _) | (with_reducible refine Kd.C_drew ?_) | exact HR351_0.out)⟩, ⟨by repeat (first | (with_reducible first | exact HB.out | apply below_alloc | apply pw_below_drewN | apply below_drew1 | refine below_set ?_ GE321.out | refine below_set ?_ GE322.out | refine below_set ?_ GE330.out | refine below_set ?_ GE345.out) | exact HB.out)⟩⟩
          ·replace c59 := Bool.eq_false_iff.mpr c59
           subst c59
           have H1 : (thresherlaw12_IndexFinds.j2 k2 t323 t334 t346 t349 t350 x14_2 false t324 t327 t328 t329 t337 t338 t339 t342) = some r := by rw [if_neg (show ¬ (false = true) by decide)] at H; exact H
           clear H
           have H := H1
           clear H1
           have H' := Aside0.mk H
           clear H
           go_wp2
           go_meet
           case rel => exact ⟨_, (false), (by first | rfl | (simp; done) | (simp [*]; done)), (by first | exact H' | (subst_vars; exact H')), ⟨by have := HJ10.out; have := HK2.out; first | omega | exact Nat.le_refl _⟩, ⟨by (with_reducible repeat (first | apply Kd.N_alloc | apply Kd.N_drewN | apply Kd.N_drew)); exact HO_9.out⟩, ⟨by (with_reducible repeat (first | apply Kd.N_alloc | apply Kd.N_drewN | apply Kd.N_drew)); exact HO_11.out⟩, ⟨by (with_reducible repeat (first | apply Kd.R_alloc | apply Kd.R_drewN | apply Kd.R_drew)); exact HO_331000.out⟩, ⟨by (with_reducible repeat (first | apply Kd.R_alloc | apply Kd.R_drewN | apply Kd.R_drew)); exact HO_346002.out⟩, ⟨by (with_reducible repeat (first | apply Kd.R_alloc | apply Kd.R_drewN | apply Kd.R_drew)); exact HO_346003.out⟩, ⟨by (with_reducible repeat (first | refine blk_drewN ?_ _ | refine blk_drew ?_ | refine blk_alloc ?_ _)); exact BK321.out⟩, ⟨by (with_reducible repeat (first | refine blk_drewN ?_ _ | refine blk_drew ?_ | refine blk_alloc ?_ _)); exact BK322.out⟩, ⟨by (with_reducible repeat (first | refine blk_drewN ?_ _ | refine blk_drew ?_ | refine blk_alloc ?_ _)); exact BK330.out⟩, ⟨by (with_reducible repeat (first | refine blk_drewN ?_ _ | refine blk_drew ?_ | refine blk_alloc ?_ _)); exact BK345.out⟩, ⟨by repeat (first | (with_reducible exact HR351_0.out) | (with_reducible refine Kd.C_alloc ?_ _) | (with_reducible refine Kd.C_drewN ?_ _) | (with_reducible refine Kd.C_drew ?_) | exact HR351_0.out)⟩, ⟨by repeat (first | (with_reducible first | exact HB.out | apply below_alloc | apply pw_below_drewN | apply below_drew1 | refine below_set ?_ GE321.out | refine below_set ?_ GE322.out | refine below_set ?_ GE330.out | refine below_set ?_ GE345.out) | exact HB.out)⟩⟩
         case rest =>
          clear HC52
          try clear c1
          try clear c2
          try clear p2
          try clear c3
          try clear p3
          try clear q3
          try clear hx3
          try clear c4
          try clear c5
          try clear c6
          try clear p6
          try clear c7
          try clear c8
          try clear c9
          try clear c10
          try clear c11
          try clear c12
          try clear c14
          try clear c15
          try clear c20
          try clear c21
          try clear c32
          try clear c33
          try clear c34
          try clear c35
          try clear p35
          try clear q35
          try clear hx35
          try clear c45
          try clear c45b0
          try clear c46
          try clear c46b0
          try clear c47
          try clear c48
          try clear c48b0
          try clear c49
          try clear c49b0
          try clear c49b1
          try clear c50
          try clear c50b0
          try clear c53
          try clear c54
          try clear c55
          try clear c59
          try clear c60
          try clear c60b0
          try clear hcz16_0
          try clear hcz16_1
          try clear hcz16_10
          try clear hcz16_11
          try clear hcz16_2
          try clear hcz16_3
          try clear hcz16_4
          try clear hcz16_5
          try clear hcz16_6
          try clear hcz16_7
          try clear hcz16_8
          try clear hcz16_9
          try clear hcz22_0
          try clear hcz22_1
          try clear hcz22_2
          try clear hcz22_3
          try clear hcz28_0
          try clear hcz28_1
          try clear hcz28_2
          try clear hcz28_3
          try clear hcz29_0
          try clear hcz29_1
          try clear hcz29_2
          try clear hcz29_3
          try clear hcz35_0
          try clear hcz35_1
          try clear hcz35_2
          try clear hcz35_3
          try clear hcz38_0
          try clear hcz38_1
          try clear hcz38_2
          try clear hcz38_3
          try clear hcz41_0
          try clear hcz41_1
          try clear hcz41_2
          try clear hcz41_3
          try clear hcz42_0
          try clear hcz42_1
          try clear hcz42_2
          try clear hcz42_3
          try clear hcz56_0
          try clear hcz56_1
          try clear hcz56_2
          try clear hcz56_3
          try clear hfz16_0
          try clear hfz16_1
          try clear hfz16_10
          try clear hfz16_11
          try clear hfz16_2
          try clear hfz16_3
          try clear hfz16_4
          try clear hfz16_5
          try clear hfz16_6
          try clear hfz16_7
          try clear hfz16_8
          try clear hfz16_9
          try clear hfz22_0
          try clear hfz22_1
          try clear hfz22_2
          try clear hfz22_3
          try clear hfz28_0
          try clear hfz28_1
          try clear hfz28_2
          try clear hfz28_3
          try clear hfz29_0
          try clear hfz29_1
          try clear hfz29_2
          try clear hfz29_3
          try clear hfz35_0
          try clear hfz35_1
          try clear hfz35_2
          try clear hfz35_3
          try clear hfz38_0
          try clear hfz38_1
          try clear hfz38_2
          try clear hfz38_3
          try clear hfz41_0
          try clear hfz41_1
          try clear hfz41_2
          try clear hfz41_3
          try clear hfz42_0
          try clear hfz42_1
          try clear hfz42_2
          try clear hfz42_3
          try clear hfz56_0
          try clear hfz56_1
          try clear hfz56_2
          try clear hfz56_3
          try clear hx351_0
          try clear p2
          try clear p351
          try clear q351
          obtain ⟨kq, x79_51, rfl, HA, HJ51, HO_9, HO_11, HO_331000, HO_346002, HO_346003, BK321, BK322, BK330, BK345, HR351_0, HB⟩ := hcut
          cases kq with
          | zero => exact absurd HA.out (by simp [thresherlaw12_IndexFinds.j2])
          | succ kj51 =>
           have H := HA.out
           clear HA
           simp only [thresherlaw12_IndexFinds.j2] at H
           by_cases c61 : x79_51 = true
           ·subst c61
            have H1 : (some false) = some r := by rw [if_pos rfl] at H; exact H
            clear H
            have H := H1
            clear H1
            obtain rfl := Option.some.inj H
            go_wp2
            go_ret
            exact ⟨by first | rfl | (simp [errW_none, errW_some] <;> rfl) | (simp [*, errW_none, errW_some] <;> rfl), by repeat (first | (with_reducible first | exact HB.out | apply below_alloc | apply pw_below_drewN | apply below_drew1 | refine below_set ?_ GE321.out | refine below_set ?_ GE322.out | refine below_set ?_ GE330.out | refine below_set ?_ GE345.out) | exact HB.out)⟩
           ·replace c61 := Bool.eq_false_iff.mpr c61
            subst c61
            have H1 : (thresherlaw12_IndexFinds.l0 kj51 t323 t334 t346 t349 t350 (wrap64 (x14_2 + 1)) t324 t327 t328 t329 t337 t338 t339 t342) = some r := by rw [if_neg (show ¬ (false = true) by decide)] at H; exact H
            clear H
            have H := H1
            clear H1
            have H' := Aside0.mk H
            clear H
            go_wp2
            go_roundg kj51
            case measure => have := HJ10.out; have := HK2.out; have := HJ51.out; omega
            case rel => exact ⟨(wrap64 (x14_2 + 1)), (by first | rfl | (simp; done) | (simp [*]; done)), (by first | exact H' | (subst_vars; exact H')), ⟨by have := HJ10.out; have := HK2.out; have := HJ51.out; omega⟩, ⟨by (with_reducible repeat (first | apply Kd.N_alloc | apply Kd.N_drewN | apply Kd.N_drew)); exact HO_9.out⟩, ⟨by (with_reducible repeat (first | apply Kd.N_alloc | apply Kd.N_drewN | apply Kd.N_drew)); exact HO_11.out⟩, ⟨by (with_reducible repeat (first | apply Kd.R_alloc | apply Kd.R_drewN | apply Kd.R_drew)); exact HO_331000.out⟩, ⟨by (with_reducible repeat (first | apply Kd.R_alloc | apply Kd.R_drewN | apply Kd.R_drew)); exact HO_346002.out⟩, ⟨by (with_reducible repeat (first | apply Kd.R_alloc | apply Kd.R_drewN | apply Kd.R_drew)); exact HO_346003.out⟩, ⟨by (with_reducible repeat (first | refine blk_drewN ?_ _ | refine blk_drew ?_ | refine blk_alloc ?_ _)); exact BK321.out⟩, ⟨by (with_reducible repeat (first | refine blk_drewN ?_ _ | refine blk_drew ?_ | refine blk_alloc ?_ _)); exact BK322.out⟩, ⟨by (with_reducible repeat (first | refine blk_drewN ?_ _ | refine blk_drew ?_ | refine blk_alloc ?_ _)); exact BK330.out⟩, ⟨by (with_reducible repeat (first | refine blk_drewN ?_ _ | refine blk_drew ?_ | refine blk_alloc ?_ _)); exact BK345.out⟩, ⟨by repeat (first | (with_reducible first | exact HB.out | apply below_alloc | apply pw_below_drewN | apply below_drew1 | refine below_set ?_ GE321.out | refine below_set ?_ GE322.out | refine below_set ?_ GE330.out | refine below_set ?_ GE345.out) | exact HB.out)⟩⟩
        ·rw [if_neg c50] at H
         exact absurd H (by simp)
      ·rw [if_neg c48] at H
       have c48b0 : decide (x14_2 < (t334.length : Int)) = false := decide_eq_false c48
       clear c48
       have H' := Aside0.mk H
       clear H
       go_wp2
       go_loopg [17] k2 (fun kq v17 w' => ∃ (x17_3 : Int), v17 = .int .i64 x17_3 ∧ Aside0 (thresherlaw12_IndexFinds.l1 kq t323 t346 t350 x17_3 t324 t327 t328 t329 t337 t338 t339 t342 = some r) ∧ Aside0 (kq ≤ k2) ∧ Aside0 (Kd.N (Kd.slice 44 k44) 27 w' w.heap.size (fun k_ => some k_ ≠ ((.slice Ao19 t324.length co19) : Value).ownBlock ∧ some k_ ≠ ((.slice Ao36 t339.length co36) : Value).ownBlock ∧ some k_ ≠ ((.slice Ao37 t342.length co37) : Value).ownBlock ∧ k_ ≠ gb321 ∧ k_ ≠ gb322 ∧ k_ ≠ gb330 ∧ k_ ≠ gb345) (.slice Ao43 t346.length co43) t346) ∧ Aside0 (Kd.R (Kd.int .i64) 3 w' w.heap.size (fun _ => True) (.slice Ao19 t324.length co19) t324) ∧ Aside0 (Kd.R k44 44 w' w.heap.size (fun k_ => some k_ ≠ ((.slice Ao37 t342.length co37) : Value).ownBlock) (.slice Ao36 t339.length co36) t339) ∧ Aside0 (Kd.R k44 44 w' w.heap.size (fun k_ => some k_ ≠ ((.slice Ao36 t339.length co36) : Value).ownBlock) (.slice Ao37 t342.length co37) t342) ∧ Aside0 (w'.heap[gb321]? = some (.cells #[.int .u8 a0_0, .int .u8 a0_1, .int .u8 a0_2, .int .u8 a0_3, .int .u8 a0_4, .int .u8 a0_5, .int .u8 a0_6, .int .u8 a0_7, .int .u8 a0_8, .int .u8 a0_9, .int .u8 a0_10, .int .u8 a0_11] 24 (0, 0))) ∧ Aside0 (w'.heap[gb322]? = some (.cells #[.bool a2_0, .bool a2_1, (.slice A2_2 l2_2.length c2_2), (.slice A2_3 l2_3.length c2_3)] 29 (0, 0))) ∧ Aside0 (w'.heap[gb330]? = some (.cells #[(.slice Ao19 t324.length co19), .int .i64 t327, .int .i64 t328, .int .i64 t329] 33 (0, 0))) ∧ Aside0 (w'.heap[gb345]? = some (.cells #[.bool t337, .bool t338, (.slice Ao36 t339.length co36), (.slice Ao37 t342.length co37)] 29 (0, 0))) ∧ Aside0 (Below w.heap.size w w'))
       case atStart => exact ⟨(wrap64 (t349 + 1)), (by first | rfl | (simp; done) | (simp [*]; done)), H', ⟨Nat.le_refl _⟩, ⟨by (with_reducible repeat (first | apply Kd.N_alloc | apply Kd.N_drewN | apply Kd.N_drew)); exact Kd.N_mono HO_11.out (fun _ hk => ⟨hk.2.1, ⟨hk.2.2.1, ⟨hk.2.2.2.1, ⟨hk.2.2.2.2.1, ⟨hk.2.2.2.2.2.1, ⟨hk.2.2.2.2.2.2.1, hk.2.2.2.2.2.2.2⟩⟩⟩⟩⟩⟩)⟩, ⟨by (with_reducible repeat (first | apply Kd.R_alloc | apply Kd.R_drewN | apply Kd.R_drew)); exact HO_331000.out⟩, ⟨by (with_reducible repeat (first | apply Kd.R_alloc | apply Kd.R_drewN | apply Kd.R_drew)); exact HO_346002.out⟩, ⟨by (with_reducible repeat (first | apply Kd.R_alloc | apply Kd.R_drewN | apply Kd.R_drew)); exact HO_346003.out⟩, ⟨by (with_reducible repeat (first | refine blk_drewN ?_ _ | refine blk_drew ?_ | refine blk_alloc ?_ _)); exact BK321.out⟩, ⟨by (with_reducible repeat (first | refine blk_drewN ?_ _ | refine blk_drew ?_ | refine blk_alloc ?_ _)); exact BK322.out⟩, ⟨by (with_reducible repeat (first | refine blk_drewN ?_ _ | refine blk_drew ?_ | refine blk_alloc ?_ _)); exact BK330.out⟩, ⟨by (with_reducible repeat (first | refine blk_drewN ?_ _ | refine blk_drew ?_ | refine blk_alloc ?_ _)); exact BK345.out⟩, ⟨by repeat (first | (with_reducible first | exact HB.out | apply below_alloc | apply pw_below_drewN | apply below_drew1 | refine below_set ?_ GE321.out | refine below_set ?_ GE322.out | refine below_set ?_ GE330.out | refine below_set ?_ GE345.out) | exact HB.out)⟩⟩
       case round =>
        clear H'
        try clear c1
        try clear c2
        try clear p2
        try clear c3
        try clear p3
        try clear q3
        try clear hx3
        try clear c4
        try clear c5
        try clear c6
        try clear p6
        try clear c7
        try clear c8
        try clear c9
        try clear c10
        try clear c11
        try clear c12
        try clear c14
        try clear c15
        try clear c20
        try clear c21
        try clear c32
        try clear c33
        try clear c34
        try clear c35
        try clear p35
        try clear q35
        try clear hx35
        try clear c45
        try clear c45b0
        try clear c46
        try clear c46b0
        try clear c47
        try clear c48
        try clear c48b0
        try clear c49
        try clear c49b0
        try clear c49b1
        try clear c50
        try clear c50b0
        try clear c53
        try clear c54
        try clear c55
        try clear c59
        try clear c60
        try clear c60b0
        try clear c61
        try clear hcz16_0
        try clear hcz16_1
        try clear hcz16_10
        try clear hcz16_11
        try clear hcz16_2
        try clear hcz16_3
        try clear hcz16_4
        try clear hcz16_5
        try clear hcz16_6
        try clear hcz16_7
        try clear hcz16_8
        try clear hcz16_9
        try clear hcz22_0
        try clear hcz22_1
        try clear hcz22_2
        try clear hcz22_3
        try clear hcz28_0
        try clear hcz28_1
        try clear hcz28_2
        try clear hcz28_3
        try clear hcz29_0
        try clear hcz29_1
        try clear hcz29_2
        try clear hcz29_3
        try clear hcz35_0
        try clear hcz35_1
        try clear hcz35_2
        try clear hcz35_3
        try clear hcz38_0
        try clear hcz38_1
        try clear hcz38_2
        try clear hcz38_3
        try clear hcz41_0
        try clear hcz41_1
        try clear hcz41_2
        try clear hcz41_3
        try clear hcz42_0
        try clear hcz42_1
        try clear hcz42_2
        try clear hcz42_3
        try clear hcz56_0
        try clear hcz56_1
        try clear hcz56_2
        try clear hcz56_3
        try clear hfz16_0
        try clear hfz16_1
        try clear hfz16_10
        try clear hfz16_11
        try clear hfz16_2
        try clear hfz16_3
        try clear hfz16_4
        try clear hfz16_5
        try clear hfz16_6
        try clear hfz16_7
        try clear hfz16_8
        try clear hfz16_9
        try clear hfz22_0
        try clear hfz22_1
        try clear hfz22_2
        try clear hfz22_3
        try clear hfz28_0
        try clear hfz28_1
        try clear hfz28_2
        try clear hfz28_3
        try clear hfz29_0
        try clear hfz29_1
        try clear hfz29_2
        try clear hfz29_3
        try clear hfz35_0
        try clear hfz35_1
        try clear hfz35_2
        try clear hfz35_3
        try clear hfz38_0
        try clear hfz38_1
        try clear hfz38_2
        try clear hfz38_3
        try clear hfz41_0
        try clear hfz41_1
        try clear hfz41_2
        try clear hfz41_3
        try clear hfz42_0
        try clear hfz42_1
        try clear hfz42_2
        try clear hfz42_3
        try clear hfz56_0
        try clear hfz56_1
        try clear hfz56_2
        try clear hfz56_3
        try clear hx351_0
        try clear p2
        try clear p3
        try clear p35
        try clear p351
        try clear p6
        try clear q3
        try clear q35
        try clear q351
        obtain ⟨x17_3, rfl, HA, HK3, HO_11, HO_331000, HO_346002, HO_346003, BK321, BK322, BK330, BK345, HB⟩ := hrel
        cases gk with
        | zero => exact absurd HA.out (by simp [thresherlaw12_IndexFinds.l1])
        | succ k3 =>
         have H := HA.out
         clear HA
         simp only [thresherlaw12_IndexFinds.l1] at H
         by_cases c62 : x17_3 < t350
         ·rw [if_pos c62] at H
          have c62b0 : decide (x17_3 < t350) = true := decide_eq_true c62
          clear c62
          by_cases c63 : 0 ≤ x17_3
          ·rw [if_pos c63] at H
           have c63b0 : decide (0 ≤ x17_3) = true := decide_eq_true c63
           clear c63
           by_cases c64 : x17_3 < (t346.length : Int)
           ·rw [if_pos c64] at H
            have c64b0 : decide (x17_3 < (t346.length : Int)) = true := decide_eq_true c64
            clear c64
            replace H := Option.bind_eq_some_iff.mp H
            obtain ⟨t355, A650, H⟩ := H
            replace H : (if t355 = true then (thresherlaw12_IndexFinds.l1 k3 t323 t346 t350 (wrap64 (x17_3 + 1)) t324 t327 t328 t329 t337 t338 t339 t342) else (some false)) = some r := H
            have A65 := Aside0.mk A650
            clear A650
            by_cases c66 : t355 = true
            ·subst c66
             have H1 : (thresherlaw12_IndexFinds.l1 k3 t323 t346 t350 (wrap64 (x17_3 + 1)) t324 t327 t328 t329 t337 t338 t339 t342) = some r := by rw [if_pos rfl] at H; exact H
             clear H
             have H := H1
             clear H1
             have H' := Aside0.mk H
             clear H
             try go_wp2
             have n0_ := Aside0.mk (Kd.N_drew HO_11.out)
             have n1_ := Aside0.mk (Kd.R_drew HO_331000.out)
             have n2_ := Aside0.mk (Kd.R_drew HO_346002.out)
             have n3_ := Aside0.mk (Kd.R_drew HO_346003.out)
             have n4_ := Aside0.mk (blk_drew BK321.out)
             have n5_ := Aside0.mk (blk_drew BK322.out)
             have n6_ := Aside0.mk (blk_drew BK330.out)
             have n7_ := Aside0.mk (blk_drew BK345.out)
             have n8_ := Aside0.mk (below_drew1 HB.out)
             clear HO_11
             clear HO_331000
             clear HO_346002
             clear HO_346003
             clear BK321
             clear BK322
             clear BK330
             clear BK345
             clear HB
             have HO_11 := n0_
             have HO_331000 := n1_
             have HO_346002 := n2_
             have HO_346003 := n3_
             have BK321 := n4_
             have BK322 := n5_
             have BK330 := n6_
             have BK345 := n7_
             have HB := n8_
             clear n0_ n1_ n2_ n3_ n4_ n5_ n6_ n7_ n8_
             have p354 : 0 ≤ (x17_3 : Int) := of_decide_eq_true (by first | (with_reducible assumption) | assumption)
             have q354 : x17_3 < (t346.length : Int) := of_decide_eq_true (by first | (with_reducible assumption) | assumption)
             obtain ⟨ad354, A354_0, c354_0, e354, hx354_0, hl354_0, hi354_0⟩ := at_L5 (Kd.N_reads' HO_11.out).2.2 x17_3 p354 q354
             cases e354
             obtain ⟨ce354, hce354, hMe354, hcc354⟩ := Kd.N_get HO_11.out [] x17_3 p354 (by first | exact q354 | exact of_decide_eq_true (by first | (with_reducible assumption) | assumption) | (have e_ := (Kd.N_reads' HO_11.out).1; omega))
             obtain ⟨ua354_0, uc354_0, rfl, ul354_0, ge354_0⟩ := Kd.FK_slice_open hMe354
             have hv354_0 := hcc354 0 _ rfl
             rw [Nat.add_zero, show ((Kd.slice 44 k44)).sz = 1 from rfl, Nat.mul_one] at hv354_0
             replace hv354_0 := Option.some.inj (hv354_0.symm.trans hx354_0)
             injection hv354_0 with hva_ hvn_ hvc_
             rw [hva_] at ge354_0
             rw [hvc_] at ul354_0
             have HL354_0 := Aside0.mk (show Kd.V k44 44 _ w.heap.size _ _ (rd_L5 t346 x17_3) from Kd.V_mk ul354_0 ge354_0)
             clear hva_ hvn_ hvc_ ge354_0 ul354_0
             clear hcc354 hce354
             have HR354_0 := Aside0.mk hi354_0
             have HC354_0 := Aside0.mk hl354_0
             clear hi354_0 hl354_0
             replace p354 := eq_true p354
             replace q354 := eq_true q354
             refine start_ (n := 8) (S := fun w' => w'.cell? ⟨gb330, 0, none⟩ = some (.slice Ao19 t324.length co19) ∧ w'.cell? ⟨gb330, 1, none⟩ = some (.int .i64 t327) ∧ w'.cell? ⟨gb330, 2, none⟩ = some (.int .i64 t328) ∧ w'.cell? ⟨gb330, 3, none⟩ = some (.int .i64 t329) ∧ w'.cell? ⟨gb345, 0, none⟩ = some (.bool t337) ∧ w'.cell? ⟨gb345, 1, none⟩ = some (.bool t338) ∧ w'.cell? ⟨gb345, 2, none⟩ = some (.slice Ao36 t339.length co36) ∧ w'.cell? ⟨gb345, 3, none⟩ = some (.slice Ao37 t342.length co37) ∧ w'.cell? (ad354.add (x17_3).toNat) = some (.slice A354_0 (rd_L5 t346 x17_3).length c354_0)) (ds := []) #[false, false, false, false, false, false, false, false] (by kernel_rfl) rfl rfl ⟨(blk_cell BK330.out 0).trans rfl, (blk_cell BK330.out 1).trans rfl, (blk_cell BK330.out 2).trans rfl, (blk_cell BK330.out 3).trans rfl, (blk_cell BK345.out 0).trans rfl, (blk_cell BK345.out 1).trans rfl, (blk_cell BK345.out 2).trans rfl, (blk_cell BK345.out 3).trans rfl, hx354_0⟩ (fun hHeld => ?_); refine with_tabW thresherlaw12_IndexFinds.tab19 thresherlaw12_IndexFinds.bits19 (fun HT_ HW_ => ?_)
             generalize wr.drew = w67 at HO_11 HO_331000 HO_346002 HO_346003 BK321 BK322 BK330 BK345 HB HL354_0 HR354_0 hx354_0 hHeld ⊢
             refine pure_ (i := 2) (N := some 89) (v := ?_) (a' := ?_) #[false, false, true, false, false, false, false, false] rfl rfl (any_of HT_.out (by kernel_rfl)) (fun _ _ _ h => h) (Or.inl ⟨by rfl, ?_⟩) ?_ ?_
             rotate_left; (intro w'; go_simp; with_reducible rfl); rotate_left; (simp only [Act.put, List.setIfInBounds_toArray, List.set_cons_zero, List.set_cons_succ, i64_w, i32_w]; rfl)
             refine pure_ (i := 3) (N := some 90) (v := ?_) (a' := ?_) #[false, false, true, true, false, false, false, false] rfl rfl (any_of HT_.out (by kernel_rfl)) (fun _ _ _ h => h) (Or.inl ⟨by rfl, ?_⟩) ?_ ?_
             rotate_left; (intro w'; go_simp; with_reducible rfl); rotate_left; (simp only [Act.put, List.setIfInBounds_toArray, List.set_cons_zero, List.set_cons_succ, i64_w, i32_w]; rfl)
             refine pure_ (i := 4) (N := some 91) (v := ?_) (a' := ?_) #[false, false, true, true, true, false, false, false] rfl rfl (any_of HT_.out (by kernel_rfl)) (fun _ _ _ h => h) (Or.inl ⟨by rfl, ?_⟩) ?_ ?_
             rotate_left; (intro w'; go_simp; with_reducible rfl); rotate_left; (simp only [Act.put, List.setIfInBounds_toArray, List.set_cons_zero, List.set_cons_succ, i64_w, i32_w]; rfl)
             refine take_ (i := 0) (N := some 87) (v := ?_) (a' := ?_) #[true, false, true, true, true, false, false, false] rfl rfl (take_ofW HT_.out HW_.out (by kernel_rfl)) (fun _ _ _ h => h) (Or.inl ⟨by rfl, ?_⟩) hHeld ?_ ?_
             rotate_left; (rintro w' ⟨s0, s1, s2, s3, s4, s5, s6, s7, s8⟩; go_simp; with_reducible rfl); rotate_left; (simp only [Act.put, List.setIfInBounds_toArray, List.set_cons_zero, List.set_cons_succ, i64_w, i32_w]; rfl)
             refine take_ (i := 1) (N := some 88) (v := ?_) (a' := ?_) #[true, true, true, true, true, false, false, false] rfl rfl (take_ofW HT_.out HW_.out (by kernel_rfl)) (fun _ _ _ h => h) (Or.inl ⟨by rfl, ?_⟩) hHeld ?_ ?_
             rotate_left; (rintro w' ⟨s0, s1, s2, s3, s4, s5, s6, s7, s8⟩; go_simp; with_reducible rfl); rotate_left; (simp only [Act.put, List.setIfInBounds_toArray, List.set_cons_zero, List.set_cons_succ, i64_w, i32_w]; rfl)
             refine take_ (i := 5) (N := some 92) (v := ?_) (a' := ?_) #[true, true, true, true, true, true, false, false] rfl rfl (take_ofW HT_.out HW_.out (by kernel_rfl)) (fun _ _ _ h => h) (Or.inl ⟨by rfl, ?_⟩) hHeld ?_ ?_
             rotate_left; (rintro w' ⟨s0, s1, s2, s3, s4, s5, s6, s7, s8⟩; go_simp; with_reducible rfl); rotate_left; (simp only [Act.put, List.setIfInBounds_toArray, List.set_cons_zero, List.set_cons_succ, i64_w, i32_w]; rfl)
             refine one_ (i := 6) (N := some 93) #[true, true, true, true, true, true, true, false] rfl rfl (one_of HT_.out (by kernel_rfl)) (by decide) (fun K hK => ?_)
             refine goes_ Try.func12 (by kernel_rfl) rfl #[.agg #[.slice Ao19 t324.length co19, .int .i64 t327, .int .i64 t328, .int .i64 t329], .agg #[.bool t337, .bool t338, .slice Ao36 t339.length co36, .slice Ao37 t342.length co37], .slice A354_0 (rd_L5 t346 x17_3).length c354_0] (by rfl) rfl rfl (by (try simp only [List.map_toArray, List.map_cons, List.map_nil]); first | done | rfl | (simp only [List.length_drop, List.length_take]; rfl)) ?_
             with_reducible refine (index_In.calls k3 _ _ t324 t327 t328 t329 t337 t338 _ _ t339 _ _ t342 _ _ (rd_L5 t346 x17_3) true _ ?side1 ?side2 ?side3 ?side4 ?side5 ?side6 ?side7 ?side8 A65.out).mono ?_
             (case side1 => repeat (first | exact (Kd.R_reads' HO_331000.out).2.2 | (with_reducible refine Kd.C_alloc ?_ _) | (with_reducible refine Kd.C_drewN ?_ _) | (with_reducible refine Kd.C_drew ?_)))
             (case side2 => exact (Kd.R_reads' HO_331000.out).2.1)
             (case side3 => repeat (first | exact (Kd.R_reads' HO_346002.out).2.2 | (with_reducible refine Kd.C_alloc ?_ _) | (with_reducible refine Kd.C_drewN ?_ _) | (with_reducible refine Kd.C_drew ?_)))
             (case side4 => exact (Kd.R_reads' HO_346002.out).2.1)
             (case side5 => repeat (first | exact (Kd.R_reads' HO_346003.out).2.2 | (with_reducible refine Kd.C_alloc ?_ _) | (with_reducible refine Kd.C_drewN ?_ _) | (with_reducible refine Kd.C_drew ?_)))
             (case side6 => exact (Kd.R_reads' HO_346003.out).2.1)
             (case side7 => repeat (first | exact (by repeat (first | (with_reducible exact HR354_0.out) | (with_reducible refine Kd.C_alloc ?_ _) | (with_reducible refine Kd.C_drewN ?_ _) | (with_reducible refine Kd.C_drew ?_) | exact HR354_0.out)) | (with_reducible refine Kd.C_alloc ?_ _) | (with_reducible refine Kd.C_drewN ?_ _) | (with_reducible refine Kd.C_drew ?_)))
             (case side8 => exact HC354_0.out)
             rintro e w68 ⟨rfl, hb⟩
             have HS8_ := (hb.cell (World.block_lt_of_cell? _ _ (hHeld.2.2.2.2.2.2.2.2))).trans (hHeld.2.2.2.2.2.2.2.2)
             refine ⟨_, rfl, ?_⟩
             have n0_ := Aside0.mk (Kd.N_below (by (with_reducible repeat (first | apply Kd.N_alloc | apply Kd.N_drewN | apply Kd.N_drew)); exact HO_11.out) hb)
             have n1_ := Aside0.mk (Kd.R_below (by (with_reducible repeat (first | apply Kd.R_alloc | apply Kd.R_drewN | apply Kd.R_drew)); exact HO_331000.out) hb)
             have n2_ := Aside0.mk (Kd.R_below (by (with_reducible repeat (first | apply Kd.R_alloc | apply Kd.R_drewN | apply Kd.R_drew)); exact HO_346002.out) hb)
             have n3_ := Aside0.mk (Kd.R_below (by (with_reducible repeat (first | apply Kd.R_alloc | apply Kd.R_drewN | apply Kd.R_drew)); exact HO_346003.out) hb)
             have n4_ := Aside0.mk (Kd.V_below (by (with_reducible repeat (first | apply Kd.V_alloc | apply Kd.V_drewN | apply Kd.V_drew)); exact HL354_0.out) hb)
             have n5_ := Aside0.mk (blk_below (g := gb321) (o := .cells #[.int .u8 a0_0, .int .u8 a0_1, .int .u8 a0_2, .int .u8 a0_3, .int .u8 a0_4, .int .u8 a0_5, .int .u8 a0_6, .int .u8 a0_7, .int .u8 a0_8, .int .u8 a0_9, .int .u8 a0_10, .int .u8 a0_11] 24 (0, 0)) (by (with_reducible repeat (first | refine blk_drewN ?_ _ | refine blk_drew ?_ | refine blk_alloc ?_ _)); exact BK321.out) hb)
             have n6_ := Aside0.mk (blk_below (g := gb322) (o := .cells #[.bool a2_0, .bool a2_1, .slice A2_2 l2_2.length c2_2, .slice A2_3 l2_3.length c2_3] 29 (0, 0)) (by (with_reducible repeat (first | refine blk_drewN ?_ _ | refine blk_drew ?_ | refine blk_alloc ?_ _)); exact BK322.out) hb)
             have n7_ := Aside0.mk (blk_below (g := gb330) (o := .cells #[.slice Ao19 t324.length co19, .int .i64 t327, .int .i64 t328, .int .i64 t329] 33 (0, 0)) (by (with_reducible repeat (first | refine blk_drewN ?_ _ | refine blk_drew ?_ | refine blk_alloc ?_ _)); exact BK330.out) hb)
             have n8_ := Aside0.mk (blk_below (g := gb345) (o := .cells #[.bool t337, .bool t338, .slice Ao36 t339.length co36, .slice Ao37 t342.length co37] 29 (0, 0)) (by (with_reducible repeat (first | refine blk_drewN ?_ _ | refine blk_drew ?_ | refine blk_alloc ?_ _)); exact BK345.out) hb)
             have n9_ := Aside0.mk (Kd.C_below (by repeat (first | (with_reducible exact HR354_0.out) | (with_reducible refine Kd.C_alloc ?_ _) | (with_reducible refine Kd.C_drewN ?_ _) | (with_reducible refine Kd.C_drew ?_) | exact HR354_0.out)) hb)
             have n10_ := Aside0.mk (below_step (by repeat (first | (with_reducible first | exact HB.out | apply below_alloc | apply pw_below_drewN | apply below_drew1 | refine below_set ?_ GE321.out | refine below_set ?_ GE322.out | refine below_set ?_ GE330.out | refine below_set ?_ GE345.out) | exact HB.out)) hb)
             clear HO_11
             clear HO_331000
             clear HO_346002
             clear HO_346003
             clear HL354_0
             clear BK321
             clear BK322
             clear BK330
             clear BK345
             clear HR354_0
             clear HB
             have HO_11 := n0_
             have HO_331000 := n1_
             have HO_346002 := n2_
             have HO_346003 := n3_
             have HL354_0 := n4_
             have BK321 := n5_
             have BK322 := n6_
             have BK330 := n7_
             have BK345 := n8_
             have HR354_0 := n9_
             have HB := n10_
             clear n0_ n1_ n2_ n3_ n4_ n5_ n6_ n7_ n8_ n9_ n10_
             (try clear hb)
             (try clear hb2)
             (try clear hk)
             (try clear hi)
             refine hK.out _ _ ⟨(blk_cell BK330.out 0).trans rfl, (blk_cell BK330.out 1).trans rfl, (blk_cell BK330.out 2).trans rfl, (blk_cell BK330.out 3).trans rfl, (blk_cell BK345.out 0).trans rfl, (blk_cell BK345.out 1).trans rfl, (blk_cell BK345.out 2).trans rfl, (blk_cell BK345.out 3).trans rfl, HS8_⟩ (fun hHeld => ?_)
             clear hK K
             refine norm_ (a' := ?_) ?_ ?_
             rotate_left
             ·show Act.put _ (some 93) _ = _
              simp only [Act.put, List.setIfInBounds_toArray, List.set_cons_zero, List.set_cons_succ, i64_w, i32_w]
              rfl
             refine pure_ (i := 7) (N := some 94) (v := ?_) (a' := ?_) #[true, true, true, true, true, true, true, true] rfl rfl (any_of HT_.out (by kernel_rfl)) (fun _ _ _ h => h) (Or.inl ⟨by rfl, ?_⟩) ?_ ?_
             rotate_left; (intro w'; go_simp; with_reducible rfl); rotate_left; (simp only [Act.put, List.setIfInBounds_toArray, List.set_cons_zero, List.set_cons_succ, i64_w, i32_w]; rfl)
             refine done_ (done_of HT_.out (by kernel_rfl)) ?_
             (try clear HS8_); (try clear hHeld)
             try go_wp2
             go_roundg k3
             case measure => have := HJ10.out; have := HK2.out; have := HK3.out; omega
             case rel => exact ⟨(wrap64 (x17_3 + 1)), (by first | rfl | (simp; done) | (simp [*]; done)), (by first | exact H' | (subst_vars; exact H')), ⟨by have := HJ10.out; have := HK2.out; have := HK3.out; omega⟩, ⟨by (with_reducible repeat (first | apply Kd.N_alloc | apply Kd.N_drewN | apply Kd.N_drew)); exact HO_11.out⟩, ⟨by (with_reducible repeat (first | apply Kd.R_alloc | apply Kd.R_drewN | apply Kd.R_drew)); exact HO_331000.out⟩, ⟨by (with_reducible repeat (first | apply Kd.R_alloc | apply Kd.R_drewN | apply Kd.R_drew)); exact HO_346002.out⟩, ⟨by (with_reducible repeat (first | apply Kd.R_alloc | apply Kd.R_drewN | apply Kd.R_drew)); exact HO_346003.out⟩, ⟨by (with_reducible repeat (first | refine blk_drewN ?_ _ | refine blk_drew ?_ | refine blk_alloc ?_ _)); exact BK321.out⟩, ⟨by (with_reducible repeat (first | refine blk_drewN ?_ _ | refine blk_drew ?_ | refine blk_alloc ?_ _)); exact BK322.out⟩, ⟨by (with_reducible repeat (first | refine blk_drewN ?_ _ | refine blk_drew ?_ | refine blk_alloc ?_ _)); exact BK330.out⟩, ⟨by (with_reducible repeat (first | refine blk_drewN ?_ _ | refine blk_drew ?_ | refine blk_alloc ?_ _)); exact BK345.out⟩, ⟨by repeat (first | (with_reducible first | exact HB.out | apply below_alloc | apply pw_below_drewN | apply below_drew1 | refine below_set ?_ GE321.out | refine below_set ?_ GE322.out | refine below_set ?_ GE330.out | refine below_set ?_ GE345.out) | exact HB.out)⟩⟩
            ·replace c66 := Bool.eq_false_iff.mpr c66
             subst c66
             have H1 : (some false) = some r := by rw [if_neg (show ¬ (false = true) by decide)] at H; exact H
             clear H
             have H := H1
             clear H1
             obtain rfl := Option.some.inj H
             try go_wp2
             have n0_ := Aside0.mk (Kd.N_drew HO_11.out)
             have n1_ := Aside0.mk (Kd.R_drew HO_331000.out)
             have n2_ := Aside0.mk (Kd.R_drew HO_346002.out)
             have n3_ := Aside0.mk (Kd.R_drew HO_346003.out)
             have n4_ := Aside0.mk (blk_drew BK321.out)
             have n5_ := Aside0.mk (blk_drew BK322.out)
             have n6_ := Aside0.mk (blk_drew BK330.out)
             have n7_ := Aside0.mk (blk_drew BK345.out)
             have n8_ := Aside0.mk (below_drew1 HB.out)
             clear HO_11
             clear HO_331000
             clear HO_346002
             clear HO_346003
             clear BK321
             clear BK322
             clear BK330
             clear BK345
             clear HB
             have HO_11 := n0_
             have HO_331000 := n1_
             have HO_346002 := n2_
             have HO_346003 := n3_
             have BK321 := n4_
             have BK322 := n5_
             have BK330 := n6_
             have BK345 := n7_
             have HB := n8_
             clear n0_ n1_ n2_ n3_ n4_ n5_ n6_ n7_ n8_
             have p354 : 0 ≤ (x17_3 : Int) := of_decide_eq_true (by first | (with_reducible assumption) | assumption)
             have q354 : x17_3 < (t346.length : Int) := of_decide_eq_true (by first | (with_reducible assumption) | assumption)
             obtain ⟨ad354, A354_0, c354_0, e354, hx354_0, hl354_0, hi354_0⟩ := at_L5 (Kd.N_reads' HO_11.out).2.2 x17_3 p354 q354
             cases e354
             obtain ⟨ce354, hce354, hMe354, hcc354⟩ := Kd.N_get HO_11.out [] x17_3 p354 (by first | exact q354 | exact of_decide_eq_true (by first | (with_reducible assumption) | assumption) | (have e_ := (Kd.N_reads' HO_11.out).1; omega))
             obtain ⟨ua354_0, uc354_0, rfl, ul354_0, ge354_0⟩ := Kd.FK_slice_open hMe354
             have hv354_0 := hcc354 0 _ rfl
             rw [Nat.add_zero, show ((Kd.slice 44 k44)).sz = 1 from rfl, Nat.mul_one] at hv354_0
             replace hv354_0 := Option.some.inj (hv354_0.symm.trans hx354_0)
             injection hv354_0 with hva_ hvn_ hvc_
             rw [hva_] at ge354_0
             rw [hvc_] at ul354_0
             have HL354_0 := Aside0.mk (show Kd.V k44 44 _ w.heap.size _ _ (rd_L5 t346 x17_3) from Kd.V_mk ul354_0 ge354_0)
             clear hva_ hvn_ hvc_ ge354_0 ul354_0
             clear hcc354 hce354
             have HR354_0 := Aside0.mk hi354_0
             have HC354_0 := Aside0.mk hl354_0
             clear hi354_0 hl354_0
             replace p354 := eq_true p354
             replace q354 := eq_true q354
             refine start_ (n := 8) (S := fun w' => w'.cell? ⟨gb330, 0, none⟩ = some (.slice Ao19 t324.length co19) ∧ w'.cell? ⟨gb330, 1, none⟩ = some (.int .i64 t327) ∧ w'.cell? ⟨gb330, 2, none⟩ = some (.int .i64 t328) ∧ w'.cell? ⟨gb330, 3, none⟩ = some (.int .i64 t329) ∧ w'.cell? ⟨gb345, 0, none⟩ = some (.bool t337) ∧ w'.cell? ⟨gb345, 1, none⟩ = some (.bool t338) ∧ w'.cell? ⟨gb345, 2, none⟩ = some (.slice Ao36 t339.length co36) ∧ w'.cell? ⟨gb345, 3, none⟩ = some (.slice Ao37 t342.length co37) ∧ w'.cell? (ad354.add (x17_3).toNat) = some (.slice A354_0 (rd_L5 t346 x17_3).length c354_0)) (ds := []) #[false, false, false, false, false, false, false, false] (by kernel_rfl) rfl rfl ⟨(blk_cell BK330.out 0).trans rfl, (blk_cell BK330.out 1).trans rfl, (blk_cell BK330.out 2).trans rfl, (blk_cell BK330.out 3).trans rfl, (blk_cell BK345.out 0).trans rfl, (blk_cell BK345.out 1).trans rfl, (blk_cell BK345.out 2).trans rfl, (blk_cell BK345.out 3).trans rfl, hx354_0⟩ (fun hHeld => ?_); refine with_tabW thresherlaw12_IndexFinds.tab19 thresherlaw12_IndexFinds.bits19 (fun HT_ HW_ => ?_)
             generalize wr.drew = w69 at HO_11 HO_331000 HO_346002 HO_346003 BK321 BK322 BK330 BK345 HB HL354_0 HR354_0 hx354_0 hHeld ⊢
             refine pure_ (i := 2) (N := some 89) (v := ?_) (a' := ?_) #[false, false, true, false, false, false, false, false] rfl rfl (any_of HT_.out (by kernel_rfl)) (fun _ _ _ h => h) (Or.inl ⟨by rfl, ?_⟩) ?_ ?_
             rotate_left; (intro w'; go_simp; with_reducible rfl); rotate_left; (simp only [Act.put, List.setIfInBounds_toArray, List.set_cons_zero, List.set_cons_succ, i64_w, i32_w]; rfl)
             refine pure_ (i := 3) (N := some 90) (v := ?_) (a' := ?_) #[false, false, true, true, false, false, false, false] rfl rfl (any_of HT_.out (by kernel_rfl)) (fun _ _ _ h => h) (Or.inl ⟨by rfl, ?_⟩) ?_ ?_
             rotate_left; (intro w'; go_simp; with_reducible rfl); rotate_left; (simp only [Act.put, List.setIfInBounds_toArray, List.set_cons_zero, List.set_cons_succ, i64_w, i32_w]; rfl)
             refine pure_ (i := 4) (N := some 91) (v := ?_) (a' := ?_) #[false, false, true, true, true, false, false, false] rfl rfl (any_of HT_.out (by kernel_rfl)) (fun _ _ _ h => h) (Or.inl ⟨by rfl, ?_⟩) ?_ ?_
             rotate_left; (intro w'; go_simp; with_reducible rfl); rotate_left; (simp only [Act.put, List.setIfInBounds_toArray, List.set_cons_zero, List.set_cons_succ, i64_w, i32_w]; rfl)
             refine take_ (i := 0) (N := some 87) (v := ?_) (a' := ?_) #[true, false, true, true, true, false, false, false] rfl rfl (take_ofW HT_.out HW_.out (by kernel_rfl)) (fun _ _ _ h => h) (Or.inl ⟨by rfl, ?_⟩) hHeld ?_ ?_
             rotate_left; (rintro w' ⟨s0, s1, s2, s3, s4, s5, s6, s7, s8⟩; go_simp; with_reducible rfl); rotate_left; (simp only [Act.put, List.setIfInBounds_toArray, List.set_cons_zero, List.set_cons_succ, i64_w, i32_w]; rfl)
             refine take_ (i := 1) (N := some 88) (v := ?_) (a' := ?_) #[true, true, true, true, true, false, false, false] rfl rfl (take_ofW HT_.out HW_.out (by kernel_rfl)) (fun _ _ _ h => h) (Or.inl ⟨by rfl, ?_⟩) hHeld ?_ ?_
             rotate_left; (rintro w' ⟨s0, s1, s2, s3, s4, s5, s6, s7, s8⟩; go_simp; with_reducible rfl); rotate_left; (simp only [Act.put, List.setIfInBounds_toArray, List.set_cons_zero, List.set_cons_succ, i64_w, i32_w]; rfl)
             refine take_ (i := 5) (N := some 92) (v := ?_) (a' := ?_) #[true, true, true, true, true, true, false, false] rfl rfl (take_ofW HT_.out HW_.out (by kernel_rfl)) (fun _ _ _ h => h) (Or.inl ⟨by rfl, ?_⟩) hHeld ?_ ?_
             rotate_left; (rintro w' ⟨s0, s1, s2, s3, s4, s5, s6, s7, s8⟩; go_simp; with_reducible rfl); rotate_left; (simp only [Act.put, List.setIfInBounds_toArray, List.set_cons_zero, List.set_cons_succ, i64_w, i32_w]; rfl)
             refine one_ (i := 6) (N := some 93) #[true, true, true, true, true, true, true, false] rfl rfl (one_of HT_.out (by kernel_rfl)) (by decide) (fun K hK => ?_)
             refine goes_ Try.func12 (by kernel_rfl) rfl #[.agg #[.slice Ao19 t324.length co19, .int .i64 t327, .int .i64 t328, .int .i64 t329], .agg #[.bool t337, .bool t338, .slice Ao36 t339.length co36, .slice Ao37 t342.length co37], .slice A354_0 (rd_L5 t346 x17_3).length c354_0] (by rfl) rfl rfl (by (try simp only [List.map_toArray, List.map_cons, List.map_nil]); first | done | rfl | (simp only [List.length_drop, List.length_take]; rfl)) ?_
             with_reducible refine (index_In.calls k3 _ _ t324 t327 t328 t329 t337 t338 _ _ t339 _ _ t342 _ _ (rd_L5 t346 x17_3) false _ ?side1 ?side2 ?side3 ?side4 ?side5 ?side6 ?side7 ?side8 A65.out).mono ?_
             (case side1 => repeat (first | exact (Kd.R_reads' HO_331000.out).2.2 | (with_reducible refine Kd.C_alloc ?_ _) | (with_reducible refine Kd.C_drewN ?_ _) | (with_reducible refine Kd.C_drew ?_)))
             (case side2 => exact (Kd.R_reads' HO_331000.out).2.1)
             (case side3 => repeat (first | exact (Kd.R_reads' HO_346002.out).2.2 | (with_reducible refine Kd.C_alloc ?_ _) | (with_reducible refine Kd.C_drewN ?_ _) | (with_reducible refine Kd.C_drew ?_)))
             (case side4 => exact (Kd.R_reads' HO_346002.out).2.1)
             (case side5 => repeat (first | exact (Kd.R_reads' HO_346003.out).2.2 | (with_reducible refine Kd.C_alloc ?_ _) | (with_reducible refine Kd.C_drewN ?_ _) | (with_reducible refine Kd.C_drew ?_)))
             (case side6 => exact (Kd.R_reads' HO_346003.out).2.1)
             (case side7 => repeat (first | exact (by repeat (first | (with_reducible exact HR354_0.out) | (with_reducible refine Kd.C_alloc ?_ _) | (with_reducible refine Kd.C_drewN ?_ _) | (with_reducible refine Kd.C_drew ?_) | exact HR354_0.out)) | (with_reducible refine Kd.C_alloc ?_ _) | (with_reducible refine Kd.C_drewN ?_ _) | (with_reducible refine Kd.C_drew ?_)))
             (case side8 => exact HC354_0.out)
             rintro e w70 ⟨rfl, hb⟩
             have HS8_ := (hb.cell (World.block_lt_of_cell? _ _ (hHeld.2.2.2.2.2.2.2.2))).trans (hHeld.2.2.2.2.2.2.2.2)
             refine ⟨_, rfl, ?_⟩
             have n0_ := Aside0.mk (Kd.N_below (by (with_reducible repeat (first | apply Kd.N_alloc | apply Kd.N_drewN | apply Kd.N_drew)); exact HO_11.out) hb)
             have n1_ := Aside0.mk (Kd.R_below (by (with_reducible repeat (first | apply Kd.R_alloc | apply Kd.R_drewN | apply Kd.R_drew)); exact HO_331000.out) hb)
             have n2_ := Aside0.mk (Kd.R_below (by (with_reducible repeat (first | apply Kd.R_alloc | apply Kd.R_drewN | apply Kd.R_drew)); exact HO_346002.out) hb)
             have n3_ := Aside0.mk (Kd.R_below (by (with_reducible repeat (first | apply Kd.R_alloc | apply Kd.R_drewN | apply Kd.R_drew)); exact HO_346003.out) hb)
             have n4_ := Aside0.mk (Kd.V_below (by (with_reducible repeat (first | apply Kd.V_alloc | apply Kd.V_drewN | apply Kd.V_drew)); exact HL354_0.out) hb)
             have n5_ := Aside0.mk (blk_below (g := gb321) (o := .cells #[.int .u8 a0_0, .int .u8 a0_1, .int .u8 a0_2, .int .u8 a0_3, .int .u8 a0_4, .int .u8 a0_5, .int .u8 a0_6, .int .u8 a0_7, .int .u8 a0_8, .int .u8 a0_9, .int .u8 a0_10, .int .u8 a0_11] 24 (0, 0)) (by (with_reducible repeat (first | refine blk_drewN ?_ _ | refine blk_drew ?_ | refine blk_alloc ?_ _)); exact BK321.out) hb)
             have n6_ := Aside0.mk (blk_below (g := gb322) (o := .cells #[.bool a2_0, .bool a2_1, .slice A2_2 l2_2.length c2_2, .slice A2_3 l2_3.length c2_3] 29 (0, 0)) (by (with_reducible repeat (first | refine blk_drewN ?_ _ | refine blk_drew ?_ | refine blk_alloc ?_ _)); exact BK322.out) hb)
             have n7_ := Aside0.mk (blk_below (g := gb330) (o := .cells #[.slice Ao19 t324.length co19, .int .i64 t327, .int .i64 t328, .int .i64 t329] 33 (0, 0)) (by (with_reducible repeat (first | refine blk_drewN ?_ _ | refine blk_drew ?_ | refine blk_alloc ?_ _)); exact BK330.out) hb)
             have n8_ := Aside0.mk (blk_below (g := gb345) (o := .cells #[.bool t337, .bool t338, .slice Ao36 t339.length co36, .slice Ao37 t342.length co37] 29 (0, 0)) (by (with_reducible repeat (first | refine blk_drewN ?_ _ | refine blk_drew ?_ | refine blk_alloc ?_ _)); exact BK345.out) hb)
             have n9_ := Aside0.mk (Kd.C_below (by repeat (first | (with_reducible exact HR354_0.out) | (with_reducible refine Kd.C_alloc ?_ _) | (with_reducible refine Kd.C_drewN ?_ _) | (with_reducible refine Kd.C_drew ?_) | exact HR354_0.out)) hb)
             have n10_ := Aside0.mk (below_step (by repeat (first | (with_reducible first | exact HB.out | apply below_alloc | apply pw_below_drewN | apply below_drew1 | refine below_set ?_ GE321.out | refine below_set ?_ GE322.out | refine below_set ?_ GE330.out | refine below_set ?_ GE345.out) | exact HB.out)) hb)
             clear HO_11
             clear HO_331000
             clear HO_346002
             clear HO_346003
             clear HL354_0
             clear BK321
             clear BK322
             clear BK330
             clear BK345
             clear HR354_0
             clear HB
             have HO_11 := n0_
             have HO_331000 := n1_
             have HO_346002 := n2_
             have HO_346003 := n3_
             have HL354_0 := n4_
             have BK321 := n5_
             have BK322 := n6_
             have BK330 := n7_
             have BK345 := n8_
             have HR354_0 := n9_
             have HB := n10_
             clear n0_ n1_ n2_ n3_ n4_ n5_ n6_ n7_ n8_ n9_ n10_
             (try clear hb)
             (try clear hb2)
             (try clear hk)
             (try clear hi)
             refine hK.out _ _ ⟨(blk_cell BK330.out 0).trans rfl, (blk_cell BK330.out 1).trans rfl, (blk_cell BK330.out 2).trans rfl, (blk_cell BK330.out 3).trans rfl, (blk_cell BK345.out 0).trans rfl, (blk_cell BK345.out 1).trans rfl, (blk_cell BK345.out 2).trans rfl, (blk_cell BK345.out 3).trans rfl, HS8_⟩ (fun hHeld => ?_)
             clear hK K
             refine norm_ (a' := ?_) ?_ ?_
             rotate_left
             ·show Act.put _ (some 93) _ = _
              simp only [Act.put, List.setIfInBounds_toArray, List.set_cons_zero, List.set_cons_succ, i64_w, i32_w]
              rfl
             refine pure_ (i := 7) (N := some 94) (v := ?_) (a' := ?_) #[true, true, true, true, true, true, true, true] rfl rfl (any_of HT_.out (by kernel_rfl)) (fun _ _ _ h => h) (Or.inl ⟨by rfl, ?_⟩) ?_ ?_
             rotate_left; (intro w'; go_simp; with_reducible rfl); rotate_left; (simp only [Act.put, List.setIfInBounds_toArray, List.set_cons_zero, List.set_cons_succ, i64_w, i32_w]; rfl)
             refine done_ (done_of HT_.out (by kernel_rfl)) ?_
             (try clear HS8_); (try clear hHeld)
             try go_wp2
             go_ret
             exact ⟨by first | rfl | (simp [errW_none, errW_some] <;> rfl) | (simp [*, errW_none, errW_some] <;> rfl), by repeat (first | (with_reducible first | exact HB.out | apply below_alloc | apply pw_below_drewN | apply below_drew1 | refine below_set ?_ GE321.out | refine below_set ?_ GE322.out | refine below_set ?_ GE330.out | refine below_set ?_ GE345.out) | exact HB.out)⟩
           ·rw [if_neg c64] at H
            exact absurd H (by simp)
          ·rw [if_neg c63] at H
           exact absurd H (by simp)
         ·rw [if_neg c62] at H
          have c62b0 : decide (x17_3 < t350) = false := decide_eq_false c62
          clear c62
          by_cases c71 : t323 = true
          ·subst c71
           have H1 : ((index_Empty.f k3 t324 t327 t328 t329 t337 t338 t339 t342).bind fun t353 => (if t353 = true then (some (t350 == 0)) else (some true))) = some r := by rw [if_pos rfl] at H; exact H
           clear H
           have H := H1
           clear H1
           replace H := Option.bind_eq_some_iff.mp H
           obtain ⟨t353, A720, H⟩ := H
           replace H : (if t353 = true then (some (t350 == 0)) else (some true)) = some r := H
           have A72 := Aside0.mk A720
           clear A720
           by_cases c73 : t353 = true
           ·subst c73
            have H1 : (some (t350 == 0)) = some r := by rw [if_pos rfl] at H; exact H
            clear H
            have H := H1
            clear H1
            obtain rfl := Option.some.inj H
            have hnb74 := NB330_321.out
            have hnc74 := NB321_330.out
            have hnb75 := NB330_322.out
            have hnc75 := NB322_330.out
            have hnb76 := NB330_345.out
            have hnc76 := NB345_330.out
            have hcz77_0 : wr.cell? ⟨gb330, 0, none⟩ = some (.slice Ao19 t324.length co19) := (blk_cell BK330.out 0).trans rfl
            have hcz77_1 : wr.cell? ⟨gb330, 1, none⟩ = some (.int .i64 t327) := (blk_cell BK330.out 1).trans rfl
            have hcz77_2 : wr.cell? ⟨gb330, 2, none⟩ = some (.int .i64 t328) := (blk_cell BK330.out 2).trans rfl
            have hcz77_3 : wr.cell? ⟨gb330, 3, none⟩ = some (.int .i64 t329) := (blk_cell BK330.out 3).trans rfl
            have hfz77_0 := blk_frozen BK330.out 0
            have hfz77_1 := blk_frozen BK330.out 1
            have hfz77_2 := blk_frozen BK330.out 2
            have hfz77_3 := blk_frozen BK330.out 3
            have hnb78 := NB345_321.out
            have hnc78 := NB321_345.out
            have hnb79 := NB345_322.out
            have hnc79 := NB322_345.out
            have hcz80_0 : wr.cell? ⟨gb345, 0, none⟩ = some (.bool t337) := (blk_cell BK345.out 0).trans rfl
            have hcz80_1 : wr.cell? ⟨gb345, 1, none⟩ = some (.bool t338) := (blk_cell BK345.out 1).trans rfl
            have hcz80_2 : wr.cell? ⟨gb345, 2, none⟩ = some (.slice Ao36 t339.length co36) := (blk_cell BK345.out 2).trans rfl
            have hcz80_3 : wr.cell? ⟨gb345, 3, none⟩ = some (.slice Ao37 t342.length co37) := (blk_cell BK345.out 3).trans rfl
            have hfz80_0 := blk_frozen BK345.out 0
            have hfz80_1 := blk_frozen BK345.out 1
            have hfz80_2 := blk_frozen BK345.out 2
            have hfz80_3 := blk_frozen BK345.out 3
            go_wp2_with (first | (go_at_call 17; (with_reducible refine (index_Empty.calls k3 _ _ t324 t327 t328 t329 t337 t338 _ _ t339 _ _ t342 true _ ?side1 ?side2 ?side3 ?side4 ?side5 ?side6 A72.out).mono ?_); (case side1 => repeat (first | exact (Kd.R_reads' HO_331000.out).2.2 | (with_reducible refine Kd.C_alloc ?_ _) | (with_reducible refine Kd.C_drewN ?_ _) | (with_reducible refine Kd.C_drew ?_))); (case side2 => exact (Kd.R_reads' HO_331000.out).2.1); (case side3 => repeat (first | exact (Kd.R_reads' HO_346002.out).2.2 | (with_reducible refine Kd.C_alloc ?_ _) | (with_reducible refine Kd.C_drewN ?_ _) | (with_reducible refine Kd.C_drew ?_))); (case side4 => exact (Kd.R_reads' HO_346002.out).2.1); (case side5 => repeat (first | exact (Kd.R_reads' HO_346003.out).2.2 | (with_reducible refine Kd.C_alloc ?_ _) | (with_reducible refine Kd.C_drewN ?_ _) | (with_reducible refine Kd.C_drew ?_))); (case side6 => exact (Kd.R_reads' HO_346003.out).2.1); rintro e w81 ⟨rfl, hb⟩; have n0_ := Aside0.mk (Kd.N_below (by (with_reducible repeat (first | apply Kd.N_alloc | apply Kd.N_drewN | apply Kd.N_drew)); exact HO_11.out) hb); have n1_ := Aside0.mk (Kd.R_below (by (with_reducible repeat (first | apply Kd.R_alloc | apply Kd.R_drewN | apply Kd.R_drew)); exact HO_331000.out) hb); have n2_ := Aside0.mk (Kd.R_below (by (with_reducible repeat (first | apply Kd.R_alloc | apply Kd.R_drewN | apply Kd.R_drew)); exact HO_346002.out) hb); have n3_ := Aside0.mk (Kd.R_below (by (with_reducible repeat (first | apply Kd.R_alloc | apply Kd.R_drewN | apply Kd.R_drew)); exact HO_346003.out) hb); have n4_ := Aside0.mk (blk_below (g := gb321) (o := .cells #[.int .u8 a0_0, .int .u8 a0_1, .int .u8 a0_2, .int .u8 a0_3, .int .u8 a0_4, .int .u8 a0_5, .int .u8 a0_6, .int .u8 a0_7, .int .u8 a0_8, .int .u8 a0_9, .int .u8 a0_10, .int .u8 a0_11] 24 (0, 0)) (by (with_reducible repeat (first | refine blk_drewN ?_ _ | refine blk_drew ?_ | refine blk_alloc ?_ _)); exact BK321.out) hb); have n5_ := Aside0.mk (blk_below (g := gb322) (o := .cells #[.bool a2_0, .bool a2_1, .slice A2_2 l2_2.length c2_2, .slice A2_3 l2_3.length c2_3] 29 (0, 0)) (by (with_reducible repeat (first | refine blk_drewN ?_ _ | refine blk_drew ?_ | refine blk_alloc ?_ _)); exact BK322.out) hb); have n6_ := Aside0.mk (blk_below (g := gb330) (o := .cells #[.slice Ao19 t324.length co19, .int .i64 t327, .int .i64 t328, .int .i64 t329] 33 (0, 0)) (by (with_reducible repeat (first | refine blk_drewN ?_ _ | refine blk_drew ?_ | refine blk_alloc ?_ _)); exact BK330.out) hb); have n7_ := Aside0.mk (blk_below (g := gb345) (o := .cells #[.bool t337, .bool t338, .slice Ao36 t339.length co36, .slice Ao37 t342.length co37] 29 (0, 0)) (by (with_reducible repeat (first | refine blk_drewN ?_ _ | refine blk_drew ?_ | refine blk_alloc ?_ _)); exact BK345.out) hb); have n8_ := Aside0.mk (below_step (by repeat (first | (with_reducible first | exact HB.out | apply below_alloc | apply pw_below_drewN | apply below_drew1 | refine below_set ?_ GE321.out | refine below_set ?_ GE322.out | refine below_set ?_ GE330.out | refine below_set ?_ GE345.out) | exact HB.out)) hb); clear HO_11; clear HO_331000; clear HO_346002; clear HO_346003; clear BK321; clear BK322; clear BK330; clear BK345; clear HB; have HO_11 := n0_; have HO_331000 := n1_; have HO_346002 := n2_; have HO_346003 := n3_; have BK321 := n4_; have BK322 := n5_; have BK330 := n6_; have BK345 := n7_; have HB := n8_; clear n0_ n1_ n2_ n3_ n4_ n5_ n6_ n7_ n8_; (try clear hb); (try clear hb2); (try clear hk); (try clear hi)))
            go_ret
            exact ⟨by first | rfl | (simp [errW_none, errW_some] <;> rfl) | (simp [*, errW_none, errW_some] <;> rfl), by repeat (first | (with_reducible first | exact HB.out | apply below_alloc | apply pw_below_drewN | apply below_drew1 | refine below_set ?_ GE321.out | refine below_set ?_ GE322.out | refine below_set ?_ GE330.out | refine below_set ?_ GE345.out) | exact HB.out)⟩
           ·replace c73 := Bool.eq_false_iff.mpr c73
            subst c73
            have H1 : (some true) = some r := by rw [if_neg (show ¬ (false = true) by decide)] at H; exact H
            clear H
            have H := H1
            clear H1
            obtain rfl := Option.some.inj H
            have hnb82 := NB330_321.out
            have hnc82 := NB321_330.out
            have hnb83 := NB330_322.out
            have hnc83 := NB322_330.out
            have hnb84 := NB330_345.out
            have hnc84 := NB345_330.out
            have hcz85_0 : wr.cell? ⟨gb330, 0, none⟩ = some (.slice Ao19 t324.length co19) := (blk_cell BK330.out 0).trans rfl
            have hcz85_1 : wr.cell? ⟨gb330, 1, none⟩ = some (.int .i64 t327) := (blk_cell BK330.out 1).trans rfl
            have hcz85_2 : wr.cell? ⟨gb330, 2, none⟩ = some (.int .i64 t328) := (blk_cell BK330.out 2).trans rfl
            have hcz85_3 : wr.cell? ⟨gb330, 3, none⟩ = some (.int .i64 t329) := (blk_cell BK330.out 3).trans rfl
            have hfz85_0 := blk_frozen BK330.out 0
            have hfz85_1 := blk_frozen BK330.out 1
            have hfz85_2 := blk_frozen BK330.out 2
            have hfz85_3 := blk_frozen BK330.out 3
            have hnb86 := NB345_321.out
            have hnc86 := NB321_345.out
            have hnb87 := NB345_322.out
            have hnc87 := NB322_345.out
            have hcz88_0 : wr.cell? ⟨gb345, 0, none⟩ = some (.bool t337) := (blk_cell BK345.out 0).trans rfl
            have hcz88_1 : wr.cell? ⟨gb345, 1, none⟩ = some (.bool t338) := (blk_cell BK345.out 1).trans rfl
            have hcz88_2 : wr.cell? ⟨gb345, 2, none⟩ = some (.slice Ao36 t339.length co36) := (blk_cell BK345.out 2).trans rfl
            have hcz88_3 : wr.cell? ⟨gb345, 3, none⟩ = some (.slice Ao37 t342.length co37) := (blk_cell BK345.out 3).trans rfl
            have hfz88_0 := blk_frozen BK345.out 0
            have hfz88_1 := blk_frozen BK345.out 1
            have hfz88_2 := blk_frozen BK345.out 2
            have hfz88_3 := blk_frozen BK345.out 3
            go_wp2_with (first | (go_at_call 17; (with_reducible refine (index_Empty.calls k3 _ _ t324 t327 t328 t329 t337 t338 _ _ t339 _ _ t342 false _ ?side1 ?side2 ?side3 ?side4 ?side5 ?side6 A72.out).mono ?_); (case side1 => repeat (first | exact (Kd.R_reads' HO_331000.out).2.2 | (with_reducible refine Kd.C_alloc ?_ _) | (with_reducible refine Kd.C_drewN ?_ _) | (with_reducible refine Kd.C_drew ?_))); (case side2 => exact (Kd.R_reads' HO_331000.out).2.1); (case side3 => repeat (first | exact (Kd.R_reads' HO_346002.out).2.2 | (with_reducible refine Kd.C_alloc ?_ _) | (with_reducible refine Kd.C_drewN ?_ _) | (with_reducible refine Kd.C_drew ?_))); (case side4 => exact (Kd.R_reads' HO_346002.out).2.1); (case side5 => repeat (first | exact (Kd.R_reads' HO_346003.out).2.2 | (with_reducible refine Kd.C_alloc ?_ _) | (with_reducible refine Kd.C_drewN ?_ _) | (with_reducible refine Kd.C_drew ?_))); (case side6 => exact (Kd.R_reads' HO_346003.out).2.1); rintro e w89 ⟨rfl, hb⟩; have n0_ := Aside0.mk (Kd.N_below (by (with_reducible repeat (first | apply Kd.N_alloc | apply Kd.N_drewN | apply Kd.N_drew)); exact HO_11.out) hb); have n1_ := Aside0.mk (Kd.R_below (by (with_reducible repeat (first | apply Kd.R_alloc | apply Kd.R_drewN | apply Kd.R_drew)); exact HO_331000.out) hb); have n2_ := Aside0.mk (Kd.R_below (by (with_reducible repeat (first | apply Kd.R_alloc | apply Kd.R_drewN | apply Kd.R_drew)); exact HO_346002.out) hb); have n3_ := Aside0.mk (Kd.R_below (by (with_reducible repeat (first | apply Kd.R_alloc | apply Kd.R_drewN | apply Kd.R_drew)); exact HO_346003.out) hb); have n4_ := Aside0.mk (blk_below (g := gb321) (o := .cells #[.int .u8 a0_0, .int .u8 a0_1, .int .u8 a0_2, .int .u8 a0_3, .int .u8 a0_4, .int .u8 a0_5, .int .u8 a0_6, .int .u8 a0_7, .int .u8 a0_8, .int .u8 a0_9, .int .u8 a0_10, .int .u8 a0_11] 24 (0, 0)) (by (with_reducible repeat (first | refine blk_drewN ?_ _ | refine blk_drew ?_ | refine blk_alloc ?_ _)); exact BK321.out) hb); have n5_ := Aside0.mk (blk_below (g := gb322) (o := .cells #[.bool a2_0, .bool a2_1, .slice A2_2 l2_2.length c2_2, .slice A2_3 l2_3.length c2_3] 29 (0, 0)) (by (with_reducible repeat (first | refine blk_drewN ?_ _ | refine blk_drew ?_ | refine blk_alloc ?_ _)); exact BK322.out) hb); have n6_ := Aside0.mk (blk_below (g := gb330) (o := .cells #[.slice Ao19 t324.length co19, .int .i64 t327, .int .i64 t328, .int .i64 t329] 33 (0, 0)) (by (with_reducible repeat (first | refine blk_drewN ?_ _ | refine blk_drew ?_ | refine blk_alloc ?_ _)); exact BK330.out) hb); have n7_ := Aside0.mk (blk_below (g := gb345) (o := .cells #[.bool t337, .bool t338, .slice Ao36 t339.length co36, .slice Ao37 t342.length co37] 29 (0, 0)) (by (with_reducible repeat (first | refine blk_drewN ?_ _ | refine blk_drew ?_ | refine blk_alloc ?_ _)); exact BK345.out) hb); have n8_ := Aside0.mk (below_step (by repeat (first | (with_reducible first | exact HB.out | apply below_alloc | apply pw_below_drewN | apply below_drew1 | refine below_set ?_ GE321.out | refine below_set ?_ GE322.out | refine below_set ?_ GE330.out | refine below_set ?_ GE345.out) | exact HB.out)) hb); clear HO_11; clear HO_331000; clear HO_346002; clear HO_346003; clear BK321; clear BK322; clear BK330; clear BK345; clear HB; have HO_11 := n0_; have HO_331000 := n1_; have HO_346002 := n2_; have HO_346003 := n3_; have BK321 := n4_; have BK322 := n5_; have BK330 := n6_; have BK345 := n7_; have HB := n8_; clear n0_ n1_ n2_ n3_ n4_ n5_ n6_ n7_ n8_; (try clear hb); (try clear hb2); (try clear hk); (try clear hi)))
            go_ret
            exact ⟨by first | rfl | (simp [errW_none, errW_some] <;> rfl) | (simp [*, errW_none, errW_some] <;> rfl), by repeat (first | (with_reducible first | exact HB.out | apply below_alloc | apply pw_below_drewN | apply below_drew1 | refine below_set ?_ GE321.out | refine below_set ?_ GE322.out | refine below_set ?_ GE330.out | refine below_set ?_ GE345.out) | exact HB.out)⟩
          ·replace c71 := Bool.eq_false_iff.mpr c71
           subst c71
           have H1 : (some false) = some r := by rw [if_neg (show ¬ (false = true) by decide)] at H; exact H
           clear H
           have H := H1
           clear H1
           obtain rfl := Option.some.inj H
           go_wp2
           go_ret
           exact ⟨by first | rfl | (simp [errW_none, errW_some] <;> rfl) | (simp [*, errW_none, errW_some] <;> rfl), by repeat (first | (with_reducible first | exact HB.out | apply below_alloc | apply pw_below_drewN | apply below_drew1 | refine below_set ?_ GE321.out | refine below_set ?_ GE322.out | refine below_set ?_ GE330.out | refine below_set ?_ GE345.out) | exact HB.out)⟩

end Go.Proofs.Ytfccebnoflhkcaa.P

