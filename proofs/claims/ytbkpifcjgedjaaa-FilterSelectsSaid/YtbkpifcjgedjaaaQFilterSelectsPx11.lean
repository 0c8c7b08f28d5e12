/- Texts of FilterSelects. Merged: Px11. -/
import Derived.Test.YtbkpifcjgedjaaaQFilterSelectsPx0
import Derived.Test.YtbkpifcjgedjaaaQFilterSelectsPx4
import Derived.Test.YtbkpifcjgedjaaaQFilterSelectsPx5
import Derived.Test.YtbkpifcjgedjaaaQFilterSelectsPx6
import Derived.Test.YtbkpifcjgedjaaaQFilterSelectsPx7
import Derived.Test.YtbkpifcjgedjaaaQFilterSelectsPx9
import Derived.Test.YtbkpifcjgedjaaaQFilterSelectsPx10
-- Written by wip/tools/myprint.py over the kit's print (a program's print; Lean checks it).
namespace Go.Proofs.Ytbkpifcjgedjaaa.P
open Go.RowKit Go.Proofs.YtbkpifcjgedjaaaW.PrintWords Go.Proofs.YtbkpifcjgedjaaaW.PrintLast Go.Proofs.YtbkpifcjgedjaaaW.PrintMore
attribute [local go_sem] max2_int min2_int max_two min_two max_three min_three max_four min_four   -- for this text's walks alone
set_option linter.unusedVariables false
set_option linter.unusedSimpArgs false

/-! ### thresherlaw19_FilterSelects: function 3 -/
mutual
def thresherlaw19_FilterSelects.j0 : Nat → Bool → List (S39) → List (List (S37)) → List Int → List Int → Int → Int → Int → Option (Bool)
 | 0, _, _, _, _, _, _, _, _ => none
 | k + 1, x7, x9, x10, x11, x239000, x239001, x239002, x239003 => thresherlaw19_FilterSelects.l0 k x7 x9 x10 x11 (([] : List Int)) 0 x239000 x239001 x239002 x239003
def thresherlaw19_FilterSelects.l0 : Nat → Bool → List (S39) → List (List (S37)) → List Int → List Int → Int → List Int → Int → Int → Int → Option (Bool)
 | 0, _, _, _, _, _, _, _, _, _, _ => none
 | k + 1, x7, x9, x10, x11, x12, x13, x239000, x239001, x239002, x239003 => if x13 < (x10.length : Int) then (if x12.length < 17592186044416 then (thresherlaw19_FilterSelects.l0 k x7 x9 x10 x11 (x12 ++ [x13]) (wrap64 (x13 + 1)) x239000 x239001 x239002 x239003) else (none)) else (thresherlaw19_FilterSelects.l1 k x7 x9 x10 x11 x12 0 x239000 x239001 x239002 x239003)
def thresherlaw19_FilterSelects.l1 : Nat → Bool → List (S39) → List (List (S37)) → List Int → List Int → Int → List Int → Int → Int → Int → Option (Bool)
 | 0, _, _, _, _, _, _, _, _, _, _ => none
 | k + 1, x7, x9, x10, x11, x12, x14, x239000, x239001, x239002, x239003 => if x14 < (x9.length : Int) then (if 0 ≤ x14 then (if 0 ≤ ((rd_T39 x9 x14).f0) then (if ((rd_T39 x9 x14).f0) < (x239000.length : Int) then (thresherlaw19_FilterSelects.l2 k x7 x9 x10 x11 x12 x14 (rd x239000 ((rd_T39 x9 x14).f0)) (([] : List (S37))) 0 x239000 x239001 x239002 x239003 ((rd_T39 x9 x14).f0) ((rd_T39 x9 x14).f1) ((rd_T39 x9 x14).f2.f0) ((rd_T39 x9 x14).f2.f1)) else (none)) else (none)) else (none)) else ((filter_Keep.f k x239000 x239001 x239002 x239003 x9 x10).bind fun t277 => (if (t277.length : Int) = (x12.length : Int) then (thresherlaw19_FilterSelects.l3 k x7 x10 x12 t277 0) else (some false)))
def thresherlaw19_FilterSelects.l2 : Nat → Bool → List (S39) → List (List (S37)) → List Int → List Int → Int → Int → List (S37) → Int → List Int → Int → Int → Int → Int → Int → Int → ByteArray → Option (Bool)
 | 0, _, _, _, _, _, _, _, _, _, _, _, _, _, _, _, _, _ => none
 | k + 1, x7, x9, x10, x11, x12, x14, x16, x17, x18, x239000, x239001, x239002, x239003, x258000, x258001, x258002, x258003 => if x18 < (x10.length : Int) then (if 0 ≤ x18 then (if 0 ≤ x258000 then (if x258000 < ((rd_L4 x10 x18).length : Int) then (if x17.length < 5864062014805 then (thresherlaw19_FilterSelects.l2 k x7 x9 x10 x11 x12 x14 x16 (x17 ++ [(⟨(rd_T37 (rd_L4 x10 x18) x258000).f0, (rd_T37 (rd_L4 x10 x18) x258000).f1⟩ : S37)]) (wrap64 (x18 + 1)) x239000 x239001 x239002 x239003 x258000 x258001 x258002 x258003) else (none)) else (none)) else (none)) else (none)) else ((filter_Select.f k x16 x258000 x258001 x258002 x258003 x17 x11).bind fun t267 => ((thresherref19_Select.f k x16 x258000 x258001 x258002 x258003 x17 x11).bind fun t270 => ((thresherref15_Same.f k t267 t270).bind fun t273 => (if t273 = true then ((filter_Select.f k x16 x258000 x258001 x258002 x258003 x17 x12).bind fun t274 => (thresherlaw19_FilterSelects.l1 k x7 x9 x10 x11 t274 (wrap64 (x14 + 1)) x239000 x239001 x239002 x239003)) else (some false)))))
def thresherlaw19_FilterSelects.l3 : Nat → Bool → List (List (S37)) → List Int → List (List (S37)) → Int → Option (Bool)
 | 0, _, _, _, _, _ => none
 | k + 1, x7, x10, x12, x20, x21 => if x21 < (x12.length : Int) then (if 0 ≤ x21 then (if x21 < (x20.length : Int) then (if 0 ≤ (rd x12 x21) then (if (rd x12 x21) < (x10.length : Int) then ((thresherref04_One.f k (rd_L4 x20 x21) (rd_L4 x10 (rd x12 x21))).bind fun t283 => (if t283 = true then (thresherlaw19_FilterSelects.l3 k x7 x10 x12 x20 (wrap64 (x21 + 1))) else (some false))) else (none)) else (none)) else (none)) else (none)) else (some x7)
end
def thresherlaw19_FilterSelects.f (k : Nat) (a0_0 : Int) (a0_1 : Int) (a0_2 : Int) (a0_3 : Int) (a0_4 : Int) (a0_5 : Int) (a0_6 : Int) (a0_7 : Int) (a0_8 : Int) (a0_9 : Int) (a0_10 : Int) (a0_11 : Int) (l1 : List (S39)) (l2_0 : List (List (S37))) (l2_1 : List Int) : Option (Bool) := (thresherlaw19_shown.f k).bind fun t231 => ((thresherlaw19_made.f k a0_0 a0_1 a0_2 a0_3 a0_4 a0_5 a0_6 a0_7 a0_8 a0_9 a0_10 a0_11).bind fun bt232 => ((thresherref19_Fit.f k bt232.1 bt232.2.1 bt232.2.2.1 bt232.2.2.2 l1 16).bind fun t239 => ((thresherref04_Fits.f k bt232.1 bt232.2.1 bt232.2.2.1 bt232.2.2.2 l2_0 60).bind fun t242 => (if (l2_1.length : Int) > 60 then (if 60 ≤ (l2_1.length : Int) then (thresherlaw19_FilterSelects.j0 k t231 t239 t242 (l2_1.take 60) bt232.1 bt232.2.1 bt232.2.2.1 bt232.2.2.2) else (none)) else (thresherlaw19_FilterSelects.j0 k t231 t239 t242 l2_1 bt232.1 bt232.2.1 bt232.2.2.1 bt232.2.2.2)))))
theorem thresherlaw19_FilterSelects.mono_l : ∀ k, (∀ y0 y1 y2 y3 y4 y5 y6 y7, LeO (thresherlaw19_FilterSelects.j0 k y0 y1 y2 y3 y4 y5 y6 y7) (thresherlaw19_FilterSelects.j0 (k + 1) y0 y1 y2 y3 y4 y5 y6 y7)) ∧ (∀ y0 y1 y2 y3 y4 y5 y6 y7 y8 y9, LeO (thresherlaw19_FilterSelects.l0 k y0 y1 y2 y3 y4 y5 y6 y7 y8 y9) (thresherlaw19_FilterSelects.l0 (k + 1) y0 y1 y2 y3 y4 y5 y6 y7 y8 y9)) ∧ (∀ y0 y1 y2 y3 y4 y5 y6 y7 y8 y9, LeO (thresherlaw19_FilterSelects.l1 k y0 y1 y2 y3 y4 y5 y6 y7 y8 y9) (thresherlaw19_FilterSelects.l1 (k + 1) y0 y1 y2 y3 y4 y5 y6 y7 y8 y9)) ∧ (∀ y0 y1 y2 y3 y4 y5 y6 y7 y8 y9 y10 y11 y12 y13 y14 y15 y16, LeO (thresherlaw19_FilterSelects.l2 k y0 y1 y2 y3 y4 y5 y6 y7 y8 y9 y10 y11 y12 y13 y14 y15 y16) (thresherlaw19_FilterSelects.l2 (k + 1) y0 y1 y2 y3 y4 y5 y6 y7 y8 y9 y10 y11 y12 y13 y14 y15 y16)) ∧ (∀ y0 y1 y2 y3 y4, LeO (thresherlaw19_FilterSelects.l3 k y0 y1 y2 y3 y4) (thresherlaw19_FilterSelects.l3 (k + 1) y0 y1 y2 y3 y4))
 | 0 => ⟨fun _ _ _ _ _ _ _ _ r h => by simp [thresherlaw19_FilterSelects.j0] at h, fun _ _ _ _ _ _ _ _ _ _ r h => by simp [thresherlaw19_FilterSelects.l0] at h, fun _ _ _ _ _ _ _ _ _ _ r h => by simp [thresherlaw19_FilterSelects.l1] at h, fun _ _ _ _ _ _ _ _ _ _ _ _ _ _ _ _ _ r h => by simp [thresherlaw19_FilterSelects.l2] at h, fun _ _ _ _ _ r h => by simp [thresherlaw19_FilterSelects.l3] at h⟩
 | k + 1 => by
  obtain ⟨ih0, ih1, ih2, ih3, ih4⟩ := thresherlaw19_FilterSelects.mono_l k
  refine ⟨?_, ?_, ?_, ?_, ?_⟩
  ·intro y0 y1 y2 y3 y4 y5 y6 y7
   unfold thresherlaw19_FilterSelects.j0
   repeat' first
   | (with_reducible exact ih0 _ _ _ _ _ _ _ _)
   | (with_reducible exact ih1 _ _ _ _ _ _ _ _ _ _)
   | (with_reducible exact ih2 _ _ _ _ _ _ _ _ _ _)
   | (with_reducible exact ih3 _ _ _ _ _ _ _ _ _ _ _ _ _ _ _ _ _)
   | (with_reducible exact ih4 _ _ _ _ _)
   | (with_reducible exact filter_Keep.mono _ _ _ _ _ _ _)
   | (with_reducible exact filter_Select.mono _ _ _ _ _ _ _ _)
   | (with_reducible exact thresherlaw19_made.mono _ _ _ _ _ _ _ _ _ _ _ _ _)
   | (with_reducible exact thresherlaw19_shown.mono _)
   | (with_reducible exact thresherref04_Fits.mono _ _ _ _ _ _ _)
   | (with_reducible exact thresherref04_One.mono _ _ _)
   | (with_reducible exact thresherref15_Same.mono _ _ _)
   | (with_reducible exact thresherref19_Fit.mono _ _ _ _ _ _ _)
   | (with_reducible exact thresherref19_Select.mono _ _ _ _ _ _ _ _)
   | (with_reducible exact LeO.refl _)
   | (with_reducible exact LeO.none _)
   | (with_reducible refine LeO.ite ?_ ?_)
   | (with_reducible refine LeO.bind ?_ (fun _ => ?_))
   | exact ih0 _ _ _ _ _ _ _ _
   | exact ih1 _ _ _ _ _ _ _ _ _ _
   | exact ih2 _ _ _ _ _ _ _ _ _ _
   | exact ih3 _ _ _ _ _ _ _ _ _ _ _ _ _ _ _ _ _
   | exact ih4 _ _ _ _ _
   | exact filter_Keep.mono _ _ _ _ _ _ _
   | exact filter_Select.mono _ _ _ _ _ _ _ _
   | exact thresherlaw19_made.mono _ _ _ _ _ _ _ _ _ _ _ _ _
   | exact thresherlaw19_shown.mono _
   | exact thresherref04_Fits.mono _ _ _ _ _ _ _
   | exact thresherref04_One.mono _ _ _
   | exact thresherref15_Same.mono _ _ _
   | exact thresherref19_Fit.mono _ _ _ _ _ _ _
   | exact thresherref19_Select.mono _ _ _ _ _ _ _ _
   | exact LeO.none _
   | refine LeO.ite ?_ ?_
   | refine LeO.bind ?_ (fun _ => ?_)
  ·intro y0 y1 y2 y3 y4 y5 y6 y7 y8 y9
   unfold thresherlaw19_FilterSelects.l0
   repeat' first
   | (with_reducible exact ih0 _ _ _ _ _ _ _ _)
   | (with_reducible exact ih1 _ _ _ _ _ _ _ _ _ _)
   | (with_reducible exact ih2 _ _ _ _ _ _ _ _ _ _)
   | (with_reducible exact ih3 _ _ _ _ _ _ _ _ _ _ _ _ _ _ _ _ _)
   | (with_reducible exact ih4 _ _ _ _ _)
   | (with_reducible exact filter_Keep.mono _ _ _ _ _ _ _)
   | (with_reducible exact filter_Select.mono _ _ _ _ _ _ _ _)
   | (with_reducible exact thresherlaw19_made.mono _ _ _ _ _ _ _ _ _ _ _ _ _)
   | (with_reducible exact thresherlaw19_shown.mono _)
   | (with_reducible exact thresherref04_Fits.mono _ _ _ _ _ _ _)
   | (with_reducible exact thresherref04_One.mono _ _ _)
   | (with_reducible exact thresherref15_Same.mono _ _ _)
   | (with_reducible exact thresherref19_Fit.mono _ _ _ _ _ _ _)
   | (with_reducible exact thresherref19_Select.mono _ _ _ _ _ _ _ _)
   | (with_reducible exact LeO.refl _)
   | (with_reducible exact LeO.none _)
   | (with_reducible refine LeO.ite ?_ ?_)
   | (with_reducible refine LeO.bind ?_ (fun _ => ?_))
   | exact ih0 _ _ _ _ _ _ _ _
   | exact ih1 _ _ _ _ _ _ _ _ _ _
   | exact ih2 _ _ _ _ _ _ _ _ _ _
   | exact ih3 _ _ _ _ _ _ _ _ _ _ _ _ _ _ _ _ _
   | exact ih4 _ _ _ _ _
   | exact filter_Keep.mono _ _ _ _ _ _ _
   | exact filter_Select.mono _ _ _ _ _ _ _ _
   | exact thresherlaw19_made.mono _ _ _ _ _ _ _ _ _ _ _ _ _
   | exact thresherlaw19_shown.mono _
   | exact thresherref04_Fits.mono _ _ _ _ _ _ _
   | exact thresherref04_One.mono _ _ _
   | exact thresherref15_Same.mono _ _ _
   | exact thresherref19_Fit.mono _ _ _ _ _ _ _
   | exact thresherref19_Select.mono _ _ _ _ _ _ _ _
   | exact LeO.none _
   | refine LeO.ite ?_ ?_
   | refine LeO.bind ?_ (fun _ => ?_)
  ·intro y0 y1 y2 y3 y4 y5 y6 y7 y8 y9
   unfold thresherlaw19_FilterSelects.l1
   repeat' first
   | (with_reducible exact ih0 _ _ _ _ _ _ _ _)
   | (with_reducible exact ih1 _ _ _ _ _ _ _ _ _ _)
   | (with_reducible exact ih2 _ _ _ _ _ _ _ _ _ _)
   | (with_reducible exact ih3 _ _ _ _ _ _ _ _ _ _ _ _ _ _ _ _ _)
   | (with_reducible exact ih4 _ _ _ _ _)
   | (with_reducible exact filter_Keep.mono _ _ _ _ _ _ _)
   | (with_reducible exact filter_Select.mono _ _ _ _ _ _ _ _)
   | (with_reducible exact thresherlaw19_made.mono _ _ _ _ _ _ _ _ _ _ _ _ _)
   | (with_reducible exact thresherlaw19_shown.mono _)
   | (with_reducible exact thresherref04_Fits.mono _ _ _ _ _ _ _)
   | (with_reducible exact thresherref04_One.mono _ _ _)
   | (with_reducible exact thresherref15_Same.mono _ _ _)
   | (with_reducible exact thresherref19_Fit.mono _ _ _ _ _ _ _)
   | (with_reducible exact thresherref19_Select.mono _ _ _ _ _ _ _ _)
   | (with_reducible exact LeO.refl _)
   | (with_reducible exact LeO.none _)
   | (with_reducible refine LeO.ite ?_ ?_)
   | (with_reducible refine LeO.bind ?_ (fun _ => ?_))
   | exact ih0 _ _ _ _ _ _ _ _
   | exact ih1 _ _ _ _ _ _ _ _ _ _
   | exact ih2 _ _ _ _ _ _ _ _ _ _
   | exact ih3 _ _ _ _ _ _ _ _ _ _ _ _ _ _ _ _ _
   | exact ih4 _ _ _ _ _
   | exact filter_Keep.mono _ _ _ _ _ _ _
   | exact filter_Select.mono _ _ _ _ _ _ _ _
   | exact thresherlaw19_made.mono _ _ _ _ _ _ _ _ _ _ _ _ _
   | exact thresherlaw19_shown.mono _
   | exact thresherref04_Fits.mono _ _ _ _ _ _ _
   | exact thresherref04_One.mono _ _ _
   | exact thresherref15_Same.mono _ _ _
   | exact thresherref19_Fit.mono _ _ _ _ _ _ _
   | exact thresherref19_Select.mono _ _ _ _ _ _ _ _
   | exact LeO.none _
   | refine LeO.ite ?_ ?_
   | refine LeO.bind ?_ (fun _ => ?_)
  ·intro y0 y1 y2 y3 y4 y5 y6 y7 y8 y9 y10 y11 y12 y13 y14 y15 y16
   unfold thresherlaw19_FilterSelects.l2
   repeat' first
   | (with_reducible exact ih0 _ _ _ _ _ _ _ _)
   | (with_reducible exact ih1 _ _ _ _ _ _ _ _ _ _)
   | (with_reducible exact ih2 _ _ _ _ _ _ _ _ _ _)
   | (with_reducible exact ih3 _ _ _ _ _ _ _ _ _ _ _ _ _ _ _ _ _)
   | (with_reducible exact ih4 _ _ _ _ _)
   | (with_reducible exact filter_Keep.mono _ _ _ _ _ _ _)
   | (with_reducible exact filter_Select.mono _ _ _ _ _ _ _ _)
   | (with_reducible exact thresherlaw19_made.mono _ _ _ _ _ _ _ _ _ _ _ _ _)
   | (with_reducible exact thresherlaw19_shown.mono _)
   | (with_reducible exact thresherref04_Fits.mono _ _ _ _ _ _ _)
   | (with_reducible exact thresherref04_One.mono _ _ _)
   | (with_reducible exact thresherref15_Same.mono _ _ _)
   | (with_reducible exact thresherref19_Fit.mono _ _ _ _ _ _ _)
   | (with_reducible exact thresherref19_Select.mono _ _ _ _ _ _ _ _)
   | (with_reducible exact LeO.refl _)
   | (with_reducible exact LeO.none _)
   | (with_reducible refine LeO.ite ?_ ?_)
   | (with_reducible refine LeO.bind ?_ (fun _ => ?_))
   | exact ih0 _ _ _ _ _ _ _ _
   | exact ih1 _ _ _ _ _ _ _ _ _ _
   | exact ih2 _ _ _ _ _ _ _ _ _ _
   | exact ih3 _ _ _ _ _ _ _ _ _ _ _ _ _ _ _ _ _
   | exact ih4 _ _ _ _ _
   | exact filter_Keep.mono _ _ _ _ _ _ _
   | exact filter_Select.mono _ _ _ _ _ _ _ _
   | exact thresherlaw19_made.mono _ _ _ _ _ _ _ _ _ _ _ _ _
   | exact thresherlaw19_shown.mono _
   | exact thresherref04_Fits.mono _ _ _ _ _ _ _
   | exact thresherref04_One.mono _ _ _
   | exact thresherref15_Same.mono _ _ _
   | exact thresherref19_Fit.mono _ _ _ _ _ _ _
   | exact thresherref19_Select.mono _ _ _ _ _ _ _ _
   | exact LeO.none _
   | refine LeO.ite ?_ ?_
   | refine LeO.bind ?_ (fun _ => ?_)
  ·intro y0 y1 y2 y3 y4
   unfold thresherlaw19_FilterSelects.l3
   repeat' first
   | (with_reducible exact ih0 _ _ _ _ _ _ _ _)
   | (with_reducible exact ih1 _ _ _ _ _ _ _ _ _ _)
   | (with_reducible exact ih2 _ _ _ _ _ _ _ _ _ _)
   | (with_reducible exact ih3 _ _ _ _ _ _ _ _ _ _ _ _ _ _ _ _ _)
   | (with_reducible exact ih4 _ _ _ _ _)
   | (with_reducible exact filter_Keep.mono _ _ _ _ _ _ _)
   | (with_reducible exact filter_Select.mono _ _ _ _ _ _ _ _)
   | (with_reducible exact thresherlaw19_made.mono _ _ _ _ _ _ _ _ _ _ _ _ _)
   | (with_reducible exact thresherlaw19_shown.mono _)
   | (with_reducible exact thresherref04_Fits.mono _ _ _ _ _ _ _)
   | (with_reducible exact thresherref04_One.mono _ _ _)
   | (with_reducible exact thresherref15_Same.mono _ _ _)
   | (with_reducible exact thresherref19_Fit.mono _ _ _ _ _ _ _)
   | (with_reducible exact thresherref19_Select.mono _ _ _ _ _ _ _ _)
   | (with_reducible exact LeO.refl _)
   | (with_reducible exact LeO.none _)
   | (with_reducible refine LeO.ite ?_ ?_)
   | (with_reducible refine LeO.bind ?_ (fun _ => ?_))
   | exact ih0 _ _ _ _ _ _ _ _
   | exact ih1 _ _ _ _ _ _ _ _ _ _
   | exact ih2 _ _ _ _ _ _ _ _ _ _
   | exact ih3 _ _ _ _ _ _ _ _ _ _ _ _ _ _ _ _ _
   | exact ih4 _ _ _ _ _
   | exact filter_Keep.mono _ _ _ _ _ _ _
   | exact filter_Select.mono _ _ _ _ _ _ _ _
   | exact thresherlaw19_made.mono _ _ _ _ _ _ _ _ _ _ _ _ _
   | exact thresherlaw19_shown.mono _
   | exact thresherref04_Fits.mono _ _ _ _ _ _ _
   | exact thresherref04_One.mono _ _ _
   | exact thresherref15_Same.mono _ _ _
   | exact thresherref19_Fit.mono _ _ _ _ _ _ _
   | exact thresherref19_Select.mono _ _ _ _ _ _ _ _
   | exact LeO.none _
   | refine LeO.ite ?_ ?_
   | refine LeO.bind ?_ (fun _ => ?_)
theorem thresherlaw19_FilterSelects.mono : ∀ a0 a1 a2 a3 a4 a5 a6 a7 a8 a9 a10 a11 a12 a13 a14 k, LeO (thresherlaw19_FilterSelects.f k a0 a1 a2 a3 a4 a5 a6 a7 a8 a9 a10 a11 a12 a13 a14) (thresherlaw19_FilterSelects.f (k + 1) a0 a1 a2 a3 a4 a5 a6 a7 a8 a9 a10 a11 a12 a13 a14) := by
 intro a0 a1 a2 a3 a4 a5 a6 a7 a8 a9 a10 a11 a12 a13 a14 k
 obtain ⟨ih0, ih1, ih2, ih3, ih4⟩ := thresherlaw19_FilterSelects.mono_l k
 unfold thresherlaw19_FilterSelects.f
 repeat' first
   | (with_reducible exact ih0 _ _ _ _ _ _ _ _)
   | (with_reducible exact ih1 _ _ _ _ _ _ _ _ _ _)
   | (with_reducible exact ih2 _ _ _ _ _ _ _ _ _ _)
   | (with_reducible exact ih3 _ _ _ _ _ _ _ _ _ _ _ _ _ _ _ _ _)
   | (with_reducible exact ih4 _ _ _ _ _)
   | (with_reducible exact filter_Keep.mono _ _ _ _ _ _ _)
   | (with_reducible exact filter_Select.mono _ _ _ _ _ _ _ _)
   | (with_reducible exact thresherlaw19_made.mono _ _ _ _ _ _ _ _ _ _ _ _ _)
   | (with_reducible exact thresherlaw19_shown.mono _)
   | (with_reducible exact thresherref04_Fits.mono _ _ _ _ _ _ _)
   | (with_reducible exact thresherref04_One.mono _ _ _)
   | (with_reducible exact thresherref15_Same.mono _ _ _)
   | (with_reducible exact thresherref19_Fit.mono _ _ _ _ _ _ _)
   | (with_reducible exact thresherref19_Select.mono _ _ _ _ _ _ _ _)
   | (with_reducible exact LeO.refl _)
   | (with_reducible exact LeO.none _)
   | (with_reducible refine LeO.ite ?_ ?_)
   | (with_reducible refine LeO.bind ?_ (fun _ => ?_))
   | exact ih0 _ _ _ _ _ _ _ _
   | exact ih1 _ _ _ _ _ _ _ _ _ _
   | exact ih2 _ _ _ _ _ _ _ _ _ _
   | exact ih3 _ _ _ _ _ _ _ _ _ _ _ _ _ _ _ _ _
   | exact ih4 _ _ _ _ _
   | exact filter_Keep.mono _ _ _ _ _ _ _
   | exact filter_Select.mono _ _ _ _ _ _ _ _
   | exact thresherlaw19_made.mono _ _ _ _ _ _ _ _ _ _ _ _ _
   | exact thresherlaw19_shown.mono _
   | exact thresherref04_Fits.mono _ _ _ _ _ _ _
   | exact thresherref04_One.mono _ _ _
   | exact thresherref15_Same.mono _ _ _
   | exact thresherref19_Fit.mono _ _ _ _ _ _ _
   | exact thresherref19_Select.mono _ _ _ _ _ _ _ _
   | exact LeO.none _
   | refine LeO.ite ?_ ?_
   | refine LeO.bind ?_ (fun _ => ?_)
def thresherlaw19_FilterSelects.T22 : Bool × List (List Nat × List Nat) := (true, [([], []), ([], []), ([], []), ([1, 2], [1, 2]), ([3], [3]), ([], []), ([5], [5]), ([4, 6], [4, 6]), ([7], [7]), ([8], [8]), ([0, 9], [0, 9]), ([10, 10, 0, 1, 2, 3, 4, 5, 6, 7, 8, 9, 10], [0, 10])])
def thresherlaw19_FilterSelects.B22 : List Nat := [0, 0, 0, 6, 14, 0, 32, 126, 254, 510, 1023, 2047]
theorem thresherlaw19_FilterSelects.tab22 : rtab .any (opsOf Try.f3 22) = thresherlaw19_FilterSelects.T22 := by kernel_rfl
theorem thresherlaw19_FilterSelects.bits22 : waitsOk thresherlaw19_FilterSelects.T22.2 thresherlaw19_FilterSelects.B22 = true := by kernel_rfl
def thresherlaw19_FilterSelects.T23 : Bool × List (List Nat × List Nat) := (true, [([], []), ([], []), ([], []), ([], []), ([0, 1, 2, 3], [0, 1, 2, 3]), ([], []), ([], []), ([], []), ([], []), ([5, 6, 7, 8, 4], [5, 6, 7, 8]), ([4, 9, 9], [4, 9]), ([10, 10, 0, 1, 2, 3, 4, 5, 6, 7, 8, 9, 10], [10])])
def thresherlaw19_FilterSelects.B23 : List Nat := [0, 0, 0, 0, 15, 0, 0, 0, 0, 511, 1023, 2047]
theorem thresherlaw19_FilterSelects.tab23 : rtab .any (opsOf Try.f3 23) = thresherlaw19_FilterSelects.T23 := by kernel_rfl
theorem thresherlaw19_FilterSelects.bits23 : waitsOk thresherlaw19_FilterSelects.T23.2 thresherlaw19_FilterSelects.B23 = true := by kernel_rfl
def thresherlaw19_FilterSelects.T33 : Bool × List (List Nat × List Nat) := (true, [([], []), ([], []), ([0, 1], [0, 1]), ([2], [2]), ([], []), ([], []), ([], []), ([5, 6], [5, 6]), ([7], [7]), ([4, 8], [4, 8]), ([9], [9]), ([3, 10], [3, 10]), ([11, 11, 0, 1, 2, 3, 4, 5, 6, 7, 8, 9, 10, 11], [11])])
def thresherlaw19_FilterSelects.B33 : List Nat := [0, 0, 3, 7, 0, 0, 0, 96, 224, 496, 1008, 2047, 4095]
theorem thresherlaw19_FilterSelects.tab33 : rtab .any (opsOf Try.f3 33) = thresherlaw19_FilterSelects.T33 := by kernel_rfl
theorem thresherlaw19_FilterSelects.bits33 : waitsOk thresherlaw19_FilterSelects.T33.2 thresherlaw19_FilterSelects.B33 = true := by kernel_rfl
set_option maxHeartbeats 8000000 in
set_option maxRecDepth 100000 in
theorem thresherlaw19_FilterSelects.calls (k : Nat) (a0_0 : Int) (a0_1 : Int) (a0_2 : Int) (a0_3 : Int) (a0_4 : Int) (a0_5 : Int) (a0_6 : Int) (a0_7 : Int) (a0_8 : Int) (a0_9 : Int) (a0_10 : Int) (a0_11 : Int) (A1 : Option Addr) (c1 : Nat) (l1 : List (S39)) (A2_0 : Option Addr) (c2_0 : Nat) (l2_0 : List (List (S37))) (P2_1_ : Nat → Prop) (A2_1 : Option Addr) (c2_1 : Nat) (l2_1 : List Int) (r : Bool) (w : World) (hr1 : Kd.C k39 w A1 l1.length l1) (hc1 : l1.length ≤ c1) (hr2_0 : Kd.C (Kd.slice 37 k37) w A2_0 l2_0.length l2_0) (hc2_0 : l2_0.length ≤ c2_0) (hs2_1 : Kd.V (Kd.int .i64) 3 w w.heap.size (fun k_ => P2_1_ k_) (.slice A2_1 l2_1.length c2_1) l2_1) (h : thresherlaw19_FilterSelects.f k a0_0 a0_1 a0_2 a0_3 a0_4 a0_5 a0_6 a0_7 a0_8 a0_9 a0_10 a0_11 l1 l2_0 l2_1 = some r) :
  Calls Try.prog 3 #[.agg #[.int .u8 a0_0, .int .u8 a0_1, .int .u8 a0_2, .int .u8 a0_3, .int .u8 a0_4, .int .u8 a0_5, .int .u8 a0_6, .int .u8 a0_7, .int .u8 a0_8, .int .u8 a0_9, .int .u8 a0_10, .int .u8 a0_11], .slice A1 l1.length c1, .agg #[.slice A2_0 l2_0.length c2_0, .slice A2_1 l2_1.length c2_1]] w fun e w' => e = .returned (.bool r) ∧ Below w.heap.size w w' := by
 have hu24 := Try.underlying24
 have hu29 := Try.underlying29
 have hu32 := Try.underlying32
 have hu39 := Try.underlying39
 have hu37 := Try.underlying37
 have HR1 := Aside0.mk hr1
 have HC1 := Aside0.mk hc1
 clear hr1 hc1
 have HR2_0 := Aside0.mk hr2_0
 have HC2_0 := Aside0.mk hc2_0
 clear hr2_0 hc2_0
 have HO2_1 := Aside0.mk (show Kd.V (Kd.int .i64) 3 w w.heap.size (fun k_ => (P2_1_ k_ ∨ w.heap.size ≤ k_)) (.slice A2_1 l2_1.length c2_1) l2_1 from Kd.V_mono hs2_1 (fun k_ hk => .inl hk))
 have HB := Aside0.mk (Below.refl w.heap.size w)
 have H : ((thresherlaw19_shown.f k).bind fun t231 => ((thresherlaw19_made.f k a0_0 a0_1 a0_2 a0_3 a0_4 a0_5 a0_6 a0_7 a0_8 a0_9 a0_10 a0_11).bind fun bt232 => ((thresherref19_Fit.f k bt232.1 bt232.2.1 bt232.2.2.1 bt232.2.2.2 l1 16).bind fun t239 => ((thresherref04_Fits.f k bt232.1 bt232.2.1 bt232.2.2.1 bt232.2.2.2 l2_0 60).bind fun t242 => (if (l2_1.length : Int) > 60 then (if 60 ≤ (l2_1.length : Int) then (thresherlaw19_FilterSelects.j0 k t231 t239 t242 (l2_1.take 60) bt232.1 bt232.2.1 bt232.2.2.1 bt232.2.2.2) else (none)) else (thresherlaw19_FilterSelects.j0 k t231 t239 t242 l2_1 bt232.1 bt232.2.1 bt232.2.2.1 bt232.2.2.2)))))) = some r := h
 clear h
 replace H := Option.bind_eq_some_iff.mp H
 obtain ⟨t231, A40, H⟩ := H
 replace H : ((thresherlaw19_made.f k a0_0 a0_1 a0_2 a0_3 a0_4 a0_5 a0_6 a0_7 a0_8 a0_9 a0_10 a0_11).bind fun bt232 => ((thresherref19_Fit.f k bt232.1 bt232.2.1 bt232.2.2.1 bt232.2.2.2 l1 16).bind fun t239 => ((thresherref04_Fits.f k bt232.1 bt232.2.1 bt232.2.2.1 bt232.2.2.2 l2_0 60).bind fun t242 => (if (l2_1.length : Int) > 60 then (if 60 ≤ (l2_1.length : Int) then (thresherlaw19_FilterSelects.j0 k t231 t239 t242 (l2_1.take 60) bt232.1 bt232.2.1 bt232.2.2.1 bt232.2.2.2) else (none)) else (thresherlaw19_FilterSelects.j0 k t231 t239 t242 l2_1 bt232.1 bt232.2.1 bt232.2.2.1 bt232.2.2.2))))) = some r := H
 have A4 := Aside0.mk A40
 clear A40
 replace H := Option.bind_eq_some_iff.mp H
 obtain ⟨⟨t232, t235, t236, t237⟩, A50, H⟩ := H
 replace H : ((thresherref19_Fit.f k t232 t235 t236 t237 l1 16).bind fun t239 => ((thresherref04_Fits.f k t232 t235 t236 t237 l2_0 60).bind fun t242 => (if (l2_1.length : Int) > 60 then (if 60 ≤ (l2_1.length : Int) then (thresherlaw19_FilterSelects.j0 k t231 t239 t242 (l2_1.take 60) t232 t235 t236 t237) else (none)) else (thresherlaw19_FilterSelects.j0 k t231 t239 t242 l2_1 t232 t235 t236 t237)))) = some r := H
 have A5 := Aside0.mk A50
 clear A50
 replace H := Option.bind_eq_some_iff.mp H
 obtain ⟨t239, A60, H⟩ := H
 replace H : ((thresherref04_Fits.f k t232 t235 t236 t237 l2_0 60).bind fun t242 => (if (l2_1.length : Int) > 60 then (if 60 ≤ (l2_1.length : Int) then (thresherlaw19_FilterSelects.j0 k t231 t239 t242 (l2_1.take 60) t232 t235 t236 t237) else (none)) else (thresherlaw19_FilterSelects.j0 k t231 t239 t242 l2_1 t232 t235 t236 t237))) = some r := H
 have A6 := Aside0.mk A60
 clear A60
 replace H := Option.bind_eq_some_iff.mp H
 obtain ⟨t242, A70, H⟩ := H
 replace H : (if (l2_1.length : Int) > 60 then (if 60 ≤ (l2_1.length : Int) then (thresherlaw19_FilterSelects.j0 k t231 t239 t242 (l2_1.take 60) t232 t235 t236 t237) else (none)) else (thresherlaw19_FilterSelects.j0 k t231 t239 t242 l2_1 t232 t235 t236 t237)) = some r := H
 have A7 := Aside0.mk A70
 clear A70
 have HC8 := Aside0.mk H
 clear H
 go_enter Try.func3, Try.ntmps3
 go_upto_if 37 with (first | ((with_reducible refine gate_dst (N := 3) rfl ?_); refine box_event ?hg (N := 3) ?hd (cs := #[.int .u8 a0_0, .int .u8 a0_1, .int .u8 a0_2, .int .u8 a0_3, .int .u8 a0_4, .int .u8 a0_5, .int .u8 a0_6, .int .u8 a0_7, .int .u8 a0_8, .int .u8 a0_9, .int .u8 a0_10, .int .u8 a0_11]) (t := 24) ?hr ?_; (case hd => rfl); (case hg => rfl); (case hr => first | (go_simp; done) | (go_simp; rfl)); intro gb229 hg w9 hbox hb; have n0_ := Aside0.mk (Kd.V_below (Kd.V_elderB (by (with_reducible repeat (first | apply Kd.V_alloc | apply Kd.V_drewN | apply Kd.V_drew)); exact HO2_1.out) gb229 (Nat.le_of_eq hg.symm)) hb); have n1_ := Aside0.mk (below_step (by repeat (first | (with_reducible first | exact HB.out | apply below_alloc | apply pw_below_drewN | apply below_drew1) | exact HB.out)) hb); have n2_ := Aside0.mk (hbox); have n3_ := Aside0.mk ((by rw [hg]; exact (below_size (by repeat (first | (with_reducible first | exact HB.out | apply below_alloc | apply pw_below_drewN | apply below_drew1) | exact HB.out))) : w.heap.size ≤ gb229)); have n4_ := Aside0.mk ((by rw [hg]; exact (below_size (by repeat (first | (with_reducible first | exact HB.out | apply below_alloc | apply pw_below_drewN | apply below_drew1) | exact HB.out))) : w.heap.size ≤ gb229)); clear HO2_1; clear HB; have HO2_1 := n0_; have HB := n1_; have BK229 := n2_; have GW229 := n3_; have GE229 := n4_; clear n0_ n1_ n2_ n3_ n4_; clear hb hbox hg) | ((with_reducible refine gate_dst (N := 5) rfl ?_); refine box_event ?hg (N := 5) ?hd (cs := #[.slice A2_0 l2_0.length c2_0, .slice A2_1 l2_1.length c2_1]) (t := 29) ?hr ?_; (case hd => rfl); (case hg => rfl); (case hr => first | (go_simp; done) | (go_simp; rfl)); intro gb230 hg w10 hbox hb; have n0_ := Aside0.mk (Kd.V_below (Kd.V_elderB (by (with_reducible repeat (first | apply Kd.V_alloc | apply Kd.V_drewN | apply Kd.V_drew)); exact HO2_1.out) gb230 (Nat.le_of_eq hg.symm)) hb); have n1_ := Aside0.mk (blk_below (g := gb229) (o := .cells #[.int .u8 a0_0, .int .u8 a0_1, .int .u8 a0_2, .int .u8 a0_3, .int .u8 a0_4, .int .u8 a0_5, .int .u8 a0_6, .int .u8 a0_7, .int .u8 a0_8, .int .u8 a0_9, .int .u8 a0_10, .int .u8 a0_11] 24 (0, 0)) (by (with_reducible repeat (first | refine blk_drewN ?_ _ | refine blk_drew ?_ | refine blk_alloc ?_ _)); exact BK229.out) hb); have n2_ := Aside0.mk (below_step (by repeat (first | (with_reducible first | exact HB.out | apply below_alloc | apply pw_below_drewN | apply below_drew1 | refine below_set ?_ GE229.out) | exact HB.out)) hb); have n3_ := Aside0.mk (hbox); have n4_ := Aside0.mk ((by rw [hg]; exact (below_size (by repeat (first | (with_reducible first | exact HB.out | apply below_alloc | apply pw_below_drewN | apply below_drew1 | refine below_set ?_ GE229.out) | exact HB.out))) : w.heap.size ≤ gb230)); have n5_ := Aside0.mk ((by rw [hg]; exact (below_size (by repeat (first | (with_reducible first | exact HB.out | apply below_alloc | apply pw_below_drewN | apply below_drew1 | refine below_set ?_ GE229.out) | exact HB.out))) : w.heap.size ≤ gb230)); have n6_ := Aside0.mk ((by rw [hg]; exact Nat.ne_of_lt (blk_lt (g := gb229) (o := .cells #[.int .u8 a0_0, .int .u8 a0_1, .int .u8 a0_2, .int .u8 a0_3, .int .u8 a0_4, .int .u8 a0_5, .int .u8 a0_6, .int .u8 a0_7, .int .u8 a0_8, .int .u8 a0_9, .int .u8 a0_10, .int .u8 a0_11] 24 (0, 0)) (by (with_reducible repeat (first | refine blk_drewN ?_ _ | refine blk_drew ?_ | refine blk_alloc ?_ _)); exact BK229.out)) : gb229 ≠ gb230)); have n7_ := Aside0.mk ((by rw [hg]; exact Nat.ne_of_gt (blk_lt (g := gb229) (o := .cells #[.int .u8 a0_0, .int .u8 a0_1, .int .u8 a0_2, .int .u8 a0_3, .int .u8 a0_4, .int .u8 a0_5, .int .u8 a0_6, .int .u8 a0_7, .int .u8 a0_8, .int .u8 a0_9, .int .u8 a0_10, .int .u8 a0_11] 24 (0, 0)) (by (with_reducible repeat (first | refine blk_drewN ?_ _ | refine blk_drew ?_ | refine blk_alloc ?_ _)); exact BK229.out)) : gb230 ≠ gb229)); clear HO2_1; clear BK229; clear HB; have HO2_1 := n0_; have BK229 := n1_; have HB := n2_; have BK230 := n3_; have GW230 := n4_; have GE230 := n5_; have NB229_230 := n6_; have NB230_229 := n7_; clear n0_ n1_ n2_ n3_ n4_ n5_ n6_ n7_; clear hb hbox hg) | ((with_reducible refine gate_callee (f := 8) rfl ?_); refine goesL_ (some 23) rfl rfl Try.func8 (by kernel_rfl) rfl #[] rfl (by (try simp only [List.map_toArray, List.map_cons, List.map_nil]); first | done | rfl | (simp only [List.length_drop, List.length_take]; rfl)) ?_; (with_reducible refine (thresherlaw19_shown.calls k  t231 _ A4.out).mono ?_); rintro e w11 ⟨rfl, hb⟩; refine ⟨_, rfl, ?_⟩; have n0_ := Aside0.mk (Kd.V_below (by (with_reducible repeat (first | apply Kd.V_alloc | apply Kd.V_drewN | apply Kd.V_drew)); exact HO2_1.out) hb); have n1_ := Aside0.mk (blk_below (g := gb229) (o := .cells #[.int .u8 a0_0, .int .u8 a0_1, .int .u8 a0_2, .int .u8 a0_3, .int .u8 a0_4, .int .u8 a0_5, .int .u8 a0_6, .int .u8 a0_7, .int .u8 a0_8, .int .u8 a0_9, .int .u8 a0_10, .int .u8 a0_11] 24 (0, 0)) (by (with_reducible repeat (first | refine blk_drewN ?_ _ | refine blk_drew ?_ | refine blk_alloc ?_ _)); exact BK229.out) hb); have n2_ := Aside0.mk (blk_below (g := gb230) (o := .cells #[.slice A2_0 l2_0.length c2_0, .slice A2_1 l2_1.length c2_1] 29 (0, 0)) (by (with_reducible repeat (first | refine blk_drewN ?_ _ | refine blk_drew ?_ | refine blk_alloc ?_ _)); exact BK230.out) hb); have n3_ := Aside0.mk (below_step (by repeat (first | (with_reducible first | exact HB.out | apply below_alloc | apply pw_below_drewN | apply below_drew1 | refine below_set ?_ GE229.out | refine below_set ?_ GE230.out) | exact HB.out)) hb); clear HO2_1; clear BK229; clear BK230; clear HB; have HO2_1 := n0_; have BK229 := n1_; have BK230 := n2_; have HB := n3_; clear n0_ n1_ n2_ n3_; (try clear hb); (try clear hb2); (try clear hk); (try clear hi); have hnb12 := NB229_230.out; have hnc12 := NB230_229.out; have hcz13_0 : w11.cell? ⟨gb229, 0, none⟩ = some (.int .u8 a0_0) := (blk_cell BK229.out 0).trans rfl; have hcz13_1 : w11.cell? ⟨gb229, 1, none⟩ = some (.int .u8 a0_1) := (blk_cell BK229.out 1).trans rfl; have hcz13_2 : w11.cell? ⟨gb229, 2, none⟩ = some (.int .u8 a0_2) := (blk_cell BK229.out 2).trans rfl; have hcz13_3 : w11.cell? ⟨gb229, 3, none⟩ = some (.int .u8 a0_3) := (blk_cell BK229.out 3).trans rfl; have hcz13_4 : w11.cell? ⟨gb229, 4, none⟩ = some (.int .u8 a0_4) := (blk_cell BK229.out 4).trans rfl; have hcz13_5 : w11.cell? ⟨gb229, 5, none⟩ = some (.int .u8 a0_5) := (blk_cell BK229.out 5).trans rfl; have hcz13_6 : w11.cell? ⟨gb229, 6, none⟩ = some (.int .u8 a0_6) := (blk_cell BK229.out 6).trans rfl; have hcz13_7 : w11.cell? ⟨gb229, 7, none⟩ = some (.int .u8 a0_7) := (blk_cell BK229.out 7).trans rfl; have hcz13_8 : w11.cell? ⟨gb229, 8, none⟩ = some (.int .u8 a0_8) := (blk_cell BK229.out 8).trans rfl; have hcz13_9 : w11.cell? ⟨gb229, 9, none⟩ = some (.int .u8 a0_9) := (blk_cell BK229.out 9).trans rfl; have hcz13_10 : w11.cell? ⟨gb229, 10, none⟩ = some (.int .u8 a0_10) := (blk_cell BK229.out 10).trans rfl; have hcz13_11 : w11.cell? ⟨gb229, 11, none⟩ = some (.int .u8 a0_11) := (blk_cell BK229.out 11).trans rfl; have hfz13_0 := blk_frozen BK229.out 0; have hfz13_1 := blk_frozen BK229.out 1; have hfz13_2 := blk_frozen BK229.out 2; have hfz13_3 := blk_frozen BK229.out 3; have hfz13_4 := blk_frozen BK229.out 4; have hfz13_5 := blk_frozen BK229.out 5; have hfz13_6 := blk_frozen BK229.out 6; have hfz13_7 := blk_frozen BK229.out 7; have hfz13_8 := blk_frozen BK229.out 8; have hfz13_9 := blk_frozen BK229.out 9; have hfz13_10 := blk_frozen BK229.out 10; have hfz13_11 := blk_frozen BK229.out 11) | ((with_reducible refine gate_callee (f := 9) rfl ?_); refine goesL_ (some 25) rfl rfl Try.func9 (by kernel_rfl) rfl #[.agg #[.int .u8 a0_0, .int .u8 a0_1, .int .u8 a0_2, .int .u8 a0_3, .int .u8 a0_4, .int .u8 a0_5, .int .u8 a0_6, .int .u8 a0_7, .int .u8 a0_8, .int .u8 a0_9, .int .u8 a0_10, .int .u8 a0_11]] rfl (by (try simp only [List.map_toArray, List.map_cons, List.map_nil]); first | done | rfl | (simp only [List.length_drop, List.length_take]; rfl)) ?_; (with_reducible refine (thresherlaw19_made.calls k a0_0 a0_1 a0_2 a0_3 a0_4 a0_5 a0_6 a0_7 a0_8 a0_9 a0_10 a0_11 t232 t235 t236 t237 _ A5.out).mono ?_); rintro e w14 ⟨v233, rfl, ho0, hb⟩; refine ⟨_, rfl, ?_⟩; have n0_ := Aside0.mk (Kd.V_elder' (by (with_reducible repeat (first | apply Kd.V_alloc | apply Kd.V_drewN | apply Kd.V_drew)); exact HO2_1.out) (Kd.R_base ho0) hb); have n1_ := Aside0.mk (Kd.R_lower (Kd.R_newM (M := fun k_ => (w.heap.size ≤ k_)) ho0 (below_size (by repeat (first | (with_reducible first | exact HB.out | apply below_alloc | apply pw_below_drewN | apply below_drew1 | refine below_set ?_ GE229.out | refine below_set ?_ GE230.out) | exact HB.out))) (fun k_ h_ => h_)) (below_size (by repeat (first | (with_reducible first | exact HB.out | apply below_alloc | apply pw_below_drewN | apply below_drew1 | refine below_set ?_ GE229.out | refine below_set ?_ GE230.out) | exact HB.out)))); have n2_ := Aside0.mk (blk_below (g := gb229) (o := .cells #[.int .u8 a0_0, .int .u8 a0_1, .int .u8 a0_2, .int .u8 a0_3, .int .u8 a0_4, .int .u8 a0_5, .int .u8 a0_6, .int .u8 a0_7, .int .u8 a0_8, .int .u8 a0_9, .int .u8 a0_10, .int .u8 a0_11] 24 (0, 0)) (by (with_reducible repeat (first | refine blk_drewN ?_ _ | refine blk_drew ?_ | refine blk_alloc ?_ _)); exact BK229.out) hb); have n3_ := Aside0.mk (blk_below (g := gb230) (o := .cells #[.slice A2_0 l2_0.length c2_0, .slice A2_1 l2_1.length c2_1] 29 (0, 0)) (by (with_reducible repeat (first | refine blk_drewN ?_ _ | refine blk_drew ?_ | refine blk_alloc ?_ _)); exact BK230.out) hb); have n4_ := Aside0.mk (below_step (by repeat (first | (with_reducible first | exact HB.out | apply below_alloc | apply pw_below_drewN | apply below_drew1 | refine below_set ?_ GE229.out | refine below_set ?_ GE230.out) | exact HB.out)) hb); clear HO2_1; clear BK229; clear BK230; clear HB; have HO2_1 := n0_; have HO234 := n1_; have BK229 := n2_; have BK230 := n3_; have HB := n4_; clear n0_ n1_ n2_ n3_ n4_; (try clear hb); (try clear hb2); (try clear hk); (try clear hi); (try clear ho0)) | ((with_reducible refine gate_dst (N := 8) rfl ?_); refine box_event ?hg (N := 8) ?hd (cs := #[.slice none 0 0, .int .i64 0, .int .i64 0, .int .i64 0]) (t := 32) ?hr ?_; (case hd => rfl); (case hg => rfl); (case hr => first | (go_simp; done) | (go_simp; rfl)); intro gb238 hg w15 hbox hb; have n0_ := Aside0.mk (Kd.V_below (Kd.V_elderB (by (with_reducible repeat (first | apply Kd.V_alloc | apply Kd.V_drewN | apply Kd.V_drew)); exact HO2_1.out) gb238 (Nat.le_of_eq hg.symm)) hb); have n1_ := Aside0.mk (Kd.R_below (by (with_reducible repeat (first | apply Kd.R_alloc | apply Kd.R_drewN | apply Kd.R_drew)); exact HO234.out) hb); have n2_ := Aside0.mk (blk_below (g := gb229) (o := .cells #[.int .u8 a0_0, .int .u8 a0_1, .int .u8 a0_2, .int .u8 a0_3, .int .u8 a0_4, .int .u8 a0_5, .int .u8 a0_6, .int .u8 a0_7, .int .u8 a0_8, .int .u8 a0_9, .int .u8 a0_10, .int .u8 a0_11] 24 (0, 0)) (by (with_reducible repeat (first | refine blk_drewN ?_ _ | refine blk_drew ?_ | refine blk_alloc ?_ _)); exact BK229.out) hb); have n3_ := Aside0.mk (blk_below (g := gb230) (o := .cells #[.slice A2_0 l2_0.length c2_0, .slice A2_1 l2_1.length c2_1] 29 (0, 0)) (by (with_reducible repeat (first | refine blk_drewN ?_ _ | refine blk_drew ?_ | refine blk_alloc ?_ _)); exact BK230.out) hb); have n4_ := Aside0.mk (below_step (by repeat (first | (with_reducible first | exact HB.out | apply below_alloc | apply pw_below_drewN | apply below_drew1 | refine below_set ?_ GE229.out | refine below_set ?_ GE230.out) | exact HB.out)) hb); have n5_ := Aside0.mk (hbox); have n6_ := Aside0.mk ((by rw [hg]; exact (below_size (by repeat (first | (with_reducible first | exact HB.out | apply below_alloc | apply pw_below_drewN | apply below_drew1 | refine below_set ?_ GE229.out | refine below_set ?_ GE230.out) | exact HB.out))) : w.heap.size ≤ gb238)); have n7_ := Aside0.mk ((by rw [hg]; exact (below_size (by repeat (first | (with_reducible first | exact HB.out | apply below_alloc | apply pw_below_drewN | apply below_drew1 | refine below_set ?_ GE229.out | refine below_set ?_ GE230.out) | exact HB.out))) : w.heap.size ≤ gb238)); have n8_ := Aside0.mk ((by rw [hg]; exact Nat.ne_of_lt (blk_lt (g := gb229) (o := .cells #[.int .u8 a0_0, .int .u8 a0_1, .int .u8 a0_2, .int .u8 a0_3, .int .u8 a0_4, .int .u8 a0_5, .int .u8 a0_6, .int .u8 a0_7, .int .u8 a0_8, .int .u8 a0_9, .int .u8 a0_10, .int .u8 a0_11] 24 (0, 0)) (by (with_reducible repeat (first | refine blk_drewN ?_ _ | refine blk_drew ?_ | refine blk_alloc ?_ _)); exact BK229.out)) : gb229 ≠ gb238)); have n9_ := Aside0.mk ((by rw [hg]; exact Nat.ne_of_gt (blk_lt (g := gb229) (o := .cells #[.int .u8 a0_0, .int .u8 a0_1, .int .u8 a0_2, .int .u8 a0_3, .int .u8 a0_4, .int .u8 a0_5, .int .u8 a0_6, .int .u8 a0_7, .int .u8 a0_8, .int .u8 a0_9, .int .u8 a0_10, .int .u8 a0_11] 24 (0, 0)) (by (with_reducible repeat (first | refine blk_drewN ?_ _ | refine blk_drew ?_ | refine blk_alloc ?_ _)); exact BK229.out)) : gb238 ≠ gb229)); have n10_ := Aside0.mk ((by rw [hg]; exact Nat.ne_of_lt (blk_lt (g := gb230) (o := .cells #[.slice A2_0 l2_0.length c2_0, .slice A2_1 l2_1.length c2_1] 29 (0, 0)) (by (with_reducible repeat (first | refine blk_drewN ?_ _ | refine blk_drew ?_ | refine blk_alloc ?_ _)); exact BK230.out)) : gb230 ≠ gb238)); have n11_ := Aside0.mk ((by rw [hg]; exact Nat.ne_of_gt (blk_lt (g := gb230) (o := .cells #[.slice A2_0 l2_0.length c2_0, .slice A2_1 l2_1.length c2_1] 29 (0, 0)) (by (with_reducible repeat (first | refine blk_drewN ?_ _ | refine blk_drew ?_ | refine blk_alloc ?_ _)); exact BK230.out)) : gb238 ≠ gb230)); clear HO2_1; clear HO234; clear BK229; clear BK230; clear HB; have HO2_1 := n0_; have HO234 := n1_; have BK229 := n2_; have BK230 := n3_; have HB := n4_; have BK238 := n5_; have GW238 := n6_; have GE238 := n7_; have NB229_238 := n8_; have NB238_229 := n9_; have NB230_238 := n10_; have NB238_230 := n11_; clear n0_ n1_ n2_ n3_ n4_ n5_ n6_ n7_ n8_ n9_ n10_ n11_; clear hb hbox hg; obtain ⟨Ao16, co16, eo16⟩ := Kd.R_slice HO234.out; subst eo16; have hnb17 := NB238_229.out; have hnc17 := NB229_238.out; have hnb18 := NB238_230.out; have hnc18 := NB230_238.out; have hcz19_0 : w15.cell? ⟨gb238, 0, none⟩ = some (.slice none 0 0) := (blk_cell BK238.out 0).trans rfl; have hcz19_1 : w15.cell? ⟨gb238, 1, none⟩ = some (.int .i64 0) := (blk_cell BK238.out 1).trans rfl; have hcz19_2 : w15.cell? ⟨gb238, 2, none⟩ = some (.int .i64 0) := (blk_cell BK238.out 2).trans rfl; have hcz19_3 : w15.cell? ⟨gb238, 3, none⟩ = some (.int .i64 0) := (blk_cell BK238.out 3).trans rfl; have hfz19_0 := blk_frozen BK238.out 0; have hfz19_1 := blk_frozen BK238.out 1; have hfz19_2 := blk_frozen BK238.out 2; have hfz19_3 := blk_frozen BK238.out 3) | ((with_reducible refine gate_callee (f := 10) rfl ?_); refine goesL_ (some 28) rfl rfl Try.func10 (by kernel_rfl) rfl #[.agg #[.slice Ao16 t232.length co16, .int .i64 t235, .int .i64 t236, .int .i64 t237], .slice A1 l1.length c1, .int .i64 16] rfl (by (try simp only [List.map_toArray, List.map_cons, List.map_nil]); first | done | rfl | (simp only [List.length_drop, List.length_take]; rfl)) ?_; (with_reducible refine (thresherref19_Fit.calls k _ _ t232 t235 t236 t237 _ _ l1 16 t239 _ ?side1 ?side2 ?side3 ?side4 A6.out).mono ?_); (case side1 => refine (Kd.R_reads' (e := 3) (base := w.heap.size) (ok := fun k_ => ((w.heap.size ≤ k_) ∧ True)) (n := t232.length) (c := co16) ?_).2.2; exact (by (with_reducible repeat (first | apply Kd.R_alloc | apply Kd.R_drewN | apply Kd.R_drew)); exact (Kd.R_mono (Kd.R_far (p := ⟨gb238, 3, none⟩) (Kd.R_far (p := ⟨gb238, 2, none⟩) (Kd.R_far (p := ⟨gb238, 1, none⟩) (Kd.R_far (p := ⟨gb238, 0, none⟩) (Kd.R_types HO234.out BK238.out (by decide)) (fun _ hk => hk.2) (.slice Ao16 t232.length co16)) (fun _ hk => hk.2) (.int .i64 t235)) (fun _ hk => hk.2) (.int .i64 t236)) (fun _ hk => hk.2) (.int .i64 t237)) (fun _ h_ => h_.1)))); (case side2 => exact (Kd.R_reads' HO234.out).2.1); (case side3 => exact Kd.C_below HR1.out (by repeat (first | (with_reducible first | exact HB.out | apply below_alloc | apply pw_below_drewN | apply below_drew1 | refine below_set ?_ GE229.out | refine below_set ?_ GE230.out | refine below_set ?_ GE238.out) | exact HB.out))); (case side4 => exact HC1.out); rintro e w20 ⟨v240, rfl, ho0, hb⟩; refine ⟨_, rfl, ?_⟩; have n0_ := Aside0.mk (Kd.V_elder' (by (with_reducible repeat (first | apply Kd.V_alloc | apply Kd.V_drewN | apply Kd.V_drew)); exact (Kd.V_mono (Kd.V_far (p := ⟨gb238, 3, none⟩) (Kd.V_far (p := ⟨gb238, 2, none⟩) (Kd.V_far (p := ⟨gb238, 1, none⟩) (Kd.V_far (p := ⟨gb238, 0, none⟩) (Kd.V_mono HO2_1.out (fun k_ hk => (⟨hk, hk.2⟩ : _ ∧ k_ ≠ gb238))) (fun _ hk => hk.2) (.slice Ao16 t232.length co16)) (fun _ hk => hk.2) (.int .i64 t235)) (fun _ hk => hk.2) (.int .i64 t236)) (fun _ hk => hk.2) (.int .i64 t237)) (fun _ h_ => h_.1))) (Kd.R_base ho0) hb); have n1_ := Aside0.mk (Kd.R_below (by (with_reducible repeat (first | apply Kd.R_alloc | apply Kd.R_drewN | apply Kd.R_drew)); exact (Kd.R_mono (Kd.R_far (p := ⟨gb238, 3, none⟩) (Kd.R_far (p := ⟨gb238, 2, none⟩) (Kd.R_far (p := ⟨gb238, 1, none⟩) (Kd.R_far (p := ⟨gb238, 0, none⟩) (Kd.R_types HO234.out BK238.out (by decide)) (fun _ hk => hk.2) (.slice Ao16 t232.length co16)) (fun _ hk => hk.2) (.int .i64 t235)) (fun _ hk => hk.2) (.int .i64 t236)) (fun _ hk => hk.2) (.int .i64 t237)) (fun _ h_ => h_.1))) hb); have n2_ := Aside0.mk (Kd.R_lower (Kd.R_newM (M := fun k_ => (w.heap.size ≤ k_)) ho0 (below_size (by repeat (first | (with_reducible first | exact HB.out | apply below_alloc | apply pw_below_drewN | apply below_drew1 | refine below_set ?_ GE229.out | refine below_set ?_ GE230.out | refine below_set ?_ GE238.out) | exact HB.out))) (fun k_ h_ => h_)) (below_size (by repeat (first | (with_reducible first | exact HB.out | apply below_alloc | apply pw_below_drewN | apply below_drew1 | refine below_set ?_ GE229.out | refine below_set ?_ GE230.out | refine below_set ?_ GE238.out) | exact HB.out)))); have n3_ := Aside0.mk (blk_below (g := gb229) (o := .cells #[.int .u8 a0_0, .int .u8 a0_1, .int .u8 a0_2, .int .u8 a0_3, .int .u8 a0_4, .int .u8 a0_5, .int .u8 a0_6, .int .u8 a0_7, .int .u8 a0_8, .int .u8 a0_9, .int .u8 a0_10, .int .u8 a0_11] 24 (0, 0)) (by (with_reducible repeat (first | refine blk_drewN ?_ _ | refine blk_drew ?_ | refine blk_alloc ?_ _)); refine blk_far ?_ NB229_238.out _; (with_reducible repeat (first | refine blk_drewN ?_ _ | refine blk_drew ?_ | refine blk_alloc ?_ _)); refine blk_far ?_ NB229_238.out _; (with_reducible repeat (first | refine blk_drewN ?_ _ | refine blk_drew ?_ | refine blk_alloc ?_ _)); refine blk_far ?_ NB229_238.out _; (with_reducible repeat (first | refine blk_drewN ?_ _ | refine blk_drew ?_ | refine blk_alloc ?_ _)); refine blk_far ?_ NB229_238.out _; (with_reducible repeat (first | refine blk_drewN ?_ _ | refine blk_drew ?_ | refine blk_alloc ?_ _)); exact BK229.out) hb); have n4_ := Aside0.mk (blk_below (g := gb230) (o := .cells #[.slice A2_0 l2_0.length c2_0, .slice A2_1 l2_1.length c2_1] 29 (0, 0)) (by (with_reducible repeat (first | refine blk_drewN ?_ _ | refine blk_drew ?_ | refine blk_alloc ?_ _)); refine blk_far ?_ NB230_238.out _; (with_reducible repeat (first | refine blk_drewN ?_ _ | refine blk_drew ?_ | refine blk_alloc ?_ _)); refine blk_far ?_ NB230_238.out _; (with_reducible repeat (first | refine blk_drewN ?_ _ | refine blk_drew ?_ | refine blk_alloc ?_ _)); refine blk_far ?_ NB230_238.out _; (with_reducible repeat (first | refine blk_drewN ?_ _ | refine blk_drew ?_ | refine blk_alloc ?_ _)); refine blk_far ?_ NB230_238.out _; (with_reducible repeat (first | refine blk_drewN ?_ _ | refine blk_drew ?_ | refine blk_alloc ?_ _)); exact BK230.out) hb); have n5_ := Aside0.mk (blk_below (g := gb238) (o := .cells #[.slice Ao16 t232.length co16, .int .i64 t235, .int .i64 t236, .int .i64 t237] 32 (0, 0)) (by (with_reducible repeat (first | refine blk_drewN ?_ _ | refine blk_drew ?_ | refine blk_alloc ?_ _)); refine blk_put (cs := #[.slice Ao16 t232.length co16, .int .i64 t235, .int .i64 t236, .int .i64 0]) ?_ 3 _ rfl; (with_reducible repeat (first | refine blk_drewN ?_ _ | refine blk_drew ?_ | refine blk_alloc ?_ _)); refine blk_put (cs := #[.slice Ao16 t232.length co16, .int .i64 t235, .int .i64 0, .int .i64 0]) ?_ 2 _ rfl; (with_reducible repeat (first | refine blk_drewN ?_ _ | refine blk_drew ?_ | refine blk_alloc ?_ _)); refine blk_put (cs := #[.slice Ao16 t232.length co16, .int .i64 0, .int .i64 0, .int .i64 0]) ?_ 1 _ rfl; (with_reducible repeat (first | refine blk_drewN ?_ _ | refine blk_drew ?_ | refine blk_alloc ?_ _)); refine blk_put (cs := #[.slice none 0 0, .int .i64 0, .int .i64 0, .int .i64 0]) ?_ 0 _ rfl; (with_reducible repeat (first | refine blk_drewN ?_ _ | refine blk_drew ?_ | refine blk_alloc ?_ _)); exact BK238.out) hb); have n6_ := Aside0.mk (below_step (by repeat (first | (with_reducible first | exact HB.out | apply below_alloc | apply pw_below_drewN | apply below_drew1 | refine below_set ?_ GE229.out | refine below_set ?_ GE230.out | refine below_set ?_ GE238.out) | exact HB.out)) hb); clear HO2_1; clear HO234; clear BK229; clear BK230; clear BK238; clear HB; have HO2_1 := n0_; have HO234 := n1_; have HO241 := n2_; have BK229 := n3_; have BK230 := n4_; have BK238 := n5_; have HB := n6_; clear n0_ n1_ n2_ n3_ n4_ n5_ n6_; (try clear hb); (try clear hb2); (try clear hk); (try clear hi); (try clear ho0); have hcz21_0 : w20.cell? ⟨gb238, 0, none⟩ = some (.slice Ao16 t232.length co16) := (blk_cell BK238.out 0).trans rfl; have hcz21_1 : w20.cell? ⟨gb238, 1, none⟩ = some (.int .i64 t235) := (blk_cell BK238.out 1).trans rfl; have hcz21_2 : w20.cell? ⟨gb238, 2, none⟩ = some (.int .i64 t236) := (blk_cell BK238.out 2).trans rfl; have hcz21_3 : w20.cell? ⟨gb238, 3, none⟩ = some (.int .i64 t237) := (blk_cell BK238.out 3).trans rfl; have hfz21_0 := blk_frozen BK238.out 0; have hfz21_1 := blk_frozen BK238.out 1; have hfz21_2 := blk_frozen BK238.out 2; have hfz21_3 := blk_frozen BK238.out 3; have hcz22_0 : w20.cell? ⟨gb230, 0, none⟩ = some (.slice A2_0 l2_0.length c2_0) := (blk_cell BK230.out 0).trans rfl; have hcz22_1 : w20.cell? ⟨gb230, 1, none⟩ = some (.slice A2_1 l2_1.length c2_1) := (blk_cell BK230.out 1).trans rfl; have hfz22_0 := blk_frozen BK230.out 0; have hfz22_1 := blk_frozen BK230.out 1) | ((with_reducible refine gate_callee (f := 11) rfl ?_); refine goesL_ (some 32) rfl rfl Try.func11 (by kernel_rfl) rfl #[.agg #[.slice Ao16 t232.length co16, .int .i64 t235, .int .i64 t236, .int .i64 t237], .slice A2_0 l2_0.length c2_0, .int .i64 60] rfl (by (try simp only [List.map_toArray, List.map_cons, List.map_nil]); first | done | rfl | (simp only [List.length_drop, List.length_take]; rfl)) ?_; (with_reducible refine (thresherref04_Fits.calls k _ _ t232 t235 t236 t237 _ _ l2_0 60 t242 _ ?side1 ?side2 ?side3 ?side4 A7.out).mono ?_); (case side1 => repeat (first | exact (Kd.R_reads' HO234.out).2.2 | (with_reducible refine Kd.C_alloc ?_ _) | (with_reducible refine Kd.C_drewN ?_ _) | (with_reducible refine Kd.C_drew ?_))); (case side2 => exact (Kd.R_reads' HO234.out).2.1); (case side3 => repeat (first | exact (Kd.C_below HR2_0.out HB.out) | (with_reducible refine Kd.C_alloc ?_ _) | (with_reducible refine Kd.C_drewN ?_ _) | (with_reducible refine Kd.C_drew ?_))); (case side4 => exact HC2_0.out); rintro e w23 ⟨v243, rfl, ho0, hb⟩; refine ⟨_, rfl, ?_⟩; have n0_ := Aside0.mk (Kd.V_elder' (by (with_reducible repeat (first | apply Kd.V_alloc | apply Kd.V_drewN | apply Kd.V_drew)); exact HO2_1.out) (by first | exact Kd.N_base ho0 | exact Kd.S_base ho0) hb); have n1_ := Aside0.mk (Kd.R_below (by (with_reducible repeat (first | apply Kd.R_alloc | apply Kd.R_drewN | apply Kd.R_drew)); exact HO234.out) hb); have n2_ := Aside0.mk (Kd.R_below (by (with_reducible repeat (first | apply Kd.R_alloc | apply Kd.R_drewN | apply Kd.R_drew)); exact HO241.out) hb); have n3_ := Aside0.mk (Kd.N_lower (Kd.N_mono (ok' := fun k_ => (P2_1_ k_ ∨ w.heap.size ≤ k_) ∧ some k_ ≠ (.slice Ao16 t232.length co16 : Value).ownBlock ∧ some k_ ≠ (v240 : Value).ownBlock ∧ k_ ≠ gb229 ∧ k_ ≠ gb230 ∧ k_ ≠ gb238) (Kd.S_N (Kd.S_bound ho0)) (fun k_ hk_ => ⟨(.inr (Nat.le_trans (below_size (by repeat (first | (with_reducible first | exact HB.out | apply below_alloc | apply pw_below_drewN | apply below_drew1 | refine below_set ?_ GE229.out | refine below_set ?_ GE230.out | refine below_set ?_ GE238.out) | exact HB.out))) hk_.2.1)), (Kd.fresh' (Kd.R_lt (by (with_reducible repeat (first | apply Kd.R_alloc | apply Kd.R_drewN | apply Kd.R_drew)); exact HO234.out)) k_ hk_.2.1), (Kd.fresh' (Kd.R_lt (by (with_reducible repeat (first | apply Kd.R_alloc | apply Kd.R_drewN | apply Kd.R_drew)); exact HO241.out)) k_ hk_.2.1), (Kd.freshB (g := gb229) (o := .cells #[.int .u8 a0_0, .int .u8 a0_1, .int .u8 a0_2, .int .u8 a0_3, .int .u8 a0_4, .int .u8 a0_5, .int .u8 a0_6, .int .u8 a0_7, .int .u8 a0_8, .int .u8 a0_9, .int .u8 a0_10, .int .u8 a0_11] 24 (0, 0)) (by (with_reducible repeat (first | refine blk_drewN ?_ _ | refine blk_drew ?_ | refine blk_alloc ?_ _)); exact BK229.out) k_ hk_.2.1), (Kd.freshB (g := gb230) (o := .cells #[.slice A2_0 l2_0.length c2_0, .slice A2_1 l2_1.length c2_1] 29 (0, 0)) (by (with_reducible repeat (first | refine blk_drewN ?_ _ | refine blk_drew ?_ | refine blk_alloc ?_ _)); exact BK230.out) k_ hk_.2.1), (Kd.freshB (g := gb238) (o := .cells #[.slice Ao16 t232.length co16, .int .i64 t235, .int .i64 t236, .int .i64 t237] 32 (0, 0)) (by (with_reducible repeat (first | refine blk_drewN ?_ _ | refine blk_drew ?_ | refine blk_alloc ?_ _)); exact BK238.out) k_ hk_.2.1)⟩)) (below_size (by repeat (first | (with_reducible first | exact HB.out | apply below_alloc | apply pw_below_drewN | apply below_drew1 | refine below_set ?_ GE229.out | refine below_set ?_ GE230.out | refine below_set ?_ GE238.out) | exact HB.out)))); have n4_ := Aside0.mk (blk_below (g := gb229) (o := .cells #[.int .u8 a0_0, .int .u8 a0_1, .int .u8 a0_2, .int .u8 a0_3, .int .u8 a0_4, .int .u8 a0_5, .int .u8 a0_6, .int .u8 a0_7, .int .u8 a0_8, .int .u8 a0_9, .int .u8 a0_10, .int .u8 a0_11] 24 (0, 0)) (by (with_reducible repeat (first | refine blk_drewN ?_ _ | refine blk_drew ?_ | refine blk_alloc ?_ _)); exact BK229.out) hb); have n5_ := Aside0.mk (blk_below (g := gb230) (o := .cells #[.slice A2_0 l2_0.length c2_0, .slice A2_1 l2_1.length c2_1] 29 (0, 0)) (by (with_reducible repeat (first | refine blk_drewN ?_ _ | refine blk_drew ?_ | refine blk_alloc ?_ _)); exact BK230.out) hb); have n6_ := Aside0.mk (blk_below (g := gb238) (o := .cells #[.slice Ao16 t232.length co16, .int .i64 t235, .int .i64 t236, .int .i64 t237] 32 (0, 0)) (by (with_reducible repeat (first | refine blk_drewN ?_ _ | refine blk_drew ?_ | refine blk_alloc ?_ _)); exact BK238.out) hb); have n7_ := Aside0.mk (below_step (by repeat (first | (with_reducible first | exact HB.out | apply below_alloc | apply pw_below_drewN | apply below_drew1 | refine below_set ?_ GE229.out | refine below_set ?_ GE230.out | refine below_set ?_ GE238.out) | exact HB.out)) hb); clear HO2_1; clear HO234; clear HO241; clear BK229; clear BK230; clear BK238; clear HB; have HO2_1 := n0_; have HO234 := n1_; have HO241 := n2_; have HO244 := n3_; have BK229 := n4_; have BK230 := n5_; have BK238 := n6_; have HB := n7_; clear n0_ n1_ n2_ n3_ n4_ n5_ n6_ n7_; (try clear hb); (try clear hb2); (try clear hk); (try clear hi); (try clear ho0); have hcz24_0 : w23.cell? ⟨gb230, 0, none⟩ = some (.slice A2_0 l2_0.length c2_0) := (blk_cell BK230.out 0).trans rfl; have hcz24_1 : w23.cell? ⟨gb230, 1, none⟩ = some (.slice A2_1 l2_1.length c2_1) := (blk_cell BK230.out 1).trans rfl; have hfz24_0 := blk_frozen BK230.out 0; have hfz24_1 := blk_frozen BK230.out 1))
 (try simp only [Act.put, List.setIfInBounds_toArray, List.set_cons_zero, List.set_cons_succ])
 go_cut [11] (fun v11 wc => ∃ (kq : Nat) (x11_7 : List Int), Aside0 (thresherlaw19_FilterSelects.j0 kq t231 t239 t242 x11_7 t232 t235 t236 t237 = some r) ∧ Aside0 (kq ≤ k) ∧ Aside0 (Kd.R k39 39 wc w.heap.size (fun k_ => (w.heap.size ≤ k_)) v240 t239) ∧ Aside0 (Kd.N (Kd.slice 37 k37) 41 wc w.heap.size (fun k_ => (P2_1_ k_ ∨ w.heap.size ≤ k_) ∧ some k_ ≠ (v240 : Value).ownBlock ∧ some k_ ≠ ((.slice Ao16 t232.length co16) : Value).ownBlock ∧ k_ ≠ gb229 ∧ k_ ≠ gb230 ∧ k_ ≠ gb238) v243 t242) ∧ Aside0 (Kd.V (Kd.int .i64) 3 wc w.heap.size (fun k_ => (P2_1_ k_ ∨ w.heap.size ≤ k_) ∧ some k_ ≠ (v240 : Value).ownBlock ∧ some k_ ≠ (v243 : Value).ownBlock ∧ some k_ ≠ ((.slice Ao16 t232.length co16) : Value).ownBlock ∧ k_ ≠ gb229 ∧ k_ ≠ gb230 ∧ k_ ≠ gb238) v11 x11_7) ∧ Aside0 (Kd.V (Kd.int .i64) 3 wc w.heap.size (fun k_ => (P2_1_ k_ ∨ w.heap.size ≤ k_) ∧ some k_ ≠ (v240 : Value).ownBlock ∧ some k_ ≠ (v243 : Value).ownBlock ∧ some k_ ≠ ((.slice Ao16 t232.length co16) : Value).ownBlock ∧ k_ ≠ gb229 ∧ k_ ≠ gb230 ∧ k_ ≠ gb238) (.slice A2_1 l2_1.length c2_1) l2_1) ∧ Aside0 (Kd.R (Kd.int .i64) 3 wc w.heap.size (fun k_ => (w.heap.size ≤ k_)) (.slice Ao16 t232.length co16) t232) ∧ Aside0 (wc.heap[gb229]? = some (.cells #[.int .u8 a0_0, .int .u8 a0_1, .int .u8 a0_2, .int .u8 a0_3, .int .u8 a0_4, .int .u8 a0_5, .int .u8 a0_6, .int .u8 a0_7, .int .u8 a0_8, .int .u8 a0_9, .int .u8 a0_10, .int .u8 a0_11] 24 (0, 0))) ∧ Aside0 (wc.heap[gb230]? = some (.cells #[(.slice A2_0 l2_0.length c2_0), (.slice A2_1 l2_1.length c2_1)] 29 (0, 0))) ∧ Aside0 (wc.heap[gb238]? = some (.cells #[(.slice Ao16 t232.length co16), .int .i64 t235, .int .i64 t236, .int .i64 t237] 32 (0, 0))) ∧ Aside0 (Below w.heap.size w wc))
 case first =>
  have H := HC8.out
  clear HC8
  by_cases c25 : (l2_1.length : Int) > 60
  ·rw [if_pos c25] at H
   have c25b0 : decide (60 < (l2_1.length : Int)) = true := decide_eq_true c25
   have c25b1 : decide (60 < l2_1.length) = true := decide_eq_true (by omega)
   clear c25
   (first | rw [c25b0] | (simp only [i64_w, i32_w]; rw [c25b0]) | skip)
   by_cases c26 : 60 ≤ (l2_1.length : Int)
   ·rw [if_pos c26] at H
    have c26b0 := eq_true c26
    have c26b1 : decide (60 ≤ (l2_1.length : Int)) = true := decide_eq_true c26
    clear c26
    obtain ⟨y245, hy245⟩ : ∃ y_ : List Int, y_ = (l2_1.take 60) := ⟨_, rfl⟩
    replace H : (thresherlaw19_FilterSelects.j0 k t231 t239 t242 y245 t232 t235 t236 t237) = some r := by first | (rw [hy245]; with_reducible exact H) | (have H2_ := (Option.bind_some _ _).symm.trans H; rw [hy245]; with_reducible exact H2_) | (have H2_ := (Option.bind_some _ _).symm.trans H; with_reducible exact H2_) | with_reducible exact H | (rw [hy245]; exact H) | exact H
    have Ny245 := Aside0.mk hy245
    clear hy245
    have H' := Aside0.mk H
    clear H
    have q27 : (60 : Int) ≤ ((l2_1.length : Int) : Int) := of_decide_eq_true (by first | (with_reducible assumption) | assumption)
    obtain ⟨i027, hi027, _, hsz27, _⟩ := info_parts info3
    have hroom27 : l2_1.length ≤ c2_1 := (Kd.V_reads' HO2_1.out).2.1
    have hC27 : Kd.F (Kd.int .i64) _ _ A2_1 l2_1.length l2_1 := (Kd.V_at (base := w.heap.size) HO2_1.out).2.2
    have hcut27 := cut_to (P := Try.prog) 27 3 .i64 Try.underlying27 hi027 A2_1 l2_1.length c2_1 60 (by omega) q27 hroom27
    have hr27 := Kd.F_take (m := 60) hC27 (by omega)
    have hy27 : y245.length = (60 : Int).toNat := (by rw [Ny245.out, List.length_take]; omega)
    rw [← Ny245.out] at hr27
    rw [← hy27] at hcut27
    have HO249 := Aside0.mk (show Kd.V (Kd.int .i64) 3 _ w.heap.size _ (.slice A2_1 y245.length c2_1) y245 from Kd.V_mk (by omega) hr27)
    have HC249 := Aside0.mk (show y245.length ≤ c2_1 from by omega)
    clear hr27 hC27 hroom27 hi027 hsz27
    have KY27 := Aside0.mk hy27
    clear hy27
    replace q27 := eq_true q27
    go_wp2
    go_meet
    case rel => exact ⟨_, (y245), (by first | exact H' | (subst_vars; exact H')), ⟨by first | omega | exact Nat.le_refl _⟩, ⟨by (with_reducible repeat (first | apply Kd.R_alloc | apply Kd.R_drewN | apply Kd.R_drew)); exact Kd.R_mono HO241.out (fun _ hk => hk.1)⟩, ⟨by (with_reducible repeat (first | apply Kd.N_alloc | apply Kd.N_drewN | apply Kd.N_drew)); exact Kd.N_mono HO244.out (fun _ hk => ⟨hk.1, ⟨hk.2.2.1, ⟨hk.2.1, ⟨hk.2.2.2.1, ⟨hk.2.2.2.2.1, hk.2.2.2.2.2⟩⟩⟩⟩⟩)⟩, ⟨by (with_reducible repeat (first | apply Kd.V_alloc | apply Kd.V_drewN | apply Kd.V_drew)); exact Kd.V_mono HO249.out (fun _ hk => ⟨hk.1.1.1.1.1.1, ⟨hk.1.2, ⟨hk.2, ⟨hk.1.1.1.2, ⟨hk.1.1.1.1.1.2, ⟨hk.1.1.1.1.2, hk.1.1.2⟩⟩⟩⟩⟩⟩)⟩, ⟨by (with_reducible repeat (first | apply Kd.V_alloc | apply Kd.V_drewN | apply Kd.V_drew)); exact Kd.V_mono HO2_1.out (fun _ hk => ⟨hk.1.1.1.1.1.1, ⟨hk.1.2, ⟨hk.2, ⟨hk.1.1.1.2, ⟨hk.1.1.1.1.1.2, ⟨hk.1.1.1.1.2, hk.1.1.2⟩⟩⟩⟩⟩⟩)⟩, ⟨by (with_reducible repeat (first | apply Kd.R_alloc | apply Kd.R_drewN | apply Kd.R_drew)); exact Kd.R_mono HO234.out (fun _ hk => hk.1)⟩, ⟨by (with_reducible repeat (first | refine blk_drewN ?_ _ | refine blk_drew ?_ | refine blk_alloc ?_ _)); exact BK229.out⟩, ⟨by (with_reducible repeat (first | refine blk_drewN ?_ _ | refine blk_drew ?_ | refine blk_alloc ?_ _)); exact BK230.out⟩, ⟨by (with_reducible repeat (first | refine blk_drewN ?_ _ | refine blk_drew ?_ | refine blk_alloc ?_ _)); exact BK238.out⟩, ⟨by repeat (first | (with_reducible first | exact HB.out | apply below_alloc | apply pw_below_drewN | apply below_drew1 | refine below_set ?_ GE229.out | refine below_set ?_ GE230.out | refine below_set ?_ GE238.out) | exact HB.out)⟩⟩
   ·rw [if_neg c26] at H
    exact absurd H (by simp)
  ·rw [if_neg c25] at H
   have c25b0 : decide (60 < (l2_1.length : Int)) = false := decide_eq_false c25
   have c25b1 : decide (60 < l2_1.length) = false := decide_eq_false (by omega)
   clear c25
   (first | rw [c25b0] | (simp only [i64_w, i32_w]; rw [c25b0]) | skip)
   have H' := Aside0.mk H
   clear H
   go_wp2
   go_meet
   case rel => exact ⟨_, (l2_1), (by first | exact H' | (subst_vars; exact H')), ⟨by first | omega | exact Nat.le_refl _⟩, ⟨by (with_reducible repeat (first | apply Kd.R_alloc | apply Kd.R_drewN | apply Kd.R_drew)); exact Kd.R_mono HO241.out (fun _ hk => hk.1)⟩, ⟨by (with_reducible repeat (first | apply Kd.N_alloc | apply Kd.N_drewN | apply Kd.N_drew)); exact Kd.N_mono HO244.out (fun _ hk => ⟨hk.1, ⟨hk.2.2.1, ⟨hk.2.1, ⟨hk.2.2.2.1, ⟨hk.2.2.2.2.1, hk.2.2.2.2.2⟩⟩⟩⟩⟩)⟩, ⟨by (with_reducible repeat (first | apply Kd.V_alloc | apply Kd.V_drewN | apply Kd.V_drew)); exact Kd.V_mono HO2_1.out (fun _ hk => ⟨hk.1.1.1.1.1.1, ⟨hk.1.2, ⟨hk.2, ⟨hk.1.1.1.2, ⟨hk.1.1.1.1.1.2, ⟨hk.1.1.1.1.2, hk.1.1.2⟩⟩⟩⟩⟩⟩)⟩, ⟨by (with_reducible repeat (first | apply Kd.V_alloc | apply Kd.V_drewN | apply Kd.V_drew)); exact Kd.V_mono HO2_1.out (fun _ hk => ⟨hk.1.1.1.1.1.1, ⟨hk.1.2, ⟨hk.2, ⟨hk.1.1.1.2, ⟨hk.1.1.1.1.1.2, ⟨hk.1.1.1.1.2, hk.1.1.2⟩⟩⟩⟩⟩⟩)⟩, ⟨by (with_reducible repeat (first | apply Kd.R_alloc | apply Kd.R_drewN | apply Kd.R_drew)); exact Kd.R_mono HO234.out (fun _ hk => hk.1)⟩, ⟨by (with_reducible repeat (first | refine blk_drewN ?_ _ | refine blk_drew ?_ | refine blk_alloc ?_ _)); exact BK229.out⟩, ⟨by (with_reducible repeat (first | refine blk_drewN ?_ _ | refine blk_drew ?_ | refine blk_alloc ?_ _)); exact BK230.out⟩, ⟨by (with_reducible repeat (first | refine blk_drewN ?_ _ | refine blk_drew ?_ | refine blk_alloc ?_ _)); exact BK238.out⟩, ⟨by repeat (first | (with_reducible first | exact HB.out | apply below_alloc | apply pw_below_drewN | apply below_drew1 | refine below_set ?_ GE229.out | refine below_set ?_ GE230.out | refine below_set ?_ GE238.out) | exact HB.out)⟩⟩
 case rest =>
  clear HC8
  try clear c1
  try clear c2
  try clear p2
  try clear q2
  try clear c3
  try clear c8
  try clear c9
  try clear c10
  try clear c11
  try clear c12
  try clear c17
  try clear c18
  try clear c25
  try clear c25b0
  try clear c25b1
  try clear c26
  try clear c26b0
  try clear c26b1
  try clear q27
  try clear hcz13_0
  try clear hcz13_1
  try clear hcz13_10
  try clear hcz13_11
  try clear hcz13_2
  try clear hcz13_3
  try clear hcz13_4
  try clear hcz13_5
  try clear hcz13_6
  try clear hcz13_7
  try clear hcz13_8
  try clear hcz13_9
  try clear hcz19_0
  try clear hcz19_1
  try clear hcz19_2
  try clear hcz19_3
  try clear hcz21_0
  try clear hcz21_1
  try clear hcz21_2
  try clear hcz21_3
  try clear hcz22_0
  try clear hcz22_1
  try clear hcz24_0
  try clear hcz24_1
  try clear hfz13_0
  try clear hfz13_1
  try clear hfz13_10
  try clear hfz13_11
  try clear hfz13_2
  try clear hfz13_3
  try clear hfz13_4
  try clear hfz13_5
  try clear hfz13_6
  try clear hfz13_7
  try clear hfz13_8
  try clear hfz13_9
  try clear hfz19_0
  try clear hfz19_1
  try clear hfz19_2
  try clear hfz19_3
  try clear hfz21_0
  try clear hfz21_1
  try clear hfz21_2
  try clear hfz21_3
  try clear hfz22_0
  try clear hfz22_1
  try clear hfz24_0
  try clear hfz24_1
  try clear q27
  obtain ⟨kq, x11_7, HA, HJ7, HO_9, HO_10, HO_11, HO_231001, HO_239000, BK229, BK230, BK238, HB⟩ := hcut
  cases kq with
  | zero => exact absurd HA.out (by simp [thresherlaw19_FilterSelects.j0])
  | succ kj7 =>
   have H := HA.out
   clear HA
   simp only [thresherlaw19_FilterSelects.j0] at H
   obtain ⟨y250, hy250⟩ : ∃ y_ : List Int, y_ = (([] : List Int)) := ⟨_, rfl⟩
   replace H : (thresherlaw19_FilterSelects.l0 kj7 t231 t239 t242 x11_7 y250 0 t232 t235 t236 t237) = some r := by first | (rw [hy250]; with_reducible exact H) | (have H2_ := (Option.bind_some _ _).symm.trans H; rw [hy250]; with_reducible exact H2_) | (have H2_ := (Option.bind_some _ _).symm.trans H; with_reducible exact H2_) | with_reducible exact H | (rw [hy250]; exact H) | exact H
   have Ny250 := Aside0.mk hy250
   clear hy250
   have H' := Aside0.mk H
   clear H
   go_wp2_with (first | ((with_reducible refine gate_dst (N := 40) rfl ?_); refine Kd.R_lit (Kd.int .i64) _ 3 ?hg (N := 40) ?hd (xs := ([] : List Int)) (inner := []) (ok := fun _ => True) (okp := fun _ => True) ?hr ?hp (fun _ hk => hk) trivial (Below.refl _ _) (Nat.le_refl _) (by simp) ?_; (case hd => rfl); (case hg => rfl); (case hr => first | (go_simp; done) | (go_simp; rfl)); (case hp => exact (Reps.none _ _)); intro v251 w28 ho29 hb hg_ hnew_; clear hg_ hnew_; (first | rw [← Ny250.out] at ho29 | (simp only [Int.reduceToNat] at ho29; rw [← Ny250.out] at ho29)); have n0_ := Aside0.mk (Kd.R_below (by (with_reducible repeat (first | apply Kd.R_alloc | apply Kd.R_drewN | apply Kd.R_drew)); exact HO_9.out) hb); have n1_ := Aside0.mk (Kd.N_elder' (by (with_reducible repeat (first | apply Kd.N_alloc | apply Kd.N_drewN | apply Kd.N_drew)); exact HO_10.out) (Kd.R_base ho29) hb); have n2_ := Aside0.mk (Kd.V_elder' (by (with_reducible repeat (first | apply Kd.V_alloc | apply Kd.V_drewN | apply Kd.V_drew)); exact HO_11.out) (Kd.R_base ho29) hb); have n3_ := Aside0.mk (Kd.V_elder' (by (with_reducible repeat (first | apply Kd.V_alloc | apply Kd.V_drewN | apply Kd.V_drew)); exact HO_231001.out) (Kd.R_base ho29) hb); have n4_ := Aside0.mk (Kd.R_elder' (by (with_reducible repeat (first | apply Kd.R_alloc | apply Kd.R_drewN | apply Kd.R_drew)); exact HO_239000.out) (Kd.R_base ho29) hb); have n5_ := Aside0.mk (Kd.R_lower (Kd.R_new' (Kd.R_newM (M := fun k_ => (w.heap.size ≤ k_)) ho29 (below_size (by repeat (first | (with_reducible first | exact HB.out | apply below_alloc | apply pw_below_drewN | apply below_drew1 | refine below_set ?_ GE229.out | refine below_set ?_ GE230.out | refine below_set ?_ GE238.out) | exact HB.out))) (fun k_ h_ => h_)) (Kd.R_lt (by (with_reducible repeat (first | apply Kd.R_alloc | apply Kd.R_drewN | apply Kd.R_drew)); exact HO_239000.out))) (below_size (by repeat (first | (with_reducible first | exact HB.out | apply below_alloc | apply pw_below_drewN | apply below_drew1 | refine below_set ?_ GE229.out | refine below_set ?_ GE230.out | refine below_set ?_ GE238.out) | exact HB.out)))); have n6_ := Aside0.mk (blk_below (g := gb229) (o := .cells #[.int .u8 a0_0, .int .u8 a0_1, .int .u8 a0_2, .int .u8 a0_3, .int .u8 a0_4, .int .u8 a0_5, .int .u8 a0_6, .int .u8 a0_7, .int .u8 a0_8, .int .u8 a0_9, .int .u8 a0_10, .int .u8 a0_11] 24 (0, 0)) (by (with_reducible repeat (first | refine blk_drewN ?_ _ | refine blk_drew ?_ | refine blk_alloc ?_ _)); exact BK229.out) hb); have n7_ := Aside0.mk (blk_below (g := gb230) (o := .cells #[.slice A2_0 l2_0.length c2_0, .slice A2_1 l2_1.length c2_1] 29 (0, 0)) (by (with_reducible repeat (first | refine blk_drewN ?_ _ | refine blk_drew ?_ | refine blk_alloc ?_ _)); exact BK230.out) hb); have n8_ := Aside0.mk (blk_below (g := gb238) (o := .cells #[.slice Ao16 t232.length co16, .int .i64 t235, .int .i64 t236, .int .i64 t237] 32 (0, 0)) (by (with_reducible repeat (first | refine blk_drewN ?_ _ | refine blk_drew ?_ | refine blk_alloc ?_ _)); exact BK238.out) hb); have n9_ := Aside0.mk (below_step (by repeat (first | (with_reducible first | exact HB.out | apply below_alloc | apply pw_below_drewN | apply below_drew1 | refine below_set ?_ GE229.out | refine below_set ?_ GE230.out | refine below_set ?_ GE238.out) | exact HB.out)) hb); clear HO_9; clear HO_10; clear HO_11; clear HO_231001; clear HO_239000; clear BK229; clear BK230; clear BK238; clear HB; have HO_9 := n0_; have HO_10 := n1_; have HO_11 := n2_; have HO_231001 := n3_; have HO_239000 := n4_; have HO252 := n5_; have BK229 := n6_; have BK230 := n7_; have BK238 := n8_; have HB := n9_; clear n0_ n1_ n2_ n3_ n4_ n5_ n6_ n7_ n8_ n9_; clear hb ho29))
   go_loopg [12, 13] kj7 (fun kq v12 v13 w' => ∃ (x12_2 : List Int) (x13_2 : Int), v13 = .int .i64 x13_2 ∧ Aside0 (thresherlaw19_FilterSelects.l0 kq t231 t239 t242 x11_7 x12_2 x13_2 t232 t235 t236 t237 = some r) ∧ Aside0 (kq ≤ kj7) ∧ Aside0 (Kd.R k39 39 w' w.heap.size (fun k_ => (w.heap.size ≤ k_)) v240 t239) ∧ Aside0 (Kd.N (Kd.slice 37 k37) 41 w' w.heap.size (fun k_ => (P2_1_ k_ ∨ w.heap.size ≤ k_) ∧ some k_ ≠ (v240 : Value).ownBlock ∧ some k_ ≠ (v12 : Value).ownBlock ∧ some k_ ≠ ((.slice Ao16 t232.length co16) : Value).ownBlock ∧ k_ ≠ gb229 ∧ k_ ≠ gb230 ∧ k_ ≠ gb238) v243 t242) ∧ Aside0 (Kd.V (Kd.int .i64) 3 w' w.heap.size (fun k_ => (P2_1_ k_ ∨ w.heap.size ≤ k_) ∧ some k_ ≠ (v240 : Value).ownBlock ∧ some k_ ≠ (v243 : Value).ownBlock ∧ some k_ ≠ (v12 : Value).ownBlock ∧ some k_ ≠ ((.slice Ao16 t232.length co16) : Value).ownBlock ∧ k_ ≠ gb229 ∧ k_ ≠ gb230 ∧ k_ ≠ gb238) u11 x11_7) ∧ Aside0 (Kd.R (Kd.int .i64) 3 w' w.heap.size (fun k_ => (w.heap.size ≤ k_) ∧ some k_ ≠ ((.slice Ao16 t232.length co16) : Value).ownBlock) v12 x12_2) ∧ Aside0 (Kd.V (Kd.int .i64) 3 w' w.heap.size (fun k_ => (P2_1_ k_ ∨ w.heap.size ≤ k_) ∧ some k_ ≠ (v240 : Value).ownBlock ∧ some k_ ≠ (v243 : Value).ownBlock ∧ some k_ ≠ (v12 : Value).ownBlock ∧ some k_ ≠ ((.slice Ao16 t232.length co16) : Value).ownBlock ∧ k_ ≠ gb229 ∧ k_ ≠ gb230 ∧ k_ ≠ gb238) (.slice A2_1 l2_1.length c2_1) l2_1) ∧ Aside0 (Kd.R (Kd.int .i64) 3 w' w.heap.size (fun k_ => (w.heap.size ≤ k_) ∧ some k_ ≠ (v12 : Value).ownBlock) (.slice Ao16 t232.length co16) t232) ∧ Aside0 (w'.heap[gb229]? = some (.cells #[.int .u8 a0_0, .int .u8 a0_1, .int .u8 a0_2, .int .u8 a0_3, .int .u8 a0_4, .int .u8 a0_5, .int .u8 a0_6, .int .u8 a0_7, .int .u8 a0_8, .int .u8 a0_9, .int .u8 a0_10, .int .u8 a0_11] 24 (0, 0))) ∧ Aside0 (w'.heap[gb230]? = some (.cells #[(.slice A2_0 l2_0.length c2_0), (.slice A2_1 l2_1.length c2_1)] 29 (0, 0))) ∧ Aside0 (w'.heap[gb238]? = some (.cells #[(.slice Ao16 t232.length co16), .int .i64 t235, .int .i64 t236, .int .i64 t237] 32 (0, 0))) ∧ Aside0 (Below w.heap.size w w'))
   case atStart => exact ⟨(y250), (0), (by first | rfl | (simp; done) | (simp [*]; done)), H', ⟨Nat.le_refl _⟩, ⟨by (with_reducible repeat (first | apply Kd.R_alloc | apply Kd.R_drewN | apply Kd.R_drew)); exact HO_9.out⟩, ⟨by (with_reducible repeat (first | apply Kd.N_alloc | apply Kd.N_drewN | apply Kd.N_drew)); exact Kd.N_mono HO_10.out (fun _ hk => ⟨hk.1.1, ⟨hk.1.2.1, ⟨hk.2, ⟨hk.1.2.2.1, ⟨hk.1.2.2.2.1, ⟨hk.1.2.2.2.2.1, hk.1.2.2.2.2.2⟩⟩⟩⟩⟩⟩)⟩, ⟨by (with_reducible repeat (first | apply Kd.V_alloc | apply Kd.V_drewN | apply Kd.V_drew)); exact Kd.V_mono HO_11.out (fun _ hk => ⟨hk.1.1, ⟨hk.1.2.1, ⟨hk.1.2.2.1, ⟨hk.2, ⟨hk.1.2.2.2.1, ⟨hk.1.2.2.2.2.1, ⟨hk.1.2.2.2.2.2.1, hk.1.2.2.2.2.2.2⟩⟩⟩⟩⟩⟩⟩)⟩, ⟨by (with_reducible repeat (first | apply Kd.R_alloc | apply Kd.R_drewN | apply Kd.R_drew)); exact Kd.R_mono HO252.out (fun _ hk => ⟨hk.1.1, hk.2⟩)⟩, ⟨by (with_reducible repeat (first | apply Kd.V_alloc | apply Kd.V_drewN | apply Kd.V_drew)); exact Kd.V_mono HO_231001.out (fun _ hk => ⟨hk.1.1, ⟨hk.1.2.1, ⟨hk.1.2.2.1, ⟨hk.2, ⟨hk.1.2.2.2.1, ⟨hk.1.2.2.2.2.1, ⟨hk.1.2.2.2.2.2.1, hk.1.2.2.2.2.2.2⟩⟩⟩⟩⟩⟩⟩)⟩, ⟨by (with_reducible repeat (first | apply Kd.R_alloc | apply Kd.R_drewN | apply Kd.R_drew)); exact HO_239000.out⟩, ⟨by (with_reducible repeat (first | refine blk_drewN ?_ _ | refine blk_drew ?_ | refine blk_alloc ?_ _)); exact BK229.out⟩, ⟨by (with_reducible repeat (first | refine blk_drewN ?_ _ | refine blk_drew ?_ | refine blk_alloc ?_ _)); exact BK230.out⟩, ⟨by (with_reducible repeat (first | refine blk_drewN ?_ _ | refine blk_drew ?_ | refine blk_alloc ?_ _)); exact BK238.out⟩, ⟨by repeat (first | (with_reducible first | exact HB.out | apply below_alloc | apply pw_below_drewN | apply below_drew1 | refine below_set ?_ GE229.out | refine below_set ?_ GE230.out | refine below_set ?_ GE238.out) | exact HB.out)⟩⟩
   case round =>
    clear H'
    try clear c1
    try clear c2
    try clear p2
    try clear q2
    try clear c3
    try clear c8
    try clear c9
    try clear c10
    try clear c11
    try clear c12
    try clear c17
    try clear c18
    try clear c25
    try clear c25b0
    try clear c25b1
    try clear c26
    try clear c26b0
    try clear c26b1
    try clear q27
    try clear hcz13_0
    try clear hcz13_1
    try clear hcz13_10
    try clear hcz13_11
    try clear hcz13_2
    try clear hcz13_3
    try clear hcz13_4
    try clear hcz13_5
    try clear hcz13_6
    try clear hcz13_7
    try clear hcz13_8
    try clear hcz13_9
    try clear hcz19_0
    try clear hcz19_1
    try clear hcz19_2
    try clear hcz19_3
    try clear hcz21_0
    try clear hcz21_1
    try clear hcz21_2
    try clear hcz21_3
    try clear hcz22_0
    try clear hcz22_1
    try clear hcz24_0
    try clear hcz24_1
    try clear hfz13_0
    try clear hfz13_1
    try clear hfz13_10
    try clear hfz13_11
    try clear hfz13_2
    try clear hfz13_3
    try clear hfz13_4
    try clear hfz13_5
    try clear hfz13_6
    try clear hfz13_7
    try clear hfz13_8
    try clear hfz13_9
    try clear hfz19_0
    try clear hfz19_1
    try clear hfz19_2
    try clear hfz19_3
    try clear hfz21_0
    try clear hfz21_1
    try clear hfz21_2
    try clear hfz21_3
    try clear hfz22_0
    try clear hfz22_1
    try clear hfz24_0
    try clear hfz24_1
    try clear p2
    try clear q2
    try clear q27
    obtain ⟨x12_2, x13_2, rfl, HA, HK2, HO_9, HO_10, HO_11, HO_12, HO_231001, HO_239000, BK229, BK230, BK238, HB⟩ := hrel
    cases gk with
    | zero => exact absurd HA.out (by simp [thresherlaw19_FilterSelects.l0])
    | succ k2 =>
     have H := HA.out
     clear HA
     simp only [thresherlaw19_FilterSelects.l0] at H
     by_cases c30 : x13_2 < (t242.length : Int)
     ·rw [if_pos c30] at H
      have c30b0 : decide (x13_2 < (t242.length : Int)) = true := decide_eq_true c30
      clear c30
      by_cases c31 : x12_2.length < 17592186044416
      ·rw [if_pos c31] at H
       have LMc31 := Aside0.mk c31
       clear c31
       obtain ⟨y253, hy253⟩ : ∃ y_ : List Int, y_ = (x12_2 ++ [x13_2]) := ⟨_, rfl⟩
       replace H : (thresherlaw19_FilterSelects.l0 k2 t231 t239 t242 x11_7 y253 (wrap64 (x13_2 + 1)) t232 t235 t236 t237) = some r := by first | (rw [hy253]; with_reducible exact H) | (have H2_ := (Option.bind_some _ _).symm.trans H; rw [hy253]; with_reducible exact H2_) | (have H2_ := (Option.bind_some _ _).symm.trans H; with_reducible exact H2_) | with_reducible exact H | (rw [hy253]; exact H) | exact H
       have Ny253 := Aside0.mk hy253
       clear hy253
       have H' := Aside0.mk H
       clear H
       obtain ⟨Ao32, co32, eo32⟩ := Kd.N_slice HO_10.out
       subst eo32
       go_wp2_with (first | ((with_reducible refine gate_builtin (b := .append) (xs := #[.tmp 47, .tmp 49]) rfl ?_); at_builtin; refine Kd.R_append (Kd.int .i64) (w0 := w) w.heap.size rfl (.tmp 47) (.tmp 49) 27 3 (.int .i64 0) 8 rfl Try.underlying27 info3 rfl (by decide) (by omega) u12 x12_2 x13_2 [.int .i64 x13_2] (fun k_ => (w.heap.size ≤ k_) ∧ some k_ ≠ (.slice Ao16 t232.length co16 : Value).ownBlock) (fun _ => False) rfl rfl ?aP (fun _ hk => hk.elim) ?aF ?aO ?aB ?aS ?aL ?_; (case aP => exact rfl); (case aB => exact (by repeat (first | (with_reducible first | exact HB.out | apply below_alloc | apply pw_below_drewN | apply below_drew1 | refine below_set ?_ GE229.out | refine below_set ?_ GE230.out | refine below_set ?_ GE238.out) | exact HB.out))); (case aF => exact (fun k_ hk => ⟨(Nat.le_trans (below_size (by repeat (first | (with_reducible first | exact HB.out | apply below_alloc | apply pw_below_drewN | apply below_drew1 | refine below_set ?_ GE229.out | refine below_set ?_ GE230.out | refine below_set ?_ GE238.out) | exact HB.out))) hk), Kd.fresh' (Kd.R_lt (by (with_reducible repeat (first | apply Kd.R_alloc | apply Kd.R_drewN | apply Kd.R_drew)); exact HO_239000.out)) k_ hk⟩)); (case aO => exact (by (with_reducible repeat (first | apply Kd.R_alloc | apply Kd.R_drewN | apply Kd.R_drew)); exact HO_12.out)); (case aS => exact (below_size (by repeat (first | (with_reducible first | exact HB.out | apply below_alloc | apply pw_below_drewN | apply below_drew1 | refine below_set ?_ GE229.out | refine below_set ?_ GE230.out | refine below_set ?_ GE238.out) | exact HB.out)))); (case aL => have := LMc31.out; omega); intro v254 w33 ho hb hg hat; rw [← Ny253.out] at ho; have n0_ := Aside0.mk (Kd.R_over' (by (with_reducible repeat (first | apply Kd.R_alloc | apply Kd.R_drewN | apply Kd.R_drew)); exact HO_9.out) (Kd.R_typed (by (with_reducible repeat (first | apply Kd.R_alloc | apply Kd.R_drewN | apply Kd.R_drew)); exact HO_12.out)) (by decide) hg); have n1_ := Aside0.mk (Kd.N_afterv (ok := (fun k_ => (P2_1_ k_ ∨ w.heap.size ≤ k_) ∧ some k_ ≠ (v240 : Value).ownBlock ∧ some k_ ≠ (.slice Ao16 t232.length co16 : Value).ownBlock ∧ k_ ≠ gb229 ∧ k_ ≠ gb230 ∧ k_ ≠ gb238)) (by (with_reducible repeat (first | apply Kd.N_alloc | apply Kd.N_drewN | apply Kd.N_drew)); exact Kd.N_mono HO_10.out (fun _ hk => ⟨⟨hk.1, ⟨hk.2.1, ⟨hk.2.2.2.1, ⟨hk.2.2.2.2.1, ⟨hk.2.2.2.2.2.1, hk.2.2.2.2.2.2⟩⟩⟩⟩⟩, hk.2.2.1⟩)) hg hat); have n2_ := Aside0.mk (Kd.V_afterv (ok := (fun k_ => (P2_1_ k_ ∨ w.heap.size ≤ k_) ∧ some k_ ≠ (v240 : Value).ownBlock ∧ some k_ ≠ (.slice Ao32 t242.length co32 : Value).ownBlock ∧ some k_ ≠ (.slice Ao16 t232.length co16 : Value).ownBlock ∧ k_ ≠ gb229 ∧ k_ ≠ gb230 ∧ k_ ≠ gb238)) (by (with_reducible repeat (first | apply Kd.V_alloc | apply Kd.V_drewN | apply Kd.V_drew)); exact Kd.V_mono HO_11.out (fun _ hk => ⟨⟨hk.1, ⟨hk.2.1, ⟨hk.2.2.1, ⟨hk.2.2.2.2.1, ⟨hk.2.2.2.2.2.1, ⟨hk.2.2.2.2.2.2.1, hk.2.2.2.2.2.2.2⟩⟩⟩⟩⟩⟩, hk.2.2.2.1⟩)) hg hat); have n3_ := Aside0.mk (Kd.V_afterv (ok := (fun k_ => (P2_1_ k_ ∨ w.heap.size ≤ k_) ∧ some k_ ≠ (v240 : Value).ownBlock ∧ some k_ ≠ (.slice Ao32 t242.length co32 : Value).ownBlock ∧ some k_ ≠ (.slice Ao16 t232.length co16 : Value).ownBlock ∧ k_ ≠ gb229 ∧ k_ ≠ gb230 ∧ k_ ≠ gb238)) (by (with_reducible repeat (first | apply Kd.V_alloc | apply Kd.V_drewN | apply Kd.V_drew)); exact Kd.V_mono HO_231001.out (fun _ hk => ⟨⟨hk.1, ⟨hk.2.1, ⟨hk.2.2.1, ⟨hk.2.2.2.2.1, ⟨hk.2.2.2.2.2.1, ⟨hk.2.2.2.2.2.2.1, hk.2.2.2.2.2.2.2⟩⟩⟩⟩⟩⟩, hk.2.2.2.1⟩)) hg hat); have n4_ := Aside0.mk (Kd.R_after (ok := (fun k_ => (w.heap.size ≤ k_))) (by (with_reducible repeat (first | apply Kd.R_alloc | apply Kd.R_drewN | apply Kd.R_drew)); exact HO_239000.out) hg hat); have n5_ := Aside0.mk (blk_grown (g := gb229) (o := .cells #[.int .u8 a0_0, .int .u8 a0_1, .int .u8 a0_2, .int .u8 a0_3, .int .u8 a0_4, .int .u8 a0_5, .int .u8 a0_6, .int .u8 a0_7, .int .u8 a0_8, .int .u8 a0_9, .int .u8 a0_10, .int .u8 a0_11] 24 (0, 0)) (by (with_reducible repeat (first | refine blk_drewN ?_ _ | refine blk_drew ?_ | refine blk_alloc ?_ _)); exact BK229.out) hg (Kd.R_ne HO_12.out BK229.out (by decide))); have n6_ := Aside0.mk (blk_grown (g := gb230) (o := .cells #[.slice A2_0 l2_0.length c2_0, .slice A2_1 l2_1.length c2_1] 29 (0, 0)) (by (with_reducible repeat (first | refine blk_drewN ?_ _ | refine blk_drew ?_ | refine blk_alloc ?_ _)); exact BK230.out) hg (Kd.R_ne HO_12.out BK230.out (by decide))); have n7_ := Aside0.mk (blk_grown (g := gb238) (o := .cells #[.slice Ao16 t232.length co16, .int .i64 t235, .int .i64 t236, .int .i64 t237] 32 (0, 0)) (by (with_reducible repeat (first | refine blk_drewN ?_ _ | refine blk_drew ?_ | refine blk_alloc ?_ _)); exact BK238.out) hg (Kd.R_ne HO_12.out BK238.out (by decide))); have n8_ := Aside0.mk (hb); have n9_ := Aside0.mk (ho); clear HO_9; clear HO_10; clear HO_11; clear HO_231001; clear HO_239000; clear BK229; clear BK230; clear BK238; clear HB; clear HO_12; have HO_9 := n0_; have HO_10 := n1_; have HO_11 := n2_; have HO_231001 := n3_; have HO_239000 := n4_; have BK229 := n5_; have BK230 := n6_; have BK238 := n7_; have HB := n8_; have HO255 := n9_; clear n0_ n1_ n2_ n3_ n4_ n5_ n6_ n7_ n8_ n9_; clear ho hb hg hat))
       go_roundg k2
       case measure => have := HJ7.out; have := HK2.out; omega
       case rel => exact ⟨(y253), (wrap64 (x13_2 + 1)), (by first | rfl | (simp; done) | (simp [*]; done)), (by first | exact H' | (subst_vars; exact H')), ⟨by have := HJ7.out; have := HK2.out; omega⟩, ⟨by (with_reducible repeat (first | apply Kd.R_alloc | apply Kd.R_drewN | apply Kd.R_drew)); exact HO_9.out⟩, ⟨by (with_reducible repeat (first | apply Kd.N_alloc | apply Kd.N_drewN | apply Kd.N_drew)); exact Kd.N_mono HO_10.out (fun _ hk => ⟨hk.1.1, ⟨hk.1.2.1, ⟨hk.2, ⟨hk.1.2.2.1, ⟨hk.1.2.2.2.1, ⟨hk.1.2.2.2.2.1, hk.1.2.2.2.2.2⟩⟩⟩⟩⟩⟩)⟩, ⟨by (with_reducible repeat (first | apply Kd.V_alloc | apply Kd.V_drewN | apply Kd.V_drew)); exact Kd.V_mono HO_11.out (fun _ hk => ⟨hk.1.1, ⟨hk.1.2.1, ⟨hk.1.2.2.1, ⟨hk.2, ⟨hk.1.2.2.2.1, ⟨hk.1.2.2.2.2.1, ⟨hk.1.2.2.2.2.2.1, hk.1.2.2.2.2.2.2⟩⟩⟩⟩⟩⟩⟩)⟩, ⟨by (with_reducible repeat (first | apply Kd.R_alloc | apply Kd.R_drewN | apply Kd.R_drew)); exact HO255.out⟩, ⟨by (with_reducible repeat (first | apply Kd.V_alloc | apply Kd.V_drewN | apply Kd.V_drew)); exact Kd.V_mono HO_231001.out (fun _ hk => ⟨hk.1.1, ⟨hk.1.2.1, ⟨hk.1.2.2.1, ⟨hk.2, ⟨hk.1.2.2.2.1, ⟨hk.1.2.2.2.2.1, ⟨hk.1.2.2.2.2.2.1, hk.1.2.2.2.2.2.2⟩⟩⟩⟩⟩⟩⟩)⟩, ⟨by (with_reducible repeat (first | apply Kd.R_alloc | apply Kd.R_drewN | apply Kd.R_drew)); exact HO_239000.out⟩, ⟨by (with_reducible repeat (first | refine blk_drewN ?_ _ | refine blk_drew ?_ | refine blk_alloc ?_ _)); exact BK229.out⟩, ⟨by (with_reducible repeat (first | refine blk_drewN ?_ _ | refine blk_drew ?_ | refine blk_alloc ?_ _)); exact BK230.out⟩, ⟨by (with_reducible repeat (first | refine blk_drewN ?_ _ | refine blk_drew ?_ | refine blk_alloc ?_ _)); exact BK238.out⟩, ⟨by repeat (first | (with_reducible first | exact HB.out | apply below_alloc | apply pw_below_drewN | apply below_drew1 | refine below_set ?_ GE229.out | refine below_set ?_ GE230.out | refine below_set ?_ GE238.out) | exact HB.out)⟩⟩
      ·rw [if_neg c31] at H
       exact absurd H (by simp)
     ·rw [if_neg c30] at H
      have c30b0 : decide (x13_2 < (t242.length : Int)) = false := decide_eq_false c30
      clear c30
      have H' := Aside0.mk H
      clear H
      obtain ⟨Ao34, co34, eo34⟩ := Kd.N_slice HO_10.out
      subst eo34
      go_wp2
      go_loopg [12, 14] k2 (fun kq v12 v14 w' => ∃ (x12_3 : List Int) (x14_3 : Int), v14 = .int .i64 x14_3 ∧ Aside0 (thresherlaw19_FilterSelects.l1 kq t231 t239 t242 x11_7 x12_3 x14_3 t232 t235 t236 t237 = some r) ∧ Aside0 (kq ≤ k2) ∧ Aside0 (Kd.R k39 39 w' w.heap.size (fun k_ => (w.heap.size ≤ k_)) v240 t239) ∧ Aside0 (Kd.N (Kd.slice 37 k37) 41 w' w.heap.size (fun k_ => (P2_1_ k_ ∨ w.heap.size ≤ k_) ∧ some k_ ≠ (v240 : Value).ownBlock ∧ some k_ ≠ (v12 : Value).ownBlock ∧ some k_ ≠ ((.slice Ao16 t232.length co16) : Value).ownBlock ∧ k_ ≠ gb229 ∧ k_ ≠ gb230 ∧ k_ ≠ gb238) (.slice Ao34 t242.length co34) t242) ∧ Aside0 (Kd.V (Kd.int .i64) 3 w' w.heap.size (fun k_ => (P2_1_ k_ ∨ w.heap.size ≤ k_) ∧ some k_ ≠ (v240 : Value).ownBlock ∧ some k_ ≠ ((.slice Ao34 t242.length co34) : Value).ownBlock ∧ some k_ ≠ (v12 : Value).ownBlock ∧ some k_ ≠ ((.slice Ao16 t232.length co16) : Value).ownBlock ∧ k_ ≠ gb229 ∧ k_ ≠ gb230 ∧ k_ ≠ gb238) u11 x11_7) ∧ Aside0 (Kd.R (Kd.int .i64) 3 w' w.heap.size (fun k_ => (w.heap.size ≤ k_) ∧ some k_ ≠ ((.slice Ao16 t232.length co16) : Value).ownBlock) v12 x12_3) ∧ Aside0 (Kd.V (Kd.int .i64) 3 w' w.heap.size (fun k_ => (P2_1_ k_ ∨ w.heap.size ≤ k_) ∧ some k_ ≠ (v240 : Value).ownBlock ∧ some k_ ≠ ((.slice Ao34 t242.length co34) : Value).ownBlock ∧ some k_ ≠ (v12 : Value).ownBlock ∧ some k_ ≠ ((.slice Ao16 t232.length co16) : Value).ownBlock ∧ k_ ≠ gb229 ∧ k_ ≠ gb230 ∧ k_ ≠ gb238) (.slice A2_1 l2_1.length c2_1) l2_1) ∧ Aside0 (Kd.R (Kd.int .i64) 3 w' w.heap.size (fun k_ => (w.heap.size ≤ k_) ∧ some k_ ≠ (v12 : Value).ownBlock) (.slice Ao16 t232.length co16) t232) ∧ Aside0 (w'.heap[gb229]? = some (.cells #[.int .u8 a0_0, .int .u8 a0_1, .int .u8 a0_2, .int .u8 a0_3, .int .u8 a0_4, .int .u8 a0_5, .int .u8 a0_6, .int .u8 a0_7, .int .u8 a0_8, .int .u8 a0_9, .int .u8 a0_10, .int .u8 a0_11] 24 (0, 0))) ∧ Aside0 (w'.heap[gb230]? = some (.cells #[(.slice A2_0 l2_0.length c2_0), (.slice A2_1 l2_1.length c2_1)] 29 (0, 0))) ∧ Aside0 (w'.heap[gb238]? = some (.cells #[(.slice Ao16 t232.length co16), .int .i64 t235, .int .i64 t236, .int .i64 t237] 32 (0, 0))) ∧ Aside0 (Below w.heap.size w w'))
      case atStart => exact ⟨(x12_2), (0), (by first | rfl | (simp; done) | (simp [*]; done)), H', ⟨Nat.le_refl _⟩, ⟨by (with_reducible repeat (first | apply Kd.R_alloc | apply Kd.R_drewN | apply Kd.R_drew)); exact HO_9.out⟩, ⟨by (with_reducible repeat (first | apply Kd.N_alloc | apply Kd.N_drewN | apply Kd.N_drew)); exact HO_10.out⟩, ⟨by (with_reducible repeat (first | apply Kd.V_alloc | apply Kd.V_drewN | apply Kd.V_drew)); exact HO_11.out⟩, ⟨by (with_reducible repeat (first | apply Kd.R_alloc | apply Kd.R_drewN | apply Kd.R_drew)); exact HO_12.out⟩, ⟨by (with_reducible repeat (first | apply Kd.V_alloc | apply Kd.V_drewN | apply Kd.V_drew)); exact HO_231001.out⟩, ⟨by (with_reducible repeat (first | apply Kd.R_alloc | apply Kd.R_drewN | apply Kd.R_drew)); exact HO_239000.out⟩, ⟨by (with_reducible repeat (first | refine blk_drewN ?_ _ | refine blk_drew ?_ | refine blk_alloc ?_ _)); exact BK229.out⟩, ⟨by (with_reducible repeat (first | refine blk_drewN ?_ _ | refine blk_drew ?_ | refine blk_alloc ?_ _)); exact BK230.out⟩, ⟨by (with_reducible repeat (first | refine blk_drewN ?_ _ | refine blk_drew ?_ | refine blk_alloc ?_ _)); exact BK238.out⟩, ⟨by repeat (first | (with_reducible first | exact HB.out | apply below_alloc | apply pw_below_drewN | apply below_drew1 | refine below_set ?_ GE229.out | refine below_set ?_ GE230.out | refine below_set ?_ GE238.out) | exact HB.out)⟩⟩
      case round =>
       clear H'
       try clear c1
       try clear c2
       try clear p2
       try clear q2
       try clear c3
       try clear p6
       try clear c8
       try clear c9
       try clear c10
       try clear c11
       try clear c12
       try clear c17
       try clear c18
       try clear c25
       try clear c25b0
       try clear c25b1
       try clear c26
       try clear c26b0
       try clear c26b1
       try clear q27
       try clear c30
       try clear c30b0
       try clear c31
       try clear hcz13_0
       try clear hcz13_1
       try clear hcz13_10
       try clear hcz13_11
       try clear hcz13_2
       try clear hcz13_3
       try clear hcz13_4
       try clear hcz13_5
       try clear hcz13_6
       try clear hcz13_7
       try clear hcz13_8
       try clear hcz13_9
       try clear hcz19_0
       try clear hcz19_1
       try clear hcz19_2
       try clear hcz19_3
       try clear hcz21_0
       try clear hcz21_1
       try clear hcz21_2
       try clear hcz21_3
       try clear hcz22_0
       try clear hcz22_1
       try clear hcz24_0
       try clear hcz24_1
       try clear hfz13_0
       try clear hfz13_1
       try clear hfz13_10
       try clear hfz13_11
       try clear hfz13_2
       try clear hfz13_3
       try clear hfz13_4
       try clear hfz13_5
       try clear hfz13_6
       try clear hfz13_7
       try clear hfz13_8
       try clear hfz13_9
       try clear hfz19_0
       try clear hfz19_1
       try clear hfz19_2
       try clear hfz19_3
       try clear hfz21_0
       try clear hfz21_1
       try clear hfz21_2
       try clear hfz21_3
       try clear hfz22_0
       try clear hfz22_1
       try clear hfz24_0
       try clear hfz24_1
       try clear p2
       try clear q2
       try clear q27
       obtain ⟨x12_3, x14_3, rfl, HA, HK3, HO_9, HO_10, HO_11, HO_12, HO_231001, HO_239000, BK229, BK230, BK238, HB⟩ := hrel
       cases gk with
       | zero => exact absurd HA.out (by simp [thresherlaw19_FilterSelects.l1])
       | succ k3 =>
        have H := HA.out
        clear HA
        simp only [thresherlaw19_FilterSelects.l1] at H
        by_cases c35 : x14_3 < (t239.length : Int)
        ·rw [if_pos c35] at H
         have c35b0 : decide (x14_3 < (t239.length : Int)) = true := decide_eq_true c35
         clear c35
         by_cases c36 : 0 ≤ x14_3
         ·rw [if_pos c36] at H
          have c36b0 : decide (0 ≤ x14_3) = true := decide_eq_true c36
          clear c36
          by_cases c37 : 0 ≤ ((rd_T39 t239 x14_3).f0)
          ·rw [if_pos c37] at H
           have c37b0 : decide (0 ≤ ((rd_T39 t239 x14_3).f0)) = true := decide_eq_true c37
           clear c37
           by_cases c38 : ((rd_T39 t239 x14_3).f0) < (t232.length : Int)
           ·rw [if_pos c38] at H
            have c38b0 : decide (((rd_T39 t239 x14_3).f0) < (t232.length : Int)) = true := decide_eq_true c38
            clear c38
            obtain ⟨y259, hy259⟩ : ∃ y_ : List (S37), y_ = (([] : List (S37))) := ⟨_, rfl⟩
            replace H : (thresherlaw19_FilterSelects.l2 k3 t231 t239 t242 x11_7 x12_3 x14_3 (rd t232 ((rd_T39 t239 x14_3).f0)) y259 0 t232 t235 t236 t237 ((rd_T39 t239 x14_3).f0) ((rd_T39 t239 x14_3).f1) ((rd_T39 t239 x14_3).f2.f0) ((rd_T39 t239 x14_3).f2.f1)) = some r := by first | (rw [hy259]; with_reducible exact H) | (have H2_ := (Option.bind_some _ _).symm.trans H; rw [hy259]; with_reducible exact H2_) | (have H2_ := (Option.bind_some _ _).symm.trans H; with_reducible exact H2_) | with_reducible exact H | (rw [hy259]; exact H) | exact H
            have Ny259 := Aside0.mk hy259
            clear hy259
            have H' := Aside0.mk H
            clear H
            obtain ⟨Ao39, co39, eo39⟩ := Kd.R_slice HO_9.out
            subst eo39
            have p256 : 0 ≤ (x14_3 : Int) := of_decide_eq_true (by first | (with_reducible assumption) | assumption)
            have q256 : x14_3 < (t239.length : Int) := of_decide_eq_true (by first | (with_reducible assumption) | assumption)
            obtain ⟨ad256, e256, hx256_0, hx256_1, hx256_2, hx256_3⟩ := at_T39 (Kd.R_reads' HO_9.out).2.2 x14_3 p256 q256
            cases e256
            replace p256 := eq_true p256
            replace q256 := eq_true q256
            go_wp2_with (first | ((with_reducible refine gate_dst (N := 15) rfl ?_); refine box_event ?hg (N := 15) ?hd (cs := #[.int .i64 0, .int .i64 0, .int .i64 0, .string (⟨#[]⟩ : ByteArray)]) (t := 39) ?hr ?_; (case hd => rfl); (case hg => rfl); (case hr => first | (go_simp; done) | (go_simp; rfl)); intro gb257 hg w40 hbox hb; have n0_ := Aside0.mk (Kd.R_below (Kd.R_elderB (by (with_reducible repeat (first | apply Kd.R_alloc | apply Kd.R_drewN | apply Kd.R_drew)); exact HO_9.out) gb257 (Nat.le_of_eq hg.symm)) hb); have n1_ := Aside0.mk (Kd.N_below (Kd.N_elderB (by (with_reducible repeat (first | apply Kd.N_alloc | apply Kd.N_drewN | apply Kd.N_drew)); exact HO_10.out) gb257 (Nat.le_of_eq hg.symm)) hb); have n2_ := Aside0.mk (Kd.V_below (Kd.V_elderB (by (with_reducible repeat (first | apply Kd.V_alloc | apply Kd.V_drewN | apply Kd.V_drew)); exact HO_11.out) gb257 (Nat.le_of_eq hg.symm)) hb); have n3_ := Aside0.mk (Kd.R_below (by (with_reducible repeat (first | apply Kd.R_alloc | apply Kd.R_drewN | apply Kd.R_drew)); exact HO_12.out) hb); have n4_ := Aside0.mk (Kd.V_below (Kd.V_elderB (by (with_reducible repeat (first | apply Kd.V_alloc | apply Kd.V_drewN | apply Kd.V_drew)); exact HO_231001.out) gb257 (Nat.le_of_eq hg.symm)) hb); have n5_ := Aside0.mk (Kd.R_below (by (with_reducible repeat (first | apply Kd.R_alloc | apply Kd.R_drewN | apply Kd.R_drew)); exact HO_239000.out) hb); have n6_ := Aside0.mk (blk_below (g := gb229) (o := .cells #[.int .u8 a0_0, .int .u8 a0_1, .int .u8 a0_2, .int .u8 a0_3, .int .u8 a0_4, .int .u8 a0_5, .int .u8 a0_6, .int .u8 a0_7, .int .u8 a0_8, .int .u8 a0_9, .int .u8 a0_10, .int .u8 a0_11] 24 (0, 0)) (by (with_reducible repeat (first | refine blk_drewN ?_ _ | refine blk_drew ?_ | refine blk_alloc ?_ _)); exact BK229.out) hb); have n7_ := Aside0.mk (blk_below (g := gb230) (o := .cells #[.slice A2_0 l2_0.length c2_0, .slice A2_1 l2_1.length c2_1] 29 (0, 0)) (by (with_reducible repeat (first | refine blk_drewN ?_ _ | refine blk_drew ?_ | refine blk_alloc ?_ _)); exact BK230.out) hb); have n8_ := Aside0.mk (blk_below (g := gb238) (o := .cells #[.slice Ao16 t232.length co16, .int .i64 t235, .int .i64 t236, .int .i64 t237] 32 (0, 0)) (by (with_reducible repeat (first | refine blk_drewN ?_ _ | refine blk_drew ?_ | refine blk_alloc ?_ _)); exact BK238.out) hb); have n9_ := Aside0.mk (below_step (by repeat (first | (with_reducible first | exact HB.out | apply below_alloc | apply pw_below_drewN | apply below_drew1 | refine below_set ?_ GE229.out | refine below_set ?_ GE230.out | refine below_set ?_ GE238.out) | exact HB.out)) hb); have n10_ := Aside0.mk (hbox); have n11_ := Aside0.mk ((by rw [hg]; exact (below_size (by repeat (first | (with_reducible first | exact HB.out | apply below_alloc | apply pw_below_drewN | apply below_drew1 | refine below_set ?_ GE229.out | refine below_set ?_ GE230.out | refine below_set ?_ GE238.out) | exact HB.out))) : w.heap.size ≤ gb257)); have n12_ := Aside0.mk ((by rw [hg]; exact (below_size (by repeat (first | (with_reducible first | exact HB.out | apply below_alloc | apply pw_below_drewN | apply below_drew1 | refine below_set ?_ GE229.out | refine below_set ?_ GE230.out | refine below_set ?_ GE238.out) | exact HB.out))) : w.heap.size ≤ gb257)); have n13_ := Aside0.mk ((by rw [hg]; exact Nat.ne_of_lt (blk_lt (g := gb229) (o := .cells #[.int .u8 a0_0, .int .u8 a0_1, .int .u8 a0_2, .int .u8 a0_3, .int .u8 a0_4, .int .u8 a0_5, .int .u8 a0_6, .int .u8 a0_7, .int .u8 a0_8, .int .u8 a0_9, .int .u8 a0_10, .int .u8 a0_11] 24 (0, 0)) (by (with_reducible repeat (first | refine blk_drewN ?_ _ | refine blk_drew ?_ | refine blk_alloc ?_ _)); exact BK229.out)) : gb229 ≠ gb257)); have n14_ := Aside0.mk ((by rw [hg]; exact Nat.ne_of_gt (blk_lt (g := gb229) (o := .cells #[.int .u8 a0_0, .int .u8 a0_1, .int .u8 a0_2, .int .u8 a0_3, .int .u8 a0_4, .int .u8 a0_5, .int .u8 a0_6, .int .u8 a0_7, .int .u8 a0_8, .int .u8 a0_9, .int .u8 a0_10, .int .u8 a0_11] 24 (0, 0)) (by (with_reducible repeat (first | refine blk_drewN ?_ _ | refine blk_drew ?_ | refine blk_alloc ?_ _)); exact BK229.out)) : gb257 ≠ gb229)); have n15_ := Aside0.mk ((by rw [hg]; exact Nat.ne_of_lt (blk_lt (g := gb230) (o := .cells #[.slice A2_0 l2_0.length c2_0, .slice A2_1 l2_1.length c2_1] 29 (0, 0)) (by (with_reducible repeat (first | refine blk_drewN ?_ _ | refine blk_drew ?_ | refine blk_alloc ?_ _)); exact BK230.out)) : gb230 ≠ gb257)); have n16_ := Aside0.mk ((by rw [hg]; exact Nat.ne_of_gt (blk_lt (g := gb230) (o := .cells #[.slice A2_0 l2_0.length c2_0, .slice A2_1 l2_1.length c2_1] 29 (0, 0)) (by (with_reducible repeat (first | refine blk_drewN ?_ _ | refine blk_drew ?_ | refine blk_alloc ?_ _)); exact BK230.out)) : gb257 ≠ gb230)); have n17_ := Aside0.mk ((by rw [hg]; exact Nat.ne_of_lt (blk_lt (g := gb238) (o := .cells #[.slice Ao16 t232.length co16, .int .i64 t235, .int .i64 t236, .int .i64 t237] 32 (0, 0)) (by (with_reducible repeat (first | refine blk_drewN ?_ _ | refine blk_drew ?_ | refine blk_alloc ?_ _)); exact BK238.out)) : gb238 ≠ gb257)); have n18_ := Aside0.mk ((by rw [hg]; exact Nat.ne_of_gt (blk_lt (g := gb238) (o := .cells #[.slice Ao16 t232.length co16, .int .i64 t235, .int .i64 t236, .int .i64 t237] 32 (0, 0)) (by (with_reducible repeat (first | refine blk_drewN ?_ _ | refine blk_drew ?_ | refine blk_alloc ?_ _)); exact BK238.out)) : gb257 ≠ gb238)); clear HO_9; clear HO_10; clear HO_11; clear HO_12; clear HO_231001; clear HO_239000; clear BK229; clear BK230; clear BK238; clear HB; have HO_9 := n0_; have HO_10 := n1_; have HO_11 := n2_; have HO_12 := n3_; have HO_231001 := n4_; have HO_239000 := n5_; have BK229 := n6_; have BK230 := n7_; have BK238 := n8_; have HB := n9_; have BK257 := n10_; have GW257 := n11_; have GE257 := n12_; have NB229_257 := n13_; have NB257_229 := n14_; have NB230_257 := n15_; have NB257_230 := n16_; have NB238_257 := n17_; have NB257_238 := n18_; clear n0_ n1_ n2_ n3_ n4_ n5_ n6_ n7_ n8_ n9_ n10_ n11_ n12_ n13_ n14_ n15_ n16_ n17_ n18_; clear hb hbox hg; have hnb41 := NB257_229.out; have hnc41 := NB229_257.out; have hnb42 := NB257_230.out; have hnc42 := NB230_257.out; have hnb43 := NB257_238.out; have hnc43 := NB238_257.out; have hcz44_0 : w40.cell? ⟨gb257, 0, none⟩ = some (.int .i64 0) := (blk_cell BK257.out 0).trans rfl; have hcz44_1 : w40.cell? ⟨gb257, 1, none⟩ = some (.int .i64 0) := (blk_cell BK257.out 1).trans rfl; have hcz44_2 : w40.cell? ⟨gb257, 2, none⟩ = some (.int .i64 0) := (blk_cell BK257.out 2).trans rfl; have hcz44_3 : w40.cell? ⟨gb257, 3, none⟩ = some (.string (⟨#[]⟩ : ByteArray)) := (blk_cell BK257.out 3).trans rfl; have hfz44_0 := blk_frozen BK257.out 0; have hfz44_1 := blk_frozen BK257.out 1; have hfz44_2 := blk_frozen BK257.out 2; have hfz44_3 := blk_frozen BK257.out 3; have hnb45 := NB238_229.out; have hnc45 := NB229_238.out; have hnb46 := NB238_230.out; have hnc46 := NB230_238.out; have hcz47_0 : w40.cell? ⟨gb238, 0, none⟩ = some (.slice Ao16 t232.length co16) := (blk_cell BK238.out 0).trans rfl; have hcz47_1 : w40.cell? ⟨gb238, 1, none⟩ = some (.int .i64 t235) := (blk_cell BK238.out 1).trans rfl; have hcz47_2 : w40.cell? ⟨gb238, 2, none⟩ = some (.int .i64 t236) := (blk_cell BK238.out 2).trans rfl; have hcz47_3 : w40.cell? ⟨gb238, 3, none⟩ = some (.int .i64 t237) := (blk_cell BK238.out 3).trans rfl; have hfz47_0 := blk_frozen BK238.out 0; have hfz47_1 := blk_frozen BK238.out 1; have hfz47_2 := blk_frozen BK238.out 2; have hfz47_3 := blk_frozen BK238.out 3; have p258 : 0 ≤ (((rd_T39 t239 x14_3).f0) : Int) := of_decide_eq_true (by first | (with_reducible assumption) | assumption); have q258 : ((rd_T39 t239 x14_3).f0) < (t232.length : Int) := of_decide_eq_true (by first | (with_reducible assumption) | assumption); obtain ⟨ad258, e258, hx258_0⟩ := Kd.at_int (Kd.R_reads' HO_239000.out).2.2 ((rd_T39 t239 x14_3).f0) p258 q258; cases e258; have hn258_0 : ad258.block ≠ gb257 := Kd.own_blk (Kd.R_ne HO_239000.out BK257.out (by decide)); have hn258_1 : ad258.block ≠ gb257 := Kd.own_blk (Kd.R_ne HO_239000.out BK257.out (by decide)); have hn258_2 : ad258.block ≠ gb257 := Kd.own_blk (Kd.R_ne HO_239000.out BK257.out (by decide)); have hn258_3 : ad258.block ≠ gb257 := Kd.own_blk (Kd.R_ne HO_239000.out BK257.out (by decide)); replace hx258_0 := (cell_far (p := ⟨gb257, 0, none⟩) (by first | (rw [add_block]; exact hn258_0) | (show (Addr.add _ _).block ≠ _; rw [add_block]; exact hn258_0) | exact hn258_0) (.int .i64 ((rd_T39 t239 x14_3).f0))).trans hx258_0; replace hx258_0 := (cell_far (p := ⟨gb257, 1, none⟩) (by first | (rw [add_block]; exact hn258_1) | (show (Addr.add _ _).block ≠ _; rw [add_block]; exact hn258_1) | exact hn258_1) (.int .i64 ((rd_T39 t239 x14_3).f1))).trans hx258_0; replace hx258_0 := (cell_far (p := ⟨gb257, 2, none⟩) (by first | (rw [add_block]; exact hn258_2) | (show (Addr.add _ _).block ≠ _; rw [add_block]; exact hn258_2) | exact hn258_2) (.int .i64 ((rd_T39 t239 x14_3).f2.f0))).trans hx258_0; replace hx258_0 := (cell_far (p := ⟨gb257, 3, none⟩) (by first | (rw [add_block]; exact hn258_3) | (show (Addr.add _ _).block ≠ _; rw [add_block]; exact hn258_3) | exact hn258_3) (.string ((rd_T39 t239 x14_3).f2.f1))).trans hx258_0; clear hn258_0; clear hn258_1; clear hn258_2; clear hn258_3; replace p258 := eq_true p258; replace q258 := eq_true q258) | ((with_reducible refine gate_dst (N := 67) rfl ?_); refine Kd.R_lit k37 _ 37 ?hg (N := 67) ?hd (xs := ([] : List (S37))) (inner := []) (ok := fun _ => True) (okp := fun _ => True) ?hr ?hp (fun _ hk => hk) trivial (Below.refl _ _) (Nat.le_refl _) (by simp) ?_; (case hd => rfl); (case hg => rfl); (case hr => first | (go_simp; done) | (go_simp; rfl)); (case hp => exact (Reps.none _ _)); intro v260 w48 ho49 hb hg_ hnew_; clear hg_ hnew_; (first | rw [← Ny259.out] at ho49 | (simp only [Int.reduceToNat] at ho49; rw [← Ny259.out] at ho49)); have n0_ := Aside0.mk (Kd.R_below (by (with_reducible repeat (first | apply Kd.R_alloc | apply Kd.R_drewN | apply Kd.R_drew)); exact (Kd.R_mono (Kd.R_far (p := ⟨gb257, 3, none⟩) (Kd.R_far (p := ⟨gb257, 2, none⟩) (Kd.R_far (p := ⟨gb257, 1, none⟩) (Kd.R_far (p := ⟨gb257, 0, none⟩) (Kd.R_mono HO_9.out (fun k_ hk => (⟨hk, hk.2⟩ : _ ∧ k_ ≠ gb257))) (fun _ hk => hk.2) (.int .i64 ((rd_T39 t239 x14_3).f0))) (fun _ hk => hk.2) (.int .i64 ((rd_T39 t239 x14_3).f1))) (fun _ hk => hk.2) (.int .i64 ((rd_T39 t239 x14_3).f2.f0))) (fun _ hk => hk.2) (.string ((rd_T39 t239 x14_3).f2.f1))) (fun _ h_ => h_.1))) hb); have n1_ := Aside0.mk (Kd.N_elder' (by (with_reducible repeat (first | apply Kd.N_alloc | apply Kd.N_drewN | apply Kd.N_drew)); exact (Kd.N_mono (Kd.N_far (p := ⟨gb257, 3, none⟩) (Kd.N_far (p := ⟨gb257, 2, none⟩) (Kd.N_far (p := ⟨gb257, 1, none⟩) (Kd.N_far (p := ⟨gb257, 0, none⟩) (Kd.N_mono HO_10.out (fun k_ hk => (⟨hk, hk.2⟩ : _ ∧ k_ ≠ gb257))) (fun _ hk => hk.2) (.int .i64 ((rd_T39 t239 x14_3).f0))) (fun _ hk => hk.2) (.int .i64 ((rd_T39 t239 x14_3).f1))) (fun _ hk => hk.2) (.int .i64 ((rd_T39 t239 x14_3).f2.f0))) (fun _ hk => hk.2) (.string ((rd_T39 t239 x14_3).f2.f1))) (fun _ h_ => h_.1))) (Kd.R_base ho49) hb); have n2_ := Aside0.mk (Kd.V_elder' (by (with_reducible repeat (first | apply Kd.V_alloc | apply Kd.V_drewN | apply Kd.V_drew)); exact (Kd.V_mono (Kd.V_far (p := ⟨gb257, 3, none⟩) (Kd.V_far (p := ⟨gb257, 2, none⟩) (Kd.V_far (p := ⟨gb257, 1, none⟩) (Kd.V_far (p := ⟨gb257, 0, none⟩) (Kd.V_mono HO_11.out (fun k_ hk => (⟨hk, hk.2⟩ : _ ∧ k_ ≠ gb257))) (fun _ hk => hk.2) (.int .i64 ((rd_T39 t239 x14_3).f0))) (fun _ hk => hk.2) (.int .i64 ((rd_T39 t239 x14_3).f1))) (fun _ hk => hk.2) (.int .i64 ((rd_T39 t239 x14_3).f2.f0))) (fun _ hk => hk.2) (.string ((rd_T39 t239 x14_3).f2.f1))) (fun _ h_ => h_.1))) (Kd.R_base ho49) hb); have n3_ := Aside0.mk (Kd.R_below (by (with_reducible repeat (first | apply Kd.R_alloc | apply Kd.R_drewN | apply Kd.R_drew)); exact (Kd.R_mono (Kd.R_far (p := ⟨gb257, 3, none⟩) (Kd.R_far (p := ⟨gb257, 2, none⟩) (Kd.R_far (p := ⟨gb257, 1, none⟩) (Kd.R_far (p := ⟨gb257, 0, none⟩) (Kd.R_types HO_12.out BK257.out (by decide)) (fun _ hk => hk.2) (.int .i64 ((rd_T39 t239 x14_3).f0))) (fun _ hk => hk.2) (.int .i64 ((rd_T39 t239 x14_3).f1))) (fun _ hk => hk.2) (.int .i64 ((rd_T39 t239 x14_3).f2.f0))) (fun _ hk => hk.2) (.string ((rd_T39 t239 x14_3).f2.f1))) (fun _ h_ => h_.1))) hb); have n4_ := Aside0.mk (Kd.V_elder' (by (with_reducible repeat (first | apply Kd.V_alloc | apply Kd.V_drewN | apply Kd.V_drew)); exact (Kd.V_mono (Kd.V_far (p := ⟨gb257, 3, none⟩) (Kd.V_far (p := ⟨gb257, 2, none⟩) (Kd.V_far (p := ⟨gb257, 1, none⟩) (Kd.V_far (p := ⟨gb257, 0, none⟩) (Kd.V_mono HO_231001.out (fun k_ hk => (⟨hk, hk.2⟩ : _ ∧ k_ ≠ gb257))) (fun _ hk => hk.2) (.int .i64 ((rd_T39 t239 x14_3).f0))) (fun _ hk => hk.2) (.int .i64 ((rd_T39 t239 x14_3).f1))) (fun _ hk => hk.2) (.int .i64 ((rd_T39 t239 x14_3).f2.f0))) (fun _ hk => hk.2) (.string ((rd_T39 t239 x14_3).f2.f1))) (fun _ h_ => h_.1))) (Kd.R_base ho49) hb); have n5_ := Aside0.mk (Kd.R_below (by (with_reducible repeat (first | apply Kd.R_alloc | apply Kd.R_drewN | apply Kd.R_drew)); exact (Kd.R_mono (Kd.R_far (p := ⟨gb257, 3, none⟩) (Kd.R_far (p := ⟨gb257, 2, none⟩) (Kd.R_far (p := ⟨gb257, 1, none⟩) (Kd.R_far (p := ⟨gb257, 0, none⟩) (Kd.R_types HO_239000.out BK257.out (by decide)) (fun _ hk => hk.2) (.int .i64 ((rd_T39 t239 x14_3).f0))) (fun _ hk => hk.2) (.int .i64 ((rd_T39 t239 x14_3).f1))) (fun _ hk => hk.2) (.int .i64 ((rd_T39 t239 x14_3).f2.f0))) (fun _ hk => hk.2) (.string ((rd_T39 t239 x14_3).f2.f1))) (fun _ h_ => h_.1))) hb); have n6_ := Aside0.mk (Kd.R_lower (Kd.R_newM (M := fun k_ => (w.heap.size ≤ k_)) ho49 (below_size (by repeat (first | (with_reducible first | exact HB.out | apply below_alloc | apply pw_below_drewN | apply below_drew1 | refine below_set ?_ GE229.out | refine below_set ?_ GE230.out | refine below_set ?_ GE238.out | refine below_set ?_ GE257.out) | exact HB.out))) (fun k_ h_ => h_)) (below_size (by repeat (first | (with_reducible first | exact HB.out | apply below_alloc | apply pw_below_drewN | apply below_drew1 | refine below_set ?_ GE229.out | refine below_set ?_ GE230.out | refine below_set ?_ GE238.out | refine below_set ?_ GE257.out) | exact HB.out)))); have n7_ := Aside0.mk (blk_below (g := gb229) (o := .cells #[.int .u8 a0_0, .int .u8 a0_1, .int .u8 a0_2, .int .u8 a0_3, .int .u8 a0_4, .int .u8 a0_5, .int .u8 a0_6, .int .u8 a0_7, .int .u8 a0_8, .int .u8 a0_9, .int .u8 a0_10, .int .u8 a0_11] 24 (0, 0)) (by (with_reducible repeat (first | refine blk_drewN ?_ _ | refine blk_drew ?_ | refine blk_alloc ?_ _)); refine blk_far ?_ NB229_257.out _; (with_reducible repeat (first | refine blk_drewN ?_ _ | refine blk_drew ?_ | refine blk_alloc ?_ _)); refine blk_far ?_ NB229_257.out _; (with_reducible repeat (first | refine blk_drewN ?_ _ | refine blk_drew ?_ | refine blk_alloc ?_ _)); refine blk_far ?_ NB229_257.out _; (with_reducible repeat (first | refine blk_drewN ?_ _ | refine blk_drew ?_ | refine blk_alloc ?_ _)); refine blk_far ?_ NB229_257.out _; (with_reducible repeat (first | refine blk_drewN ?_ _ | refine blk_drew ?_ | refine blk_alloc ?_ _)); exact BK229.out) hb); have n8_ := Aside0.mk (blk_below (g := gb230) (o := .cells #[.slice A2_0 l2_0.length c2_0, .slice A2_1 l2_1.length c2_1] 29 (0, 0)) (by (with_reducible repeat (first | refine blk_drewN ?_ _ | refine blk_drew ?_ | refine blk_alloc ?_ _)); refine blk_far ?_ NB230_257.out _; (with_reducible repeat (first | refine blk_drewN ?_ _ | refine blk_drew ?_ | refine blk_alloc ?_ _)); refine blk_far ?_ NB230_257.out _; (with_reducible repeat (first | refine blk_drewN ?_ _ | refine blk_drew ?_ | refine blk_alloc ?_ _)); refine blk_far ?_ NB230_257.out _; (with_reducible repeat (first | refine blk_drewN ?_ _ | refine blk_drew ?_ | refine blk_alloc ?_ _)); refine blk_far ?_ NB230_257.out _; (with_reducible repeat (first | refine blk_drewN ?_ _ | refine blk_drew ?_ | refine blk_alloc ?_ _)); exact BK230.out) hb); have n9_ := Aside0.mk (blk_below (g := gb238) (o := .cells #[.slice (some ad258) t232.length co16, .int .i64 t235, .int .i64 t236, .int .i64 t237] 32 (0, 0)) (by (with_reducible repeat (first | refine blk_drewN ?_ _ | refine blk_drew ?_ | refine blk_alloc ?_ _)); refine blk_far ?_ NB238_257.out _; (with_reducible repeat (first | refine blk_drewN ?_ _ | refine blk_drew ?_ | refine blk_alloc ?_ _)); refine blk_far ?_ NB238_257.out _; (with_reducible repeat (first | refine blk_drewN ?_ _ | refine blk_drew ?_ | refine blk_alloc ?_ _)); refine blk_far ?_ NB238_257.out _; (with_reducible repeat (first | refine blk_drewN ?_ _ | refine blk_drew ?_ | refine blk_alloc ?_ _)); refine blk_far ?_ NB238_257.out _; (with_reducible repeat (first | refine blk_drewN ?_ _ | refine blk_drew ?_ | refine blk_alloc ?_ _)); exact BK238.out) hb); have n10_ := Aside0.mk (blk_below (g := gb257) (o := .cells #[.int .i64 ((rd_T39 t239 x14_3).f0), .int .i64 ((rd_T39 t239 x14_3).f1), .int .i64 ((rd_T39 t239 x14_3).f2.f0), .string ((rd_T39 t239 x14_3).f2.f1)] 39 (0, 0)) (by (with_reducible repeat (first | refine blk_drewN ?_ _ | refine blk_drew ?_ | refine blk_alloc ?_ _)); refine blk_put (cs := #[.int .i64 ((rd_T39 t239 x14_3).f0), .int .i64 ((rd_T39 t239 x14_3).f1), .int .i64 ((rd_T39 t239 x14_3).f2.f0), .string (⟨#[]⟩ : ByteArray)]) ?_ 3 _ rfl; (with_reducible repeat (first | refine blk_drewN ?_ _ | refine blk_drew ?_ | refine blk_alloc ?_ _)); refine blk_put (cs := #[.int .i64 ((rd_T39 t239 x14_3).f0), .int .i64 ((rd_T39 t239 x14_3).f1), .int .i64 0, .string (⟨#[]⟩ : ByteArray)]) ?_ 2 _ rfl; (with_reducible repeat (first | refine blk_drewN ?_ _ | refine blk_drew ?_ | refine blk_alloc ?_ _)); refine blk_put (cs := #[.int .i64 ((rd_T39 t239 x14_3).f0), .int .i64 0, .int .i64 0, .string (⟨#[]⟩ : ByteArray)]) ?_ 1 _ rfl; (with_reducible repeat (first | refine blk_drewN ?_ _ | refine blk_drew ?_ | refine blk_alloc ?_ _)); refine blk_put (cs := #[.int .i64 0, .int .i64 0, .int .i64 0, .string (⟨#[]⟩ : ByteArray)]) ?_ 0 _ rfl; (with_reducible repeat (first | refine blk_drewN ?_ _ | refine blk_drew ?_ | refine blk_alloc ?_ _)); exact BK257.out) hb); have n11_ := Aside0.mk (below_step (by repeat (first | (with_reducible first | exact HB.out | apply below_alloc | apply pw_below_drewN | apply below_drew1 | refine below_set ?_ GE229.out | refine below_set ?_ GE230.out | refine below_set ?_ GE238.out | refine below_set ?_ GE257.out) | exact HB.out)) hb); clear HO_9; clear HO_10; clear HO_11; clear HO_12; clear HO_231001; clear HO_239000; clear BK229; clear BK230; clear BK238; clear BK257; clear HB; have HO_9 := n0_; have HO_10 := n1_; have HO_11 := n2_; have HO_12 := n3_; have HO_231001 := n4_; have HO_239000 := n5_; have HO261 := n6_; have BK229 := n7_; have BK230 := n8_; have BK238 := n9_; have BK257 := n10_; have HB := n11_; clear n0_ n1_ n2_ n3_ n4_ n5_ n6_ n7_ n8_ n9_ n10_ n11_; clear hb ho49))
            go_loopg [17, 18] k3 (fun kq v17 v18 w' => ∃ (x17_4 : List (S37)) (x18_4 : Int), v18 = .int .i64 x18_4 ∧ Aside0 (thresherlaw19_FilterSelects.l2 kq t231 t239 t242 x11_7 x12_3 x14_3 (rd t232 ((rd_T39 t239 x14_3).f0)) x17_4 x18_4 t232 t235 t236 t237 ((rd_T39 t239 x14_3).f0) ((rd_T39 t239 x14_3).f1) ((rd_T39 t239 x14_3).f2.f0) ((rd_T39 t239 x14_3).f2.f1) = some r) ∧ Aside0 (kq ≤ k3) ∧ Aside0 (Kd.R k39 39 w' w.heap.size (fun k_ => (w.heap.size ≤ k_) ∧ k_ ≠ gb257) (.slice (some ad256) t239.length co39) t239) ∧ Aside0 (Kd.N (Kd.slice 37 k37) 41 w' w.heap.size (fun k_ => (P2_1_ k_ ∨ w.heap.size ≤ k_) ∧ some k_ ≠ ((.slice (some ad256) t239.length co39) : Value).ownBlock ∧ some k_ ≠ (u12 : Value).ownBlock ∧ some k_ ≠ (v17 : Value).ownBlock ∧ some k_ ≠ ((.slice (some ad258) t232.length co16) : Value).ownBlock ∧ k_ ≠ gb229 ∧ k_ ≠ gb230 ∧ k_ ≠ gb238 ∧ k_ ≠ gb257) (.slice Ao34 t242.length co34) t242) ∧ Aside0 (Kd.V (Kd.int .i64) 3 w' w.heap.size (fun k_ => (P2_1_ k_ ∨ w.heap.size ≤ k_) ∧ some k_ ≠ ((.slice (some ad256) t239.length co39) : Value).ownBlock ∧ some k_ ≠ ((.slice Ao34 t242.length co34) : Value).ownBlock ∧ some k_ ≠ (u12 : Value).ownBlock ∧ some k_ ≠ (v17 : Value).ownBlock ∧ some k_ ≠ ((.slice (some ad258) t232.length co16) : Value).ownBlock ∧ k_ ≠ gb229 ∧ k_ ≠ gb230 ∧ k_ ≠ gb238 ∧ k_ ≠ gb257) u11 x11_7) ∧ Aside0 (Kd.R (Kd.int .i64) 3 w' w.heap.size (fun k_ => (w.heap.size ≤ k_) ∧ some k_ ≠ ((.slice (some ad258) t232.length co16) : Value).ownBlock) u12 x12_3) ∧ Aside0 (Kd.R k37 37 w' w.heap.size (fun k_ => (w.heap.size ≤ k_)) v17 x17_4) ∧ Aside0 (Kd.V (Kd.int .i64) 3 w' w.heap.size (fun k_ => (P2_1_ k_ ∨ w.heap.size ≤ k_) ∧ some k_ ≠ ((.slice (some ad256) t239.length co39) : Value).ownBlock ∧ some k_ ≠ ((.slice Ao34 t242.length co34) : Value).ownBlock ∧ some k_ ≠ (u12 : Value).ownBlock ∧ some k_ ≠ (v17 : Value).ownBlock ∧ some k_ ≠ ((.slice (some ad258) t232.length co16) : Value).ownBlock ∧ k_ ≠ gb229 ∧ k_ ≠ gb230 ∧ k_ ≠ gb238 ∧ k_ ≠ gb257) (.slice A2_1 l2_1.length c2_1) l2_1) ∧ Aside0 (Kd.R (Kd.int .i64) 3 w' w.heap.size (fun k_ => (w.heap.size ≤ k_) ∧ some k_ ≠ (u12 : Value).ownBlock) (.slice (some ad258) t232.length co16) t232) ∧ Aside0 (w'.heap[gb229]? = some (.cells #[.int .u8 a0_0, .int .u8 a0_1, .int .u8 a0_2, .int .u8 a0_3, .int .u8 a0_4, .int .u8 a0_5, .int .u8 a0_6, .int .u8 a0_7, .int .u8 a0_8, .int .u8 a0_9, .int .u8 a0_10, .int .u8 a0_11] 24 (0, 0))) ∧ Aside0 (w'.heap[gb230]? = some (.cells #[(.slice A2_0 l2_0.length c2_0), (.slice A2_1 l2_1.length c2_1)] 29 (0, 0))) ∧ Aside0 (w'.heap[gb238]? = some (.cells #[(.slice (some ad258) t232.length co16), .int .i64 t235, .int .i64 t236, .int .i64 t237] 32 (0, 0))) ∧ Aside0 (w'.heap[gb257]? = some (.cells #[.int .i64 ((rd_T39 t239 x14_3).f0), .int .i64 ((rd_T39 t239 x14_3).f1), .int .i64 ((rd_T39 t239 x14_3).f2.f0), .string ((rd_T39 t239 x14_3).f2.f1)] 39 (0, 0))) ∧ Aside0 (Below w.heap.size w w'))
            case atStart => exact ⟨(y259), (0), (by first | rfl | (simp; done) | (simp [*]; done)), H', ⟨Nat.le_refl _⟩, ⟨by (with_reducible repeat (first | apply Kd.R_alloc | apply Kd.R_drewN | apply Kd.R_drew)); exact HO_9.out⟩, ⟨by (with_reducible repeat (first | apply Kd.N_alloc | apply Kd.N_drewN | apply Kd.N_drew)); exact Kd.N_mono HO_10.out (fun _ hk => ⟨hk.1.1.1, ⟨hk.1.1.2.1, ⟨hk.1.1.2.2.1, ⟨hk.2, ⟨hk.1.1.2.2.2.1, ⟨hk.1.1.2.2.2.2.1, ⟨hk.1.1.2.2.2.2.2.1, ⟨hk.1.1.2.2.2.2.2.2, hk.1.2⟩⟩⟩⟩⟩⟩⟩⟩)⟩, ⟨by (with_reducible repeat (first | apply Kd.V_alloc | apply Kd.V_drewN | apply Kd.V_drew)); exact Kd.V_mono HO_11.out (fun _ hk => ⟨hk.1.1.1, ⟨hk.1.1.2.1, ⟨hk.1.1.2.2.1, ⟨hk.1.1.2.2.2.1, ⟨hk.2, ⟨hk.1.1.2.2.2.2.1, ⟨hk.1.1.2.2.2.2.2.1, ⟨hk.1.1.2.2.2.2.2.2.1, ⟨hk.1.1.2.2.2.2.2.2.2, hk.1.2⟩⟩⟩⟩⟩⟩⟩⟩⟩)⟩, ⟨by (with_reducible repeat (first | apply Kd.R_alloc | apply Kd.R_drewN | apply Kd.R_drew)); exact HO_12.out⟩, ⟨by (with_reducible repeat (first | apply Kd.R_alloc | apply Kd.R_drewN | apply Kd.R_drew)); exact Kd.R_mono HO261.out (fun _ hk => hk.1)⟩, ⟨by (with_reducible repeat (first | apply Kd.V_alloc | apply Kd.V_drewN | apply Kd.V_drew)); exact Kd.V_mono HO_231001.out (fun _ hk => ⟨hk.1.1.1, ⟨hk.1.1.2.1, ⟨hk.1.1.2.2.1, ⟨hk.1.1.2.2.2.1, ⟨hk.2, ⟨hk.1.1.2.2.2.2.1, ⟨hk.1.1.2.2.2.2.2.1, ⟨hk.1.1.2.2.2.2.2.2.1, ⟨hk.1.1.2.2.2.2.2.2.2, hk.1.2⟩⟩⟩⟩⟩⟩⟩⟩⟩)⟩, ⟨by (with_reducible repeat (first | apply Kd.R_alloc | apply Kd.R_drewN | apply Kd.R_drew)); exact HO_239000.out⟩, ⟨by (with_reducible repeat (first | refine blk_drewN ?_ _ | refine blk_drew ?_ | refine blk_alloc ?_ _)); exact BK229.out⟩, ⟨by (with_reducible repeat (first | refine blk_drewN ?_ _ | refine blk_drew ?_ | refine blk_alloc ?_ _)); exact BK230.out⟩, ⟨by (with_reducible repeat (first | refine blk_drewN ?_ _ | refine blk_drew ?_ | refine blk_alloc ?_ _)); exact BK238.out⟩, ⟨by (with_reducible repeat (first | refine blk_drewN ?_ _ | refine blk_drew ?_ | refine blk_alloc ?_ _)); exact BK257.out⟩, ⟨by repeat (first | (with_reducible first | exact HB.out | apply below_alloc | apply pw_below_drewN | apply below_drew1 | refine below_set ?_ GE229.out | refine below_set ?_ GE230.out | refine below_set ?_ GE238.out | refine below_set ?_ GE257.out) | exact HB.out)⟩⟩
            case round =>
             clear H'
             try clear c1
             try clear c2
             try clear p2
             try clear q2
             try clear hx2
             try clear c3
             try clear c4
             try clear p6
             try clear c8
             try clear c9
             try clear c10
             try clear c11
             try clear c12
             try clear c17
             try clear c18
             try clear c25
             try clear c25b0
             try clear c25b1
             try clear p25
             try clear q25
             try clear hx25
             try clear c26
             try clear c26b0
             try clear c26b1
             try clear q27
             try clear c30
             try clear c30b0
             try clear c31
             try clear c35
             try clear c35b0
             try clear c36
             try clear c36b0
             try clear c37
             try clear c37b0
             try clear c38
             try clear c38b0
             try clear c41
             try clear c42
             try clear c43
             try clear c45
             try clear c46
             try clear hcz13_0
             try clear hcz13_1
             try clear hcz13_10
             try clear hcz13_11
             try clear hcz13_2
             try clear hcz13_3
             try clear hcz13_4
             try clear hcz13_5
             try clear hcz13_6
             try clear hcz13_7
             try clear hcz13_8
             try clear hcz13_9
             try clear hcz19_0
             try clear hcz19_1
             try clear hcz19_2
             try clear hcz19_3
             try clear hcz21_0
             try clear hcz21_1
             try clear hcz21_2
             try clear hcz21_3
             try clear hcz22_0
             try clear hcz22_1
             try clear hcz24_0
             try clear hcz24_1
             try clear hcz44_0
             try clear hcz44_1
             try clear hcz44_2
             try clear hcz44_3
             try clear hcz47_0
             try clear hcz47_1
             try clear hcz47_2
             try clear hcz47_3
             try clear hfz13_0
             try clear hfz13_1
             try clear hfz13_10
             try clear hfz13_11
             try clear hfz13_2
             try clear hfz13_3
             try clear hfz13_4
             try clear hfz13_5
             try clear hfz13_6
             try clear hfz13_7
             try clear hfz13_8
             try clear hfz13_9
             try clear hfz19_0
             try clear hfz19_1
             try clear hfz19_2
             try clear hfz19_3
             try clear hfz21_0
             try clear hfz21_1
             try clear hfz21_2
             try clear hfz21_3
             try clear hfz22_0
             try clear hfz22_1
             try clear hfz24_0
             try clear hfz24_1
             try clear hfz44_0
             try clear hfz44_1
             try clear hfz44_2
             try clear hfz44_3
             try clear hfz47_0
             try clear hfz47_1
             try clear hfz47_2
             try clear hfz47_3
             try clear hx256_0
             try clear hx256_1
             try clear hx256_2
             try clear hx256_3
             try clear hx258_0
             try clear p2
             try clear p256
             try clear p258
             try clear p6
             try clear q2
             try clear q256
             try clear q258
             try clear q27
             obtain ⟨x17_4, x18_4, rfl, HA, HK4, HO_9, HO_10, HO_11, HO_12, HO_17, HO_231001, HO_239000, BK229, BK230, BK238, BK257, HB⟩ := hrel
             cases gk with
             | zero => exact absurd HA.out (by simp [thresherlaw19_FilterSelects.l2])
             | succ k4 =>
              have H := HA.out
              clear HA
              simp only [thresherlaw19_FilterSelects.l2] at H
              by_cases c50 : x18_4 < (t242.length : Int)
              ·rw [if_pos c50] at H
               have c50b0 : decide (x18_4 < (t242.length : Int)) = true := decide_eq_true c50
               clear c50
               by_cases c51 : 0 ≤ x18_4
               ·rw [if_pos c51] at H
                have c51b0 : decide (0 ≤ x18_4) = true := decide_eq_true c51
                clear c51
                by_cases c52 : 0 ≤ ((rd_T39 t239 x14_3).f0)
                ·rw [if_pos c52] at H
                 have c52b0 : decide (0 ≤ ((rd_T39 t239 x14_3).f0)) = true := decide_eq_true c52
                 clear c52
                 by_cases c53 : ((rd_T39 t239 x14_3).f0) < ((rd_L4 t242 x18_4).length : Int)
                 ·rw [if_pos c53] at H
                  have c53b0 : decide (((rd_T39 t239 x14_3).f0) < ((rd_L4 t242 x18_4).length : Int)) = true := decide_eq_true c53
                  clear c53
                  by_cases c54 : x17_4.length < 5864062014805
                  ·rw [if_pos c54] at H
                   have LMc54 := Aside0.mk c54
                   clear c54
                   obtain ⟨y264, hy264⟩ : ∃ y_ : List (S37), y_ = (x17_4 ++ [(⟨(rd_T37 (rd_L4 t242 x18_4) ((rd_T39 t239 x14_3).f0)).f0, (rd_T37 (rd_L4 t242 x18_4) ((rd_T39 t239 x14_3).f0)).f1⟩ : S37)]) := ⟨_, rfl⟩
                   replace H : (thresherlaw19_FilterSelects.l2 k4 t231 t239 t242 x11_7 x12_3 x14_3 (rd t232 ((rd_T39 t239 x14_3).f0)) y264 (wrap64 (x18_4 + 1)) t232 t235 t236 t237 ((rd_T39 t239 x14_3).f0) ((rd_T39 t239 x14_3).f1) ((rd_T39 t239 x14_3).f2.f0) ((rd_T39 t239 x14_3).f2.f1)) = some r := by first | (rw [hy264]; with_reducible exact H) | (have H2_ := (Option.bind_some _ _).symm.trans H; rw [hy264]; with_reducible exact H2_) | (have H2_ := (Option.bind_some _ _).symm.trans H; with_reducible exact H2_) | with_reducible exact H | (rw [hy264]; exact H) | exact H
                   have Ny264 := Aside0.mk hy264
                   clear hy264
                   have H' := Aside0.mk H
                   clear H
                   try go_wp2
                   have n0_ := Aside0.mk (Kd.R_drew HO_9.out)
                   have n1_ := Aside0.mk (Kd.N_drew HO_10.out)
                   have n2_ := Aside0.mk (Kd.V_drew HO_11.out)
                   have n3_ := Aside0.mk (Kd.R_drew HO_12.out)
                   have n4_ := Aside0.mk (Kd.R_drew HO_17.out)
                   have n5_ := Aside0.mk (Kd.V_drew HO_231001.out)
                   have n6_ := Aside0.mk (Kd.R_drew HO_239000.out)
                   have n7_ := Aside0.mk (blk_drew BK229.out)
                   have n8_ := Aside0.mk (blk_drew BK230.out)
                   have n9_ := Aside0.mk (blk_drew BK238.out)
                   have n10_ := Aside0.mk (blk_drew BK257.out)
                   have n11_ := Aside0.mk (below_drew1 HB.out)
                   clear HO_9
                   clear HO_10
                   clear HO_11
                   clear HO_12
                   clear HO_17
                   clear HO_231001
                   clear HO_239000
                   clear BK229
                   clear BK230
                   clear BK238
                   clear BK257
                   clear HB
                   have HO_9 := n0_
                   have HO_10 := n1_
                   have HO_11 := n2_
                   have HO_12 := n3_
                   have HO_17 := n4_
                   have HO_231001 := n5_
                   have HO_239000 := n6_
                   have BK229 := n7_
                   have BK230 := n8_
                   have BK238 := n9_
                   have BK257 := n10_
                   have HB := n11_
                   clear n0_ n1_ n2_ n3_ n4_ n5_ n6_ n7_ n8_ n9_ n10_ n11_
                   have p262 : 0 ≤ (x18_4 : Int) := of_decide_eq_true (by first | (with_reducible assumption) | assumption)
                   have q262 : x18_4 < (t242.length : Int) := of_decide_eq_true (by first | (with_reducible assumption) | assumption)
                   obtain ⟨ad262, A262_0, c262_0, e262, hx262_0, hl262_0, hi262_0⟩ := at_L4 (Kd.N_reads' HO_10.out).2.2 x18_4 p262 q262
                   cases e262
                   obtain ⟨ce262, hce262, hMe262, hcc262⟩ := Kd.N_get HO_10.out [] x18_4 p262 (by first | exact q262 | exact of_decide_eq_true (by first | (with_reducible assumption) | assumption) | (have e_ := (Kd.N_reads' HO_10.out).1; omega))
                   obtain ⟨ua262_0, uc262_0, rfl, ul262_0, ge262_0⟩ := Kd.FK_slice_open hMe262
                   have hv262_0 := hcc262 0 _ rfl
                   rw [Nat.add_zero, show ((Kd.slice 37 k37)).sz = 1 from rfl, Nat.mul_one] at hv262_0
                   replace hv262_0 := Option.some.inj (hv262_0.symm.trans hx262_0)
                   injection hv262_0 with hva_ hvn_ hvc_
                   rw [hva_] at ge262_0
                   rw [hvc_] at ul262_0
                   have HL262_0 := Aside0.mk (show Kd.V k37 37 _ w.heap.size _ _ (rd_L4 t242 x18_4) from Kd.V_mk ul262_0 ge262_0)
                   clear hva_ hvn_ hvc_ ge262_0 ul262_0
                   clear hcc262 hce262
                   have HR262_0 := Aside0.mk hi262_0
                   have HC262_0 := Aside0.mk hl262_0
                   clear hi262_0 hl262_0
                   replace p262 := eq_true p262
                   replace q262 := eq_true q262
                   have p263 : 0 ≤ (((rd_T39 t239 x14_3).f0) : Int) := of_decide_eq_true (by first | (with_reducible assumption) | assumption)
                   have q263 : ((rd_T39 t239 x14_3).f0) < ((rd_L4 t242 x18_4).length : Int) := of_decide_eq_true (by first | (with_reducible assumption) | assumption)
                   obtain ⟨ad263, e263, hx263_0, hx263_1⟩ := at_T37 (by repeat (first | (with_reducible exact HR262_0.out) | (with_reducible refine Kd.C_alloc ?_ _) | (with_reducible refine Kd.C_drewN ?_ _) | (with_reducible refine Kd.C_drew ?_) | exact HR262_0.out)) ((rd_T39 t239 x14_3).f0) p263 q263
                   cases e263
                   replace p263 := eq_true p263
                   replace q263 := eq_true q263
                   refine start_ (n := 12) (S := fun w' => w'.cell? ⟨gb257, 0, none⟩ = some (.int .i64 ((rd_T39 t239 x14_3).f0)) ∧ w'.cell? ⟨gb257, 1, none⟩ = some (.int .i64 ((rd_T39 t239 x14_3).f1)) ∧ w'.cell? ⟨gb257, 2, none⟩ = some (.int .i64 ((rd_T39 t239 x14_3).f2.f0)) ∧ w'.cell? ⟨gb257, 3, none⟩ = some (.string ((rd_T39 t239 x14_3).f2.f1)) ∧ w'.cell? (ad262.add (x18_4).toNat) = some (.slice (some ad263) (rd_L4 t242 x18_4).length c262_0) ∧ w'.cell? (ad263.add ((((rd_T39 t239 x14_3).f0)).toNat * 2)) = some (.int .i64 ((rd_T37 (rd_L4 t242 x18_4) ((rd_T39 t239 x14_3).f0)).f0)) ∧ w'.cell? ⟨(ad263.add ((((rd_T39 t239 x14_3).f0)).toNat * 2)).block, (ad263.add ((((rd_T39 t239 x14_3).f0)).toNat * 2)).off + 1, none⟩ = some (.string ((rd_T37 (rd_L4 t242 x18_4) ((rd_T39 t239 x14_3).f0)).f1))) (ds := [9, 10]) #[false, false, false, false, false, false, false, false, false, false, false, false] (by kernel_rfl) rfl rfl ⟨(blk_cell BK257.out 0).trans rfl, (blk_cell BK257.out 1).trans rfl, (blk_cell BK257.out 2).trans rfl, (blk_cell BK257.out 3).trans rfl, hx262_0, hx263_0, hx263_1⟩ (fun hHeld => ?_); refine with_tabW thresherlaw19_FilterSelects.tab22 thresherlaw19_FilterSelects.bits22 (fun HT_ HW_ => ?_)
                   generalize wr.drew = w55 at HO_9 HO_10 HO_11 HO_12 HO_17 HO_231001 HO_239000 BK229 BK230 BK238 BK257 HB HL262_0 HR262_0 hx262_0 hx263_0 hx263_1 hHeld ⊢
                   refine pure_ (i := 0) (N := some 74) (v := ?_) (a' := ?_) #[true, false, false, false, false, false, false, false, false, false, false, false] rfl rfl (any_of HT_.out (by kernel_rfl)) (fun _ _ _ h => h) (Or.inl ⟨by rfl, ?_⟩) ?_ ?_
                   rotate_left; (intro w'; go_simp; with_reducible rfl); rotate_left; (simp only [Act.put, List.setIfInBounds_toArray, List.set_cons_zero, List.set_cons_succ, i64_w, i32_w]; rfl)
                   refine pure_ (i := 1) (N := some 75) (v := ?_) (a' := ?_) #[true, true, false, false, false, false, false, false, false, false, false, false] rfl rfl (any_of HT_.out (by kernel_rfl)) (fun _ _ _ h => h) (Or.inl ⟨by rfl, ?_⟩) ?_ ?_
                   rotate_left; (intro w'; go_simp; with_reducible rfl); rotate_left; (simp only [Act.put, List.setIfInBounds_toArray, List.set_cons_zero, List.set_cons_succ, i64_w, i32_w]; rfl)
                   refine pure_ (i := 2) (N := some 76) (v := ?_) (a' := ?_) #[true, true, true, false, false, false, false, false, false, false, false, false] rfl rfl (any_of HT_.out (by kernel_rfl)) (fun _ _ _ h => h) (Or.inl ⟨by rfl, ?_⟩) ?_ ?_
                   rotate_left; (intro w'; go_simp; with_reducible rfl); rotate_left; (simp only [Act.put, List.setIfInBounds_toArray, List.set_cons_zero, List.set_cons_succ, i64_w, i32_w]; rfl)
                   refine pure_ (i := 3) (N := some 77) (v := ?_) (a' := ?_) #[true, true, true, true, false, false, false, false, false, false, false, false] rfl rfl (any_of HT_.out (by kernel_rfl)) (fun _ _ _ h => h) (Or.inl ⟨by rfl, ?_⟩) ?_ ?_
                   rotate_left; (intro w'; go_simp; with_reducible rfl); rotate_left; (simp only [Act.put, List.setIfInBounds_toArray, List.set_cons_zero, List.set_cons_succ, i64_w, i32_w]; rfl)
                   refine pure_ (i := 5) (N := some 79) (v := ?_) (a' := ?_) #[true, true, true, true, false, true, false, false, false, false, false, false] rfl rfl (any_of HT_.out (by kernel_rfl)) (fun _ _ _ h => h) (Or.inl ⟨by rfl, ?_⟩) ?_ ?_
                   rotate_left; (intro w'; go_simp; with_reducible rfl); rotate_left; (simp only [Act.put, List.setIfInBounds_toArray, List.set_cons_zero, List.set_cons_succ, i64_w, i32_w]; rfl)
                   refine take_ (i := 4) (N := some 78) (v := ?_) (a' := ?_) #[true, true, true, true, true, true, false, false, false, false, false, false] rfl rfl (take_ofW HT_.out HW_.out (by kernel_rfl)) (fun _ _ _ h => h) (Or.inl ⟨by rfl, ?_⟩) hHeld ?_ ?_
                   rotate_left; (rintro w' ⟨s0, s1, s2, s3, s4, s5, s6⟩; go_simp; with_reducible rfl); rotate_left; (simp only [Act.put, List.setIfInBounds_toArray, List.set_cons_zero, List.set_cons_succ, i64_w, i32_w]; rfl)
                   refine take_ (i := 6) (N := some 80) (v := ?_) (a' := ?_) #[true, true, true, true, true, true, true, false, false, false, false, false] rfl rfl (take_ofW HT_.out HW_.out (by kernel_rfl)) (fun _ _ _ h => h) (Or.inl ⟨by rfl, ?_⟩) hHeld ?_ ?_
                   rotate_left; (rintro w' ⟨s0, s1, s2, s3, s4, s5, s6⟩; go_simp; with_reducible rfl); rotate_left; (simp only [Act.put, List.setIfInBounds_toArray, List.set_cons_zero, List.set_cons_succ, i64_w, i32_w]; rfl)
                   refine pure_ (i := 7) (N := some 81) (v := ?_) (a' := ?_) #[true, true, true, true, true, true, true, true, false, false, false, false] rfl rfl (any_of HT_.out (by kernel_rfl)) (fun _ _ _ h => h) (Or.inl ⟨by rfl, ?_⟩) ?_ ?_
                   rotate_left; (intro w'; go_simp; with_reducible rfl); rotate_left; (simp only [Act.put, List.setIfInBounds_toArray, List.set_cons_zero, List.set_cons_succ, i64_w, i32_w]; rfl)
                   refine take_ (i := 8) (N := some 82) (v := ?_) (a' := ?_) #[true, true, true, true, true, true, true, true, true, false, false, false] rfl rfl (take_ofW HT_.out HW_.out (by kernel_rfl)) (fun _ _ _ h => h) (Or.inl ⟨by rfl, ?_⟩) hHeld ?_ ?_
                   rotate_left; (rintro w' ⟨s0, s1, s2, s3, s4, s5, s6⟩; go_simp; with_reducible rfl); rotate_left; (simp only [Act.put, List.setIfInBounds_toArray, List.set_cons_zero, List.set_cons_succ, i64_w, i32_w]; rfl)
                   refine last_ (i := 9) (N := some 83) #[true, true, true, true, true, true, true, true, true, true, false, false] rfl rfl (one_of HT_.out (by kernel_rfl)) (by decide) (fun K hK => ?_)
                   refine value_ (w1 := ?_) (v := ?_) (by rfl) rfl ?_ ?_
                   rotate_left 2
                   ·go_simp
                    constructor
                    ·rfl
                    ·rfl
                   refine hK.out _ _ ?_
                   clear hK K
                   refine norm_ (a' := ?_) ?_ ?_
                   rotate_left
                   ·show Act.put _ (some 83) _ = _
                    simp only [Act.put, List.setIfInBounds_toArray, List.set_cons_zero, List.set_cons_succ, i64_w, i32_w]
                    rfl
                   refine last_ (i := 10) (N := some 84) #[true, true, true, true, true, true, true, true, true, true, true, false] rfl rfl (one_of HT_.out (by kernel_rfl)) (by decide) (fun K hK => ?_)
                   refine Kd.R_append_step k37 (w0 := w) w.heap.size (by rfl) (.tmp 74) (.tmp 83) 40 37 (.agg #[(.int .i64 0), (.string ⟨#[]⟩)]) 24 rfl Try.underlying40 info37 rfl (by decide) (by omega) u17 x17_4 (⟨(rd_T37 (rd_L4 t242 x18_4) ((rd_T39 t239 x14_3).f0)).f0, (rd_T37 (rd_L4 t242 x18_4) ((rd_T39 t239 x14_3).f0)).f1⟩ : S37) [.int .i64 ((rd_T37 (rd_L4 t242 x18_4) ((rd_T39 t239 x14_3).f0)).f0), .string ((rd_T37 (rd_L4 t242 x18_4) ((rd_T39 t239 x14_3).f0)).f1)] (fun k_ => (w.heap.size ≤ k_)) (fun _ => False) rfl rfl ?aP (fun _ hk => hk.elim) ?aF ?aO ?aB ?aS ?aL ?_
                   (case aP => exact k37_mkM _ _ _ (⟨(rd_T37 (rd_L4 t242 x18_4) ((rd_T39 t239 x14_3).f0)).f0, (rd_T37 (rd_L4 t242 x18_4) ((rd_T39 t239 x14_3).f0)).f1⟩ : S37))
                   (case aB => exact (by repeat (first | (with_reducible first | exact HB.out | apply below_alloc | apply pw_below_drewN | apply below_drew1 | refine below_set ?_ GE229.out | refine below_set ?_ GE230.out | refine below_set ?_ GE238.out | refine below_set ?_ GE257.out) | exact HB.out)))
                   (case aF => exact (fun k_ hk => (Nat.le_trans (below_size (by repeat (first | (with_reducible first | exact HB.out | apply below_alloc | apply pw_below_drewN | apply below_drew1 | refine below_set ?_ GE229.out | refine below_set ?_ GE230.out | refine below_set ?_ GE238.out | refine below_set ?_ GE257.out) | exact HB.out))) hk)))
                   (case aO => exact (by (with_reducible repeat (first | apply Kd.R_alloc | apply Kd.R_drewN | apply Kd.R_drew)); exact HO_17.out))
                   (case aS => exact (below_size (by repeat (first | (with_reducible first | exact HB.out | apply below_alloc | apply pw_below_drewN | apply below_drew1 | refine below_set ?_ GE229.out | refine below_set ?_ GE230.out | refine below_set ?_ GE238.out | refine below_set ?_ GE257.out) | exact HB.out))))
                   (case aL => have := LMc54.out; omega)
                   intro v265 w56 ho hb hg hat
                   rw [← Ny264.out] at ho
                   have n0_ := Aside0.mk (Kd.R_over' (by (with_reducible repeat (first | apply Kd.R_alloc | apply Kd.R_drewN | apply Kd.R_drew)); exact HO_9.out) (Kd.R_typed (by (with_reducible repeat (first | apply Kd.R_alloc | apply Kd.R_drewN | apply Kd.R_drew)); exact HO_17.out)) (by decide) hg)
                   have n1_ := Aside0.mk (Kd.N_afterv (ok := (fun k_ => (P2_1_ k_ ∨ w.heap.size ≤ k_) ∧ some k_ ≠ (.slice (some ad256) t239.length co39 : Value).ownBlock ∧ some k_ ≠ (u12 : Value).ownBlock ∧ some k_ ≠ (.slice (some ad258) t232.length co16 : Value).ownBlock ∧ k_ ≠ gb229 ∧ k_ ≠ gb230 ∧ k_ ≠ gb238 ∧ k_ ≠ gb257)) (by (with_reducible repeat (first | apply Kd.N_alloc | apply Kd.N_drewN | apply Kd.N_drew)); exact Kd.N_mono HO_10.out (fun _ hk => ⟨⟨hk.1, ⟨hk.2.1, ⟨hk.2.2.1, ⟨hk.2.2.2.2.1, ⟨hk.2.2.2.2.2.1, ⟨hk.2.2.2.2.2.2.1, ⟨hk.2.2.2.2.2.2.2.1, hk.2.2.2.2.2.2.2.2⟩⟩⟩⟩⟩⟩⟩, hk.2.2.2.1⟩)) hg hat)
                   have n2_ := Aside0.mk (Kd.V_afterv (ok := (fun k_ => (P2_1_ k_ ∨ w.heap.size ≤ k_) ∧ some k_ ≠ (.slice (some ad256) t239.length co39 : Value).ownBlock ∧ some k_ ≠ (.slice (some ad262) t242.length co34 : Value).ownBlock ∧ some k_ ≠ (u12 : Value).ownBlock ∧ some k_ ≠ (.slice (some ad258) t232.length co16 : Value).ownBlock ∧ k_ ≠ gb229 ∧ k_ ≠ gb230 ∧ k_ ≠ gb238 ∧ k_ ≠ gb257)) (by (with_reducible repeat (first | apply Kd.V_alloc | apply Kd.V_drewN | apply Kd.V_drew)); exact Kd.V_mono HO_11.out (fun _ hk => ⟨⟨hk.1, ⟨hk.2.1, ⟨hk.2.2.1, ⟨hk.2.2.2.1, ⟨hk.2.2.2.2.2.1, ⟨hk.2.2.2.2.2.2.1, ⟨hk.2.2.2.2.2.2.2.1, ⟨hk.2.2.2.2.2.2.2.2.1, hk.2.2.2.2.2.2.2.2.2⟩⟩⟩⟩⟩⟩⟩⟩, hk.2.2.2.2.1⟩)) hg hat)
                   have n3_ := Aside0.mk (Kd.R_over' (by (with_reducible repeat (first | apply Kd.R_alloc | apply Kd.R_drewN | apply Kd.R_drew)); exact HO_12.out) (Kd.R_typed (by (with_reducible repeat (first | apply Kd.R_alloc | apply Kd.R_drewN | apply Kd.R_drew)); exact HO_17.out)) (by decide) hg)
                   have n4_ := Aside0.mk (Kd.V_afterv (ok := (fun k_ => (P2_1_ k_ ∨ w.heap.size ≤ k_) ∧ some k_ ≠ (.slice (some ad256) t239.length co39 : Value).ownBlock ∧ some k_ ≠ (.slice (some ad262) t242.length co34 : Value).ownBlock ∧ some k_ ≠ (u12 : Value).ownBlock ∧ some k_ ≠ (.slice (some ad258) t232.length co16 : Value).ownBlock ∧ k_ ≠ gb229 ∧ k_ ≠ gb230 ∧ k_ ≠ gb238 ∧ k_ ≠ gb257)) (by (with_reducible repeat (first | apply Kd.V_alloc | apply Kd.V_drewN | apply Kd.V_drew)); exact Kd.V_mono HO_231001.out (fun _ hk => ⟨⟨hk.1, ⟨hk.2.1, ⟨hk.2.2.1, ⟨hk.2.2.2.1, ⟨hk.2.2.2.2.2.1, ⟨hk.2.2.2.2.2.2.1, ⟨hk.2.2.2.2.2.2.2.1, ⟨hk.2.2.2.2.2.2.2.2.1, hk.2.2.2.2.2.2.2.2.2⟩⟩⟩⟩⟩⟩⟩⟩, hk.2.2.2.2.1⟩)) hg hat)
                   have n5_ := Aside0.mk (Kd.R_over' (by (with_reducible repeat (first | apply Kd.R_alloc | apply Kd.R_drewN | apply Kd.R_drew)); exact HO_239000.out) (Kd.R_typed (by (with_reducible repeat (first | apply Kd.R_alloc | apply Kd.R_drewN | apply Kd.R_drew)); exact HO_17.out)) (by decide) hg)
                   have n6_ := Aside0.mk (blk_grown (g := gb229) (o := .cells #[.int .u8 a0_0, .int .u8 a0_1, .int .u8 a0_2, .int .u8 a0_3, .int .u8 a0_4, .int .u8 a0_5, .int .u8 a0_6, .int .u8 a0_7, .int .u8 a0_8, .int .u8 a0_9, .int .u8 a0_10, .int .u8 a0_11] 24 (0, 0)) (by (with_reducible repeat (first | refine blk_drewN ?_ _ | refine blk_drew ?_ | refine blk_alloc ?_ _)); exact BK229.out) hg (Kd.R_ne HO_17.out BK229.out (by decide)))
                   have n7_ := Aside0.mk (blk_grown (g := gb230) (o := .cells #[.slice A2_0 l2_0.length c2_0, .slice A2_1 l2_1.length c2_1] 29 (0, 0)) (by (with_reducible repeat (first | refine blk_drewN ?_ _ | refine blk_drew ?_ | refine blk_alloc ?_ _)); exact BK230.out) hg (Kd.R_ne HO_17.out BK230.out (by decide)))
                   have n8_ := Aside0.mk (blk_grown (g := gb238) (o := .cells #[.slice (some ad258) t232.length co16, .int .i64 t235, .int .i64 t236, .int .i64 t237] 32 (0, 0)) (by (with_reducible repeat (first | refine blk_drewN ?_ _ | refine blk_drew ?_ | refine blk_alloc ?_ _)); exact BK238.out) hg (Kd.R_ne HO_17.out BK238.out (by decide)))
                   have n9_ := Aside0.mk (blk_grown (g := gb257) (o := .cells #[.int .i64 ((rd_T39 t239 x14_3).f0), .int .i64 ((rd_T39 t239 x14_3).f1), .int .i64 ((rd_T39 t239 x14_3).f2.f0), .string ((rd_T39 t239 x14_3).f2.f1)] 39 (0, 0)) (by (with_reducible repeat (first | refine blk_drewN ?_ _ | refine blk_drew ?_ | refine blk_alloc ?_ _)); exact BK257.out) hg (Kd.R_ne HO_17.out BK257.out (by decide)))
                   have n10_ := Aside0.mk (Kd.V_afterv (ok := (fun k_ => (P2_1_ k_ ∨ w.heap.size ≤ k_) ∧ some k_ ≠ (.slice (some ad256) t239.length co39 : Value).ownBlock ∧ some k_ ≠ (.slice (some ad262) t242.length co34 : Value).ownBlock ∧ some k_ ≠ (u12 : Value).ownBlock ∧ some k_ ≠ (.slice (some ad258) t232.length co16 : Value).ownBlock ∧ k_ ≠ gb229 ∧ k_ ≠ gb230 ∧ k_ ≠ gb238 ∧ k_ ≠ gb257)) (by (with_reducible repeat (first | apply Kd.V_alloc | apply Kd.V_drewN | apply Kd.V_drew)); exact Kd.V_mono HL262_0.out (fun _ hk => ⟨⟨hk.1.1, ⟨hk.1.2.1, ⟨hk.2, ⟨hk.1.2.2.1, ⟨hk.1.2.2.2.2.1, ⟨hk.1.2.2.2.2.2.1, ⟨hk.1.2.2.2.2.2.2.1, ⟨hk.1.2.2.2.2.2.2.2.1, hk.1.2.2.2.2.2.2.2.2⟩⟩⟩⟩⟩⟩⟩⟩, hk.1.2.2.2.1⟩)) hg hat)
                   have n11_ := Aside0.mk (hb)
                   have n12_ := Aside0.mk (ho)
                   clear HO_9
                   clear HO_10
                   clear HO_11
                   clear HO_12
                   clear HO_231001
                   clear HO_239000
                   clear BK229
                   clear BK230
                   clear BK238
                   clear BK257
                   clear HL262_0
                   clear HB
                   clear HO_17
                   have HO_9 := n0_
                   have HO_10 := n1_
                   have HO_11 := n2_
                   have HO_12 := n3_
                   have HO_231001 := n4_
                   have HO_239000 := n5_
                   have BK229 := n6_
                   have BK230 := n7_
                   have BK238 := n8_
                   have BK257 := n9_
                   have HL262_0 := n10_
                   have HB := n11_
                   have HO266 := n12_
                   clear n0_ n1_ n2_ n3_ n4_ n5_ n6_ n7_ n8_ n9_ n10_ n11_ n12_
                   clear ho hb hg hat
                   refine hK.out _ _ ?_
                   clear hK K
                   refine norm_ (a' := ?_) ?_ ?_
                   rotate_left
                   ·show Act.put _ (some 84) _ = _
                    simp only [Act.put, List.setIfInBounds_toArray, List.set_cons_zero, List.set_cons_succ, i64_w, i32_w]
                    rfl
                   refine pure_ (i := 11) (N := some 17) (v := ?_) (a' := ?_) #[true, true, true, true, true, true, true, true, true, true, true, true] rfl rfl (any_of HT_.out (by kernel_rfl)) (fun _ _ _ h => h) (Or.inl ⟨by rfl, ?_⟩) ?_ ?_
                   rotate_left; (intro w'; go_simp; with_reducible rfl); rotate_left; (simp only [Act.put, List.setIfInBounds_toArray, List.set_cons_zero, List.set_cons_succ, i64_w, i32_w]; rfl)
                   refine done_ (done_of HT_.out (by kernel_rfl)) ?_
                   (try clear hHeld)
                   try go_wp2
                   go_roundg k4
                   case measure => have := HJ7.out; have := HK2.out; have := HK3.out; have := HK4.out; omega
                   case rel => exact ⟨(y264), (wrap64 (x18_4 + 1)), (by first | rfl | (simp; done) | (simp [*]; done)), (by first | exact H' | (subst_vars; exact H')), ⟨by have := HJ7.out; have := HK2.out; have := HK3.out; have := HK4.out; omega⟩, ⟨by (with_reducible repeat (first | apply Kd.R_alloc | apply Kd.R_drewN | apply Kd.R_drew)); exact HO_9.out⟩, ⟨by (with_reducible repeat (first | apply Kd.N_alloc | apply Kd.N_drewN | apply Kd.N_drew)); exact Kd.N_mono HO_10.out (fun _ hk => ⟨hk.1.1, ⟨hk.1.2.1, ⟨hk.1.2.2.1, ⟨hk.2, ⟨hk.1.2.2.2.1, ⟨hk.1.2.2.2.2.1, ⟨hk.1.2.2.2.2.2.1, ⟨hk.1.2.2.2.2.2.2.1, hk.1.2.2.2.2.2.2.2⟩⟩⟩⟩⟩⟩⟩⟩)⟩, ⟨by (with_reducible repeat (first | apply Kd.V_alloc | apply Kd.V_drewN | apply Kd.V_drew)); exact Kd.V_mono HO_11.out (fun _ hk => ⟨hk.1.1, ⟨hk.1.2.1, ⟨hk.1.2.2.1, ⟨hk.1.2.2.2.1, ⟨hk.2, ⟨hk.1.2.2.2.2.1, ⟨hk.1.2.2.2.2.2.1, ⟨hk.1.2.2.2.2.2.2.1, ⟨hk.1.2.2.2.2.2.2.2.1, hk.1.2.2.2.2.2.2.2.2⟩⟩⟩⟩⟩⟩⟩⟩⟩)⟩, ⟨by (with_reducible repeat (first | apply Kd.R_alloc | apply Kd.R_drewN | apply Kd.R_drew)); exact HO_12.out⟩, ⟨by (with_reducible repeat (first | apply Kd.R_alloc | apply Kd.R_drewN | apply Kd.R_drew)); exact HO266.out⟩, ⟨by (with_reducible repeat (first | apply Kd.V_alloc | apply Kd.V_drewN | apply Kd.V_drew)); exact Kd.V_mono HO_231001.out (fun _ hk => ⟨hk.1.1, ⟨hk.1.2.1, ⟨hk.1.2.2.1, ⟨hk.1.2.2.2.1, ⟨hk.2, ⟨hk.1.2.2.2.2.1, ⟨hk.1.2.2.2.2.2.1, ⟨hk.1.2.2.2.2.2.2.1, ⟨hk.1.2.2.2.2.2.2.2.1, hk.1.2.2.2.2.2.2.2.2⟩⟩⟩⟩⟩⟩⟩⟩⟩)⟩, ⟨by (with_reducible repeat (first | apply Kd.R_alloc | apply Kd.R_drewN | apply Kd.R_drew)); exact HO_239000.out⟩, ⟨by (with_reducible repeat (first | refine blk_drewN ?_ _ | refine blk_drew ?_ | refine blk_alloc ?_ _)); exact BK229.out⟩, ⟨by (with_reducible repeat (first | refine blk_drewN ?_ _ | refine blk_drew ?_ | refine blk_alloc ?_ _)); exact BK230.out⟩, ⟨by (with_reducible repeat (first | refine blk_drewN ?_ _ | refine blk_drew ?_ | refine blk_alloc ?_ _)); exact BK238.out⟩, ⟨by (with_reducible repeat (first | refine blk_drewN ?_ _ | refine blk_drew ?_ | refine blk_alloc ?_ _)); exact BK257.out⟩, ⟨by repeat (first | (with_reducible first | exact HB.out | apply below_alloc | apply pw_below_drewN | apply below_drew1 | refine below_set ?_ GE229.out | refine below_set ?_ GE230.out | refine below_set ?_ GE238.out | refine below_set ?_ GE257.out) | exact HB.out)⟩⟩
                  ·rw [if_neg c54] at H
                   exact absurd H (by simp)
                 ·rw [if_neg c53] at H
                  exact absurd H (by simp)
                ·rw [if_neg c52] at H
                 exact absurd H (by simp)
               ·rw [if_neg c51] at H
                exact absurd H (by simp)
              ·rw [if_neg c50] at H
               have c50b0 : decide (x18_4 < (t242.length : Int)) = false := decide_eq_false c50
               clear c50
               replace H := Option.bind_eq_some_iff.mp H
               obtain ⟨t267, A570, H⟩ := H
               replace H : ((thresherref19_Select.f k4 (rd t232 ((rd_T39 t239 x14_3).f0)) ((rd_T39 t239 x14_3).f0) ((rd_T39 t239 x14_3).f1) ((rd_T39 t239 x14_3).f2.f0) ((rd_T39 t239 x14_3).f2.f1) x17_4 x11_7).bind fun t270 => ((thresherref15_Same.f k4 t267 t270).bind fun t273 => (if t273 = true then ((filter_Select.f k4 (rd t232 ((rd_T39 t239 x14_3).f0)) ((rd_T39 t239 x14_3).f0) ((rd_T39 t239 x14_3).f1) ((rd_T39 t239 x14_3).f2.f0) ((rd_T39 t239 x14_3).f2.f1) x17_4 x12_3).bind fun t274 => (thresherlaw19_FilterSelects.l1 k4 t231 t239 t242 x11_7 t274 (wrap64 (x14_3 + 1)) t232 t235 t236 t237)) else (some false)))) = some r := H
               have A57 := Aside0.mk A570
               clear A570
               replace H := Option.bind_eq_some_iff.mp H
               obtain ⟨t270, A580, H⟩ := H
               replace H : ((thresherref15_Same.f k4 t267 t270).bind fun t273 => (if t273 = true then ((filter_Select.f k4 (rd t232 ((rd_T39 t239 x14_3).f0)) ((rd_T39 t239 x14_3).f0) ((rd_T39 t239 x14_3).f1) ((rd_T39 t239 x14_3).f2.f0) ((rd_T39 t239 x14_3).f2.f1) x17_4 x12_3).bind fun t274 => (thresherlaw19_FilterSelects.l1 k4 t231 t239 t242 x11_7 t274 (wrap64 (x14_3 + 1)) t232 t235 t236 t237)) else (some false))) = some r := H
               have A58 := Aside0.mk A580
               clear A580
               replace H := Option.bind_eq_some_iff.mp H
               obtain ⟨t273, A590, H⟩ := H
               replace H : (if t273 = true then ((filter_Select.f k4 (rd t232 ((rd_T39 t239 x14_3).f0)) ((rd_T39 t239 x14_3).f0) ((rd_T39 t239 x14_3).f1) ((rd_T39 t239 x14_3).f2.f0) ((rd_T39 t239 x14_3).f2.f1) x17_4 x12_3).bind fun t274 => (thresherlaw19_FilterSelects.l1 k4 t231 t239 t242 x11_7 t274 (wrap64 (x14_3 + 1)) t232 t235 t236 t237)) else (some false)) = some r := H
               have A59 := Aside0.mk A590
               clear A590
               by_cases c60 : t273 = true
               ·subst c60
                have H1 : ((filter_Select.f k4 (rd t232 ((rd_T39 t239 x14_3).f0)) ((rd_T39 t239 x14_3).f0) ((rd_T39 t239 x14_3).f1) ((rd_T39 t239 x14_3).f2.f0) ((rd_T39 t239 x14_3).f2.f1) x17_4 x12_3).bind fun t274 => (thresherlaw19_FilterSelects.l1 k4 t231 t239 t242 x11_7 t274 (wrap64 (x14_3 + 1)) t232 t235 t236 t237)) = some r := by rw [if_pos rfl] at H; exact H
                clear H
                have H := H1
                clear H1
                replace H := Option.bind_eq_some_iff.mp H
                obtain ⟨t274, A610, H⟩ := H
                replace H : (thresherlaw19_FilterSelects.l1 k4 t231 t239 t242 x11_7 t274 (wrap64 (x14_3 + 1)) t232 t235 t236 t237) = some r := H
                have A61 := Aside0.mk A610
                clear A610
                have H' := Aside0.mk H
                clear H
                try go_wp2
                have n0_ := Aside0.mk (Kd.R_drew HO_9.out)
                have n1_ := Aside0.mk (Kd.N_drew HO_10.out)
                have n2_ := Aside0.mk (Kd.V_drew HO_11.out)
                have n3_ := Aside0.mk (Kd.R_drew HO_12.out)
                have n4_ := Aside0.mk (Kd.R_drew HO_17.out)
                have n5_ := Aside0.mk (Kd.V_drew HO_231001.out)
                have n6_ := Aside0.mk (Kd.R_drew HO_239000.out)
                have n7_ := Aside0.mk (blk_drew BK229.out)
                have n8_ := Aside0.mk (blk_drew BK230.out)
                have n9_ := Aside0.mk (blk_drew BK238.out)
                have n10_ := Aside0.mk (blk_drew BK257.out)
                have n11_ := Aside0.mk (below_drew1 HB.out)
                clear HO_9
                clear HO_10
                clear HO_11
                clear HO_12
                clear HO_17
                clear HO_231001
                clear HO_239000
                clear BK229
                clear BK230
                clear BK238
                clear BK257
                clear HB
                have HO_9 := n0_
                have HO_10 := n1_
                have HO_11 := n2_
                have HO_12 := n3_
                have HO_17 := n4_
                have HO_231001 := n5_
                have HO_239000 := n6_
                have BK229 := n7_
                have BK230 := n8_
                have BK238 := n9_
                have BK257 := n10_
                have HB := n11_
                clear n0_ n1_ n2_ n3_ n4_ n5_ n6_ n7_ n8_ n9_ n10_ n11_
                obtain ⟨Ao63, co63, eo63⟩ := Kd.R_slice HO_17.out
                (first | subst eo63 | (injection eo63 with f1_ f2_ f3_; have f4_ := f1_.symm; have f5_ := f3_.symm; clear f1_ f2_ f3_; subst f4_; subst f5_))
                obtain ⟨Ao64, co64, eo64⟩ := Kd.V_slice HO_11.out
                (first | subst eo64 | (injection eo64 with f1_ f2_ f3_; have f4_ := f1_.symm; have f5_ := f3_.symm; clear f1_ f2_ f3_; subst f4_; subst f5_))
                refine start_ (n := 12) (S := fun w' => w'.cell? ⟨gb257, 0, none⟩ = some (.int .i64 ((rd_T39 t239 x14_3).f0)) ∧ w'.cell? ⟨gb257, 1, none⟩ = some (.int .i64 ((rd_T39 t239 x14_3).f1)) ∧ w'.cell? ⟨gb257, 2, none⟩ = some (.int .i64 ((rd_T39 t239 x14_3).f2.f0)) ∧ w'.cell? ⟨gb257, 3, none⟩ = some (.string ((rd_T39 t239 x14_3).f2.f1))) (ds := []) #[false, false, false, false, false, false, false, false, false, false, false, false] (by kernel_rfl) rfl rfl ⟨(blk_cell BK257.out 0).trans rfl, (blk_cell BK257.out 1).trans rfl, (blk_cell BK257.out 2).trans rfl, (blk_cell BK257.out 3).trans rfl⟩ (fun hHeld => ?_); refine with_tabW thresherlaw19_FilterSelects.tab23 thresherlaw19_FilterSelects.bits23 (fun HT_ HW_ => ?_)
                generalize wr.drew = w62 at HO_9 HO_10 HO_11 HO_12 HO_17 HO_231001 HO_239000 BK229 BK230 BK238 BK257 HB hHeld ⊢
                refine pure_ (i := 0) (N := some 85) (v := ?_) (a' := ?_) #[true, false, false, false, false, false, false, false, false, false, false, false] rfl rfl (any_of HT_.out (by kernel_rfl)) (fun _ _ _ h => h) (Or.inl ⟨by rfl, ?_⟩) ?_ ?_
                rotate_left; (intro w'; go_simp; with_reducible rfl); rotate_left; (simp only [Act.put, List.setIfInBounds_toArray, List.set_cons_zero, List.set_cons_succ, i64_w, i32_w]; rfl)
                refine pure_ (i := 2) (N := some 87) (v := ?_) (a' := ?_) #[true, false, true, false, false, false, false, false, false, false, false, false] rfl rfl (any_of HT_.out (by kernel_rfl)) (fun _ _ _ h => h) (Or.inl ⟨by rfl, ?_⟩) ?_ ?_
                rotate_left; (intro w'; go_simp; with_reducible rfl); rotate_left; (simp only [Act.put, List.setIfInBounds_toArray, List.set_cons_zero, List.set_cons_succ, i64_w, i32_w]; rfl)
                refine pure_ (i := 3) (N := some 88) (v := ?_) (a' := ?_) #[true, false, true, true, false, false, false, false, false, false, false, false] rfl rfl (any_of HT_.out (by kernel_rfl)) (fun _ _ _ h => h) (Or.inl ⟨by rfl, ?_⟩) ?_ ?_
                rotate_left; (intro w'; go_simp; with_reducible rfl); rotate_left; (simp only [Act.put, List.setIfInBounds_toArray, List.set_cons_zero, List.set_cons_succ, i64_w, i32_w]; rfl)
                refine pure_ (i := 5) (N := some 90) (v := ?_) (a' := ?_) #[true, false, true, true, false, true, false, false, false, false, false, false] rfl rfl (any_of HT_.out (by kernel_rfl)) (fun _ _ _ h => h) (Or.inl ⟨by rfl, ?_⟩) ?_ ?_
                rotate_left; (intro w'; go_simp; with_reducible rfl); rotate_left; (simp only [Act.put, List.setIfInBounds_toArray, List.set_cons_zero, List.set_cons_succ, i64_w, i32_w]; rfl)
                refine pure_ (i := 7) (N := some 92) (v := ?_) (a' := ?_) #[true, false, true, true, false, true, false, true, false, false, false, false] rfl rfl (any_of HT_.out (by kernel_rfl)) (fun _ _ _ h => h) (Or.inl ⟨by rfl, ?_⟩) ?_ ?_
                rotate_left; (intro w'; go_simp; with_reducible rfl); rotate_left; (simp only [Act.put, List.setIfInBounds_toArray, List.set_cons_zero, List.set_cons_succ, i64_w, i32_w]; rfl)
                refine pure_ (i := 8) (N := some 93) (v := ?_) (a' := ?_) #[true, false, true, true, false, true, false, true, true, false, false, false] rfl rfl (any_of HT_.out (by kernel_rfl)) (fun _ _ _ h => h) (Or.inl ⟨by rfl, ?_⟩) ?_ ?_
                rotate_left; (intro w'; go_simp; with_reducible rfl); rotate_left; (simp only [Act.put, List.setIfInBounds_toArray, List.set_cons_zero, List.set_cons_succ, i64_w, i32_w]; rfl)
                refine take_ (i := 1) (N := some 86) (v := ?_) (a' := ?_) #[true, true, true, true, false, true, false, true, true, false, false, false] rfl rfl (take_ofW HT_.out HW_.out (by kernel_rfl)) (fun _ _ _ h => h) (Or.inl ⟨by rfl, ?_⟩) hHeld ?_ ?_
                rotate_left; (rintro w' ⟨s0, s1, s2, s3⟩; go_simp; with_reducible rfl); rotate_left; (simp only [Act.put, List.setIfInBounds_toArray, List.set_cons_zero, List.set_cons_succ, i64_w, i32_w]; rfl)
                refine take_ (i := 6) (N := some 91) (v := ?_) (a' := ?_) #[true, true, true, true, false, true, true, true, true, false, false, false] rfl rfl (take_ofW HT_.out HW_.out (by kernel_rfl)) (fun _ _ _ h => h) (Or.inl ⟨by rfl, ?_⟩) hHeld ?_ ?_
                rotate_left; (rintro w' ⟨s0, s1, s2, s3⟩; go_simp; with_reducible rfl); rotate_left; (simp only [Act.put, List.setIfInBounds_toArray, List.set_cons_zero, List.set_cons_succ, i64_w, i32_w]; rfl)
                refine one_ (i := 4) (N := some 89) #[true, true, true, true, true, true, true, true, true, false, false, false] rfl rfl (one_of HT_.out (by kernel_rfl)) (by decide) (fun K hK => ?_)
                refine goes_ Try.func13 (by kernel_rfl) rfl #[.int .i64 (rd t232 ((rd_T39 t239 x14_3).f0)), .agg #[.int .i64 ((rd_T39 t239 x14_3).f0), .int .i64 ((rd_T39 t239 x14_3).f1), .int .i64 ((rd_T39 t239 x14_3).f2.f0), .string ((rd_T39 t239 x14_3).f2.f1)], .slice Ao63 x17_4.length co63, .slice Ao64 x11_7.length co64] (by rfl) rfl rfl (by (try simp only [List.map_toArray, List.map_cons, List.map_nil]); first | done | rfl | (simp only [List.length_drop, List.length_take]; rfl)) ?_
                with_reducible refine (filter_Select.calls k4 (rd t232 ((rd_T39 t239 x14_3).f0)) ((rd_T39 t239 x14_3).f0) ((rd_T39 t239 x14_3).f1) ((rd_T39 t239 x14_3).f2.f0) ((rd_T39 t239 x14_3).f2.f1) _ _ x17_4 _ _ x11_7 t267 _ ?side1 ?side2 ?side3 ?side4 A57.out).mono ?_
                (case side1 => repeat (first | exact (Kd.R_reads' HO_17.out).2.2 | (with_reducible refine Kd.C_alloc ?_ _) | (with_reducible refine Kd.C_drewN ?_ _) | (with_reducible refine Kd.C_drew ?_)))
                (case side2 => exact (Kd.R_reads' HO_17.out).2.1)
                (case side3 => repeat (first | exact (Kd.V_reads' HO_11.out).2.2 | (with_reducible refine Kd.C_alloc ?_ _) | (with_reducible refine Kd.C_drewN ?_ _) | (with_reducible refine Kd.C_drew ?_)))
                (case side4 => exact (Kd.V_reads' HO_11.out).2.1)
                rintro e w65 ⟨v268, rfl, ho0, hb⟩
                refine ⟨_, rfl, ?_⟩
                have n0_ := Aside0.mk (Kd.R_below (by (with_reducible repeat (first | apply Kd.R_alloc | apply Kd.R_drewN | apply Kd.R_drew)); exact HO_9.out) hb)
                have n1_ := Aside0.mk (Kd.N_elder' (by (with_reducible repeat (first | apply Kd.N_alloc | apply Kd.N_drewN | apply Kd.N_drew)); exact HO_10.out) (Kd.R_base ho0) hb)
                have n2_ := Aside0.mk (Kd.V_elder' (by (with_reducible repeat (first | apply Kd.V_alloc | apply Kd.V_drewN | apply Kd.V_drew)); exact HO_11.out) (Kd.R_base ho0) hb)
                have n3_ := Aside0.mk (Kd.R_elder' (by (with_reducible repeat (first | apply Kd.R_alloc | apply Kd.R_drewN | apply Kd.R_drew)); exact HO_12.out) (Kd.R_base ho0) hb)
                have n4_ := Aside0.mk (Kd.R_below (by (with_reducible repeat (first | apply Kd.R_alloc | apply Kd.R_drewN | apply Kd.R_drew)); exact HO_17.out) hb)
                have n5_ := Aside0.mk (Kd.V_elder' (by (with_reducible repeat (first | apply Kd.V_alloc | apply Kd.V_drewN | apply Kd.V_drew)); exact HO_231001.out) (Kd.R_base ho0) hb)
                have n6_ := Aside0.mk (Kd.R_elder' (by (with_reducible repeat (first | apply Kd.R_alloc | apply Kd.R_drewN | apply Kd.R_drew)); exact HO_239000.out) (Kd.R_base ho0) hb)
                have n7_ := Aside0.mk (Kd.R_lower (Kd.R_new' (Kd.R_new' (Kd.R_newM (M := fun k_ => (w.heap.size ≤ k_)) ho0 (below_size (by repeat (first | (with_reducible first | exact HB.out | apply below_alloc | apply pw_below_drewN | apply below_drew1 | refine below_set ?_ GE229.out | refine below_set ?_ GE230.out | refine below_set ?_ GE238.out | refine below_set ?_ GE257.out) | exact HB.out))) (fun k_ h_ => h_)) (Kd.R_lt (by (with_reducible repeat (first | apply Kd.R_alloc | apply Kd.R_drewN | apply Kd.R_drew)); exact HO_12.out))) (Kd.R_lt (by (with_reducible repeat (first | apply Kd.R_alloc | apply Kd.R_drewN | apply Kd.R_drew)); exact HO_239000.out))) (below_size (by repeat (first | (with_reducible first | exact HB.out | apply below_alloc | apply pw_below_drewN | apply below_drew1 | refine below_set ?_ GE229.out | refine below_set ?_ GE230.out | refine below_set ?_ GE238.out | refine below_set ?_ GE257.out) | exact HB.out))))
                have n8_ := Aside0.mk (blk_below (g := gb229) (o := .cells #[.int .u8 a0_0, .int .u8 a0_1, .int .u8 a0_2, .int .u8 a0_3, .int .u8 a0_4, .int .u8 a0_5, .int .u8 a0_6, .int .u8 a0_7, .int .u8 a0_8, .int .u8 a0_9, .int .u8 a0_10, .int .u8 a0_11] 24 (0, 0)) (by (with_reducible repeat (first | refine blk_drewN ?_ _ | refine blk_drew ?_ | refine blk_alloc ?_ _)); exact BK229.out) hb)
                have n9_ := Aside0.mk (blk_below (g := gb230) (o := .cells #[.slice A2_0 l2_0.length c2_0, .slice A2_1 l2_1.length c2_1] 29 (0, 0)) (by (with_reducible repeat (first | refine blk_drewN ?_ _ | refine blk_drew ?_ | refine blk_alloc ?_ _)); exact BK230.out) hb)
                have n10_ := Aside0.mk (blk_below (g := gb238) (o := .cells #[.slice (some ad258) t232.length co16, .int .i64 t235, .int .i64 t236, .int .i64 t237] 32 (0, 0)) (by (with_reducible repeat (first | refine blk_drewN ?_ _ | refine blk_drew ?_ | refine blk_alloc ?_ _)); exact BK238.out) hb)
                have n11_ := Aside0.mk (blk_below (g := gb257) (o := .cells #[.int .i64 ((rd_T39 t239 x14_3).f0), .int .i64 ((rd_T39 t239 x14_3).f1), .int .i64 ((rd_T39 t239 x14_3).f2.f0), .string ((rd_T39 t239 x14_3).f2.f1)] 39 (0, 0)) (by (with_reducible repeat (first | refine blk_drewN ?_ _ | refine blk_drew ?_ | refine blk_alloc ?_ _)); exact BK257.out) hb)
                have n12_ := Aside0.mk (below_step (by repeat (first | (with_reducible first | exact HB.out | apply below_alloc | apply pw_below_drewN | apply below_drew1 | refine below_set ?_ GE229.out | refine below_set ?_ GE230.out | refine below_set ?_ GE238.out | refine below_set ?_ GE257.out) | exact HB.out)) hb)
                clear HO_9
                clear HO_10
                clear HO_11
                clear HO_12
                clear HO_17
                clear HO_231001
                clear HO_239000
                clear BK229
                clear BK230
                clear BK238
                clear BK257
                clear HB
                have HO_9 := n0_
                have HO_10 := n1_
                have HO_11 := n2_
                have HO_12 := n3_
                have HO_17 := n4_
                have HO_231001 := n5_
                have HO_239000 := n6_
                have HO269 := n7_
                have BK229 := n8_
                have BK230 := n9_
                have BK238 := n10_
                have BK257 := n11_
                have HB := n12_
                clear n0_ n1_ n2_ n3_ n4_ n5_ n6_ n7_ n8_ n9_ n10_ n11_ n12_
                (try clear hb)
                (try clear hb2)
                (try clear hk)
                (try clear hi)
                (try clear ho0)
                refine hK.out _ _ ⟨(blk_cell BK257.out 0).trans rfl, (blk_cell BK257.out 1).trans rfl, (blk_cell BK257.out 2).trans rfl, (blk_cell BK257.out 3).trans rfl⟩ (fun hHeld => ?_)
                clear hK K
                refine norm_ (a' := ?_) ?_ ?_
                rotate_left
                ·show Act.put _ (some 89) _ = _
                 simp only [Act.put, List.setIfInBounds_toArray, List.set_cons_zero, List.set_cons_succ, i64_w, i32_w]
                 rfl
                refine one_ (i := 9) (N := some 94) #[true, true, true, true, true, true, true, true, true, true, false, false] rfl rfl (one_of HT_.out (by kernel_rfl)) (by decide) (fun K hK => ?_)
                refine goes_ Try.func14 (by kernel_rfl) rfl #[.int .i64 (rd t232 ((rd_T39 t239 x14_3).f0)), .agg #[.int .i64 ((rd_T39 t239 x14_3).f0), .int .i64 ((rd_T39 t239 x14_3).f1), .int .i64 ((rd_T39 t239 x14_3).f2.f0), .string ((rd_T39 t239 x14_3).f2.f1)], .slice Ao63 x17_4.length co63, .slice Ao64 x11_7.length co64] (by rfl) rfl rfl (by (try simp only [List.map_toArray, List.map_cons, List.map_nil]); first | done | rfl | (simp only [List.length_drop, List.length_take]; rfl)) ?_
                with_reducible refine (thresherref19_Select.calls k4 (rd t232 ((rd_T39 t239 x14_3).f0)) ((rd_T39 t239 x14_3).f0) ((rd_T39 t239 x14_3).f1) ((rd_T39 t239 x14_3).f2.f0) ((rd_T39 t239 x14_3).f2.f1) _ _ x17_4 _ _ x11_7 t270 _ ?side1 ?side2 ?side3 ?side4 A58.out).mono ?_
                (case side1 => repeat (first | exact (Kd.R_reads' HO_17.out).2.2 | (with_reducible refine Kd.C_alloc ?_ _) | (with_reducible refine Kd.C_drewN ?_ _) | (with_reducible refine Kd.C_drew ?_)))
                (case side2 => exact (Kd.R_reads' HO_17.out).2.1)
                (case side3 => repeat (first | exact (Kd.V_reads' HO_11.out).2.2 | (with_reducible refine Kd.C_alloc ?_ _) | (with_reducible refine Kd.C_drewN ?_ _) | (with_reducible refine Kd.C_drew ?_)))
                (case side4 => exact (Kd.V_reads' HO_11.out).2.1)
                rintro e w66 ⟨v271, rfl, ho0, hb⟩
                refine ⟨_, rfl, ?_⟩
                have n0_ := Aside0.mk (Kd.R_below (by (with_reducible repeat (first | apply Kd.R_alloc | apply Kd.R_drewN | apply Kd.R_drew)); exact HO_9.out) hb)
                have n1_ := Aside0.mk (Kd.N_elder' (by (with_reducible repeat (first | apply Kd.N_alloc | apply Kd.N_drewN | apply Kd.N_drew)); exact HO_10.out) (Kd.R_base ho0) hb)
                have n2_ := Aside0.mk (Kd.V_elder' (by (with_reducible repeat (first | apply Kd.V_alloc | apply Kd.V_drewN | apply Kd.V_drew)); exact HO_11.out) (Kd.R_base ho0) hb)
                have n3_ := Aside0.mk (Kd.R_elder' (by (with_reducible repeat (first | apply Kd.R_alloc | apply Kd.R_drewN | apply Kd.R_drew)); exact HO_12.out) (Kd.R_base ho0) hb)
                have n4_ := Aside0.mk (Kd.R_below (by (with_reducible repeat (first | apply Kd.R_alloc | apply Kd.R_drewN | apply Kd.R_drew)); exact HO_17.out) hb)
                have n5_ := Aside0.mk (Kd.V_elder' (by (with_reducible repeat (first | apply Kd.V_alloc | apply Kd.V_drewN | apply Kd.V_drew)); exact HO_231001.out) (Kd.R_base ho0) hb)
                have n6_ := Aside0.mk (Kd.R_elder' (by (with_reducible repeat (first | apply Kd.R_alloc | apply Kd.R_drewN | apply Kd.R_drew)); exact HO_239000.out) (Kd.R_base ho0) hb)
                have n7_ := Aside0.mk (Kd.R_elder' (by (with_reducible repeat (first | apply Kd.R_alloc | apply Kd.R_drewN | apply Kd.R_drew)); exact HO269.out) (Kd.R_base ho0) hb)
                have n8_ := Aside0.mk (Kd.R_lower (Kd.R_new' (Kd.R_new' (Kd.R_new' (Kd.R_newM (M := fun k_ => (w.heap.size ≤ k_)) ho0 (below_size (by repeat (first | (with_reducible first | exact HB.out | apply below_alloc | apply pw_below_drewN | apply below_drew1 | refine below_set ?_ GE229.out | refine below_set ?_ GE230.out | refine below_set ?_ GE238.out | refine below_set ?_ GE257.out) | exact HB.out))) (fun k_ h_ => h_)) (Kd.R_lt (by (with_reducible repeat (first | apply Kd.R_alloc | apply Kd.R_drewN | apply Kd.R_drew)); exact HO_12.out))) (Kd.R_lt (by (with_reducible repeat (first | apply Kd.R_alloc | apply Kd.R_drewN | apply Kd.R_drew)); exact HO_239000.out))) (Kd.R_lt (by (with_reducible repeat (first | apply Kd.R_alloc | apply Kd.R_drewN | apply Kd.R_drew)); exact HO269.out))) (below_size (by repeat (first | (with_reducible first | exact HB.out | apply below_alloc | apply pw_below_drewN | apply below_drew1 | refine below_set ?_ GE229.out | refine below_set ?_ GE230.out | refine below_set ?_ GE238.out | refine below_set ?_ GE257.out) | exact HB.out))))
                have n9_ := Aside0.mk (blk_below (g := gb229) (o := .cells #[.int .u8 a0_0, .int .u8 a0_1, .int .u8 a0_2, .int .u8 a0_3, .int .u8 a0_4, .int .u8 a0_5, .int .u8 a0_6, .int .u8 a0_7, .int .u8 a0_8, .int .u8 a0_9, .int .u8 a0_10, .int .u8 a0_11] 24 (0, 0)) (by (with_reducible repeat (first | refine blk_drewN ?_ _ | refine blk_drew ?_ | refine blk_alloc ?_ _)); exact BK229.out) hb)
                have n10_ := Aside0.mk (blk_below (g := gb230) (o := .cells #[.slice A2_0 l2_0.length c2_0, .slice A2_1 l2_1.length c2_1] 29 (0, 0)) (by (with_reducible repeat (first | refine blk_drewN ?_ _ | refine blk_drew ?_ | refine blk_alloc ?_ _)); exact BK230.out) hb)
                have n11_ := Aside0.mk (blk_below (g := gb238) (o := .cells #[.slice (some ad258) t232.length co16, .int .i64 t235, .int .i64 t236, .int .i64 t237] 32 (0, 0)) (by (with_reducible repeat (first | refine blk_drewN ?_ _ | refine blk_drew ?_ | refine blk_alloc ?_ _)); exact BK238.out) hb)
                have n12_ := Aside0.mk (blk_below (g := gb257) (o := .cells #[.int .i64 ((rd_T39 t239 x14_3).f0), .int .i64 ((rd_T39 t239 x14_3).f1), .int .i64 ((rd_T39 t239 x14_3).f2.f0), .string ((rd_T39 t239 x14_3).f2.f1)] 39 (0, 0)) (by (with_reducible repeat (first | refine blk_drewN ?_ _ | refine blk_drew ?_ | refine blk_alloc ?_ _)); exact BK257.out) hb)
                have n13_ := Aside0.mk (below_step (by repeat (first | (with_reducible first | exact HB.out | apply below_alloc | apply pw_below_drewN | apply below_drew1 | refine below_set ?_ GE229.out | refine below_set ?_ GE230.out | refine below_set ?_ GE238.out | refine below_set ?_ GE257.out) | exact HB.out)) hb)
                clear HO_9
                clear HO_10
                clear HO_11
                clear HO_12
                clear HO_17
                clear HO_231001
                clear HO_239000
                clear HO269
                clear BK229
                clear BK230
                clear BK238
                clear BK257
                clear HB
                have HO_9 := n0_
                have HO_10 := n1_
                have HO_11 := n2_
                have HO_12 := n3_
                have HO_17 := n4_
                have HO_231001 := n5_
                have HO_239000 := n6_
                have HO269 := n7_
                have HO272 := n8_
                have BK229 := n9_
                have BK230 := n10_
                have BK238 := n11_
                have BK257 := n12_
                have HB := n13_
                clear n0_ n1_ n2_ n3_ n4_ n5_ n6_ n7_ n8_ n9_ n10_ n11_ n12_ n13_
                (try clear hb)
                (try clear hb2)
                (try clear hk)
                (try clear hi)
                (try clear ho0)
                obtain ⟨Ao67, co67, eo67⟩ := Kd.R_slice HO269.out
                (first | subst eo67 | (injection eo67 with f1_ f2_ f3_; have f4_ := f1_.symm; have f5_ := f3_.symm; clear f1_ f2_ f3_; subst f4_; subst f5_))
                obtain ⟨Ao68, co68, eo68⟩ := Kd.R_slice HO272.out
                (first | subst eo68 | (injection eo68 with f1_ f2_ f3_; have f4_ := f1_.symm; have f5_ := f3_.symm; clear f1_ f2_ f3_; subst f4_; subst f5_))
                refine hK.out _ _ ⟨(blk_cell BK257.out 0).trans rfl, (blk_cell BK257.out 1).trans rfl, (blk_cell BK257.out 2).trans rfl, (blk_cell BK257.out 3).trans rfl⟩ (fun hHeld => ?_)
                clear hK K
                refine norm_ (a' := ?_) ?_ ?_
                rotate_left
                ·show Act.put _ (some 94) _ = _
                 simp only [Act.put, List.setIfInBounds_toArray, List.set_cons_zero, List.set_cons_succ, i64_w, i32_w]
                 rfl
                refine one_ (i := 10) (N := some 95) #[true, true, true, true, true, true, true, true, true, true, true, false] rfl rfl (one_of HT_.out (by kernel_rfl)) (by decide) (fun K hK => ?_)
                refine goes_ Try.func12 (by kernel_rfl) rfl #[.slice Ao67 t267.length co67, .slice Ao68 t270.length co68] (by rfl) rfl rfl (by (try simp only [List.map_toArray, List.map_cons, List.map_nil]); first | done | rfl | (simp only [List.length_drop, List.length_take]; rfl)) ?_
                with_reducible refine (thresherref15_Same.calls k4 _ _ t267 _ _ t270 true _ ?side1 ?side2 ?side3 ?side4 A59.out).mono ?_
                (case side1 => repeat (first | exact (Kd.R_reads' HO269.out).2.2 | (with_reducible refine Kd.C_alloc ?_ _) | (with_reducible refine Kd.C_drewN ?_ _) | (with_reducible refine Kd.C_drew ?_)))
                (case side2 => exact (Kd.R_reads' HO269.out).2.1)
                (case side3 => repeat (first | exact (Kd.R_reads' HO272.out).2.2 | (with_reducible refine Kd.C_alloc ?_ _) | (with_reducible refine Kd.C_drewN ?_ _) | (with_reducible refine Kd.C_drew ?_)))
                (case side4 => exact (Kd.R_reads' HO272.out).2.1)
                rintro e w69 ⟨rfl, hb⟩
                refine ⟨_, rfl, ?_⟩
                have n0_ := Aside0.mk (Kd.R_below (by (with_reducible repeat (first | apply Kd.R_alloc | apply Kd.R_drewN | apply Kd.R_drew)); exact HO_9.out) hb)
                have n1_ := Aside0.mk (Kd.N_below (by (with_reducible repeat (first | apply Kd.N_alloc | apply Kd.N_drewN | apply Kd.N_drew)); exact HO_10.out) hb)
                have n2_ := Aside0.mk (Kd.V_below (by (with_reducible repeat (first | apply Kd.V_alloc | apply Kd.V_drewN | apply Kd.V_drew)); exact HO_11.out) hb)
                have n3_ := Aside0.mk (Kd.R_below (by (with_reducible repeat (first | apply Kd.R_alloc | apply Kd.R_drewN | apply Kd.R_drew)); exact HO_12.out) hb)
                have n4_ := Aside0.mk (Kd.R_below (by (with_reducible repeat (first | apply Kd.R_alloc | apply Kd.R_drewN | apply Kd.R_drew)); exact HO_17.out) hb)
                have n5_ := Aside0.mk (Kd.V_below (by (with_reducible repeat (first | apply Kd.V_alloc | apply Kd.V_drewN | apply Kd.V_drew)); exact HO_231001.out) hb)
                have n6_ := Aside0.mk (Kd.R_below (by (with_reducible repeat (first | apply Kd.R_alloc | apply Kd.R_drewN | apply Kd.R_drew)); exact HO_239000.out) hb)
                have n7_ := Aside0.mk (Kd.R_below (by (with_reducible repeat (first | apply Kd.R_alloc | apply Kd.R_drewN | apply Kd.R_drew)); exact HO269.out) hb)
                have n8_ := Aside0.mk (Kd.R_below (by (with_reducible repeat (first | apply Kd.R_alloc | apply Kd.R_drewN | apply Kd.R_drew)); exact HO272.out) hb)
                have n9_ := Aside0.mk (blk_below (g := gb229) (o := .cells #[.int .u8 a0_0, .int .u8 a0_1, .int .u8 a0_2, .int .u8 a0_3, .int .u8 a0_4, .int .u8 a0_5, .int .u8 a0_6, .int .u8 a0_7, .int .u8 a0_8, .int .u8 a0_9, .int .u8 a0_10, .int .u8 a0_11] 24 (0, 0)) (by (with_reducible repeat (first | refine blk_drewN ?_ _ | refine blk_drew ?_ | refine blk_alloc ?_ _)); exact BK229.out) hb)
                have n10_ := Aside0.mk (blk_below (g := gb230) (o := .cells #[.slice A2_0 l2_0.length c2_0, .slice A2_1 l2_1.length c2_1] 29 (0, 0)) (by (with_reducible repeat (first | refine blk_drewN ?_ _ | refine blk_drew ?_ | refine blk_alloc ?_ _)); exact BK230.out) hb)
                have n11_ := Aside0.mk (blk_below (g := gb238) (o := .cells #[.slice (some ad258) t232.length co16, .int .i64 t235, .int .i64 t236, .int .i64 t237] 32 (0, 0)) (by (with_reducible repeat (first | refine blk_drewN ?_ _ | refine blk_drew ?_ | refine blk_alloc ?_ _)); exact BK238.out) hb)
                have n12_ := Aside0.mk (blk_below (g := gb257) (o := .cells #[.int .i64 ((rd_T39 t239 x14_3).f0), .int .i64 ((rd_T39 t239 x14_3).f1), .int .i64 ((rd_T39 t239 x14_3).f2.f0), .string ((rd_T39 t239 x14_3).f2.f1)] 39 (0, 0)) (by (with_reducible repeat (first | refine blk_drewN ?_ _ | refine blk_drew ?_ | refine blk_alloc ?_ _)); exact BK257.out) hb)
                have n13_ := Aside0.mk (below_step (by repeat (first | (with_reducible first | exact HB.out | apply below_alloc | apply pw_below_drewN | apply below_drew1 | refine below_set ?_ GE229.out | refine below_set ?_ GE230.out | refine below_set ?_ GE238.out | refine below_set ?_ GE257.out) | exact HB.out)) hb)
                clear HO_9
                clear HO_10
                clear HO_11
                clear HO_12
                clear HO_17
                clear HO_231001
                clear HO_239000
                clear HO269
                clear HO272
                clear BK229
                clear BK230
                clear BK238
                clear BK257
                clear HB
                have HO_9 := n0_
                have HO_10 := n1_
                have HO_11 := n2_
                have HO_12 := n3_
                have HO_17 := n4_
                have HO_231001 := n5_
                have HO_239000 := n6_
                have HO269 := n7_
                have HO272 := n8_
                have BK229 := n9_
                have BK230 := n10_
                have BK238 := n11_
                have BK257 := n12_
                have HB := n13_
                clear n0_ n1_ n2_ n3_ n4_ n5_ n6_ n7_ n8_ n9_ n10_ n11_ n12_ n13_
                (try clear hb)
                (try clear hb2)
                (try clear hk)
                (try clear hi)
                refine hK.out _ _ ⟨(blk_cell BK257.out 0).trans rfl, (blk_cell BK257.out 1).trans rfl, (blk_cell BK257.out 2).trans rfl, (blk_cell BK257.out 3).trans rfl⟩ (fun hHeld => ?_)
                clear hK K
                refine norm_ (a' := ?_) ?_ ?_
                rotate_left
                ·show Act.put _ (some 95) _ = _
                 simp only [Act.put, List.setIfInBounds_toArray, List.set_cons_zero, List.set_cons_succ, i64_w, i32_w]
                 rfl
                refine pure_ (i := 11) (N := some 19) (v := ?_) (a' := ?_) #[true, true, true, true, true, true, true, true, true, true, true, true] rfl rfl (any_of HT_.out (by kernel_rfl)) (fun _ _ _ h => h) (Or.inl ⟨by rfl, ?_⟩) ?_ ?_
                rotate_left; (intro w'; go_simp; with_reducible rfl); rotate_left; (simp only [Act.put, List.setIfInBounds_toArray, List.set_cons_zero, List.set_cons_succ, i64_w, i32_w]; rfl)
                refine done_ (done_of HT_.out (by kernel_rfl)) ?_
                (try clear hHeld)
                have hnb70 := NB257_229.out
                have hnc70 := NB229_257.out
                have hnb71 := NB257_230.out
                have hnc71 := NB230_257.out
                have hnb72 := NB257_238.out
                have hnc72 := NB238_257.out
                have hcz73_0 : w69.cell? ⟨gb257, 0, none⟩ = some (.int .i64 ((rd_T39 t239 x14_3).f0)) := (blk_cell BK257.out 0).trans rfl
                have hcz73_1 : w69.cell? ⟨gb257, 1, none⟩ = some (.int .i64 ((rd_T39 t239 x14_3).f1)) := (blk_cell BK257.out 1).trans rfl
                have hcz73_2 : w69.cell? ⟨gb257, 2, none⟩ = some (.int .i64 ((rd_T39 t239 x14_3).f2.f0)) := (blk_cell BK257.out 2).trans rfl
                have hcz73_3 : w69.cell? ⟨gb257, 3, none⟩ = some (.string ((rd_T39 t239 x14_3).f2.f1)) := (blk_cell BK257.out 3).trans rfl
                have hfz73_0 := blk_frozen BK257.out 0
                have hfz73_1 := blk_frozen BK257.out 1
                have hfz73_2 := blk_frozen BK257.out 2
                have hfz73_3 := blk_frozen BK257.out 3
                obtain ⟨Ao74, co74, eo74⟩ := Kd.R_slice HO_12.out
                subst eo74
                try go_wp2_with (first | ((with_reducible refine gate_callee (f := 13) rfl ?_); refine goesL_ (some 102) rfl rfl Try.func13 (by kernel_rfl) rfl #[.int .i64 (rd t232 ((rd_T39 t239 x14_3).f0)), .agg #[.int .i64 ((rd_T39 t239 x14_3).f0), .int .i64 ((rd_T39 t239 x14_3).f1), .int .i64 ((rd_T39 t239 x14_3).f2.f0), .string ((rd_T39 t239 x14_3).f2.f1)], .slice Ao63 x17_4.length co63, .slice Ao74 x12_3.length co74] rfl (by (try simp only [List.map_toArray, List.map_cons, List.map_nil]); first | done | rfl | (simp only [List.length_drop, List.length_take]; rfl)) ?_; (with_reducible refine (filter_Select.calls k4 (rd t232 ((rd_T39 t239 x14_3).f0)) ((rd_T39 t239 x14_3).f0) ((rd_T39 t239 x14_3).f1) ((rd_T39 t239 x14_3).f2.f0) ((rd_T39 t239 x14_3).f2.f1) _ _ x17_4 _ _ x12_3 t274 _ ?side1 ?side2 ?side3 ?side4 A61.out).mono ?_); (case side1 => repeat (first | exact (Kd.R_reads' HO_17.out).2.2 | (with_reducible refine Kd.C_alloc ?_ _) | (with_reducible refine Kd.C_drewN ?_ _) | (with_reducible refine Kd.C_drew ?_))); (case side2 => exact (Kd.R_reads' HO_17.out).2.1); (case side3 => repeat (first | exact (Kd.R_reads' HO_12.out).2.2 | (with_reducible refine Kd.C_alloc ?_ _) | (with_reducible refine Kd.C_drewN ?_ _) | (with_reducible refine Kd.C_drew ?_))); (case side4 => exact (Kd.R_reads' HO_12.out).2.1); rintro e w75 ⟨v275, rfl, ho0, hb⟩; refine ⟨_, rfl, ?_⟩; have n0_ := Aside0.mk (Kd.R_below (by (with_reducible repeat (first | apply Kd.R_alloc | apply Kd.R_drewN | apply Kd.R_drew)); exact HO_9.out) hb); have n1_ := Aside0.mk (Kd.N_elder' (by (with_reducible repeat (first | apply Kd.N_alloc | apply Kd.N_drewN | apply Kd.N_drew)); exact HO_10.out) (Kd.R_base ho0) hb); have n2_ := Aside0.mk (Kd.V_elder' (by (with_reducible repeat (first | apply Kd.V_alloc | apply Kd.V_drewN | apply Kd.V_drew)); exact HO_11.out) (Kd.R_base ho0) hb); have n3_ := Aside0.mk (Kd.R_elder' (by (with_reducible repeat (first | apply Kd.R_alloc | apply Kd.R_drewN | apply Kd.R_drew)); exact HO_12.out) (Kd.R_base ho0) hb); have n4_ := Aside0.mk (Kd.R_below (by (with_reducible repeat (first | apply Kd.R_alloc | apply Kd.R_drewN | apply Kd.R_drew)); exact HO_17.out) hb); have n5_ := Aside0.mk (Kd.V_elder' (by (with_reducible repeat (first | apply Kd.V_alloc | apply Kd.V_drewN | apply Kd.V_drew)); exact HO_231001.out) (Kd.R_base ho0) hb); have n6_ := Aside0.mk (Kd.R_elder' (by (with_reducible repeat (first | apply Kd.R_alloc | apply Kd.R_drewN | apply Kd.R_drew)); exact HO_239000.out) (Kd.R_base ho0) hb); have n7_ := Aside0.mk (Kd.R_elder' (by (with_reducible repeat (first | apply Kd.R_alloc | apply Kd.R_drewN | apply Kd.R_drew)); exact HO269.out) (Kd.R_base ho0) hb); have n8_ := Aside0.mk (Kd.R_elder' (by (with_reducible repeat (first | apply Kd.R_alloc | apply Kd.R_drewN | apply Kd.R_drew)); exact HO272.out) (Kd.R_base ho0) hb); have n9_ := Aside0.mk (Kd.R_lower (Kd.R_new' (Kd.R_new' (Kd.R_new' (Kd.R_new' (Kd.R_newM (M := fun k_ => (w.heap.size ≤ k_)) ho0 (below_size (by repeat (first | (with_reducible first | exact HB.out | apply below_alloc | apply pw_below_drewN | apply below_drew1 | refine below_set ?_ GE229.out | refine below_set ?_ GE230.out | refine below_set ?_ GE238.out | refine below_set ?_ GE257.out) | exact HB.out))) (fun k_ h_ => h_)) (Kd.R_lt (by (with_reducible repeat (first | apply Kd.R_alloc | apply Kd.R_drewN | apply Kd.R_drew)); exact HO_12.out))) (Kd.R_lt (by (with_reducible repeat (first | apply Kd.R_alloc | apply Kd.R_drewN | apply Kd.R_drew)); exact HO_239000.out))) (Kd.R_lt (by (with_reducible repeat (first | apply Kd.R_alloc | apply Kd.R_drewN | apply Kd.R_drew)); exact HO269.out))) (Kd.R_lt (by (with_reducible repeat (first | apply Kd.R_alloc | apply Kd.R_drewN | apply Kd.R_drew)); exact HO272.out))) (below_size (by repeat (first | (with_reducible first | exact HB.out | apply below_alloc | apply pw_below_drewN | apply below_drew1 | refine below_set ?_ GE229.out | refine below_set ?_ GE230.out | refine below_set ?_ GE238.out | refine below_set ?_ GE257.out) | exact HB.out)))); have n10_ := Aside0.mk (blk_below (g := gb229) (o := .cells #[.int .u8 a0_0, .int .u8 a0_1, .int .u8 a0_2, .int .u8 a0_3, .int .u8 a0_4, .int .u8 a0_5, .int .u8 a0_6, .int .u8 a0_7, .int .u8 a0_8, .int .u8 a0_9, .int .u8 a0_10, .int .u8 a0_11] 24 (0, 0)) (by (with_reducible repeat (first | refine blk_drewN ?_ _ | refine blk_drew ?_ | refine blk_alloc ?_ _)); exact BK229.out) hb); have n11_ := Aside0.mk (blk_below (g := gb230) (o := .cells #[.slice A2_0 l2_0.length c2_0, .slice A2_1 l2_1.length c2_1] 29 (0, 0)) (by (with_reducible repeat (first | refine blk_drewN ?_ _ | refine blk_drew ?_ | refine blk_alloc ?_ _)); exact BK230.out) hb); have n12_ := Aside0.mk (blk_below (g := gb238) (o := .cells #[.slice (some ad258) t232.length co16, .int .i64 t235, .int .i64 t236, .int .i64 t237] 32 (0, 0)) (by (with_reducible repeat (first | refine blk_drewN ?_ _ | refine blk_drew ?_ | refine blk_alloc ?_ _)); exact BK238.out) hb); have n13_ := Aside0.mk (blk_below (g := gb257) (o := .cells #[.int .i64 ((rd_T39 t239 x14_3).f0), .int .i64 ((rd_T39 t239 x14_3).f1), .int .i64 ((rd_T39 t239 x14_3).f2.f0), .string ((rd_T39 t239 x14_3).f2.f1)] 39 (0, 0)) (by (with_reducible repeat (first | refine blk_drewN ?_ _ | refine blk_drew ?_ | refine blk_alloc ?_ _)); exact BK257.out) hb); have n14_ := Aside0.mk (below_step (by repeat (first | (with_reducible first | exact HB.out | apply below_alloc | apply pw_below_drewN | apply below_drew1 | refine below_set ?_ GE229.out | refine below_set ?_ GE230.out | refine below_set ?_ GE238.out | refine below_set ?_ GE257.out) | exact HB.out)) hb); clear HO_9; clear HO_10; clear HO_11; clear HO_12; clear HO_17; clear HO_231001; clear HO_239000; clear HO269; clear HO272; clear BK229; clear BK230; clear BK238; clear BK257; clear HB; have HO_9 := n0_; have HO_10 := n1_; have HO_11 := n2_; have HO_12 := n3_; have HO_17 := n4_; have HO_231001 := n5_; have HO_239000 := n6_; have HO269 := n7_; have HO272 := n8_; have HO276 := n9_; have BK229 := n10_; have BK230 := n11_; have BK238 := n12_; have BK257 := n13_; have HB := n14_; clear n0_ n1_ n2_ n3_ n4_ n5_ n6_ n7_ n8_ n9_ n10_ n11_ n12_ n13_ n14_; (try clear hb); (try clear hb2); (try clear hk); (try clear hi); (try clear ho0)))
                go_roundg k4
                case measure => have := HJ7.out; have := HK2.out; have := HK3.out; have := HK4.out; omega
                case rel => exact ⟨(t274), (wrap64 (x14_3 + 1)), (by first | rfl | (simp; done) | (simp [*]; done)), (by first | exact H' | (subst_vars; exact H')), ⟨by have := HJ7.out; have := HK2.out; have := HK3.out; have := HK4.out; omega⟩, ⟨by (with_reducible repeat (first | apply Kd.R_alloc | apply Kd.R_drewN | apply Kd.R_drew)); exact Kd.R_mono HO_9.out (fun _ hk => hk.1)⟩, ⟨by (with_reducible repeat (first | apply Kd.N_alloc | apply Kd.N_drewN | apply Kd.N_drew)); exact Kd.N_mono HO_10.out (fun _ hk => ⟨hk.1.1.1.1, ⟨hk.1.1.1.2.1, ⟨hk.2, ⟨hk.1.1.1.2.2.2.2.1, ⟨hk.1.1.1.2.2.2.2.2.1, ⟨hk.1.1.1.2.2.2.2.2.2.1, hk.1.1.1.2.2.2.2.2.2.2.1⟩⟩⟩⟩⟩⟩)⟩, ⟨by (with_reducible repeat (first | apply Kd.V_alloc | apply Kd.V_drewN | apply Kd.V_drew)); exact Kd.V_mono HO_11.out (fun _ hk => ⟨hk.1.1.1.1, ⟨hk.1.1.1.2.1, ⟨hk.1.1.1.2.2.1, ⟨hk.2, ⟨hk.1.1.1.2.2.2.2.2.1, ⟨hk.1.1.1.2.2.2.2.2.2.1, ⟨hk.1.1.1.2.2.2.2.2.2.2.1, hk.1.1.1.2.2.2.2.2.2.2.2.1⟩⟩⟩⟩⟩⟩⟩)⟩, ⟨by (with_reducible repeat (first | apply Kd.R_alloc | apply Kd.R_drewN | apply Kd.R_drew)); exact Kd.R_mono HO276.out (fun _ hk => ⟨hk.1.1.1.1.1, hk.1.1.2⟩)⟩, ⟨by (with_reducible repeat (first | apply Kd.V_alloc | apply Kd.V_drewN | apply Kd.V_drew)); exact Kd.V_mono HO_231001.out (fun _ hk => ⟨hk.1.1.1.1, ⟨hk.1.1.1.2.1, ⟨hk.1.1.1.2.2.1, ⟨hk.2, ⟨hk.1.1.1.2.2.2.2.2.1, ⟨hk.1.1.1.2.2.2.2.2.2.1, ⟨hk.1.1.1.2.2.2.2.2.2.2.1, hk.1.1.1.2.2.2.2.2.2.2.2.1⟩⟩⟩⟩⟩⟩⟩)⟩, ⟨by (with_reducible repeat (first | apply Kd.R_alloc | apply Kd.R_drewN | apply Kd.R_drew)); exact Kd.R_mono HO_239000.out (fun _ hk => ⟨hk.1.1.1.1, hk.2⟩)⟩, ⟨by (with_reducible repeat (first | refine blk_drewN ?_ _ | refine blk_drew ?_ | refine blk_alloc ?_ _)); exact BK229.out⟩, ⟨by (with_reducible repeat (first | refine blk_drewN ?_ _ | refine blk_drew ?_ | refine blk_alloc ?_ _)); exact BK230.out⟩, ⟨by (with_reducible repeat (first | refine blk_drewN ?_ _ | refine blk_drew ?_ | refine blk_alloc ?_ _)); exact BK238.out⟩, ⟨by repeat (first | (with_reducible first | exact HB.out | apply below_alloc | apply pw_below_drewN | apply below_drew1 | refine below_set ?_ GE229.out | refine below_set ?_ GE230.out | refine below_set ?_ GE238.out | refine below_set ?_ GE257.out) | exact HB.out)⟩⟩
               ·replace c60 := Bool.eq_false_iff.mpr c60
                subst c60
                have H1 : (some false) = some r := by rw [if_neg (show ¬ (false = true) by decide)] at H; exact H
                clear H
                have H := H1
                clear H1
                obtain rfl := Option.some.inj H
                try go_wp2
                have n0_ := Aside0.mk (Kd.R_drew HO_9.out)
                have n1_ := Aside0.mk (Kd.N_drew HO_10.out)
                have n2_ := Aside0.mk (Kd.V_drew HO_11.out)
                have n3_ := Aside0.mk (Kd.R_drew HO_12.out)
                have n4_ := Aside0.mk (Kd.R_drew HO_17.out)
                have n5_ := Aside0.mk (Kd.V_drew HO_231001.out)
                have n6_ := Aside0.mk (Kd.R_drew HO_239000.out)
                have n7_ := Aside0.mk (blk_drew BK229.out)
                have n8_ := Aside0.mk (blk_drew BK230.out)
                have n9_ := Aside0.mk (blk_drew BK238.out)
                have n10_ := Aside0.mk (blk_drew BK257.out)
                have n11_ := Aside0.mk (below_drew1 HB.out)
                clear HO_9
                clear HO_10
                clear HO_11
                clear HO_12
                clear HO_17
                clear HO_231001
                clear HO_239000
                clear BK229
                clear BK230
                clear BK238
                clear BK257
                clear HB
                have HO_9 := n0_
                have HO_10 := n1_
                have HO_11 := n2_
                have HO_12 := n3_
                have HO_17 := n4_
                have HO_231001 := n5_
                have HO_239000 := n6_
                have BK229 := n7_
                have BK230 := n8_
                have BK238 := n9_
                have BK257 := n10_
                have HB := n11_
                clear n0_ n1_ n2_ n3_ n4_ n5_ n6_ n7_ n8_ n9_ n10_ n11_
                obtain ⟨Ao77, co77, eo77⟩ := Kd.R_slice HO_17.out
                (first | subst eo77 | (injection eo77 with f1_ f2_ f3_; have f4_ := f1_.symm; have f5_ := f3_.symm; clear f1_ f2_ f3_; subst f4_; subst f5_))
                obtain ⟨Ao78, co78, eo78⟩ := Kd.V_slice HO_11.out
                (first | subst eo78 | (injection eo78 with f1_ f2_ f3_; have f4_ := f1_.symm; have f5_ := f3_.symm; clear f1_ f2_ f3_; subst f4_; subst f5_))
                refine start_ (n := 12) (S := fun w' => w'.cell? ⟨gb257, 0, none⟩ = some (.int .i64 ((rd_T39 t239 x14_3).f0)) ∧ w'.cell? ⟨gb257, 1, none⟩ = some (.int .i64 ((rd_T39 t239 x14_3).f1)) ∧ w'.cell? ⟨gb257, 2, none⟩ = some (.int .i64 ((rd_T39 t239 x14_3).f2.f0)) ∧ w'.cell? ⟨gb257, 3, none⟩ = some (.string ((rd_T39 t239 x14_3).f2.f1))) (ds := []) #[false, false, false, false, false, false, false, false, false, false, false, false] (by kernel_rfl) rfl rfl ⟨(blk_cell BK257.out 0).trans rfl, (blk_cell BK257.out 1).trans rfl, (blk_cell BK257.out 2).trans rfl, (blk_cell BK257.out 3).trans rfl⟩ (fun hHeld => ?_); refine with_tabW thresherlaw19_FilterSelects.tab23 thresherlaw19_FilterSelects.bits23 (fun HT_ HW_ => ?_)
                generalize wr.drew = w76 at HO_9 HO_10 HO_11 HO_12 HO_17 HO_231001 HO_239000 BK229 BK230 BK238 BK257 HB hHeld ⊢
                refine pure_ (i := 0) (N := some 85) (v := ?_) (a' := ?_) #[true, false, false, false, false, false, false, false, false, false, false, false] rfl rfl (any_of HT_.out (by kernel_rfl)) (fun _ _ _ h => h) (Or.inl ⟨by rfl, ?_⟩) ?_ ?_
                rotate_left; (intro w'; go_simp; with_reducible rfl); rotate_left; (simp only [Act.put, List.setIfInBounds_toArray, List.set_cons_zero, List.set_cons_succ, i64_w, i32_w]; rfl)
                refine pure_ (i := 2) (N := some 87) (v := ?_) (a' := ?_) #[true, false, true, false, false, false, false, false, false, false, false, false] rfl rfl (any_of HT_.out (by kernel_rfl)) (fun _ _ _ h => h) (Or.inl ⟨by rfl, ?_⟩) ?_ ?_
                rotate_left; (intro w'; go_simp; with_reducible rfl); rotate_left; (simp only [Act.put, List.setIfInBounds_toArray, List.set_cons_zero, List.set_cons_succ, i64_w, i32_w]; rfl)
                refine pure_ (i := 3) (N := some 88) (v := ?_) (a' := ?_) #[true, false, true, true, false, false, false, false, false, false, false, false] rfl rfl (any_of HT_.out (by kernel_rfl)) (fun _ _ _ h => h) (Or.inl ⟨by rfl, ?_⟩) ?_ ?_
                rotate_left; (intro w'; go_simp; with_reducible rfl); rotate_left; (simp only [Act.put, List.setIfInBounds_toArray, List.set_cons_zero, List.set_cons_succ, i64_w, i32_w]; rfl)
                refine pure_ (i := 5) (N := some 90) (v := ?_) (a' := ?_) #[true, false, true, true, false, true, false, false, false, false, false, false] rfl rfl (any_of HT_.out (by kernel_rfl)) (fun _ _ _ h => h) (Or.inl ⟨by rfl, ?_⟩) ?_ ?_
                rotate_left; (intro w'; go_simp; with_reducible rfl); rotate_left; (simp only [Act.put, List.setIfInBounds_toArray, List.set_cons_zero, List.set_cons_succ, i64_w, i32_w]; rfl)
                refine pure_ (i := 7) (N := some 92) (v := ?_) (a' := ?_) #[true, false, true, true, false, true, false, true, false, false, false, false] rfl rfl (any_of HT_.out (by kernel_rfl)) (fun _ _ _ h => h) (Or.inl ⟨by rfl, ?_⟩) ?_ ?_
                rotate_left; (intro w'; go_simp; with_reducible rfl); rotate_left; (simp only [Act.put, List.setIfInBounds_toArray, List.set_cons_zero, List.set_cons_succ, i64_w, i32_w]; rfl)
                refine pure_ (i := 8) (N := some 93) (v := ?_) (a' := ?_) #[true, false, true, true, false, true, false, true, true, false, false, false] rfl rfl (any_of HT_.out (by kernel_rfl)) (fun _ _ _ h => h) (Or.inl ⟨by rfl, ?_⟩) ?_ ?_
                rotate_left; (intro w'; go_simp; with_reducible rfl); rotate_left; (simp only [Act.put, List.setIfInBounds_toArray, List.set_cons_zero, List.set_cons_succ, i64_w, i32_w]; rfl)
                refine take_ (i := 1) (N := some 86) (v := ?_) (a' := ?_) #[true, true, true, true, false, true, false, true, true, false, false, false] rfl rfl (take_ofW HT_.out HW_.out (by kernel_rfl)) (fun _ _ _ h => h) (Or.inl ⟨by rfl, ?_⟩) hHeld ?_ ?_
                rotate_left; (rintro w' ⟨s0, s1, s2, s3⟩; go_simp; with_reducible rfl); rotate_left; (simp only [Act.put, List.setIfInBounds_toArray, List.set_cons_zero, List.set_cons_succ, i64_w, i32_w]; rfl)
                refine take_ (i := 6) (N := some 91) (v := ?_) (a' := ?_) #[true, true, true, true, false, true, true, true, true, false, false, false] rfl rfl (take_ofW HT_.out HW_.out (by kernel_rfl)) (fun _ _ _ h => h) (Or.inl ⟨by rfl, ?_⟩) hHeld ?_ ?_
                rotate_left; (rintro w' ⟨s0, s1, s2, s3⟩; go_simp; with_reducible rfl); rotate_left; (simp only [Act.put, List.setIfInBounds_toArray, List.set_cons_zero, List.set_cons_succ, i64_w, i32_w]; rfl)
                refine one_ (i := 4) (N := some 89) #[true, true, true, true, true, true, true, true, true, false, false, false] rfl rfl (one_of HT_.out (by kernel_rfl)) (by decide) (fun K hK => ?_)
                refine goes_ Try.func13 (by kernel_rfl) rfl #[.int .i64 (rd t232 ((rd_T39 t239 x14_3).f0)), .agg #[.int .i64 ((rd_T39 t239 x14_3).f0), .int .i64 ((rd_T39 t239 x14_3).f1), .int .i64 ((rd_T39 t239 x14_3).f2.f0), .string ((rd_T39 t239 x14_3).f2.f1)], .slice Ao77 x17_4.length co77, .slice Ao78 x11_7.length co78] (by rfl) rfl rfl (by (try simp only [List.map_toArray, List.map_cons, List.map_nil]); first | done | rfl | (simp only [List.length_drop, List.length_take]; rfl)) ?_
                with_reducible refine (filter_Select.calls k4 (rd t232 ((rd_T39 t239 x14_3).f0)) ((rd_T39 t239 x14_3).f0) ((rd_T39 t239 x14_3).f1) ((rd_T39 t239 x14_3).f2.f0) ((rd_T39 t239 x14_3).f2.f1) _ _ x17_4 _ _ x11_7 t267 _ ?side1 ?side2 ?side3 ?side4 A57.out).mono ?_
                (case side1 => repeat (first | exact (Kd.R_reads' HO_17.out).2.2 | (with_reducible refine Kd.C_alloc ?_ _) | (with_reducible refine Kd.C_drewN ?_ _) | (with_reducible refine Kd.C_drew ?_)))
                (case side2 => exact (Kd.R_reads' HO_17.out).2.1)
                (case side3 => repeat (first | exact (Kd.V_reads' HO_11.out).2.2 | (with_reducible refine Kd.C_alloc ?_ _) | (with_reducible refine Kd.C_drewN ?_ _) | (with_reducible refine Kd.C_drew ?_)))
                (case side4 => exact (Kd.V_reads' HO_11.out).2.1)
                rintro e w79 ⟨v268, rfl, ho0, hb⟩
                refine ⟨_, rfl, ?_⟩
                have n0_ := Aside0.mk (Kd.R_below (by (with_reducible repeat (first | apply Kd.R_alloc | apply Kd.R_drewN | apply Kd.R_drew)); exact HO_9.out) hb)
                have n1_ := Aside0.mk (Kd.N_elder' (by (with_reducible repeat (first | apply Kd.N_alloc | apply Kd.N_drewN | apply Kd.N_drew)); exact HO_10.out) (Kd.R_base ho0) hb)
                have n2_ := Aside0.mk (Kd.V_elder' (by (with_reducible repeat (first | apply Kd.V_alloc | apply Kd.V_drewN | apply Kd.V_drew)); exact HO_11.out) (Kd.R_base ho0) hb)
                have n3_ := Aside0.mk (Kd.R_elder' (by (with_reducible repeat (first | apply Kd.R_alloc | apply Kd.R_drewN | apply Kd.R_drew)); exact HO_12.out) (Kd.R_base ho0) hb)
                have n4_ := Aside0.mk (Kd.R_below (by (with_reducible repeat (first | apply Kd.R_alloc | apply Kd.R_drewN | apply Kd.R_drew)); exact HO_17.out) hb)
                have n5_ := Aside0.mk (Kd.V_elder' (by (with_reducible repeat (first | apply Kd.V_alloc | apply Kd.V_drewN | apply Kd.V_drew)); exact HO_231001.out) (Kd.R_base ho0) hb)
                have n6_ := Aside0.mk (Kd.R_elder' (by (with_reducible repeat (first | apply Kd.R_alloc | apply Kd.R_drewN | apply Kd.R_drew)); exact HO_239000.out) (Kd.R_base ho0) hb)
                have n7_ := Aside0.mk (Kd.R_lower (Kd.R_new' (Kd.R_new' (Kd.R_newM (M := fun k_ => (w.heap.size ≤ k_)) ho0 (below_size (by repeat (first | (with_reducible first | exact HB.out | apply below_alloc | apply pw_below_drewN | apply below_drew1 | refine below_set ?_ GE229.out | refine below_set ?_ GE230.out | refine below_set ?_ GE238.out | refine below_set ?_ GE257.out) | exact HB.out))) (fun k_ h_ => h_)) (Kd.R_lt (by (with_reducible repeat (first | apply Kd.R_alloc | apply Kd.R_drewN | apply Kd.R_drew)); exact HO_12.out))) (Kd.R_lt (by (with_reducible repeat (first | apply Kd.R_alloc | apply Kd.R_drewN | apply Kd.R_drew)); exact HO_239000.out))) (below_size (by repeat (first | (with_reducible first | exact HB.out | apply below_alloc | apply pw_below_drewN | apply below_drew1 | refine below_set ?_ GE229.out | refine below_set ?_ GE230.out | refine below_set ?_ GE238.out | refine below_set ?_ GE257.out) | exact HB.out))))
                have n8_ := Aside0.mk (blk_below (g := gb229) (o := .cells #[.int .u8 a0_0, .int .u8 a0_1, .int .u8 a0_2, .int .u8 a0_3, .int .u8 a0_4, .int .u8 a0_5, .int .u8 a0_6, .int .u8 a0_7, .int .u8 a0_8, .int .u8 a0_9, .int .u8 a0_10, .int .u8 a0_11] 24 (0, 0)) (by (with_reducible repeat (first | refine blk_drewN ?_ _ | refine blk_drew ?_ | refine blk_alloc ?_ _)); exact BK229.out) hb)
                have n9_ := Aside0.mk (blk_below (g := gb230) (o := .cells #[.slice A2_0 l2_0.length c2_0, .slice A2_1 l2_1.length c2_1] 29 (0, 0)) (by (with_reducible repeat (first | refine blk_drewN ?_ _ | refine blk_drew ?_ | refine blk_alloc ?_ _)); exact BK230.out) hb)
                have n10_ := Aside0.mk (blk_below (g := gb238) (o := .cells #[.slice (some ad258) t232.length co16, .int .i64 t235, .int .i64 t236, .int .i64 t237] 32 (0, 0)) (by (with_reducible repeat (first | refine blk_drewN ?_ _ | refine blk_drew ?_ | refine blk_alloc ?_ _)); exact BK238.out) hb)
                have n11_ := Aside0.mk (blk_below (g := gb257) (o := .cells #[.int .i64 ((rd_T39 t239 x14_3).f0), .int .i64 ((rd_T39 t239 x14_3).f1), .int .i64 ((rd_T39 t239 x14_3).f2.f0), .string ((rd_T39 t239 x14_3).f2.f1)] 39 (0, 0)) (by (with_reducible repeat (first | refine blk_drewN ?_ _ | refine blk_drew ?_ | refine blk_alloc ?_ _)); exact BK257.out) hb)
                have n12_ := Aside0.mk (below_step (by repeat (first | (with_reducible first | exact HB.out | apply below_alloc | apply pw_below_drewN | apply below_drew1 | refine below_set ?_ GE229.out | refine below_set ?_ GE230.out | refine below_set ?_ GE238.out | refine below_set ?_ GE257.out) | exact HB.out)) hb)
                clear HO_9
                clear HO_10
                clear HO_11
                clear HO_12
                clear HO_17
                clear HO_231001
                clear HO_239000
                clear BK229
                clear BK230
                clear BK238
                clear BK257
                clear HB
                have HO_9 := n0_
                have HO_10 := n1_
                have HO_11 := n2_
                have HO_12 := n3_
                have HO_17 := n4_
                have HO_231001 := n5_
                have HO_239000 := n6_
                have HO269 := n7_
                have BK229 := n8_
                have BK230 := n9_
                have BK238 := n10_
                have BK257 := n11_
                have HB := n12_
                clear n0_ n1_ n2_ n3_ n4_ n5_ n6_ n7_ n8_ n9_ n10_ n11_ n12_
                (try clear hb)
                (try clear hb2)
                (try clear hk)
                (try clear hi)
                (try clear ho0)
                refine hK.out _ _ ⟨(blk_cell BK257.out 0).trans rfl, (blk_cell BK257.out 1).trans rfl, (blk_cell BK257.out 2).trans rfl, (blk_cell BK257.out 3).trans rfl⟩ (fun hHeld => ?_)
                clear hK K
                refine norm_ (a' := ?_) ?_ ?_
                rotate_left
                ·show Act.put _ (some 89) _ = _
                 simp only [Act.put, List.setIfInBounds_toArray, List.set_cons_zero, List.set_cons_succ, i64_w, i32_w]
                 rfl
                refine one_ (i := 9) (N := some 94) #[true, true, true, true, true, true, true, true, true, true, false, false] rfl rfl (one_of HT_.out (by kernel_rfl)) (by decide) (fun K hK => ?_)
                refine goes_ Try.func14 (by kernel_rfl) rfl #[.int .i64 (rd t232 ((rd_T39 t239 x14_3).f0)), .agg #[.int .i64 ((rd_T39 t239 x14_3).f0), .int .i64 ((rd_T39 t239 x14_3).f1), .int .i64 ((rd_T39 t239 x14_3).f2.f0), .string ((rd_T39 t239 x14_3).f2.f1)], .slice Ao77 x17_4.length co77, .slice Ao78 x11_7.length co78] (by rfl) rfl rfl (by (try simp only [List.map_toArray, List.map_cons, List.map_nil]); first | done | rfl | (simp only [List.length_drop, List.length_take]; rfl)) ?_
                with_reducible refine (thresherref19_Select.calls k4 (rd t232 ((rd_T39 t239 x14_3).f0)) ((rd_T39 t239 x14_3).f0) ((rd_T39 t239 x14_3).f1) ((rd_T39 t239 x14_3).f2.f0) ((rd_T39 t239 x14_3).f2.f1) _ _ x17_4 _ _ x11_7 t270 _ ?side1 ?side2 ?side3 ?side4 A58.out).mono ?_
                (case side1 => repeat (first | exact (Kd.R_reads' HO_17.out).2.2 | (with_reducible refine Kd.C_alloc ?_ _) | (with_reducible refine Kd.C_drewN ?_ _) | (with_reducible refine Kd.C_drew ?_)))
                (case side2 => exact (Kd.R_reads' HO_17.out).2.1)
                (case side3 => repeat (first | exact (Kd.V_reads' HO_11.out).2.2 | (with_reducible refine Kd.C_alloc ?_ _) | (with_reducible refine Kd.C_drewN ?_ _) | (with_reducible refine Kd.C_drew ?_)))
                (case side4 => exact (Kd.V_reads' HO_11.out).2.1)
                rintro e w80 ⟨v271, rfl, ho0, hb⟩
                refine ⟨_, rfl, ?_⟩
                have n0_ := Aside0.mk (Kd.R_below (by (with_reducible repeat (first | apply Kd.R_alloc | apply Kd.R_drewN | apply Kd.R_drew)); exact HO_9.out) hb)
                have n1_ := Aside0.mk (Kd.N_elder' (by (with_reducible repeat (first | apply Kd.N_alloc | apply Kd.N_drewN | apply Kd.N_drew)); exact HO_10.out) (Kd.R_base ho0) hb)
                have n2_ := Aside0.mk (Kd.V_elder' (by (with_reducible repeat (first | apply Kd.V_alloc | apply Kd.V_drewN | apply Kd.V_drew)); exact HO_11.out) (Kd.R_base ho0) hb)
                have n3_ := Aside0.mk (Kd.R_elder' (by (with_reducible repeat (first | apply Kd.R_alloc | apply Kd.R_drewN | apply Kd.R_drew)); exact HO_12.out) (Kd.R_base ho0) hb)
                have n4_ := Aside0.mk (Kd.R_below (by (with_reducible repeat (first | apply Kd.R_alloc | apply Kd.R_drewN | apply Kd.R_drew)); exact HO_17.out) hb)
                have n5_ := Aside0.mk (Kd.V_elder' (by (with_reducible repeat (first | apply Kd.V_alloc | apply Kd.V_drewN | apply Kd.V_drew)); exact HO_231001.out) (Kd.R_base ho0) hb)
                have n6_ := Aside0.mk (Kd.R_elder' (by (with_reducible repeat (first | apply Kd.R_alloc | apply Kd.R_drewN | apply Kd.R_drew)); exact HO_239000.out) (Kd.R_base ho0) hb)
                have n7_ := Aside0.mk (Kd.R_elder' (by (with_reducible repeat (first | apply Kd.R_alloc | apply Kd.R_drewN | apply Kd.R_drew)); exact HO269.out) (Kd.R_base ho0) hb)
                have n8_ := Aside0.mk (Kd.R_lower (Kd.R_new' (Kd.R_new' (Kd.R_new' (Kd.R_newM (M := fun k_ => (w.heap.size ≤ k_)) ho0 (below_size (by repeat (first | (with_reducible first | exact HB.out | apply below_alloc | apply pw_below_drewN | apply below_drew1 | refine below_set ?_ GE229.out | refine below_set ?_ GE230.out | refine below_set ?_ GE238.out | refine below_set ?_ GE257.out) | exact HB.out))) (fun k_ h_ => h_)) (Kd.R_lt (by (with_reducible repeat (first | apply Kd.R_alloc | apply Kd.R_drewN | apply Kd.R_drew)); exact HO_12.out))) (Kd.R_lt (by (with_reducible repeat (first | apply Kd.R_alloc | apply Kd.R_drewN | apply Kd.R_drew)); exact HO_239000.out))) (Kd.R_lt (by (with_reducible repeat (first | apply Kd.R_alloc | apply Kd.R_drewN | apply Kd.R_drew)); exact HO269.out))) (below_size (by repeat (first | (with_reducible first | exact HB.out | apply below_alloc | apply pw_below_drewN | apply below_drew1 | refine below_set ?_ GE229.out | refine below_set ?_ GE230.out | refine below_set ?_ GE238.out | refine below_set ?_ GE257.out) | exact HB.out))))
                have n9_ := Aside0.mk (blk_below (g := gb229) (o := .cells #[.int .u8 a0_0, .int .u8 a0_1, .int .u8 a0_2, .int .u8 a0_3, .int .u8 a0_4, .int .u8 a0_5, .int .u8 a0_6, .int .u8 a0_7, .int .u8 a0_8, .int .u8 a0_9, .int .u8 a0_10, .int .u8 a0_11] 24 (0, 0)) (by (with_reducible repeat (first | refine blk_drewN ?_ _ | refine blk_drew ?_ | refine blk_alloc ?_ _)); exact BK229.out) hb)
                have n10_ := Aside0.mk (blk_below (g := gb230) (o := .cells #[.slice A2_0 l2_0.length c2_0, .slice A2_1 l2_1.length c2_1] 29 (0, 0)) (by (with_reducible repeat (first | refine blk_drewN ?_ _ | refine blk_drew ?_ | refine blk_alloc ?_ _)); exact BK230.out) hb)
                have n11_ := Aside0.mk (blk_below (g := gb238) (o := .cells #[.slice (some ad258) t232.length co16, .int .i64 t235, .int .i64 t236, .int .i64 t237] 32 (0, 0)) (by (with_reducible repeat (first | refine blk_drewN ?_ _ | refine blk_drew ?_ | refine blk_alloc ?_ _)); exact BK238.out) hb)
                have n12_ := Aside0.mk (blk_below (g := gb257) (o := .cells #[.int .i64 ((rd_T39 t239 x14_3).f0), .int .i64 ((rd_T39 t239 x14_3).f1), .int .i64 ((rd_T39 t239 x14_3).f2.f0), .string ((rd_T39 t239 x14_3).f2.f1)] 39 (0, 0)) (by (with_reducible repeat (first | refine blk_drewN ?_ _ | refine blk_drew ?_ | refine blk_alloc ?_ _)); exact BK257.out) hb)
                have n13_ := Aside0.mk (below_step (by repeat (first | (with_reducible first | exact HB.out | apply below_alloc | apply pw_below_drewN | apply below_drew1 | refine below_set ?_ GE229.out | refine below_set ?_ GE230.out | refine below_set ?_ GE238.out | refine below_set ?_ GE257.out) | exact HB.out)) hb)
                clear HO_9
                clear HO_10
                clear HO_11
                clear HO_12
                clear HO_17
                clear HO_231001
                clear HO_239000
                clear HO269
                clear BK229
                clear BK230
                clear BK238
                clear BK257
                clear HB
                have HO_9 := n0_
                have HO_10 := n1_
                have HO_11 := n2_
                have HO_12 := n3_
                have HO_17 := n4_
                have HO_231001 := n5_
                have HO_239000 := n6_
                have HO269 := n7_
                have HO272 := n8_
                have BK229 := n9_
                have BK230 := n10_
                have BK238 := n11_
                have BK257 := n12_
                have HB := n13_
                clear n0_ n1_ n2_ n3_ n4_ n5_ n6_ n7_ n8_ n9_ n10_ n11_ n12_ n13_
                (try clear hb)
                (try clear hb2)
                (try clear hk)
                (try clear hi)
                (try clear ho0)
                obtain ⟨Ao81, co81, eo81⟩ := Kd.R_slice HO269.out
                (first | subst eo81 | (injection eo81 with f1_ f2_ f3_; have f4_ := f1_.symm; have f5_ := f3_.symm; clear f1_ f2_ f3_; subst f4_; subst f5_))
                obtain ⟨Ao82, co82, eo82⟩ := Kd.R_slice HO272.out
                (first | subst eo82 | (injection eo82 with f1_ f2_ f3_; have f4_ := f1_.symm; have f5_ := f3_.symm; clear f1_ f2_ f3_; subst f4_; subst f5_))
                refine hK.out _ _ ⟨(blk_cell BK257.out 0).trans rfl, (blk_cell BK257.out 1).trans rfl, (blk_cell BK257.out 2).trans rfl, (blk_cell BK257.out 3).trans rfl⟩ (fun hHeld => ?_)
                clear hK K
                refine norm_ (a' := ?_) ?_ ?_
                rotate_left
                ·show Act.put _ (some 94) _ = _
                 simp only [Act.put, List.setIfInBounds_toArray, List.set_cons_zero, List.set_cons_succ, i64_w, i32_w]
                 rfl
                refine one_ (i := 10) (N := some 95) #[true, true, true, true, true, true, true, true, true, true, true, false] rfl rfl (one_of HT_.out (by kernel_rfl)) (by decide) (fun K hK => ?_)
                refine goes_ Try.func12 (by kernel_rfl) rfl #[.slice Ao81 t267.length co81, .slice Ao82 t270.length co82] (by rfl) rfl rfl (by (try simp only [List.map_toArray, List.map_cons, List.map_nil]); first | done | rfl | (simp only [List.length_drop, List.length_take]; rfl)) ?_
                with_reducible refine (thresherref15_Same.calls k4 _ _ t267 _ _ t270 false _ ?side1 ?side2 ?side3 ?side4 A59.out).mono ?_
                (case side1 => repeat (first | exact (Kd.R_reads' HO269.out).2.2 | (with_reducible refine Kd.C_alloc ?_ _) | (with_reducible refine Kd.C_drewN ?_ _) | (with_reducible refine Kd.C_drew ?_)))
                (case side2 => exact (Kd.R_reads' HO269.out).2.1)
                (case side3 => repeat (first | exact (Kd.R_reads' HO272.out).2.2 | (with_reducible refine Kd.C_alloc ?_ _) | (with_reducible refine Kd.C_drewN ?_ _) | (with_reducible refine Kd.C_drew ?_)))
                (case side4 => exact (Kd.R_reads' HO272.out).2.1)
                rintro e w83 ⟨rfl, hb⟩
                refine ⟨_, rfl, ?_⟩
                have n0_ := Aside0.mk (Kd.R_below (by (with_reducible repeat (first | apply Kd.R_alloc | apply Kd.R_drewN | apply Kd.R_drew)); exact HO_9.out) hb)
                have n1_ := Aside0.mk (Kd.N_below (by (with_reducible repeat (first | apply Kd.N_alloc | apply Kd.N_drewN | apply Kd.N_drew)); exact HO_10.out) hb)
                have n2_ := Aside0.mk (Kd.V_below (by (with_reducible repeat (first | apply Kd.V_alloc | apply Kd.V_drewN | apply Kd.V_drew)); exact HO_11.out) hb)
                have n3_ := Aside0.mk (Kd.R_below (by (with_reducible repeat (first | apply Kd.R_alloc | apply Kd.R_drewN | apply Kd.R_drew)); exact HO_12.out) hb)
                have n4_ := Aside0.mk (Kd.R_below (by (with_reducible repeat (first | apply Kd.R_alloc | apply Kd.R_drewN | apply Kd.R_drew)); exact HO_17.out) hb)
                have n5_ := Aside0.mk (Kd.V_below (by (with_reducible repeat (first | apply Kd.V_alloc | apply Kd.V_drewN | apply Kd.V_drew)); exact HO_231001.out) hb)
                have n6_ := Aside0.mk (Kd.R_below (by (with_reducible repeat (first | apply Kd.R_alloc | apply Kd.R_drewN | apply Kd.R_drew)); exact HO_239000.out) hb)
                have n7_ := Aside0.mk (Kd.R_below (by (with_reducible repeat (first | apply Kd.R_alloc | apply Kd.R_drewN | apply Kd.R_drew)); exact HO269.out) hb)
                have n8_ := Aside0.mk (Kd.R_below (by (with_reducible repeat (first | apply Kd.R_alloc | apply Kd.R_drewN | apply Kd.R_drew)); exact HO272.out) hb)
                have n9_ := Aside0.mk (blk_below (g := gb229) (o := .cells #[.int .u8 a0_0, .int .u8 a0_1, .int .u8 a0_2, .int .u8 a0_3, .int .u8 a0_4, .int .u8 a0_5, .int .u8 a0_6, .int .u8 a0_7, .int .u8 a0_8, .int .u8 a0_9, .int .u8 a0_10, .int .u8 a0_11] 24 (0, 0)) (by (with_reducible repeat (first | refine blk_drewN ?_ _ | refine blk_drew ?_ | refine blk_alloc ?_ _)); exact BK229.out) hb)
                have n10_ := Aside0.mk (blk_below (g := gb230) (o := .cells #[.slice A2_0 l2_0.length c2_0, .slice A2_1 l2_1.length c2_1] 29 (0, 0)) (by (with_reducible repeat (first | refine blk_drewN ?_ _ | refine blk_drew ?_ | refine blk_alloc ?_ _)); exact BK230.out) hb)
                have n11_ := Aside0.mk (blk_below (g := gb238) (o := .cells #[.slice (some ad258) t232.length co16, .int .i64 t235, .int .i64 t236, .int .i64 t237] 32 (0, 0)) (by (with_reducible repeat (first | refine blk_drewN ?_ _ | refine blk_drew ?_ | refine blk_alloc ?_ _)); exact BK238.out) hb)
                have n12_ := Aside0.mk (blk_below (g := gb257) (o := .cells #[.int .i64 ((rd_T39 t239 x14_3).f0), .int .i64 ((rd_T39 t239 x14_3).f1), .int .i64 ((rd_T39 t239 x14_3).f2.f0), .string ((rd_T39 t239 x14_3).f2.f1)] 39 (0, 0)) (by (with_reducible repeat (first | refine blk_drewN ?_ _ | refine blk_drew ?_ | refine blk_alloc ?_ _)); exact BK257.out) hb)
                have n13_ := Aside0.mk (below_step (by repeat (first | (with_reducible first | exact HB.out | apply below_alloc | apply pw_below_drewN | apply below_drew1 | refine below_set ?_ GE229.out | refine below_set ?_ GE230.out | refine below_set ?_ GE238.out | refine below_set ?_ GE257.out) | exact HB.out)) hb)
                clear HO_9
                clear HO_10
                clear HO_11
                clear HO_12
                clear HO_17
                clear HO_231001
                clear HO_239000
                clear HO269
                clear HO272
                clear BK229
                clear BK230
                clear BK238
                clear BK257
                clear HB
                have HO_9 := n0_
                have HO_10 := n1_
                have HO_11 := n2_
                have HO_12 := n3_
                have HO_17 := n4_
                have HO_231001 := n5_
                have HO_239000 := n6_
                have HO269 := n7_
                have HO272 := n8_
                have BK229 := n9_
                have BK230 := n10_
                have BK238 := n11_
                have BK257 := n12_
                have HB := n13_
                clear n0_ n1_ n2_ n3_ n4_ n5_ n6_ n7_ n8_ n9_ n10_ n11_ n12_ n13_
                (try clear hb)
                (try clear hb2)
                (try clear hk)
                (try clear hi)
                refine hK.out _ _ ⟨(blk_cell BK257.out 0).trans rfl, (blk_cell BK257.out 1).trans rfl, (blk_cell BK257.out 2).trans rfl, (blk_cell BK257.out 3).trans rfl⟩ (fun hHeld => ?_)
                clear hK K
                refine norm_ (a' := ?_) ?_ ?_
                rotate_left
                ·show Act.put _ (some 95) _ = _
                 simp only [Act.put, List.setIfInBounds_toArray, List.set_cons_zero, List.set_cons_succ, i64_w, i32_w]
                 rfl
                refine pure_ (i := 11) (N := some 19) (v := ?_) (a' := ?_) #[true, true, true, true, true, true, true, true, true, true, true, true] rfl rfl (any_of HT_.out (by kernel_rfl)) (fun _ _ _ h => h) (Or.inl ⟨by rfl, ?_⟩) ?_ ?_
                rotate_left; (intro w'; go_simp; with_reducible rfl); rotate_left; (simp only [Act.put, List.setIfInBounds_toArray, List.set_cons_zero, List.set_cons_succ, i64_w, i32_w]; rfl)
                refine done_ (done_of HT_.out (by kernel_rfl)) ?_
                (try clear hHeld)
                try go_wp2
                go_ret
                exact ⟨by first | rfl | (simp [errW_none, errW_some] <;> rfl) | (simp [*, errW_none, errW_some] <;> rfl), by repeat (first | (with_reducible first | exact HB.out | apply below_alloc | apply pw_below_drewN | apply below_drew1 | refine below_set ?_ GE229.out | refine below_set ?_ GE230.out | refine below_set ?_ GE238.out | refine below_set ?_ GE257.out) | exact HB.out)⟩
           ·rw [if_neg c38] at H
            exact absurd H (by simp)
          ·rw [if_neg c37] at H
           exact absurd H (by simp)
         ·rw [if_neg c36] at H
          exact absurd H (by simp)
        ·rw [if_neg c35] at H
         have c35b0 : decide (x14_3 < (t239.length : Int)) = false := decide_eq_false c35
         clear c35
         replace H := Option.bind_eq_some_iff.mp H
         obtain ⟨t277, A840, H⟩ := H
         replace H : (if (t277.length : Int) = (x12_3.length : Int) then (thresherlaw19_FilterSelects.l3 k3 t231 t242 x12_3 t277 0) else (some false)) = some r := H
         have A84 := Aside0.mk A840
         clear A840
         by_cases c85 : (t277.length : Int) = (x12_3.length : Int)
         ·rw [if_pos c85] at H
          have c85b0 : ((t277.length : Int) == (x12_3.length : Int)) = true := beq_iff_eq.mpr c85
          have c85b1 : ((t277.length : Int) != (x12_3.length : Int)) = false := bne_eq_false_iff_eq.mpr c85
          have c85b2 : (t277.length == x12_3.length) = true := by first | simpa using c85 | (simp at c85 ⊢; omega)
          clear c85
          have H' := Aside0.mk H
          clear H
          obtain ⟨Ao86, co86, eo86⟩ := Kd.R_slice HO_9.out
          subst eo86
          have hnb87 := NB238_229.out
          have hnc87 := NB229_238.out
          have hnb88 := NB238_230.out
          have hnc88 := NB230_238.out
          have hcz89_0 : wr.cell? ⟨gb238, 0, none⟩ = some (.slice Ao16 t232.length co16) := (blk_cell BK238.out 0).trans rfl
          have hcz89_1 : wr.cell? ⟨gb238, 1, none⟩ = some (.int .i64 t235) := (blk_cell BK238.out 1).trans rfl
          have hcz89_2 : wr.cell? ⟨gb238, 2, none⟩ = some (.int .i64 t236) := (blk_cell BK238.out 2).trans rfl
          have hcz89_3 : wr.cell? ⟨gb238, 3, none⟩ = some (.int .i64 t237) := (blk_cell BK238.out 3).trans rfl
          have hfz89_0 := blk_frozen BK238.out 0
          have hfz89_1 := blk_frozen BK238.out 1
          have hfz89_2 := blk_frozen BK238.out 2
          have hfz89_3 := blk_frozen BK238.out 3
          go_wp2_with (first | ((with_reducible refine gate_callee (f := 15) rfl ?_); refine goesL_ (some 106) rfl rfl Try.func15 (by kernel_rfl) rfl #[.agg #[.slice Ao16 t232.length co16, .int .i64 t235, .int .i64 t236, .int .i64 t237], .slice Ao86 t239.length co86, .slice Ao34 t242.length co34] rfl (by (try simp only [List.map_toArray, List.map_cons, List.map_nil]); first | done | rfl | (simp only [List.length_drop, List.length_take]; rfl)) ?_; (with_reducible refine (filter_Keep.calls k3 _ _ t232 t235 t236 t237 _ _ t239 (fun k_ => ((P2_1_ k_ ∨ w.heap.size ≤ k_) ∧ (some k_ ≠ (.slice Ao86 t239.length co86 : Value).ownBlock ∧ (some k_ ≠ (u12 : Value).ownBlock ∧ (some k_ ≠ (.slice Ao16 t232.length co16 : Value).ownBlock ∧ (k_ ≠ gb229 ∧ (k_ ≠ gb230 ∧ k_ ≠ gb238))))))) _ _ t242 t277 _ ?side1 ?side2 ?side3 ?side4 ?side5 A84.out).mono ?_); (case side1 => repeat (first | exact (Kd.R_reads' HO_239000.out).2.2 | (with_reducible refine Kd.C_alloc ?_ _) | (with_reducible refine Kd.C_drewN ?_ _) | (with_reducible refine Kd.C_drew ?_))); (case side2 => exact (Kd.R_reads' HO_239000.out).2.1); (case side3 => repeat (first | exact (Kd.R_reads' HO_9.out).2.2 | (with_reducible refine Kd.C_alloc ?_ _) | (with_reducible refine Kd.C_drewN ?_ _) | (with_reducible refine Kd.C_drew ?_))); (case side4 => exact (Kd.R_reads' HO_9.out).2.1); (case side5 => exact Kd.N_V (HO_10.out)); rintro e w90 ⟨v278, rfl, ho0, hb⟩; refine ⟨_, rfl, ?_⟩; have n0_ := Aside0.mk (Kd.R_below (by (with_reducible repeat (first | apply Kd.R_alloc | apply Kd.R_drewN | apply Kd.R_drew)); exact HO_9.out) hb); have n1_ := Aside0.mk (Kd.N_elder' (by (with_reducible repeat (first | apply Kd.N_alloc | apply Kd.N_drewN | apply Kd.N_drew)); exact HO_10.out) (by first | exact Kd.N_base ho0 | exact Kd.S_base ho0) hb); have n2_ := Aside0.mk (Kd.V_elder' (by (with_reducible repeat (first | apply Kd.V_alloc | apply Kd.V_drewN | apply Kd.V_drew)); exact HO_11.out) (by first | exact Kd.N_base ho0 | exact Kd.S_base ho0) hb); have n3_ := Aside0.mk (Kd.R_below (by (with_reducible repeat (first | apply Kd.R_alloc | apply Kd.R_drewN | apply Kd.R_drew)); exact HO_12.out) hb); have n4_ := Aside0.mk (Kd.V_elder' (by (with_reducible repeat (first | apply Kd.V_alloc | apply Kd.V_drewN | apply Kd.V_drew)); exact HO_231001.out) (by first | exact Kd.N_base ho0 | exact Kd.S_base ho0) hb); have n5_ := Aside0.mk (Kd.R_below (by (with_reducible repeat (first | apply Kd.R_alloc | apply Kd.R_drewN | apply Kd.R_drew)); exact HO_239000.out) hb); have n6_ := Aside0.mk (Kd.N_lower (Kd.N_mono (ok' := fun k_ => (P2_1_ k_ ∨ w.heap.size ≤ k_) ∧ some k_ ≠ (.slice Ao86 t239.length co86 : Value).ownBlock ∧ some k_ ≠ (u12 : Value).ownBlock ∧ some k_ ≠ (.slice Ao16 t232.length co16 : Value).ownBlock ∧ k_ ≠ gb229 ∧ k_ ≠ gb230 ∧ k_ ≠ gb238) ho0 (fun k_ hk_ => ⟨Or.elim hk_ (fun hs_ => hs_.1) (fun hn_ => (.inr (Nat.le_trans (below_size (by repeat (first | (with_reducible first | exact HB.out | apply below_alloc | apply pw_below_drewN | apply below_drew1 | refine below_set ?_ GE229.out | refine below_set ?_ GE230.out | refine below_set ?_ GE238.out) | exact HB.out))) hn_))), Or.elim hk_ (fun hs_ => hs_.2.1) (fun hn_ => (Kd.fresh' (Kd.R_lt (by (with_reducible repeat (first | apply Kd.R_alloc | apply Kd.R_drewN | apply Kd.R_drew)); exact HO_9.out)) k_ hn_)), Or.elim hk_ (fun hs_ => hs_.2.2.1) (fun hn_ => (Kd.fresh' (Kd.R_lt (by (with_reducible repeat (first | apply Kd.R_alloc | apply Kd.R_drewN | apply Kd.R_drew)); exact HO_12.out)) k_ hn_)), Or.elim hk_ (fun hs_ => hs_.2.2.2.1) (fun hn_ => (Kd.fresh' (Kd.R_lt (by (with_reducible repeat (first | apply Kd.R_alloc | apply Kd.R_drewN | apply Kd.R_drew)); exact HO_239000.out)) k_ hn_)), Or.elim hk_ (fun hs_ => hs_.2.2.2.2.1) (fun hn_ => (Kd.freshB (g := gb229) (o := .cells #[.int .u8 a0_0, .int .u8 a0_1, .int .u8 a0_2, .int .u8 a0_3, .int .u8 a0_4, .int .u8 a0_5, .int .u8 a0_6, .int .u8 a0_7, .int .u8 a0_8, .int .u8 a0_9, .int .u8 a0_10, .int .u8 a0_11] 24 (0, 0)) (by (with_reducible repeat (first | refine blk_drewN ?_ _ | refine blk_drew ?_ | refine blk_alloc ?_ _)); exact BK229.out) k_ hn_)), Or.elim hk_ (fun hs_ => hs_.2.2.2.2.2.1) (fun hn_ => (Kd.freshB (g := gb230) (o := .cells #[.slice A2_0 l2_0.length c2_0, .slice A2_1 l2_1.length c2_1] 29 (0, 0)) (by (with_reducible repeat (first | refine blk_drewN ?_ _ | refine blk_drew ?_ | refine blk_alloc ?_ _)); exact BK230.out) k_ hn_)), Or.elim hk_ (fun hs_ => hs_.2.2.2.2.2.2) (fun hn_ => (Kd.freshB (g := gb238) (o := .cells #[.slice Ao16 t232.length co16, .int .i64 t235, .int .i64 t236, .int .i64 t237] 32 (0, 0)) (by (with_reducible repeat (first | refine blk_drewN ?_ _ | refine blk_drew ?_ | refine blk_alloc ?_ _)); exact BK238.out) k_ hn_))⟩)) (below_size (by repeat (first | (with_reducible first | exact HB.out | apply below_alloc | apply pw_below_drewN | apply below_drew1 | refine below_set ?_ GE229.out | refine below_set ?_ GE230.out | refine below_set ?_ GE238.out) | exact HB.out)))); have n7_ := Aside0.mk (blk_below (g := gb229) (o := .cells #[.int .u8 a0_0, .int .u8 a0_1, .int .u8 a0_2, .int .u8 a0_3, .int .u8 a0_4, .int .u8 a0_5, .int .u8 a0_6, .int .u8 a0_7, .int .u8 a0_8, .int .u8 a0_9, .int .u8 a0_10, .int .u8 a0_11] 24 (0, 0)) (by (with_reducible repeat (first | refine blk_drewN ?_ _ | refine blk_drew ?_ | refine blk_alloc ?_ _)); exact BK229.out) hb); have n8_ := Aside0.mk (blk_below (g := gb230) (o := .cells #[.slice A2_0 l2_0.length c2_0, .slice A2_1 l2_1.length c2_1] 29 (0, 0)) (by (with_reducible repeat (first | refine blk_drewN ?_ _ | refine blk_drew ?_ | refine blk_alloc ?_ _)); exact BK230.out) hb); have n9_ := Aside0.mk (blk_below (g := gb238) (o := .cells #[.slice Ao16 t232.length co16, .int .i64 t235, .int .i64 t236, .int .i64 t237] 32 (0, 0)) (by (with_reducible repeat (first | refine blk_drewN ?_ _ | refine blk_drew ?_ | refine blk_alloc ?_ _)); exact BK238.out) hb); have n10_ := Aside0.mk (below_step (by repeat (first | (with_reducible first | exact HB.out | apply below_alloc | apply pw_below_drewN | apply below_drew1 | refine below_set ?_ GE229.out | refine below_set ?_ GE230.out | refine below_set ?_ GE238.out) | exact HB.out)) hb); clear HO_9; clear HO_10; clear HO_11; clear HO_12; clear HO_231001; clear HO_239000; clear BK229; clear BK230; clear BK238; clear HB; have HO_9 := n0_; have HO_10 := n1_; have HO_11 := n2_; have HO_12 := n3_; have HO_231001 := n4_; have HO_239000 := n5_; have HO279 := n6_; have BK229 := n7_; have BK230 := n8_; have BK238 := n9_; have HB := n10_; clear n0_ n1_ n2_ n3_ n4_ n5_ n6_ n7_ n8_ n9_ n10_; (try clear hb); (try clear hb2); (try clear hk); (try clear hi); (try clear ho0); obtain ⟨Ao91, co91, eo91⟩ := Kd.N_slice HO279.out; subst eo91; obtain ⟨Ao92, co92, eo92⟩ := Kd.R_slice HO_12.out; subst eo92))
          go_loopg [21] k3 (fun kq v21 w' => ∃ (x21_4 : Int), v21 = .int .i64 x21_4 ∧ Aside0 (thresherlaw19_FilterSelects.l3 kq t231 t242 x12_3 t277 x21_4 = some r) ∧ Aside0 (kq ≤ k3) ∧ Aside0 (Kd.N (Kd.slice 37 k37) 41 w' w.heap.size (fun k_ => (P2_1_ k_ ∨ w.heap.size ≤ k_) ∧ some k_ ≠ ((.slice Ao92 x12_3.length co92) : Value).ownBlock ∧ some k_ ≠ ((.slice Ao91 t277.length co91) : Value).ownBlock ∧ some k_ ≠ ((.slice Ao16 t232.length co16) : Value).ownBlock ∧ k_ ≠ gb229 ∧ k_ ≠ gb230 ∧ k_ ≠ gb238) (.slice Ao34 t242.length co34) t242) ∧ Aside0 (Kd.R (Kd.int .i64) 3 w' w.heap.size (fun k_ => (w.heap.size ≤ k_) ∧ some k_ ≠ ((.slice Ao16 t232.length co16) : Value).ownBlock) (.slice Ao92 x12_3.length co92) x12_3) ∧ Aside0 (Kd.N (Kd.slice 37 k37) 41 w' w.heap.size (fun k_ => (P2_1_ k_ ∨ w.heap.size ≤ k_) ∧ some k_ ≠ ((.slice Ao92 x12_3.length co92) : Value).ownBlock ∧ some k_ ≠ ((.slice Ao16 t232.length co16) : Value).ownBlock ∧ k_ ≠ gb229 ∧ k_ ≠ gb230 ∧ k_ ≠ gb238) (.slice Ao91 t277.length co91) t277) ∧ Aside0 (Kd.V (Kd.int .i64) 3 w' w.heap.size (fun k_ => (P2_1_ k_ ∨ w.heap.size ≤ k_) ∧ some k_ ≠ ((.slice Ao34 t242.length co34) : Value).ownBlock ∧ some k_ ≠ ((.slice Ao92 x12_3.length co92) : Value).ownBlock ∧ some k_ ≠ ((.slice Ao91 t277.length co91) : Value).ownBlock ∧ some k_ ≠ ((.slice Ao16 t232.length co16) : Value).ownBlock ∧ k_ ≠ gb229 ∧ k_ ≠ gb230 ∧ k_ ≠ gb238) (.slice A2_1 l2_1.length c2_1) l2_1) ∧ Aside0 (Kd.R (Kd.int .i64) 3 w' w.heap.size (fun k_ => (w.heap.size ≤ k_) ∧ some k_ ≠ ((.slice Ao92 x12_3.length co92) : Value).ownBlock) (.slice Ao16 t232.length co16) t232) ∧ Aside0 (w'.heap[gb229]? = some (.cells #[.int .u8 a0_0, .int .u8 a0_1, .int .u8 a0_2, .int .u8 a0_3, .int .u8 a0_4, .int .u8 a0_5, .int .u8 a0_6, .int .u8 a0_7, .int .u8 a0_8, .int .u8 a0_9, .int .u8 a0_10, .int .u8 a0_11] 24 (0, 0))) ∧ Aside0 (w'.heap[gb230]? = some (.cells #[(.slice A2_0 l2_0.length c2_0), (.slice A2_1 l2_1.length c2_1)] 29 (0, 0))) ∧ Aside0 (w'.heap[gb238]? = some (.cells #[(.slice Ao16 t232.length co16), .int .i64 t235, .int .i64 t236, .int .i64 t237] 32 (0, 0))) ∧ Aside0 (Below w.heap.size w w'))
          case atStart => exact ⟨(0), (by first | rfl | (simp; done) | (simp [*]; done)), H', ⟨Nat.le_refl _⟩, ⟨by (with_reducible repeat (first | apply Kd.N_alloc | apply Kd.N_drewN | apply Kd.N_drew)); exact Kd.N_mono HO_10.out (fun _ hk => ⟨hk.1.1, ⟨hk.1.2.2.1, ⟨hk.2, ⟨hk.1.2.2.2.1, ⟨hk.1.2.2.2.2.1, ⟨hk.1.2.2.2.2.2.1, hk.1.2.2.2.2.2.2⟩⟩⟩⟩⟩⟩)⟩, ⟨by (with_reducible repeat (first | apply Kd.R_alloc | apply Kd.R_drewN | apply Kd.R_drew)); exact HO_12.out⟩, ⟨by (with_reducible repeat (first | apply Kd.N_alloc | apply Kd.N_drewN | apply Kd.N_drew)); exact Kd.N_mono HO279.out (fun _ hk => ⟨hk.1, ⟨hk.2.2.1, ⟨hk.2.2.2.1, ⟨hk.2.2.2.2.1, ⟨hk.2.2.2.2.2.1, hk.2.2.2.2.2.2⟩⟩⟩⟩⟩)⟩, ⟨by (with_reducible repeat (first | apply Kd.V_alloc | apply Kd.V_drewN | apply Kd.V_drew)); exact Kd.V_mono HO_231001.out (fun _ hk => ⟨hk.1.1, ⟨hk.1.2.2.1, ⟨hk.1.2.2.2.1, ⟨hk.2, ⟨hk.1.2.2.2.2.1, ⟨hk.1.2.2.2.2.2.1, ⟨hk.1.2.2.2.2.2.2.1, hk.1.2.2.2.2.2.2.2⟩⟩⟩⟩⟩⟩⟩)⟩, ⟨by (with_reducible repeat (first | apply Kd.R_alloc | apply Kd.R_drewN | apply Kd.R_drew)); exact HO_239000.out⟩, ⟨by (with_reducible repeat (first | refine blk_drewN ?_ _ | refine blk_drew ?_ | refine blk_alloc ?_ _)); exact BK229.out⟩, ⟨by (with_reducible repeat (first | refine blk_drewN ?_ _ | refine blk_drew ?_ | refine blk_alloc ?_ _)); exact BK230.out⟩, ⟨by (with_reducible repeat (first | refine blk_drewN ?_ _ | refine blk_drew ?_ | refine blk_alloc ?_ _)); exact BK238.out⟩, ⟨by repeat (first | (with_reducible first | exact HB.out | apply below_alloc | apply pw_below_drewN | apply below_drew1 | refine below_set ?_ GE229.out | refine below_set ?_ GE230.out | refine below_set ?_ GE238.out) | exact HB.out)⟩⟩
          case round =>
           clear H'
           try clear c1
           try clear c2
           try clear p2
           try clear c3
           try clear c6
           try clear p6
           try clear c7
           try clear c8
           try clear c12
           try clear c13
           try clear c14
           try clear c15
           try clear c35
           try clear c35b0
           try clear c36
           try clear c37
           try clear c38
           try clear c60
           try clear p64
           try clear c70
           try clear c71
           try clear c72
           try clear c85
           try clear c85b0
           try clear c85b1
           try clear c85b2
           try clear c87
           try clear c88
           try clear hcz73_0
           try clear hcz73_1
           try clear hcz73_2
           try clear hcz73_3
           try clear hcz89_0
           try clear hcz89_1
           try clear hcz89_2
           try clear hcz89_3
           try clear hfz73_0
           try clear hfz73_1
           try clear hfz73_2
           try clear hfz73_3
           try clear hfz89_0
           try clear hfz89_1
           try clear hfz89_2
           try clear hfz89_3
           obtain ⟨x21_4, rfl, HA, HK4, HO_10, HO_12, HO_20, HO_231001, HO_239000, BK229, BK230, BK238, HB⟩ := hrel
           cases gk with
           | zero => exact absurd HA.out (by simp [thresherlaw19_FilterSelects.l3])
           | succ k4 =>
            have H := HA.out
            clear HA
            simp only [thresherlaw19_FilterSelects.l3] at H
            by_cases c93 : x21_4 < (x12_3.length : Int)
            ·rw [if_pos c93] at H
             have c93b0 : decide (x21_4 < (x12_3.length : Int)) = true := decide_eq_true c93
             clear c93
             by_cases c94 : 0 ≤ x21_4
             ·rw [if_pos c94] at H
              have c94b0 : decide (0 ≤ x21_4) = true := decide_eq_true c94
              clear c94
              by_cases c95 : x21_4 < (t277.length : Int)
              ·rw [if_pos c95] at H
               have c95b0 : decide (x21_4 < (t277.length : Int)) = true := decide_eq_true c95
               clear c95
               by_cases c96 : 0 ≤ (rd x12_3 x21_4)
               ·rw [if_pos c96] at H
                have c96b0 : decide (0 ≤ (rd x12_3 x21_4)) = true := decide_eq_true c96
                clear c96
                by_cases c97 : (rd x12_3 x21_4) < (t242.length : Int)
                ·rw [if_pos c97] at H
                 have c97b0 : decide ((rd x12_3 x21_4) < (t242.length : Int)) = true := decide_eq_true c97
                 clear c97
                 replace H := Option.bind_eq_some_iff.mp H
                 obtain ⟨t283, A980, H⟩ := H
                 replace H : (if t283 = true then (thresherlaw19_FilterSelects.l3 k4 t231 t242 x12_3 t277 (wrap64 (x21_4 + 1))) else (some false)) = some r := H
                 have A98 := Aside0.mk A980
                 clear A980
                 by_cases c99 : t283 = true
                 ·subst c99
                  have H1 : (thresherlaw19_FilterSelects.l3 k4 t231 t242 x12_3 t277 (wrap64 (x21_4 + 1))) = some r := by rw [if_pos rfl] at H; exact H
                  clear H
                  have H := H1
                  clear H1
                  have H' := Aside0.mk H
                  clear H
                  try go_wp2
                  have n0_ := Aside0.mk (Kd.N_drew HO_10.out)
                  have n1_ := Aside0.mk (Kd.R_drew HO_12.out)
                  have n2_ := Aside0.mk (Kd.N_drew HO_20.out)
                  have n3_ := Aside0.mk (Kd.V_drew HO_231001.out)
                  have n4_ := Aside0.mk (Kd.R_drew HO_239000.out)
                  have n5_ := Aside0.mk (blk_drew BK229.out)
                  have n6_ := Aside0.mk (blk_drew BK230.out)
                  have n7_ := Aside0.mk (blk_drew BK238.out)
                  have n8_ := Aside0.mk (below_drew1 HB.out)
                  clear HO_10
                  clear HO_12
                  clear HO_20
                  clear HO_231001
                  clear HO_239000
                  clear BK229
                  clear BK230
                  clear BK238
                  clear HB
                  have HO_10 := n0_
                  have HO_12 := n1_
                  have HO_20 := n2_
                  have HO_231001 := n3_
                  have HO_239000 := n4_
                  have BK229 := n5_
                  have BK230 := n6_
                  have BK238 := n7_
                  have HB := n8_
                  clear n0_ n1_ n2_ n3_ n4_ n5_ n6_ n7_ n8_
                  have p280 : 0 ≤ (x21_4 : Int) := of_decide_eq_true (by first | (with_reducible assumption) | assumption)
                  have q280 : x21_4 < (t277.length : Int) := of_decide_eq_true (by first | (with_reducible assumption) | assumption)
                  obtain ⟨ad280, A280_0, c280_0, e280, hx280_0, hl280_0, hi280_0⟩ := at_L4 (Kd.N_reads' HO_20.out).2.2 x21_4 p280 q280
                  cases e280
                  obtain ⟨ce280, hce280, hMe280, hcc280⟩ := Kd.N_get HO_20.out [] x21_4 p280 (by first | exact q280 | exact of_decide_eq_true (by first | (with_reducible assumption) | assumption) | (have e_ := (Kd.N_reads' HO_20.out).1; omega))
                  obtain ⟨ua280_0, uc280_0, rfl, ul280_0, ge280_0⟩ := Kd.FK_slice_open hMe280
                  have hv280_0 := hcc280 0 _ rfl
                  rw [Nat.add_zero, show ((Kd.slice 37 k37)).sz = 1 from rfl, Nat.mul_one] at hv280_0
                  replace hv280_0 := Option.some.inj (hv280_0.symm.trans hx280_0)
                  injection hv280_0 with hva_ hvn_ hvc_
                  rw [hva_] at ge280_0
                  rw [hvc_] at ul280_0
                  have HL280_0 := Aside0.mk (show Kd.V k37 37 _ w.heap.size _ _ (rd_L4 t277 x21_4) from Kd.V_mk ul280_0 ge280_0)
                  clear hva_ hvn_ hvc_ ge280_0 ul280_0
                  clear hcc280 hce280
                  have HR280_0 := Aside0.mk hi280_0
                  have HC280_0 := Aside0.mk hl280_0
                  clear hi280_0 hl280_0
                  replace p280 := eq_true p280
                  replace q280 := eq_true q280
                  have p281 : 0 ≤ (x21_4 : Int) := of_decide_eq_true (by first | (with_reducible assumption) | assumption)
                  have q281 : x21_4 < (x12_3.length : Int) := of_decide_eq_true (by first | (with_reducible assumption) | assumption)
                  obtain ⟨ad281, e281, hx281_0⟩ := Kd.at_int (Kd.R_reads' HO_12.out).2.2 x21_4 p281 q281
                  cases e281
                  replace p281 := eq_true p281
                  replace q281 := eq_true q281
                  have p282 : 0 ≤ ((rd x12_3 x21_4) : Int) := of_decide_eq_true (by first | (with_reducible assumption) | assumption)
                  have q282 : (rd x12_3 x21_4) < (t242.length : Int) := of_decide_eq_true (by first | (with_reducible assumption) | assumption)
                  obtain ⟨ad282, A282_0, c282_0, e282, hx282_0, hl282_0, hi282_0⟩ := at_L4 (Kd.N_reads' HO_10.out).2.2 (rd x12_3 x21_4) p282 q282
                  cases e282
                  obtain ⟨ce282, hce282, hMe282, hcc282⟩ := Kd.N_get HO_10.out [] (rd x12_3 x21_4) p282 (by first | exact q282 | exact of_decide_eq_true (by first | (with_reducible assumption) | assumption) | (have e_ := (Kd.N_reads' HO_10.out).1; omega))
                  obtain ⟨ua282_0, uc282_0, rfl, ul282_0, ge282_0⟩ := Kd.FK_slice_open hMe282
                  have hv282_0 := hcc282 0 _ rfl
                  rw [Nat.add_zero, show ((Kd.slice 37 k37)).sz = 1 from rfl, Nat.mul_one] at hv282_0
                  replace hv282_0 := Option.some.inj (hv282_0.symm.trans hx282_0)
                  injection hv282_0 with hva_ hvn_ hvc_
                  rw [hva_] at ge282_0
                  rw [hvc_] at ul282_0
                  have HL282_0 := Aside0.mk (show Kd.V k37 37 _ w.heap.size _ _ (rd_L4 t242 (rd x12_3 x21_4)) from Kd.V_mk ul282_0 ge282_0)
                  clear hva_ hvn_ hvc_ ge282_0 ul282_0
                  clear hcc282 hce282
                  have HR282_0 := Aside0.mk hi282_0
                  have HC282_0 := Aside0.mk hl282_0
                  clear hi282_0 hl282_0
                  replace p282 := eq_true p282
                  replace q282 := eq_true q282
                  refine start_ (n := 13) (S := fun w' => w'.cell? (ad280.add (x21_4).toNat) = some (.slice A280_0 (rd_L4 t277 x21_4).length c280_0) ∧ w'.cell? (ad281.add (x21_4).toNat) = some (.int .i64 (rd x12_3 x21_4)) ∧ w'.cell? (ad282.add ((rd x12_3 x21_4)).toNat) = some (.slice A282_0 (rd_L4 t242 (rd x12_3 x21_4)).length c282_0)) (ds := []) #[false, false, false, false, false, false, false, false, false, false, false, false, false] (by kernel_rfl) rfl rfl ⟨hx280_0, hx281_0, hx282_0⟩ (fun hHeld => ?_); refine with_tabW thresherlaw19_FilterSelects.tab33 thresherlaw19_FilterSelects.bits33 (fun HT_ HW_ => ?_)
                  generalize wr.drew = w100 at HO_10 HO_12 HO_20 HO_231001 HO_239000 BK229 BK230 BK238 HB HL280_0 HL282_0 HR280_0 HR282_0 hx280_0 hx281_0 hx282_0 hHeld ⊢
                  refine pure_ (i := 0) (N := some 118) (v := ?_) (a' := ?_) #[true, false, false, false, false, false, false, false, false, false, false, false, false] rfl rfl (any_of HT_.out (by kernel_rfl)) (fun _ _ _ h => h) (Or.inl ⟨by rfl, ?_⟩) ?_ ?_
                  rotate_left; (intro w'; go_simp; with_reducible rfl); rotate_left; (simp only [Act.put, List.setIfInBounds_toArray, List.set_cons_zero, List.set_cons_succ, i64_w, i32_w]; rfl)
                  refine pure_ (i := 1) (N := some 119) (v := ?_) (a' := ?_) #[true, true, false, false, false, false, false, false, false, false, false, false, false] rfl rfl (any_of HT_.out (by kernel_rfl)) (fun _ _ _ h => h) (Or.inl ⟨by rfl, ?_⟩) ?_ ?_
                  rotate_left; (intro w'; go_simp; with_reducible rfl); rotate_left; (simp only [Act.put, List.setIfInBounds_toArray, List.set_cons_zero, List.set_cons_succ, i64_w, i32_w]; rfl)
                  refine pure_ (i := 2) (N := some 120) (v := ?_) (a' := ?_) #[true, true, true, false, false, false, false, false, false, false, false, false, false] rfl rfl (any_of HT_.out (by kernel_rfl)) (fun _ _ _ h => h) (Or.inl ⟨by rfl, ?_⟩) ?_ ?_
                  rotate_left; (intro w'; go_simp; with_reducible rfl); rotate_left; (simp only [Act.put, List.setIfInBounds_toArray, List.set_cons_zero, List.set_cons_succ, i64_w, i32_w]; rfl)
                  refine pure_ (i := 4) (N := some 122) (v := ?_) (a' := ?_) #[true, true, true, false, true, false, false, false, false, false, false, false, false] rfl rfl (any_of HT_.out (by kernel_rfl)) (fun _ _ _ h => h) (Or.inl ⟨by rfl, ?_⟩) ?_ ?_
                  rotate_left; (intro w'; go_simp; with_reducible rfl); rotate_left; (simp only [Act.put, List.setIfInBounds_toArray, List.set_cons_zero, List.set_cons_succ, i64_w, i32_w]; rfl)
                  refine pure_ (i := 5) (N := some 123) (v := ?_) (a' := ?_) #[true, true, true, false, true, true, false, false, false, false, false, false, false] rfl rfl (any_of HT_.out (by kernel_rfl)) (fun _ _ _ h => h) (Or.inl ⟨by rfl, ?_⟩) ?_ ?_
                  rotate_left; (intro w'; go_simp; with_reducible rfl); rotate_left; (simp only [Act.put, List.setIfInBounds_toArray, List.set_cons_zero, List.set_cons_succ, i64_w, i32_w]; rfl)
                  refine pure_ (i := 6) (N := some 124) (v := ?_) (a' := ?_) #[true, true, true, false, true, true, true, false, false, false, false, false, false] rfl rfl (any_of HT_.out (by kernel_rfl)) (fun _ _ _ h => h) (Or.inl ⟨by rfl, ?_⟩) ?_ ?_
                  rotate_left; (intro w'; go_simp; with_reducible rfl); rotate_left; (simp only [Act.put, List.setIfInBounds_toArray, List.set_cons_zero, List.set_cons_succ, i64_w, i32_w]; rfl)
                  refine pure_ (i := 7) (N := some 125) (v := ?_) (a' := ?_) #[true, true, true, false, true, true, true, true, false, false, false, false, false] rfl rfl (any_of HT_.out (by kernel_rfl)) (fun _ _ _ h => h) (Or.inl ⟨by rfl, ?_⟩) ?_ ?_
                  rotate_left; (intro w'; go_simp; with_reducible rfl); rotate_left; (simp only [Act.put, List.setIfInBounds_toArray, List.set_cons_zero, List.set_cons_succ, i64_w, i32_w]; rfl)
                  refine take_ (i := 3) (N := some 121) (v := ?_) (a' := ?_) #[true, true, true, true, true, true, true, true, false, false, false, false, false] rfl rfl (take_ofW HT_.out HW_.out (by kernel_rfl)) (fun _ _ _ h => h) (Or.inl ⟨by rfl, ?_⟩) hHeld ?_ ?_
                  rotate_left; (rintro w' ⟨s0, s1, s2⟩; go_simp; with_reducible rfl); rotate_left; (simp only [Act.put, List.setIfInBounds_toArray, List.set_cons_zero, List.set_cons_succ, i64_w, i32_w]; rfl)
                  refine take_ (i := 8) (N := some 126) (v := ?_) (a' := ?_) #[true, true, true, true, true, true, true, true, true, false, false, false, false] rfl rfl (take_ofW HT_.out HW_.out (by kernel_rfl)) (fun _ _ _ h => h) (Or.inl ⟨by rfl, ?_⟩) hHeld ?_ ?_
                  rotate_left; (rintro w' ⟨s0, s1, s2⟩; go_simp; with_reducible rfl); rotate_left; (simp only [Act.put, List.setIfInBounds_toArray, List.set_cons_zero, List.set_cons_succ, i64_w, i32_w]; rfl)
                  refine pure_ (i := 9) (N := some 127) (v := ?_) (a' := ?_) #[true, true, true, true, true, true, true, true, true, true, false, false, false] rfl rfl (any_of HT_.out (by kernel_rfl)) (fun _ _ _ h => h) (Or.inl ⟨by rfl, ?_⟩) ?_ ?_
                  rotate_left; (intro w'; go_simp; with_reducible rfl); rotate_left; (simp only [Act.put, List.setIfInBounds_toArray, List.set_cons_zero, List.set_cons_succ, i64_w, i32_w]; rfl)
                  refine take_ (i := 10) (N := some 128) (v := ?_) (a' := ?_) #[true, true, true, true, true, true, true, true, true, true, true, false, false] rfl rfl (take_ofW HT_.out HW_.out (by kernel_rfl)) (fun _ _ _ h => h) (Or.inl ⟨by rfl, ?_⟩) hHeld ?_ ?_
                  rotate_left; (rintro w' ⟨s0, s1, s2⟩; go_simp; with_reducible rfl); rotate_left; (simp only [Act.put, List.setIfInBounds_toArray, List.set_cons_zero, List.set_cons_succ, i64_w, i32_w]; rfl)
                  refine one_ (i := 11) (N := some 129) #[true, true, true, true, true, true, true, true, true, true, true, true, false] rfl rfl (one_of HT_.out (by kernel_rfl)) (by decide) (fun K hK => ?_)
                  refine goes_ Try.func16 (by kernel_rfl) rfl #[.slice A280_0 (rd_L4 t277 x21_4).length c280_0, .slice A282_0 (rd_L4 t242 (rd x12_3 x21_4)).length c282_0] (by rfl) rfl rfl (by (try simp only [List.map_toArray, List.map_cons, List.map_nil]); first | done | rfl | (simp only [List.length_drop, List.length_take]; rfl)) ?_
                  with_reducible refine (thresherref04_One.calls k4 _ _ (rd_L4 t277 x21_4) _ _ (rd_L4 t242 (rd x12_3 x21_4)) true _ ?side1 ?side2 ?side3 ?side4 A98.out).mono ?_
                  (case side1 => repeat (first | exact (by repeat (first | (with_reducible exact HR280_0.out) | (with_reducible refine Kd.C_alloc ?_ _) | (with_reducible refine Kd.C_drewN ?_ _) | (with_reducible refine Kd.C_drew ?_) | exact HR280_0.out)) | (with_reducible refine Kd.C_alloc ?_ _) | (with_reducible refine Kd.C_drewN ?_ _) | (with_reducible refine Kd.C_drew ?_)))
                  (case side2 => exact HC280_0.out)
                  (case side3 => repeat (first | exact (by repeat (first | (with_reducible exact HR282_0.out) | (with_reducible refine Kd.C_alloc ?_ _) | (with_reducible refine Kd.C_drewN ?_ _) | (with_reducible refine Kd.C_drew ?_) | exact HR282_0.out)) | (with_reducible refine Kd.C_alloc ?_ _) | (with_reducible refine Kd.C_drewN ?_ _) | (with_reducible refine Kd.C_drew ?_)))
                  (case side4 => exact HC282_0.out)
                  rintro e w' ⟨rfl, ⟨nd, rfl⟩⟩
                  refine ⟨_, rfl, ?_⟩
                  refine hK.out _ _ ⟨hHeld.1, hHeld.2.1, hHeld.2.2⟩ (fun hHeld => ?_)
                  clear hK K
                  refine norm_ (a' := ?_) ?_ ?_
                  rotate_left
                  ·show Act.put _ (some 129) _ = _
                   simp only [Act.put, List.setIfInBounds_toArray, List.set_cons_zero, List.set_cons_succ, i64_w, i32_w]
                   rfl
                  refine pure_ (i := 12) (N := some 22) (v := ?_) (a' := ?_) #[true, true, true, true, true, true, true, true, true, true, true, true, true] rfl rfl (any_of HT_.out (by kernel_rfl)) (fun _ _ _ h => h) (Or.inl ⟨by rfl, ?_⟩) ?_ ?_
                  rotate_left; (intro w'; go_simp; with_reducible rfl); rotate_left; (simp only [Act.put, List.setIfInBounds_toArray, List.set_cons_zero, List.set_cons_succ, i64_w, i32_w]; rfl)
                  refine done_ (done_of HT_.out (by kernel_rfl)) ?_
                  (try clear hHeld)
                  try go_wp2
                  go_roundg k4
                  case measure => have := HJ7.out; have := HK2.out; have := HK3.out; have := HK4.out; omega
                  case rel => exact ⟨(wrap64 (x21_4 + 1)), (by first | rfl | (simp; done) | (simp [*]; done)), (by first | exact H' | (subst_vars; exact H')), ⟨by have := HJ7.out; have := HK2.out; have := HK3.out; have := HK4.out; omega⟩, ⟨by (with_reducible repeat (first | apply Kd.N_alloc | apply Kd.N_drewN | apply Kd.N_drew)); exact HO_10.out⟩, ⟨by (with_reducible repeat (first | apply Kd.R_alloc | apply Kd.R_drewN | apply Kd.R_drew)); exact HO_12.out⟩, ⟨by (with_reducible repeat (first | apply Kd.N_alloc | apply Kd.N_drewN | apply Kd.N_drew)); exact HO_20.out⟩, ⟨by (with_reducible repeat (first | apply Kd.V_alloc | apply Kd.V_drewN | apply Kd.V_drew)); exact HO_231001.out⟩, ⟨by (with_reducible repeat (first | apply Kd.R_alloc | apply Kd.R_drewN | apply Kd.R_drew)); exact HO_239000.out⟩, ⟨by (with_reducible repeat (first | refine blk_drewN ?_ _ | refine blk_drew ?_ | refine blk_alloc ?_ _)); exact BK229.out⟩, ⟨by (with_reducible repeat (first | refine blk_drewN ?_ _ | refine blk_drew ?_ | refine blk_alloc ?_ _)); exact BK230.out⟩, ⟨by (with_reducible repeat (first | refine blk_drewN ?_ _ | refine blk_drew ?_ | refine blk_alloc ?_ _)); exact BK238.out⟩, ⟨by repeat (first | (with_reducible first | exact HB.out | apply below_alloc | apply pw_below_drewN | apply below_drew1 | refine below_set ?_ GE229.out | refine below_set ?_ GE230.out | refine below_set ?_ GE238.out) | exact HB.out)⟩⟩
                 ·replace c99 := Bool.eq_false_iff.mpr c99
                  subst c99
                  have H1 : (some false) = some r := by rw [if_neg (show ¬ (false = true) by decide)] at H; exact H
                  clear H
                  have H := H1
                  clear H1
                  obtain rfl := Option.some.inj H
                  try go_wp2
                  have n0_ := Aside0.mk (Kd.N_drew HO_10.out)
                  have n1_ := Aside0.mk (Kd.R_drew HO_12.out)
                  have n2_ := Aside0.mk (Kd.N_drew HO_20.out)
                  have n3_ := Aside0.mk (Kd.V_drew HO_231001.out)
                  have n4_ := Aside0.mk (Kd.R_drew HO_239000.out)
                  have n5_ := Aside0.mk (blk_drew BK229.out)
                  have n6_ := Aside0.mk (blk_drew BK230.out)
                  have n7_ := Aside0.mk (blk_drew BK238.out)
                  have n8_ := Aside0.mk (below_drew1 HB.out)
                  clear HO_10
                  clear HO_12
                  clear HO_20
                  clear HO_231001
                  clear HO_239000
                  clear BK229
                  clear BK230
                  clear BK238
                  clear HB
                  have HO_10 := n0_
                  have HO_12 := n1_
                  have HO_20 := n2_
                  have HO_231001 := n3_
                  have HO_239000 := n4_
                  have BK229 := n5_
                  have BK230 := n6_
                  have BK238 := n7_
                  have HB := n8_
                  clear n0_ n1_ n2_ n3_ n4_ n5_ n6_ n7_ n8_
                  have p280 : 0 ≤ (x21_4 : Int) := of_decide_eq_true (by first | (with_reducible assumption) | assumption)
                  have q280 : x21_4 < (t277.length : Int) := of_decide_eq_true (by first | (with_reducible assumption) | assumption)
                  obtain ⟨ad280, A280_0, c280_0, e280, hx280_0, hl280_0, hi280_0⟩ := at_L4 (Kd.N_reads' HO_20.out).2.2 x21_4 p280 q280
                  cases e280
                  obtain ⟨ce280, hce280, hMe280, hcc280⟩ := Kd.N_get HO_20.out [] x21_4 p280 (by first | exact q280 | exact of_decide_eq_true (by first | (with_reducible assumption) | assumption) | (have e_ := (Kd.N_reads' HO_20.out).1; omega))
                  obtain ⟨ua280_0, uc280_0, rfl, ul280_0, ge280_0⟩ := Kd.FK_slice_open hMe280
                  have hv280_0 := hcc280 0 _ rfl
                  rw [Nat.add_zero, show ((Kd.slice 37 k37)).sz = 1 from rfl, Nat.mul_one] at hv280_0
                  replace hv280_0 := Option.some.inj (hv280_0.symm.trans hx280_0)
                  injection hv280_0 with hva_ hvn_ hvc_
                  rw [hva_] at ge280_0
                  rw [hvc_] at ul280_0
                  have HL280_0 := Aside0.mk (show Kd.V k37 37 _ w.heap.size _ _ (rd_L4 t277 x21_4) from Kd.V_mk ul280_0 ge280_0)
                  clear hva_ hvn_ hvc_ ge280_0 ul280_0
                  clear hcc280 hce280
                  have HR280_0 := Aside0.mk hi280_0
                  have HC280_0 := Aside0.mk hl280_0
                  clear hi280_0 hl280_0
                  replace p280 := eq_true p280
                  replace q280 := eq_true q280
                  have p281 : 0 ≤ (x21_4 : Int) := of_decide_eq_true (by first | (with_reducible assumption) | assumption)
                  have q281 : x21_4 < (x12_3.length : Int) := of_decide_eq_true (by first | (with_reducible assumption) | assumption)
                  obtain ⟨ad281, e281, hx281_0⟩ := Kd.at_int (Kd.R_reads' HO_12.out).2.2 x21_4 p281 q281
                  cases e281
                  replace p281 := eq_true p281
                  replace q281 := eq_true q281
                  have p282 : 0 ≤ ((rd x12_3 x21_4) : Int) := of_decide_eq_true (by first | (with_reducible assumption) | assumption)
                  have q282 : (rd x12_3 x21_4) < (t242.length : Int) := of_decide_eq_true (by first | (with_reducible assumption) | assumption)
                  obtain ⟨ad282, A282_0, c282_0, e282, hx282_0, hl282_0, hi282_0⟩ := at_L4 (Kd.N_reads' HO_10.out).2.2 (rd x12_3 x21_4) p282 q282
                  cases e282
                  obtain ⟨ce282, hce282, hMe282, hcc282⟩ := Kd.N_get HO_10.out [] (rd x12_3 x21_4) p282 (by first | exact q282 | exact of_decide_eq_true (by first | (with_reducible assumption) | assumption) | (have e_ := (Kd.N_reads' HO_10.out).1; omega))
                  obtain ⟨ua282_0, uc282_0, rfl, ul282_0, ge282_0⟩ := Kd.FK_slice_open hMe282
                  have hv282_0 := hcc282 0 _ rfl
                  rw [Nat.add_zero, show ((Kd.slice 37 k37)).sz = 1 from rfl, Nat.mul_one] at hv282_0
                  replace hv282_0 := Option.some.inj (hv282_0.symm.trans hx282_0)
                  injection hv282_0 with hva_ hvn_ hvc_
                  rw [hva_] at ge282_0
                  rw [hvc_] at ul282_0
                  have HL282_0 := Aside0.mk (show Kd.V k37 37 _ w.heap.size _ _ (rd_L4 t242 (rd x12_3 x21_4)) from Kd.V_mk ul282_0 ge282_0)
                  clear hva_ hvn_ hvc_ ge282_0 ul282_0
                  clear hcc282 hce282
                  have HR282_0 := Aside0.mk hi282_0
                  have HC282_0 := Aside0.mk hl282_0
                  clear hi282_0 hl282_0
                  replace p282 := eq_true p282
                  replace q282 := eq_true q282
                  refine start_ (n := 13) (S := fun w' => w'.cell? (ad280.add (x21_4).toNat) = some (.slice A280_0 (rd_L4 t277 x21_4).length c280_0) ∧ w'.cell? (ad281.add (x21_4).toNat) = some (.int .i64 (rd x12_3 x21_4)) ∧ w'.cell? (ad282.add ((rd x12_3 x21_4)).toNat) = some (.slice A282_0 (rd_L4 t242 (rd x12_3 x21_4)).length c282_0)) (ds := []) #[false, false, false, false, false, false, false, false, false, false, false, false, false] (by kernel_rfl) rfl rfl ⟨hx280_0, hx281_0, hx282_0⟩ (fun hHeld => ?_); refine with_tabW thresherlaw19_FilterSelects.tab33 thresherlaw19_FilterSelects.bits33 (fun HT_ HW_ => ?_)
                  generalize wr.drew = w101 at HO_10 HO_12 HO_20 HO_231001 HO_239000 BK229 BK230 BK238 HB HL280_0 HL282_0 HR280_0 HR282_0 hx280_0 hx281_0 hx282_0 hHeld ⊢
                  refine pure_ (i := 0) (N := some 118) (v := ?_) (a' := ?_) #[true, false, false, false, false, false, false, false, false, false, false, false, false] rfl rfl (any_of HT_.out (by kernel_rfl)) (fun _ _ _ h => h) (Or.inl ⟨by rfl, ?_⟩) ?_ ?_
                  rotate_left; (intro w'; go_simp; with_reducible rfl); rotate_left; (simp only [Act.put, List.setIfInBounds_toArray, List.set_cons_zero, List.set_cons_succ, i64_w, i32_w]; rfl)
                  refine pure_ (i := 1) (N := some 119) (v := ?_) (a' := ?_) #[true, true, false, false, false, false, false, false, false, false, false, false, false] rfl rfl (any_of HT_.out (by kernel_rfl)) (fun _ _ _ h => h) (Or.inl ⟨by rfl, ?_⟩) ?_ ?_
                  rotate_left; (intro w'; go_simp; with_reducible rfl); rotate_left; (simp only [Act.put, List.setIfInBounds_toArray, List.set_cons_zero, List.set_cons_succ, i64_w, i32_w]; rfl)
                  refine pure_ (i := 2) (N := some 120) (v := ?_) (a' := ?_) #[true, true, true, false, false, false, false, false, false, false, false, false, false] rfl rfl (any_of HT_.out (by kernel_rfl)) (fun _ _ _ h => h) (Or.inl ⟨by rfl, ?_⟩) ?_ ?_
                  rotate_left; (intro w'; go_simp; with_reducible rfl); rotate_left; (simp only [Act.put, List.setIfInBounds_toArray, List.set_cons_zero, List.set_cons_succ, i64_w, i32_w]; rfl)
                  refine pure_ (i := 4) (N := some 122) (v := ?_) (a' := ?_) #[true, true, true, false, true, false, false, false, false, false, false, false, false] rfl rfl (any_of HT_.out (by kernel_rfl)) (fun _ _ _ h => h) (Or.inl ⟨by rfl, ?_⟩) ?_ ?_
                  rotate_left; (intro w'; go_simp; with_reducible rfl); rotate_left; (simp only [Act.put, List.setIfInBounds_toArray, List.set_cons_zero, List.set_cons_succ, i64_w, i32_w]; rfl)
                  refine pure_ (i := 5) (N := some 123) (v := ?_) (a' := ?_) #[true, true, true, false, true, true, false, false, false, false, false, false, false] rfl rfl (any_of HT_.out (by kernel_rfl)) (fun _ _ _ h => h) (Or.inl ⟨by rfl, ?_⟩) ?_ ?_
                  rotate_left; (intro w'; go_simp; with_reducible rfl); rotate_left; (simp only [Act.put, List.setIfInBounds_toArray, List.set_cons_zero, List.set_cons_succ, i64_w, i32_w]; rfl)
                  refine pure_ (i := 6) (N := some 124) (v := ?_) (a' := ?_) #[true, true, true, false, true, true, true, false, false, false, false, false, false] rfl rfl (any_of HT_.out (by kernel_rfl)) (fun _ _ _ h => h) (Or.inl ⟨by rfl, ?_⟩) ?_ ?_
                  rotate_left; (intro w'; go_simp; with_reducible rfl); rotate_left; (simp only [Act.put, List.setIfInBounds_toArray, List.set_cons_zero, List.set_cons_succ, i64_w, i32_w]; rfl)
                  refine pure_ (i := 7) (N := some 125) (v := ?_) (a' := ?_) #[true, true, true, false, true, true, true, true, false, false, false, false, false] rfl rfl (any_of HT_.out (by kernel_rfl)) (fun _ _ _ h => h) (Or.inl ⟨by rfl, ?_⟩) ?_ ?_
                  rotate_left; (intro w'; go_simp; with_reducible rfl); rotate_left; (simp only [Act.put, List.setIfInBounds_toArray, List.set_cons_zero, List.set_cons_succ, i64_w, i32_w]; rfl)
                  refine take_ (i := 3) (N := some 121) (v := ?_) (a' := ?_) #[true, true, true, true, true, true, true, true, false, false, false, false, false] rfl rfl (take_ofW HT_.out HW_.out (by kernel_rfl)) (fun _ _ _ h => h) (Or.inl ⟨by rfl, ?_⟩) hHeld ?_ ?_
                  rotate_left; (rintro w' ⟨s0, s1, s2⟩; go_simp; with_reducible rfl); rotate_left; (simp only [Act.put, List.setIfInBounds_toArray, List.set_cons_zero, List.set_cons_succ, i64_w, i32_w]; rfl)
                  refine take_ (i := 8) (N := some 126) (v := ?_) (a' := ?_) #[true, true, true, true, true, true, true, true, true, false, false, false, false] rfl rfl (take_ofW HT_.out HW_.out (by kernel_rfl)) (fun _ _ _ h => h) (Or.inl ⟨by rfl, ?_⟩) hHeld ?_ ?_
                  rotate_left; (rintro w' ⟨s0, s1, s2⟩; go_simp; with_reducible rfl); rotate_left; (simp only [Act.put, List.setIfInBounds_toArray, List.set_cons_zero, List.set_cons_succ, i64_w, i32_w]; rfl)
                  refine pure_ (i := 9) (N := some 127) (v := ?_) (a' := ?_) #[true, true, true, true, true, true, true, true, true, true, false, false, false] rfl rfl (any_of HT_.out (by kernel_rfl)) (fun _ _ _ h => h) (Or.inl ⟨by rfl, ?_⟩) ?_ ?_
                  rotate_left; (intro w'; go_simp; with_reducible rfl); rotate_left; (simp only [Act.put, List.setIfInBounds_toArray, List.set_cons_zero, List.set_cons_succ, i64_w, i32_w]; rfl)
                  refine take_ (i := 10) (N := some 128) (v := ?_) (a' := ?_) #[true, true, true, true, true, true, true, true, true, true, true, false, false] rfl rfl (take_ofW HT_.out HW_.out (by kernel_rfl)) (fun _ _ _ h => h) (Or.inl ⟨by rfl, ?_⟩) hHeld ?_ ?_
                  rotate_left; (rintro w' ⟨s0, s1, s2⟩; go_simp; with_reducible rfl); rotate_left; (simp only [Act.put, List.setIfInBounds_toArray, List.set_cons_zero, List.set_cons_succ, i64_w, i32_w]; rfl)
                  refine one_ (i := 11) (N := some 129) #[true, true, true, true, true, true, true, true, true, true, true, true, false] rfl rfl (one_of HT_.out (by kernel_rfl)) (by decide) (fun K hK => ?_)
                  refine goes_ Try.func16 (by kernel_rfl) rfl #[.slice A280_0 (rd_L4 t277 x21_4).length c280_0, .slice A282_0 (rd_L4 t242 (rd x12_3 x21_4)).length c282_0] (by rfl) rfl rfl (by (try simp only [List.map_toArray, List.map_cons, List.map_nil]); first | done | rfl | (simp only [List.length_drop, List.length_take]; rfl)) ?_
                  with_reducible refine (thresherref04_One.calls k4 _ _ (rd_L4 t277 x21_4) _ _ (rd_L4 t242 (rd x12_3 x21_4)) false _ ?side1 ?side2 ?side3 ?side4 A98.out).mono ?_
                  (case side1 => repeat (first | exact (by repeat (first | (with_reducible exact HR280_0.out) | (with_reducible refine Kd.C_alloc ?_ _) | (with_reducible refine Kd.C_drewN ?_ _) | (with_reducible refine Kd.C_drew ?_) | exact HR280_0.out)) | (with_reducible refine Kd.C_alloc ?_ _) | (with_reducible refine Kd.C_drewN ?_ _) | (with_reducible refine Kd.C_drew ?_)))
                  (case side2 => exact HC280_0.out)
                  (case side3 => repeat (first | exact (by repeat (first | (with_reducible exact HR282_0.out) | (with_reducible refine Kd.C_alloc ?_ _) | (with_reducible refine Kd.C_drewN ?_ _) | (with_reducible refine Kd.C_drew ?_) | exact HR282_0.out)) | (with_reducible refine Kd.C_alloc ?_ _) | (with_reducible refine Kd.C_drewN ?_ _) | (with_reducible refine Kd.C_drew ?_)))
                  (case side4 => exact HC282_0.out)
                  rintro e w' ⟨rfl, ⟨nd, rfl⟩⟩
                  refine ⟨_, rfl, ?_⟩
                  refine hK.out _ _ ⟨hHeld.1, hHeld.2.1, hHeld.2.2⟩ (fun hHeld => ?_)
                  clear hK K
                  refine norm_ (a' := ?_) ?_ ?_
                  rotate_left
                  ·show Act.put _ (some 129) _ = _
                   simp only [Act.put, List.setIfInBounds_toArray, List.set_cons_zero, List.set_cons_succ, i64_w, i32_w]
                   rfl
                  refine pure_ (i := 12) (N := some 22) (v := ?_) (a' := ?_) #[true, true, true, true, true, true, true, true, true, true, true, true, true] rfl rfl (any_of HT_.out (by kernel_rfl)) (fun _ _ _ h => h) (Or.inl ⟨by rfl, ?_⟩) ?_ ?_
                  rotate_left; (intro w'; go_simp; with_reducible rfl); rotate_left; (simp only [Act.put, List.setIfInBounds_toArray, List.set_cons_zero, List.set_cons_succ, i64_w, i32_w]; rfl)
                  refine done_ (done_of HT_.out (by kernel_rfl)) ?_
                  (try clear hHeld)
                  try go_wp2
                  go_ret
                  exact ⟨by first | rfl | (simp [errW_none, errW_some] <;> rfl) | (simp [*, errW_none, errW_some] <;> rfl), by repeat (first | (with_reducible first | exact HB.out | apply below_alloc | apply pw_below_drewN | apply below_drew1 | refine below_set ?_ GE229.out | refine below_set ?_ GE230.out | refine below_set ?_ GE238.out) | exact HB.out)⟩
                ·rw [if_neg c97] at H
                 exact absurd H (by simp)
               ·rw [if_neg c96] at H
                exact absurd H (by simp)
              ·rw [if_neg c95] at H
               exact absurd H (by simp)
             ·rw [if_neg c94] at H
              exact absurd H (by simp)
            ·rw [if_neg c93] at H
             have c93b0 : decide (x21_4 < (x12_3.length : Int)) = false := decide_eq_false c93
             clear c93
             obtain rfl := Option.some.inj H
             go_wp2
             go_ret
             exact ⟨by first | rfl | (simp [errW_none, errW_some] <;> rfl) | (simp [*, errW_none, errW_some] <;> rfl), by repeat (first | (with_reducible first | exact HB.out | apply below_alloc | apply pw_below_drewN | apply below_drew1 | refine below_set ?_ GE229.out | refine below_set ?_ GE230.out | refine below_set ?_ GE238.out) | exact HB.out)⟩
         ·rw [if_neg c85] at H
          have c85b0 : ((t277.length : Int) == (x12_3.length : Int)) = false := beq_eq_false_iff_ne.mpr c85
          have c85b1 : ((t277.length : Int) != (x12_3.length : Int)) = true := bne_iff_ne.mpr c85
          have c85b2 : (t277.length == x12_3.length) = false := by first | simpa using c85 | (simp at c85 ⊢; omega)
          obtain rfl := Option.some.inj H
          obtain ⟨Ao102, co102, eo102⟩ := Kd.R_slice HO_9.out
          subst eo102
          have hnb103 := NB238_229.out
          have hnc103 := NB229_238.out
          have hnb104 := NB238_230.out
          have hnc104 := NB230_238.out
          have hcz105_0 : wr.cell? ⟨gb238, 0, none⟩ = some (.slice Ao16 t232.length co16) := (blk_cell BK238.out 0).trans rfl
          have hcz105_1 : wr.cell? ⟨gb238, 1, none⟩ = some (.int .i64 t235) := (blk_cell BK238.out 1).trans rfl
          have hcz105_2 : wr.cell? ⟨gb238, 2, none⟩ = some (.int .i64 t236) := (blk_cell BK238.out 2).trans rfl
          have hcz105_3 : wr.cell? ⟨gb238, 3, none⟩ = some (.int .i64 t237) := (blk_cell BK238.out 3).trans rfl
          have hfz105_0 := blk_frozen BK238.out 0
          have hfz105_1 := blk_frozen BK238.out 1
          have hfz105_2 := blk_frozen BK238.out 2
          have hfz105_3 := blk_frozen BK238.out 3
          go_wp2_with (first | ((with_reducible refine gate_callee (f := 15) rfl ?_); refine goesL_ (some 106) rfl rfl Try.func15 (by kernel_rfl) rfl #[.agg #[.slice Ao16 t232.length co16, .int .i64 t235, .int .i64 t236, .int .i64 t237], .slice Ao102 t239.length co102, .slice Ao34 t242.length co34] rfl (by (try simp only [List.map_toArray, List.map_cons, List.map_nil]); first | done | rfl | (simp only [List.length_drop, List.length_take]; rfl)) ?_; (with_reducible refine (filter_Keep.calls k3 _ _ t232 t235 t236 t237 _ _ t239 (fun k_ => ((P2_1_ k_ ∨ w.heap.size ≤ k_) ∧ (some k_ ≠ (.slice Ao102 t239.length co102 : Value).ownBlock ∧ (some k_ ≠ (u12 : Value).ownBlock ∧ (some k_ ≠ (.slice Ao16 t232.length co16 : Value).ownBlock ∧ (k_ ≠ gb229 ∧ (k_ ≠ gb230 ∧ k_ ≠ gb238))))))) _ _ t242 t277 _ ?side1 ?side2 ?side3 ?side4 ?side5 A84.out).mono ?_); (case side1 => repeat (first | exact (Kd.R_reads' HO_239000.out).2.2 | (with_reducible refine Kd.C_alloc ?_ _) | (with_reducible refine Kd.C_drewN ?_ _) | (with_reducible refine Kd.C_drew ?_))); (case side2 => exact (Kd.R_reads' HO_239000.out).2.1); (case side3 => repeat (first | exact (Kd.R_reads' HO_9.out).2.2 | (with_reducible refine Kd.C_alloc ?_ _) | (with_reducible refine Kd.C_drewN ?_ _) | (with_reducible refine Kd.C_drew ?_))); (case side4 => exact (Kd.R_reads' HO_9.out).2.1); (case side5 => exact Kd.N_V (HO_10.out)); rintro e w106 ⟨v278, rfl, ho0, hb⟩; refine ⟨_, rfl, ?_⟩; have n0_ := Aside0.mk (Kd.R_below (by (with_reducible repeat (first | apply Kd.R_alloc | apply Kd.R_drewN | apply Kd.R_drew)); exact HO_9.out) hb); have n1_ := Aside0.mk (Kd.N_elder' (by (with_reducible repeat (first | apply Kd.N_alloc | apply Kd.N_drewN | apply Kd.N_drew)); exact HO_10.out) (by first | exact Kd.N_base ho0 | exact Kd.S_base ho0) hb); have n2_ := Aside0.mk (Kd.V_elder' (by (with_reducible repeat (first | apply Kd.V_alloc | apply Kd.V_drewN | apply Kd.V_drew)); exact HO_11.out) (by first | exact Kd.N_base ho0 | exact Kd.S_base ho0) hb); have n3_ := Aside0.mk (Kd.R_below (by (with_reducible repeat (first | apply Kd.R_alloc | apply Kd.R_drewN | apply Kd.R_drew)); exact HO_12.out) hb); have n4_ := Aside0.mk (Kd.V_elder' (by (with_reducible repeat (first | apply Kd.V_alloc | apply Kd.V_drewN | apply Kd.V_drew)); exact HO_231001.out) (by first | exact Kd.N_base ho0 | exact Kd.S_base ho0) hb); have n5_ := Aside0.mk (Kd.R_below (by (with_reducible repeat (first | apply Kd.R_alloc | apply Kd.R_drewN | apply Kd.R_drew)); exact HO_239000.out) hb); have n6_ := Aside0.mk (Kd.N_lower (Kd.N_mono (ok' := fun k_ => (P2_1_ k_ ∨ w.heap.size ≤ k_) ∧ some k_ ≠ (.slice Ao102 t239.length co102 : Value).ownBlock ∧ some k_ ≠ (u12 : Value).ownBlock ∧ some k_ ≠ (.slice Ao16 t232.length co16 : Value).ownBlock ∧ k_ ≠ gb229 ∧ k_ ≠ gb230 ∧ k_ ≠ gb238) ho0 (fun k_ hk_ => ⟨Or.elim hk_ (fun hs_ => hs_.1) (fun hn_ => (.inr (Nat.le_trans (below_size (by repeat (first | (with_reducible first | exact HB.out | apply below_alloc | apply pw_below_drewN | apply below_drew1 | refine below_set ?_ GE229.out | refine below_set ?_ GE230.out | refine below_set ?_ GE238.out) | exact HB.out))) hn_))), Or.elim hk_ (fun hs_ => hs_.2.1) (fun hn_ => (Kd.fresh' (Kd.R_lt (by (with_reducible repeat (first | apply Kd.R_alloc | apply Kd.R_drewN | apply Kd.R_drew)); exact HO_9.out)) k_ hn_)), Or.elim hk_ (fun hs_ => hs_.2.2.1) (fun hn_ => (Kd.fresh' (Kd.R_lt (by (with_reducible repeat (first | apply Kd.R_alloc | apply Kd.R_drewN | apply Kd.R_drew)); exact HO_12.out)) k_ hn_)), Or.elim hk_ (fun hs_ => hs_.2.2.2.1) (fun hn_ => (Kd.fresh' (Kd.R_lt (by (with_reducible repeat (first | apply Kd.R_alloc | apply Kd.R_drewN | apply Kd.R_drew)); exact HO_239000.out)) k_ hn_)), Or.elim hk_ (fun hs_ => hs_.2.2.2.2.1) (fun hn_ => (Kd.freshB (g := gb229) (o := .cells #[.int .u8 a0_0, .int .u8 a0_1, .int .u8 a0_2, .int .u8 a0_3, .int .u8 a0_4, .int .u8 a0_5, .int .u8 a0_6, .int .u8 a0_7, .int .u8 a0_8, .int .u8 a0_9, .int .u8 a0_10, .int .u8 a0_11] 24 (0, 0)) (by (with_reducible repeat (first | refine blk_drewN ?_ _ | refine blk_drew ?_ | refine blk_alloc ?_ _)); exact BK229.out) k_ hn_)), Or.elim hk_ (fun hs_ => hs_.2.2.2.2.2.1) (fun hn_ => (Kd.freshB (g := gb230) (o := .cells #[.slice A2_0 l2_0.length c2_0, .slice A2_1 l2_1.length c2_1] 29 (0, 0)) (by (with_reducible repeat (first | refine blk_drewN ?_ _ | refine blk_drew ?_ | refine blk_alloc ?_ _)); exact BK230.out) k_ hn_)), Or.elim hk_ (fun hs_ => hs_.2.2.2.2.2.2) (fun hn_ => (Kd.freshB (g := gb238) (o := .cells #[.slice Ao16 t232.length co16, .int .i64 t235, .int .i64 t236, .int .i64 t237] 32 (0, 0)) (by (with_reducible repeat (first | refine blk_drewN ?_ _ | refine blk_drew ?_ | refine blk_alloc ?_ _)); exact BK238.out) k_ hn_))⟩)) (below_size (by repeat (first | (with_reducible first | exact HB.out | apply below_alloc | apply pw_below_drewN | apply below_drew1 | refine below_set ?_ GE229.out | refine below_set ?_ GE230.out | refine below_set ?_ GE238.out) | exact HB.out)))); have n7_ := Aside0.mk (blk_below (g := gb229) (o := .cells #[.int .u8 a0_0, .int .u8 a0_1, .int .u8 a0_2, .int .u8 a0_3, .int .u8 a0_4, .int .u8 a0_5, .int .u8 a0_6, .int .u8 a0_7, .int .u8 a0_8, .int .u8 a0_9, .int .u8 a0_10, .int .u8 a0_11] 24 (0, 0)) (by (with_reducible repeat (first | refine blk_drewN ?_ _ | refine blk_drew ?_ | refine blk_alloc ?_ _)); exact BK229.out) hb); have n8_ := Aside0.mk (blk_below (g := gb230) (o := .cells #[.slice A2_0 l2_0.length c2_0, .slice A2_1 l2_1.length c2_1] 29 (0, 0)) (by (with_reducible repeat (first | refine blk_drewN ?_ _ | refine blk_drew ?_ | refine blk_alloc ?_ _)); exact BK230.out) hb); have n9_ := Aside0.mk (blk_below (g := gb238) (o := .cells #[.slice Ao16 t232.length co16, .int .i64 t235, .int .i64 t236, .int .i64 t237] 32 (0, 0)) (by (with_reducible repeat (first | refine blk_drewN ?_ _ | refine blk_drew ?_ | refine blk_alloc ?_ _)); exact BK238.out) hb); have n10_ := Aside0.mk (below_step (by repeat (first | (with_reducible first | exact HB.out | apply below_alloc | apply pw_below_drewN | apply below_drew1 | refine below_set ?_ GE229.out | refine below_set ?_ GE230.out | refine below_set ?_ GE238.out) | exact HB.out)) hb); clear HO_9; clear HO_10; clear HO_11; clear HO_12; clear HO_231001; clear HO_239000; clear BK229; clear BK230; clear BK238; clear HB; have HO_9 := n0_; have HO_10 := n1_; have HO_11 := n2_; have HO_12 := n3_; have HO_231001 := n4_; have HO_239000 := n5_; have HO279 := n6_; have BK229 := n7_; have BK230 := n8_; have BK238 := n9_; have HB := n10_; clear n0_ n1_ n2_ n3_ n4_ n5_ n6_ n7_ n8_ n9_ n10_; (try clear hb); (try clear hb2); (try clear hk); (try clear hi); (try clear ho0); obtain ⟨Ao107, co107, eo107⟩ := Kd.N_slice HO279.out; subst eo107; obtain ⟨Ao108, co108, eo108⟩ := Kd.R_slice HO_12.out; subst eo108))
          go_ret
          exact ⟨by first | rfl | (simp [errW_none, errW_some] <;> rfl) | (simp [*, errW_none, errW_some] <;> rfl), by repeat (first | (with_reducible first | exact HB.out | apply below_alloc | apply pw_below_drewN | apply below_drew1 | refine below_set ?_ GE229.out | refine below_set ?_ GE230.out | refine below_set ?_ GE238.out) | exact HB.out)⟩

end Go.Proofs.Ytbkpifcjgedjaaa.P

