/- Texts of IndexWhole. Merged: Px13. -/
import Derived.Test.YtfccebnoflhkcaaQIndexWholePx0
import Derived.Test.YtfccebnoflhkcaaQIndexWholePx2
import Derived.Test.YtfccebnoflhkcaaQIndexWholePx3
import Derived.Test.YtfccebnoflhkcaaQIndexWholePx5
import Derived.Test.YtfccebnoflhkcaaQIndexWholePx6
import Derived.Test.YtfccebnoflhkcaaQIndexWholePx7
import Derived.Test.YtfccebnoflhkcaaQIndexWholePx8
import Derived.Test.YtfccebnoflhkcaaQIndexWholeHMeets
-- Written by wip/tools/myprint.py over the kit's print (a program's print; Lean checks it).
namespace Go.Proofs.Ytfccebnoflhkcaa.P
open Go.RowKit Go.Proofs.YtfccebnoflhkcaaW.PrintWords Go.Proofs.YtfccebnoflhkcaaW.PrintLast Go.Proofs.YtfccebnoflhkcaaW.PrintMore
attribute [local go_sem] max2_int min2_int max_two min_two max_three min_three max_four min_four   -- for this text's walks alone
set_option linter.unusedVariables false
set_option linter.unusedSimpArgs false

/-! ### thresherlaw12_IndexWhole: function 5 -/
mutual
def thresherlaw12_IndexWhole.j0 : Nat → Int → Bool → List (List (S44)) → List (List (S44)) → Bool → List Int → Int → Int → Int → Option (Bool)
 | 0, _, _, _, _, _, _, _, _, _ => none
 | k + 1, x2, x7, x9, x10, x54, x365000, x365001, x365002, x365003 => if x54 = true then (some false) else (if (x9.length : Int) = 0 then (some x7) else (if 0 ≤ (Int.tmod (wrap64 (x2)) (x9.length : Int)) then (if (Int.tmod (wrap64 (x2)) (x9.length : Int)) < (x9.length : Int) then ((thresherref10_Key.f x365000 x365001 x365002 x365003 (rd_L5 x9 (Int.tmod (wrap64 (x2)) (x9.length : Int)))).bind fun t384 => (thresherlaw12_IndexWhole.l0 k x7 x9 x10 t384 0 x365000 x365001 x365002 x365003 true true t384 t384)) else (none)) else (none)))
def thresherlaw12_IndexWhole.l0 : Nat → Bool → List (List (S44)) → List (List (S44)) → List (S44) → Int → List Int → Int → Int → Int → Bool → Bool → List (S44) → List (S44) → Option (Bool)
 | 0, _, _, _, _, _, _, _, _, _, _, _, _, _ => none
 | k + 1, x7, x9, x10, x13, x15, x365000, x365001, x365002, x365003, x388000, x388001, x388002, x388003 => if x15 < (x9.length : Int) then (if 0 ≤ x15 then ((thresherref04_Compare.f k x365000 x365001 x365002 x365003 (rd_L5 x9 x15) x13).bind fun t389 => ((index_In.f k x365000 x365001 x365002 x365003 x388000 x388001 x388002 x388003 (rd_L5 x9 x15)).bind fun t391 => (if (t391 != (t389 == 0)) = true then (some false) else ((index_Meets.f k x365000 x365001 x365002 x365003 x10 true true (rd_L5 x9 x15) x13).bind fun bt394 => ((index_Empty.f k x365000 x365001 x365002 x365003 true true (rd_L5 x9 x15) x13).bind fun t396 => (if (t396 != (decide (t389 > 0))) = true then (thresherlaw12_IndexWhole.j2 k x7 x9 x10 x13 x15 true x365000 x365001 x365002 x365003 x388000 x388001 x388002 x388003) else (if t389 > 0 then (if bt394.1 = 0 then (thresherlaw12_IndexWhole.j2 k x7 x9 x10 x13 x15 (bt394.2 != 0) x365000 x365001 x365002 x365003 x388000 x388001 x388002 x388003) else (thresherlaw12_IndexWhole.j2 k x7 x9 x10 x13 x15 true x365000 x365001 x365002 x365003 x388000 x388001 x388002 x388003)) else (thresherlaw12_IndexWhole.j2 k x7 x9 x10 x13 x15 false x365000 x365001 x365002 x365003 x388000 x388001 x388002 x388003)))))))) else (none)) else (some x7)
def thresherlaw12_IndexWhole.j2 : Nat → Bool → List (List (S44)) → List (List (S44)) → List (S44) → Int → Bool → List Int → Int → Int → Int → Bool → Bool → List (S44) → List (S44) → Option (Bool)
 | 0, _, _, _, _, _, _, _, _, _, _, _, _, _, _ => none
 | k + 1, x7, x9, x10, x13, x15, x125, x365000, x365001, x365002, x365003, x388000, x388001, x388002, x388003 => if x125 = true then (some false) else (thresherlaw12_IndexWhole.l0 k x7 x9 x10 x13 (wrap64 (x15 + 1)) x365000 x365001 x365002 x365003 x388000 x388001 x388002 x388003)
end
def thresherlaw12_IndexWhole.f (k : Nat) (a0_0 : Int) (a0_1 : Int) (a0_2 : Int) (a0_3 : Int) (a0_4 : Int) (a0_5 : Int) (a0_6 : Int) (a0_7 : Int) (a0_8 : Int) (a0_9 : Int) (a0_10 : Int) (a0_11 : Int) (l1 : List (List (S44))) (a2 : Int) : Option (Bool) := (thresherlaw12_shown.f k).bind fun t357 => ((thresherlaw12_made.f k a0_0 a0_1 a0_2 a0_3 a0_4 a0_5 a0_6 a0_7 a0_8 a0_9 a0_10 a0_11).bind fun bt358 => ((thresherref04_Fits.f k bt358.1 bt358.2.1 bt358.2.2.1 bt358.2.2.2 l1 60).bind fun t365 => ((thresherref09_Sort.f k bt358.1 bt358.2.1 bt358.2.2.1 bt358.2.2.2 t365).bind fun t368 => ((thresherref10_Marks.f k bt358.1 bt358.2.1 bt358.2.2.1 bt358.2.2.2 t368).bind fun t371 => ((index_Meets.f k bt358.1 bt358.2.1 bt358.2.2.1 bt358.2.2.2 t371 false false (([(⟨3, (⟨#[]⟩ : ByteArray)⟩ : S44)] : List (S44))) (([(⟨(-3), (⟨#[]⟩ : ByteArray)⟩ : S44)] : List (S44)))).bind fun bt380 => (if bt380.1 = 0 then (if bt380.2 = (t371.length : Int) then ((index_Empty.f k bt358.1 bt358.2.1 bt358.2.2.1 bt358.2.2.2 false false ([] : List (S44)) ([] : List (S44))).bind fun t382 => (thresherlaw12_IndexWhole.j0 k a2 t357 t368 t371 t382 bt358.1 bt358.2.1 bt358.2.2.1 bt358.2.2.2)) else (thresherlaw12_IndexWhole.j0 k a2 t357 t368 t371 true bt358.1 bt358.2.1 bt358.2.2.1 bt358.2.2.2)) else (thresherlaw12_IndexWhole.j0 k a2 t357 t368 t371 true bt358.1 bt358.2.1 bt358.2.2.1 bt358.2.2.2)))))))
theorem thresherlaw12_IndexWhole.mono_l : ∀ k, (∀ y0 y1 y2 y3 y4 y5 y6 y7 y8, LeO (thresherlaw12_IndexWhole.j0 k y0 y1 y2 y3 y4 y5 y6 y7 y8) (thresherlaw12_IndexWhole.j0 (k + 1) y0 y1 y2 y3 y4 y5 y6 y7 y8)) ∧ (∀ y0 y1 y2 y3 y4 y5 y6 y7 y8 y9 y10 y11 y12, LeO (thresherlaw12_IndexWhole.l0 k y0 y1 y2 y3 y4 y5 y6 y7 y8 y9 y10 y11 y12) (thresherlaw12_IndexWhole.l0 (k + 1) y0 y1 y2 y3 y4 y5 y6 y7 y8 y9 y10 y11 y12)) ∧ (∀ y0 y1 y2 y3 y4 y5 y6 y7 y8 y9 y10 y11 y12 y13, LeO (thresherlaw12_IndexWhole.j2 k y0 y1 y2 y3 y4 y5 y6 y7 y8 y9 y10 y11 y12 y13) (thresherlaw12_IndexWhole.j2 (k + 1) y0 y1 y2 y3 y4 y5 y6 y7 y8 y9 y10 y11 y12 y13))
 | 0 => ⟨fun _ _ _ _ _ _ _ _ _ r h => by simp [thresherlaw12_IndexWhole.j0] at h, fun _ _ _ _ _ _ _ _ _ _ _ _ _ r h => by simp [thresherlaw12_IndexWhole.l0] at h, fun _ _ _ _ _ _ _ _ _ _ _ _ _ _ r h => by simp [thresherlaw12_IndexWhole.j2] at h⟩
 | k + 1 => by
  obtain ⟨ih0, ih1, ih2⟩ := thresherlaw12_IndexWhole.mono_l k
  refine ⟨?_, ?_, ?_⟩
  ·intro y0 y1 y2 y3 y4 y5 y6 y7 y8
   unfold thresherlaw12_IndexWhole.j0
   repeat' first
   | (with_reducible exact ih0 _ _ _ _ _ _ _ _ _)
   | (with_reducible exact ih1 _ _ _ _ _ _ _ _ _ _ _ _ _)
   | (with_reducible exact ih2 _ _ _ _ _ _ _ _ _ _ _ _ _ _)
   | (with_reducible exact index_Empty.mono _ _ _ _ _ _ _ _ _)
   | (with_reducible exact index_In.mono _ _ _ _ _ _ _ _ _ _)
   | (with_reducible exact index_Meets.mono _ _ _ _ _ _ _ _ _ _)
   | (with_reducible exact thresherlaw12_made.mono _ _ _ _ _ _ _ _ _ _ _ _ _)
   | (with_reducible exact thresherlaw12_shown.mono _)
   | (with_reducible exact thresherref04_Compare.mono _ _ _ _ _ _ _)
   | (with_reducible exact thresherref04_Fits.mono _ _ _ _ _ _ _)
   | (with_reducible exact thresherref09_Sort.mono _ _ _ _ _ _)
   | (with_reducible exact thresherref10_Marks.mono _ _ _ _ _ _)
   | (with_reducible exact LeO.refl _)
   | (with_reducible exact LeO.none _)
   | (with_reducible refine LeO.ite ?_ ?_)
   | (with_reducible refine LeO.bind ?_ (fun _ => ?_))
   | exact ih0 _ _ _ _ _ _ _ _ _
   | exact ih1 _ _ _ _ _ _ _ _ _ _ _ _ _
   | exact ih2 _ _ _ _ _ _ _ _ _ _ _ _ _ _
   | exact index_Empty.mono _ _ _ _ _ _ _ _ _
   | exact index_In.mono _ _ _ _ _ _ _ _ _ _
   | exact index_Meets.mono _ _ _ _ _ _ _ _ _ _
   | exact thresherlaw12_made.mono _ _ _ _ _ _ _ _ _ _ _ _ _
   | exact thresherlaw12_shown.mono _
   | exact thresherref04_Compare.mono _ _ _ _ _ _ _
   | exact thresherref04_Fits.mono _ _ _ _ _ _ _
   | exact thresherref09_Sort.mono _ _ _ _ _ _
   | exact thresherref10_Marks.mono _ _ _ _ _ _
   | exact LeO.none _
   | refine LeO.ite ?_ ?_
   | refine LeO.bind ?_ (fun _ => ?_)
  ·intro y0 y1 y2 y3 y4 y5 y6 y7 y8 y9 y10 y11 y12
   unfold thresherlaw12_IndexWhole.l0
   repeat' first
   | (with_reducible exact ih0 _ _ _ _ _ _ _ _ _)
   | (with_reducible exact ih1 _ _ _ _ _ _ _ _ _ _ _ _ _)
   | (with_reducible exact ih2 _ _ _ _ _ _ _ _ _ _ _ _ _ _)
   | (with_reducible exact index_Empty.mono _ _ _ _ _ _ _ _ _)
   | (with_reducible exact index_In.mono _ _ _ _ _ _ _ _ _ _)
   | (with_reducible exact index_Meets.mono _ _ _ _ _ _ _ _ _ _)
   | (with_reducible exact thresherlaw12_made.mono _ _ _ _ _ _ _ _ _ _ _ _ _)
   | (with_reducible exact thresherlaw12_shown.mono _)
   | (with_reducible exact thresherref04_Compare.mono _ _ _ _ _ _ _)
   | (with_reducible exact thresherref04_Fits.mono _ _ _ _ _ _ _)
   | (with_reducible exact thresherref09_Sort.mono _ _ _ _ _ _)
   | (with_reducible exact thresherref10_Marks.mono _ _ _ _ _ _)
   | (with_reducible exact LeO.refl _)
   | (with_reducible exact LeO.none _)
   | (with_reducible refine LeO.ite ?_ ?_)
   | (with_reducible refine LeO.bind ?_ (fun _ => ?_))
   | exact ih0 _ _ _ _ _ _ _ _ _
   | exact ih1 _ _ _ _ _ _ _ _ _ _ _ _ _
   | exact ih2 _ _ _ _ _ _ _ _ _ _ _ _ _ _
   | exact index_Empty.mono _ _ _ _ _ _ _ _ _
   | exact index_In.mono _ _ _ _ _ _ _ _ _ _
   | exact index_Meets.mono _ _ _ _ _ _ _ _ _ _
   | exact thresherlaw12_made.mono _ _ _ _ _ _ _ _ _ _ _ _ _
   | exact thresherlaw12_shown.mono _
   | exact thresherref04_Compare.mono _ _ _ _ _ _ _
   | exact thresherref04_Fits.mono _ _ _ _ _ _ _
   | exact thresherref09_Sort.mono _ _ _ _ _ _
   | exact thresherref10_Marks.mono _ _ _ _ _ _
   | exact LeO.none _
   | refine LeO.ite ?_ ?_
   | refine LeO.bind ?_ (fun _ => ?_)
  ·intro y0 y1 y2 y3 y4 y5 y6 y7 y8 y9 y10 y11 y12 y13
   unfold thresherlaw12_IndexWhole.j2
   repeat' first
   | (with_reducible exact ih0 _ _ _ _ _ _ _ _ _)
   | (with_reducible exact ih1 _ _ _ _ _ _ _ _ _ _ _ _ _)
   | (with_reducible exact ih2 _ _ _ _ _ _ _ _ _ _ _ _ _ _)
   | (with_reducible exact index_Empty.mono _ _ _ _ _ _ _ _ _)
   | (with_reducible exact index_In.mono _ _ _ _ _ _ _ _ _ _)
   | (with_reducible exact index_Meets.mono _ _ _ _ _ _ _ _ _ _)
   | (with_reducible exact thresherlaw12_made.mono _ _ _ _ _ _ _ _ _ _ _ _ _)
   | (with_reducible exact thresherlaw12_shown.mono _)
   | (with_reducible exact thresherref04_Compare.mono _ _ _ _ _ _ _)
   | (with_reducible exact thresherref04_Fits.mono _ _ _ _ _ _ _)
   | (with_reducible exact thresherref09_Sort.mono _ _ _ _ _ _)
   | (with_reducible exact thresherref10_Marks.mono _ _ _ _ _ _)
   | (with_reducible exact LeO.refl _)
   | (with_reducible exact LeO.none _)
   | (with_reducible refine LeO.ite ?_ ?_)
   | (with_reducible refine LeO.bind ?_ (fun _ => ?_))
   | exact ih0 _ _ _ _ _ _ _ _ _
   | exact ih1 _ _ _ _ _ _ _ _ _ _ _ _ _
   | exact ih2 _ _ _ _ _ _ _ _ _ _ _ _ _ _
   | exact index_Empty.mono _ _ _ _ _ _ _ _ _
   | exact index_In.mono _ _ _ _ _ _ _ _ _ _
   | exact index_Meets.mono _ _ _ _ _ _ _ _ _ _
   | exact thresherlaw12_made.mono _ _ _ _ _ _ _ _ _ _ _ _ _
   | exact thresherlaw12_shown.mono _
   | exact thresherref04_Compare.mono _ _ _ _ _ _ _
   | exact thresherref04_Fits.mono _ _ _ _ _ _ _
   | exact thresherref09_Sort.mono _ _ _ _ _ _
   | exact thresherref10_Marks.mono _ _ _ _ _ _
   | exact LeO.none _
   | refine LeO.ite ?_ ?_
   | refine LeO.bind ?_ (fun _ => ?_)
theorem thresherlaw12_IndexWhole.mono : ∀ a0 a1 a2 a3 a4 a5 a6 a7 a8 a9 a10 a11 a12 a13 k, LeO (thresherlaw12_IndexWhole.f k a0 a1 a2 a3 a4 a5 a6 a7 a8 a9 a10 a11 a12 a13) (thresherlaw12_IndexWhole.f (k + 1) a0 a1 a2 a3 a4 a5 a6 a7 a8 a9 a10 a11 a12 a13) := by
 intro a0 a1 a2 a3 a4 a5 a6 a7 a8 a9 a10 a11 a12 a13 k
 obtain ⟨ih0, ih1, ih2⟩ := thresherlaw12_IndexWhole.mono_l k
 unfold thresherlaw12_IndexWhole.f
 repeat' first
   | (with_reducible exact ih0 _ _ _ _ _ _ _ _ _)
   | (with_reducible exact ih1 _ _ _ _ _ _ _ _ _ _ _ _ _)
   | (with_reducible exact ih2 _ _ _ _ _ _ _ _ _ _ _ _ _ _)
   | (with_reducible exact index_Empty.mono _ _ _ _ _ _ _ _ _)
   | (with_reducible exact index_In.mono _ _ _ _ _ _ _ _ _ _)
   | (with_reducible exact index_Meets.mono _ _ _ _ _ _ _ _ _ _)
   | (with_reducible exact thresherlaw12_made.mono _ _ _ _ _ _ _ _ _ _ _ _ _)
   | (with_reducible exact thresherlaw12_shown.mono _)
   | (with_reducible exact thresherref04_Compare.mono _ _ _ _ _ _ _)
   | (with_reducible exact thresherref04_Fits.mono _ _ _ _ _ _ _)
   | (with_reducible exact thresherref09_Sort.mono _ _ _ _ _ _)
   | (with_reducible exact thresherref10_Marks.mono _ _ _ _ _ _)
   | (with_reducible exact LeO.refl _)
   | (with_reducible exact LeO.none _)
   | (with_reducible refine LeO.ite ?_ ?_)
   | (with_reducible refine LeO.bind ?_ (fun _ => ?_))
   | exact ih0 _ _ _ _ _ _ _ _ _
   | exact ih1 _ _ _ _ _ _ _ _ _ _ _ _ _
   | exact ih2 _ _ _ _ _ _ _ _ _ _ _ _ _ _
   | exact index_Empty.mono _ _ _ _ _ _ _ _ _
   | exact index_In.mono _ _ _ _ _ _ _ _ _ _
   | exact index_Meets.mono _ _ _ _ _ _ _ _ _ _
   | exact thresherlaw12_made.mono _ _ _ _ _ _ _ _ _ _ _ _ _
   | exact thresherlaw12_shown.mono _
   | exact thresherref04_Compare.mono _ _ _ _ _ _ _
   | exact thresherref04_Fits.mono _ _ _ _ _ _ _
   | exact thresherref09_Sort.mono _ _ _ _ _ _
   | exact thresherref10_Marks.mono _ _ _ _ _ _
   | exact LeO.none _
   | refine LeO.ite ?_ ?_
   | refine LeO.bind ?_ (fun _ => ?_)
def thresherlaw12_IndexWhole.T10 : Bool × List (List Nat × List Nat) := (true, [([], []), ([], []), ([], []), ([2], [2]), ([], []), ([4], [4]), ([3, 5], [3, 5]), ([1, 6], [1, 6]), ([7], [7]), ([0, 8], [0, 8]), ([9, 9, 0, 1, 2, 3, 4, 5, 6, 7, 8, 9], [9])])
def thresherlaw12_IndexWhole.B10 : List Nat := [0, 0, 0, 4, 0, 16, 60, 126, 254, 511, 1023]
theorem thresherlaw12_IndexWhole.tab10 : rtab .any (opsOf Try.f5 10) = thresherlaw12_IndexWhole.T10 := by kernel_rfl
theorem thresherlaw12_IndexWhole.bits10 : waitsOk thresherlaw12_IndexWhole.T10.2 thresherlaw12_IndexWhole.B10 = true := by kernel_rfl
def thresherlaw12_IndexWhole.T15 : Bool × List (List Nat × List Nat) := (true, [([], []), ([], []), ([], []), ([1, 2], [1, 2]), ([3], [3]), ([], []), ([0, 4, 5], [0, 4, 5]), ([6, 6, 0, 1, 2, 3, 4, 5, 6], [6])])
def thresherlaw12_IndexWhole.B15 : List Nat := [0, 0, 0, 6, 14, 0, 63, 127]
theorem thresherlaw12_IndexWhole.tab15 : rtab .any (opsOf Try.f5 15) = thresherlaw12_IndexWhole.T15 := by kernel_rfl
theorem thresherlaw12_IndexWhole.bits15 : waitsOk thresherlaw12_IndexWhole.T15.2 thresherlaw12_IndexWhole.B15 = true := by kernel_rfl
def thresherlaw12_IndexWhole.T16 : Bool × List (List Nat × List Nat) := (true, [([], []), ([], []), ([], []), ([], []), ([2, 3], [2, 3]), ([4], [4]), ([0, 1, 5], [0, 1, 5]), ([], []), ([7], [7]), ([6, 8], [6, 8])])
def thresherlaw12_IndexWhole.B16 : List Nat := [0, 0, 0, 0, 12, 28, 63, 0, 128, 511]
theorem thresherlaw12_IndexWhole.tab16 : rtab .any (opsOf Try.f5 16) = thresherlaw12_IndexWhole.T16 := by kernel_rfl
theorem thresherlaw12_IndexWhole.bits16 : waitsOk thresherlaw12_IndexWhole.T16.2 thresherlaw12_IndexWhole.B16 = true := by kernel_rfl
set_option maxHeartbeats 8000000 in
set_option maxRecDepth 100000 in
theorem thresherlaw12_IndexWhole.calls (k : Nat) (a0_0 : Int) (a0_1 : Int) (a0_2 : Int) (a0_3 : Int) (a0_4 : Int) (a0_5 : Int) (a0_6 : Int) (a0_7 : Int) (a0_8 : Int) (a0_9 : Int) (a0_10 : Int) (a0_11 : Int) (A1 : Option Addr) (c1 : Nat) (l1 : List (List (S44))) (a2 : Int) (r : Bool) (w : World) (hr1 : Kd.C (Kd.slice 44 k44) w A1 l1.length l1) (hc1 : l1.length ≤ c1) (h : thresherlaw12_IndexWhole.f k a0_0 a0_1 a0_2 a0_3 a0_4 a0_5 a0_6 a0_7 a0_8 a0_9 a0_10 a0_11 l1 a2 = some r) :
  Calls Try.prog 5 #[.agg #[.int .u8 a0_0, .int .u8 a0_1, .int .u8 a0_2, .int .u8 a0_3, .int .u8 a0_4, .int .u8 a0_5, .int .u8 a0_6, .int .u8 a0_7, .int .u8 a0_8, .int .u8 a0_9, .int .u8 a0_10, .int .u8 a0_11], .slice A1 l1.length c1, .int .u8 a2] w fun e w' => e = .returned (.bool r) ∧ Below w.heap.size w w' := by
 have hu24 := Try.underlying24
 have hu33 := Try.underlying33
 have hu44 := Try.underlying44
 have hu29 := Try.underlying29
 have HR1 := Aside0.mk hr1
 have HC1 := Aside0.mk hc1
 clear hr1 hc1
 have HB := Aside0.mk (Below.refl w.heap.size w)
 have H : ((thresherlaw12_shown.f k).bind fun t357 => ((thresherlaw12_made.f k a0_0 a0_1 a0_2 a0_3 a0_4 a0_5 a0_6 a0_7 a0_8 a0_9 a0_10 a0_11).bind fun bt358 => ((thresherref04_Fits.f k bt358.1 bt358.2.1 bt358.2.2.1 bt358.2.2.2 l1 60).bind fun t365 => ((thresherref09_Sort.f k bt358.1 bt358.2.1 bt358.2.2.1 bt358.2.2.2 t365).bind fun t368 => ((thresherref10_Marks.f k bt358.1 bt358.2.1 bt358.2.2.1 bt358.2.2.2 t368).bind fun t371 => ((index_Meets.f k bt358.1 bt358.2.1 bt358.2.2.1 bt358.2.2.2 t371 false false (([(⟨3, (⟨#[]⟩ : ByteArray)⟩ : S44)] : List (S44))) (([(⟨(-3), (⟨#[]⟩ : ByteArray)⟩ : S44)] : List (S44)))).bind fun bt380 => (if bt380.1 = 0 then (if bt380.2 = (t371.length : Int) then ((index_Empty.f k bt358.1 bt358.2.1 bt358.2.2.1 bt358.2.2.2 false false ([] : List (S44)) ([] : List (S44))).bind fun t382 => (thresherlaw12_IndexWhole.j0 k a2 t357 t368 t371 t382 bt358.1 bt358.2.1 bt358.2.2.1 bt358.2.2.2)) else (thresherlaw12_IndexWhole.j0 k a2 t357 t368 t371 true bt358.1 bt358.2.1 bt358.2.2.1 bt358.2.2.2)) else (thresherlaw12_IndexWhole.j0 k a2 t357 t368 t371 true bt358.1 bt358.2.1 bt358.2.2.1 bt358.2.2.2)))))))) = some r := h
 clear h
 replace H := Option.bind_eq_some_iff.mp H
 obtain ⟨t357, A40, H⟩ := H
 replace H : ((thresherlaw12_made.f k a0_0 a0_1 a0_2 a0_3 a0_4 a0_5 a0_6 a0_7 a0_8 a0_9 a0_10 a0_11).bind fun bt358 => ((thresherref04_Fits.f k bt358.1 bt358.2.1 bt358.2.2.1 bt358.2.2.2 l1 60).bind fun t365 => ((thresherref09_Sort.f k bt358.1 bt358.2.1 bt358.2.2.1 bt358.2.2.2 t365).bind fun t368 => ((thresherref10_Marks.f k bt358.1 bt358.2.1 bt358.2.2.1 bt358.2.2.2 t368).bind fun t371 => ((index_Meets.f k bt358.1 bt358.2.1 bt358.2.2.1 bt358.2.2.2 t371 false false (([(⟨3, (⟨#[]⟩ : ByteArray)⟩ : S44)] : List (S44))) (([(⟨(-3), (⟨#[]⟩ : ByteArray)⟩ : S44)] : List (S44)))).bind fun bt380 => (if bt380.1 = 0 then (if bt380.2 = (t371.length : Int) then ((index_Empty.f k bt358.1 bt358.2.1 bt358.2.2.1 bt358.2.2.2 false false ([] : List (S44)) ([] : List (S44))).bind fun t382 => (thresherlaw12_IndexWhole.j0 k a2 t357 t368 t371 t382 bt358.1 bt358.2.1 bt358.2.2.1 bt358.2.2.2)) else (thresherlaw12_IndexWhole.j0 k a2 t357 t368 t371 true bt358.1 bt358.2.1 bt358.2.2.1 bt358.2.2.2)) else (thresherlaw12_IndexWhole.j0 k a2 t357 t368 t371 true bt358.1 bt358.2.1 bt358.2.2.1 bt358.2.2.2))))))) = some r := H
 have A4 := Aside0.mk A40
 clear A40
 replace H := Option.bind_eq_some_iff.mp H
 obtain ⟨⟨t358, t361, t362, t363⟩, A50, H⟩ := H
 replace H : ((thresherref04_Fits.f k t358 t361 t362 t363 l1 60).bind fun t365 => ((thresherref09_Sort.f k t358 t361 t362 t363 t365).bind fun t368 => ((thresherref10_Marks.f k t358 t361 t362 t363 t368).bind fun t371 => ((index_Meets.f k t358 t361 t362 t363 t371 false false (([(⟨3, (⟨#[]⟩ : ByteArray)⟩ : S44)] : List (S44))) (([(⟨(-3), (⟨#[]⟩ : ByteArray)⟩ : S44)] : List (S44)))).bind fun bt380 => (if bt380.1 = 0 then (if bt380.2 = (t371.length : Int) then ((index_Empty.f k t358 t361 t362 t363 false false ([] : List (S44)) ([] : List (S44))).bind fun t382 => (thresherlaw12_IndexWhole.j0 k a2 t357 t368 t371 t382 t358 t361 t362 t363)) else (thresherlaw12_IndexWhole.j0 k a2 t357 t368 t371 true t358 t361 t362 t363)) else (thresherlaw12_IndexWhole.j0 k a2 t357 t368 t371 true t358 t361 t362 t363)))))) = some r := H
 have A5 := Aside0.mk A50
 clear A50
 replace H := Option.bind_eq_some_iff.mp H
 obtain ⟨t365, A60, H⟩ := H
 replace H : ((thresherref09_Sort.f k t358 t361 t362 t363 t365).bind fun t368 => ((thresherref10_Marks.f k t358 t361 t362 t363 t368).bind fun t371 => ((index_Meets.f k t358 t361 t362 t363 t371 false false (([(⟨3, (⟨#[]⟩ : ByteArray)⟩ : S44)] : List (S44))) (([(⟨(-3), (⟨#[]⟩ : ByteArray)⟩ : S44)] : List (S44)))).bind fun bt380 => (if bt380.1 = 0 then (if bt380.2 = (t371.length : Int) then ((index_Empty.f k t358 t361 t362 t363 false false ([] : List (S44)) ([] : List (S44))).bind fun t382 => (thresherlaw12_IndexWhole.j0 k a2 t357 t368 t371 t382 t358 t361 t362 t363)) else (thresherlaw12_IndexWhole.j0 k a2 t357 t368 t371 true t358 t361 t362 t363)) else (thresherlaw12_IndexWhole.j0 k a2 t357 t368 t371 true t358 t361 t362 t363))))) = some r := H
 have A6 := Aside0.mk A60
 clear A60
 replace H := Option.bind_eq_some_iff.mp H
 obtain ⟨t368, A70, H⟩ := H
 replace H : ((thresherref10_Marks.f k t358 t361 t362 t363 t368).bind fun t371 => ((index_Meets.f k t358 t361 t362 t363 t371 false false (([(⟨3, (⟨#[]⟩ : ByteArray)⟩ : S44)] : List (S44))) (([(⟨(-3), (⟨#[]⟩ : ByteArray)⟩ : S44)] : List (S44)))).bind fun bt380 => (if bt380.1 = 0 then (if bt380.2 = (t371.length : Int) then ((index_Empty.f k t358 t361 t362 t363 false false ([] : List (S44)) ([] : List (S44))).bind fun t382 => (thresherlaw12_IndexWhole.j0 k a2 t357 t368 t371 t382 t358 t361 t362 t363)) else (thresherlaw12_IndexWhole.j0 k a2 t357 t368 t371 true t358 t361 t362 t363)) else (thresherlaw12_IndexWhole.j0 k a2 t357 t368 t371 true t358 t361 t362 t363)))) = some r := H
 have A7 := Aside0.mk A70
 clear A70
 replace H := Option.bind_eq_some_iff.mp H
 obtain ⟨t371, A80, H⟩ := H
 replace H : ((index_Meets.f k t358 t361 t362 t363 t371 false false (([(⟨3, (⟨#[]⟩ : ByteArray)⟩ : S44)] : List (S44))) (([(⟨(-3), (⟨#[]⟩ : ByteArray)⟩ : S44)] : List (S44)))).bind fun bt380 => (if bt380.1 = 0 then (if bt380.2 = (t371.length : Int) then ((index_Empty.f k t358 t361 t362 t363 false false ([] : List (S44)) ([] : List (S44))).bind fun t382 => (thresherlaw12_IndexWhole.j0 k a2 t357 t368 t371 t382 t358 t361 t362 t363)) else (thresherlaw12_IndexWhole.j0 k a2 t357 t368 t371 true t358 t361 t362 t363)) else (thresherlaw12_IndexWhole.j0 k a2 t357 t368 t371 true t358 t361 t362 t363))) = some r := H
 have A8 := Aside0.mk A80
 clear A80
 obtain ⟨y374, hy374⟩ : ∃ y_ : List (S44), y_ = (([(⟨3, (⟨#[]⟩ : ByteArray)⟩ : S44)] : List (S44))) := ⟨_, rfl⟩
 replace H : ((index_Meets.f k t358 t361 t362 t363 t371 false false y374 (([(⟨(-3), (⟨#[]⟩ : ByteArray)⟩ : S44)] : List (S44)))).bind fun bt380 => (if bt380.1 = 0 then (if bt380.2 = (t371.length : Int) then ((index_Empty.f k t358 t361 t362 t363 false false ([] : List (S44)) ([] : List (S44))).bind fun t382 => (thresherlaw12_IndexWhole.j0 k a2 t357 t368 t371 t382 t358 t361 t362 t363)) else (thresherlaw12_IndexWhole.j0 k a2 t357 t368 t371 true t358 t361 t362 t363)) else (thresherlaw12_IndexWhole.j0 k a2 t357 t368 t371 true t358 t361 t362 t363))) = some r := by first | (rw [hy374]; with_reducible exact H) | (have H2_ := (Option.bind_some _ _).symm.trans H; rw [hy374]; with_reducible exact H2_) | (have H2_ := (Option.bind_some _ _).symm.trans H; with_reducible exact H2_) | with_reducible exact H | (rw [hy374]; exact H) | exact H
 have Ny374 := Aside0.mk hy374
 clear hy374
 obtain ⟨y377, hy377⟩ : ∃ y_ : List (S44), y_ = (([(⟨(-3), (⟨#[]⟩ : ByteArray)⟩ : S44)] : List (S44))) := ⟨_, rfl⟩
 replace H : ((index_Meets.f k t358 t361 t362 t363 t371 false false y374 y377).bind fun bt380 => (if bt380.1 = 0 then (if bt380.2 = (t371.length : Int) then ((index_Empty.f k t358 t361 t362 t363 false false ([] : List (S44)) ([] : List (S44))).bind fun t382 => (thresherlaw12_IndexWhole.j0 k a2 t357 t368 t371 t382 t358 t361 t362 t363)) else (thresherlaw12_IndexWhole.j0 k a2 t357 t368 t371 true t358 t361 t362 t363)) else (thresherlaw12_IndexWhole.j0 k a2 t357 t368 t371 true t358 t361 t362 t363))) = some r := by first | (rw [hy377]; with_reducible exact H) | (have H2_ := (Option.bind_some _ _).symm.trans H; rw [hy377]; with_reducible exact H2_) | (have H2_ := (Option.bind_some _ _).symm.trans H; with_reducible exact H2_) | with_reducible exact H | (rw [hy377]; exact H) | exact H
 have Ny377 := Aside0.mk hy377
 clear hy377
 replace H := Option.bind_eq_some_iff.mp H
 obtain ⟨⟨t380, t381⟩, A90, H⟩ := H
 replace H : (if t380 = 0 then (if t381 = (t371.length : Int) then ((index_Empty.f k t358 t361 t362 t363 false false ([] : List (S44)) ([] : List (S44))).bind fun t382 => (thresherlaw12_IndexWhole.j0 k a2 t357 t368 t371 t382 t358 t361 t362 t363)) else (thresherlaw12_IndexWhole.j0 k a2 t357 t368 t371 true t358 t361 t362 t363)) else (thresherlaw12_IndexWhole.j0 k a2 t357 t368 t371 true t358 t361 t362 t363)) = some r := H
 have A9 := Aside0.mk A90
 clear A90
 have HC10 := Aside0.mk H
 clear H
 go_enter Try.func5, Try.ntmps5
 try go_wp2_with (first | ((with_reducible refine gate_dst (N := 3) rfl ?_); (try (refine gate_guard (by rfl) ?_; dsimp only)); refine box_event ?hg (N := 3) ?hd (cs := #[.int .u8 a0_0, .int .u8 a0_1, .int .u8 a0_2, .int .u8 a0_3, .int .u8 a0_4, .int .u8 a0_5, .int .u8 a0_6, .int .u8 a0_7, .int .u8 a0_8, .int .u8 a0_9, .int .u8 a0_10, .int .u8 a0_11]) (t := 24) ?hr ?_; (case hd => rfl); (case hg => rfl); (case hr => first | (go_simp; done) | (go_simp; rfl)); intro gb356 hg w11 hbox hb; have n0_ := Aside0.mk (below_step (by repeat (first | (with_reducible first | exact HB.out | apply below_alloc | apply pw_below_drewN | apply below_drew1) | exact HB.out)) hb); have n1_ := Aside0.mk (hbox); have n2_ := Aside0.mk ((by rw [hg]; exact (below_size (by repeat (first | (with_reducible first | exact HB.out | apply below_alloc | apply pw_below_drewN | apply below_drew1) | exact HB.out))) : w.heap.size ≤ gb356)); have n3_ := Aside0.mk ((by rw [hg]; exact (below_size (by repeat (first | (with_reducible first | exact HB.out | apply below_alloc | apply pw_below_drewN | apply below_drew1) | exact HB.out))) : w.heap.size ≤ gb356)); clear HB; have HB := n0_; have BK356 := n1_; have GW356 := n2_; have GE356 := n3_; clear n0_ n1_ n2_ n3_; clear hb hbox hg) | ((with_reducible refine gate_callee (f := 7) rfl ?_); refine goesL_ (some 20) rfl rfl Try.func7 (by kernel_rfl) rfl #[] rfl (by (try simp only [List.map_toArray, List.map_cons, List.map_nil]); first | done | rfl | (simp only [List.length_drop, List.length_take]; rfl)) ?_; (with_reducible refine (thresherlaw12_shown.calls k  t357 _ A4.out).mono ?_); rintro e w12 ⟨rfl, hb⟩; refine ⟨_, rfl, ?_⟩; have n0_ := Aside0.mk (blk_below (g := gb356) (o := .cells #[.int .u8 a0_0, .int .u8 a0_1, .int .u8 a0_2, .int .u8 a0_3, .int .u8 a0_4, .int .u8 a0_5, .int .u8 a0_6, .int .u8 a0_7, .int .u8 a0_8, .int .u8 a0_9, .int .u8 a0_10, .int .u8 a0_11] 24 (0, 0)) (by (with_reducible repeat (first | refine blk_drewN ?_ _ | refine blk_drew ?_ | refine blk_alloc ?_ _)); exact BK356.out) hb); have n1_ := Aside0.mk (below_step (by repeat (first | (with_reducible first | exact HB.out | apply below_alloc | apply pw_below_drewN | apply below_drew1 | refine below_set ?_ GE356.out) | exact HB.out)) hb); clear BK356; clear HB; have BK356 := n0_; have HB := n1_; clear n0_ n1_; (try clear hb); (try clear hb2); (try clear hk); (try clear hi); have hcz13_0 : w12.cell? ⟨gb356, 0, none⟩ = some (.int .u8 a0_0) := (blk_cell BK356.out 0).trans rfl; have hcz13_1 : w12.cell? ⟨gb356, 1, none⟩ = some (.int .u8 a0_1) := (blk_cell BK356.out 1).trans rfl; have hcz13_2 : w12.cell? ⟨gb356, 2, none⟩ = some (.int .u8 a0_2) := (blk_cell BK356.out 2).trans rfl; have hcz13_3 : w12.cell? ⟨gb356, 3, none⟩ = some (.int .u8 a0_3) := (blk_cell BK356.out 3).trans rfl; have hcz13_4 : w12.cell? ⟨gb356, 4, none⟩ = some (.int .u8 a0_4) := (blk_cell BK356.out 4).trans rfl; have hcz13_5 : w12.cell? ⟨gb356, 5, none⟩ = some (.int .u8 a0_5) := (blk_cell BK356.out 5).trans rfl; have hcz13_6 : w12.cell? ⟨gb356, 6, none⟩ = some (.int .u8 a0_6) := (blk_cell BK356.out 6).trans rfl; have hcz13_7 : w12.cell? ⟨gb356, 7, none⟩ = some (.int .u8 a0_7) := (blk_cell BK356.out 7).trans rfl; have hcz13_8 : w12.cell? ⟨gb356, 8, none⟩ = some (.int .u8 a0_8) := (blk_cell BK356.out 8).trans rfl; have hcz13_9 : w12.cell? ⟨gb356, 9, none⟩ = some (.int .u8 a0_9) := (blk_cell BK356.out 9).trans rfl; have hcz13_10 : w12.cell? ⟨gb356, 10, none⟩ = some (.int .u8 a0_10) := (blk_cell BK356.out 10).trans rfl; have hcz13_11 : w12.cell? ⟨gb356, 11, none⟩ = some (.int .u8 a0_11) := (blk_cell BK356.out 11).trans rfl; have hfz13_0 := blk_frozen BK356.out 0; have hfz13_1 := blk_frozen BK356.out 1; have hfz13_2 := blk_frozen BK356.out 2; have hfz13_3 := blk_frozen BK356.out 3; have hfz13_4 := blk_frozen BK356.out 4; have hfz13_5 := blk_frozen BK356.out 5; have hfz13_6 := blk_frozen BK356.out 6; have hfz13_7 := blk_frozen BK356.out 7; have hfz13_8 := blk_frozen BK356.out 8; have hfz13_9 := blk_frozen BK356.out 9; have hfz13_10 := blk_frozen BK356.out 10; have hfz13_11 := blk_frozen BK356.out 11) | ((with_reducible refine gate_callee (f := 8) rfl ?_); refine goesL_ (some 22) rfl rfl Try.func8 (by kernel_rfl) rfl #[.agg #[.int .u8 a0_0, .int .u8 a0_1, .int .u8 a0_2, .int .u8 a0_3, .int .u8 a0_4, .int .u8 a0_5, .int .u8 a0_6, .int .u8 a0_7, .int .u8 a0_8, .int .u8 a0_9, .int .u8 a0_10, .int .u8 a0_11]] rfl (by (try simp only [List.map_toArray, List.map_cons, List.map_nil]); first | done | rfl | (simp only [List.length_drop, List.length_take]; rfl)) ?_; (with_reducible refine (thresherlaw12_made.calls k a0_0 a0_1 a0_2 a0_3 a0_4 a0_5 a0_6 a0_7 a0_8 a0_9 a0_10 a0_11 t358 t361 t362 t363 _ A5.out).mono ?_); rintro e w14 ⟨v359, rfl, ho0, hb⟩; refine ⟨_, rfl, ?_⟩; have n0_ := Aside0.mk (Kd.R_lower ho0 (below_size (by repeat (first | (with_reducible first | exact HB.out | apply below_alloc | apply pw_below_drewN | apply below_drew1 | refine below_set ?_ GE356.out) | exact HB.out)))); have n1_ := Aside0.mk (blk_below (g := gb356) (o := .cells #[.int .u8 a0_0, .int .u8 a0_1, .int .u8 a0_2, .int .u8 a0_3, .int .u8 a0_4, .int .u8 a0_5, .int .u8 a0_6, .int .u8 a0_7, .int .u8 a0_8, .int .u8 a0_9, .int .u8 a0_10, .int .u8 a0_11] 24 (0, 0)) (by (with_reducible repeat (first | refine blk_drewN ?_ _ | refine blk_drew ?_ | refine blk_alloc ?_ _)); exact BK356.out) hb); have n2_ := Aside0.mk (below_step (by repeat (first | (with_reducible first | exact HB.out | apply below_alloc | apply pw_below_drewN | apply below_drew1 | refine below_set ?_ GE356.out) | exact HB.out)) hb); clear BK356; clear HB; have HO360 := n0_; have BK356 := n1_; have HB := n2_; clear n0_ n1_ n2_; (try clear hb); (try clear hb2); (try clear hk); (try clear hi); (try clear ho0)) | ((with_reducible refine gate_dst (N := 8) rfl ?_); (try (refine gate_guard (by rfl) ?_; dsimp only)); refine box_event ?hg (N := 8) ?hd (cs := #[.slice none 0 0, .int .i64 0, .int .i64 0, .int .i64 0]) (t := 33) ?hr ?_; (case hd => rfl); (case hg => rfl); (case hr => first | (go_simp; done) | (go_simp; rfl)); intro gb364 hg w15 hbox hb; have n0_ := Aside0.mk (Kd.R_below (by (with_reducible repeat (first | apply Kd.R_alloc | apply Kd.R_drewN | apply Kd.R_drew)); exact HO360.out) hb); have n1_ := Aside0.mk (blk_below (g := gb356) (o := .cells #[.int .u8 a0_0, .int .u8 a0_1, .int .u8 a0_2, .int .u8 a0_3, .int .u8 a0_4, .int .u8 a0_5, .int .u8 a0_6, .int .u8 a0_7, .int .u8 a0_8, .int .u8 a0_9, .int .u8 a0_10, .int .u8 a0_11] 24 (0, 0)) (by (with_reducible repeat (first | refine blk_drewN ?_ _ | refine blk_drew ?_ | refine blk_alloc ?_ _)); exact BK356.out) hb); have n2_ := Aside0.mk (below_step (by repeat (first | (with_reducible first | exact HB.out | apply below_alloc | apply pw_below_drewN | apply below_drew1 | refine below_set ?_ GE356.out) | exact HB.out)) hb); have n3_ := Aside0.mk (hbox); have n4_ := Aside0.mk ((by rw [hg]; exact (below_size (by repeat (first | (with_reducible first | exact HB.out | apply below_alloc | apply pw_below_drewN | apply below_drew1 | refine below_set ?_ GE356.out) | exact HB.out))) : w.heap.size ≤ gb364)); have n5_ := Aside0.mk ((by rw [hg]; exact (below_size (by repeat (first | (with_reducible first | exact HB.out | apply below_alloc | apply pw_below_drewN | apply below_drew1 | refine below_set ?_ GE356.out) | exact HB.out))) : w.heap.size ≤ gb364)); have n6_ := Aside0.mk ((by rw [hg]; exact Nat.ne_of_lt (blk_lt (g := gb356) (o := .cells #[.int .u8 a0_0, .int .u8 a0_1, .int .u8 a0_2, .int .u8 a0_3, .int .u8 a0_4, .int .u8 a0_5, .int .u8 a0_6, .int .u8 a0_7, .int .u8 a0_8, .int .u8 a0_9, .int .u8 a0_10, .int .u8 a0_11] 24 (0, 0)) (by (with_reducible repeat (first | refine blk_drewN ?_ _ | refine blk_drew ?_ | refine blk_alloc ?_ _)); exact BK356.out)) : gb356 ≠ gb364)); have n7_ := Aside0.mk ((by rw [hg]; exact Nat.ne_of_gt (blk_lt (g := gb356) (o := .cells #[.int .u8 a0_0, .int .u8 a0_1, .int .u8 a0_2, .int .u8 a0_3, .int .u8 a0_4, .int .u8 a0_5, .int .u8 a0_6, .int .u8 a0_7, .int .u8 a0_8, .int .u8 a0_9, .int .u8 a0_10, .int .u8 a0_11] 24 (0, 0)) (by (with_reducible repeat (first | refine blk_drewN ?_ _ | refine blk_drew ?_ | refine blk_alloc ?_ _)); exact BK356.out)) : gb364 ≠ gb356)); clear HO360; clear BK356; clear HB; have HO360 := n0_; have BK356 := n1_; have HB := n2_; have BK364 := n3_; have GW364 := n4_; have GE364 := n5_; have NB356_364 := n6_; have NB364_356 := n7_; clear n0_ n1_ n2_ n3_ n4_ n5_ n6_ n7_; clear hb hbox hg; obtain ⟨Ao16, co16, eo16⟩ := Kd.R_slice HO360.out; subst eo16; have hnb17 := NB364_356.out; have hnc17 := NB356_364.out; have hcz18_0 : w15.cell? ⟨gb364, 0, none⟩ = some (.slice none 0 0) := (blk_cell BK364.out 0).trans rfl; have hcz18_1 : w15.cell? ⟨gb364, 1, none⟩ = some (.int .i64 0) := (blk_cell BK364.out 1).trans rfl; have hcz18_2 : w15.cell? ⟨gb364, 2, none⟩ = some (.int .i64 0) := (blk_cell BK364.out 2).trans rfl; have hcz18_3 : w15.cell? ⟨gb364, 3, none⟩ = some (.int .i64 0) := (blk_cell BK364.out 3).trans rfl; have hfz18_0 := blk_frozen BK364.out 0; have hfz18_1 := blk_frozen BK364.out 1; have hfz18_2 := blk_frozen BK364.out 2; have hfz18_3 := blk_frozen BK364.out 3))
 have n0_ : Aside0 (Kd.R (Kd.int .i64) 3 ((((w15.setCell ⟨gb364, 0, none⟩ (.slice Ao16 t358.length co16)).setCell ⟨gb364, 1, none⟩ (.int .i64 t361)).setCell ⟨gb364, 2, none⟩ (.int .i64 t362)).setCell ⟨gb364, 3, none⟩ (.int .i64 t363)) w.heap.size (fun _ => True) (.slice Ao16 t358.length co16) t358) := ⟨by (with_reducible repeat (first | apply Kd.R_alloc | apply Kd.R_drewN | apply Kd.R_drew)); exact Kd.R_mono (Kd.R_far (p := ⟨gb364, 3, none⟩) (Kd.R_far (p := ⟨gb364, 2, none⟩) (Kd.R_far (p := ⟨gb364, 1, none⟩) (Kd.R_far (p := ⟨gb364, 0, none⟩) (Kd.R_types HO360.out BK364.out (by decide)) (fun _ hk => hk.2) (.slice Ao16 t358.length co16)) (fun _ hk => hk.2) (.int .i64 t361)) (fun _ hk => hk.2) (.int .i64 t362)) (fun _ hk => hk.2) (.int .i64 t363)) (fun _ hk => trivial)⟩
 have n1_ : Aside0 (((((w15.setCell ⟨gb364, 0, none⟩ (.slice Ao16 t358.length co16)).setCell ⟨gb364, 1, none⟩ (.int .i64 t361)).setCell ⟨gb364, 2, none⟩ (.int .i64 t362)).setCell ⟨gb364, 3, none⟩ (.int .i64 t363)).heap[gb356]? = some (.cells #[.int .u8 a0_0, .int .u8 a0_1, .int .u8 a0_2, .int .u8 a0_3, .int .u8 a0_4, .int .u8 a0_5, .int .u8 a0_6, .int .u8 a0_7, .int .u8 a0_8, .int .u8 a0_9, .int .u8 a0_10, .int .u8 a0_11] 24 (0, 0))) := ⟨by (with_reducible repeat (first | refine blk_drewN ?_ _ | refine blk_drew ?_ | refine blk_alloc ?_ _)); refine blk_far ?_ NB356_364.out _; (with_reducible repeat (first | refine blk_drewN ?_ _ | refine blk_drew ?_ | refine blk_alloc ?_ _)); refine blk_far ?_ NB356_364.out _; (with_reducible repeat (first | refine blk_drewN ?_ _ | refine blk_drew ?_ | refine blk_alloc ?_ _)); refine blk_far ?_ NB356_364.out _; (with_reducible repeat (first | refine blk_drewN ?_ _ | refine blk_drew ?_ | refine blk_alloc ?_ _)); refine blk_far ?_ NB356_364.out _; (with_reducible repeat (first | refine blk_drewN ?_ _ | refine blk_drew ?_ | refine blk_alloc ?_ _)); exact BK356.out⟩
 have n2_ : Aside0 (((((w15.setCell ⟨gb364, 0, none⟩ (.slice Ao16 t358.length co16)).setCell ⟨gb364, 1, none⟩ (.int .i64 t361)).setCell ⟨gb364, 2, none⟩ (.int .i64 t362)).setCell ⟨gb364, 3, none⟩ (.int .i64 t363)).heap[gb364]? = some (.cells #[.slice Ao16 t358.length co16, .int .i64 t361, .int .i64 t362, .int .i64 t363] 33 (0, 0))) := ⟨by (with_reducible repeat (first | refine blk_drewN ?_ _ | refine blk_drew ?_ | refine blk_alloc ?_ _)); refine blk_put (cs := #[.slice Ao16 t358.length co16, .int .i64 t361, .int .i64 t362, .int .i64 0]) ?_ 3 _ rfl; (with_reducible repeat (first | refine blk_drewN ?_ _ | refine blk_drew ?_ | refine blk_alloc ?_ _)); refine blk_put (cs := #[.slice Ao16 t358.length co16, .int .i64 t361, .int .i64 0, .int .i64 0]) ?_ 2 _ rfl; (with_reducible repeat (first | refine blk_drewN ?_ _ | refine blk_drew ?_ | refine blk_alloc ?_ _)); refine blk_put (cs := #[.slice Ao16 t358.length co16, .int .i64 0, .int .i64 0, .int .i64 0]) ?_ 1 _ rfl; (with_reducible repeat (first | refine blk_drewN ?_ _ | refine blk_drew ?_ | refine blk_alloc ?_ _)); refine blk_put (cs := #[.slice none 0 0, .int .i64 0, .int .i64 0, .int .i64 0]) ?_ 0 _ rfl; (with_reducible repeat (first | refine blk_drewN ?_ _ | refine blk_drew ?_ | refine blk_alloc ?_ _)); exact BK364.out⟩
 have n3_ : Aside0 (Below w.heap.size w ((((w15.setCell ⟨gb364, 0, none⟩ (.slice Ao16 t358.length co16)).setCell ⟨gb364, 1, none⟩ (.int .i64 t361)).setCell ⟨gb364, 2, none⟩ (.int .i64 t362)).setCell ⟨gb364, 3, none⟩ (.int .i64 t363))) := ⟨by repeat (first | (with_reducible first | exact HB.out | apply below_alloc | apply pw_below_drewN | apply below_drew1 | refine below_set ?_ GE356.out | refine below_set ?_ GE364.out) | exact HB.out)⟩
 (try clear HO360)
 (try clear BK356)
 (try clear BK364)
 (try clear HB)
 generalize ((((w15.setCell ⟨gb364, 0, none⟩ (.slice Ao16 t358.length co16)).setCell ⟨gb364, 1, none⟩ (.int .i64 t361)).setCell ⟨gb364, 2, none⟩ (.int .i64 t362)).setCell ⟨gb364, 3, none⟩ (.int .i64 t363)) = w19 at n0_ n1_ n2_ n3_ ⊢
 have HO360 := n0_
 have BK356 := n1_
 have BK364 := n2_
 have HB := n3_
 clear n0_ n1_ n2_ n3_
 have n0_ := Aside0.mk (Kd.R_drew HO360.out)
 have n1_ := Aside0.mk (blk_drew BK356.out)
 have n2_ := Aside0.mk (blk_drew BK364.out)
 have n3_ := Aside0.mk (below_drew1 HB.out)
 clear HO360
 clear BK356
 clear BK364
 clear HB
 have HO360 := n0_
 have BK356 := n1_
 have BK364 := n2_
 have HB := n3_
 clear n0_ n1_ n2_ n3_
 refine start_ (n := 6) (S := fun w' => w'.cell? ⟨gb364, 0, none⟩ = some (.slice Ao16 t358.length co16) ∧ w'.cell? ⟨gb364, 1, none⟩ = some (.int .i64 t361) ∧ w'.cell? ⟨gb364, 2, none⟩ = some (.int .i64 t362) ∧ w'.cell? ⟨gb364, 3, none⟩ = some (.int .i64 t363)) (ds := []) #[false, false, false, false, false, false] (by kernel_rfl) rfl rfl ⟨(blk_cell BK364.out 0).trans rfl, (blk_cell BK364.out 1).trans rfl, (blk_cell BK364.out 2).trans rfl, (blk_cell BK364.out 3).trans rfl⟩ (fun hHeld => ?_)
 generalize w19.drew = w20 at HO360 BK356 BK364 HB hHeld ⊢
 refine pure_ (i := 2) (N := some 25) (v := ?_) (a' := ?_) #[false, false, true, false, false, false] rfl rfl (by kernel_rfl) (fun _ _ _ h => h) (Or.inl ⟨by rfl, ?_⟩) ?_ ?_
 rotate_left; (intro w'; go_simp; with_reducible rfl); rotate_left; (simp only [Act.put, List.setIfInBounds_toArray, List.set_cons_zero, List.set_cons_succ, i64_w, i32_w]; rfl)
 refine take_ (i := 0) (N := some 23) (v := ?_) (a' := ?_) #[true, false, true, false, false, false] rfl rfl (by kernel_rfl) (fun _ _ _ h => h) (Or.inl ⟨by rfl, ?_⟩) hHeld ?_ ?_
 rotate_left; (rintro w' ⟨s0, s1, s2, s3⟩; go_simp; with_reducible rfl); rotate_left; (simp only [Act.put, List.setIfInBounds_toArray, List.set_cons_zero, List.set_cons_succ, i64_w, i32_w]; rfl)
 refine take_ (i := 1) (N := some 24) (v := ?_) (a' := ?_) #[true, true, true, false, false, false] rfl rfl (by kernel_rfl) (fun _ _ _ h => h) (Or.inl ⟨by rfl, ?_⟩) hHeld ?_ ?_
 rotate_left; (rintro w' ⟨s0, s1, s2, s3⟩; go_simp; with_reducible rfl); rotate_left; (simp only [Act.put, List.setIfInBounds_toArray, List.set_cons_zero, List.set_cons_succ, i64_w, i32_w]; rfl)
 refine one_ (i := 3) (N := some 26) #[true, true, true, true, false, false] rfl rfl (by kernel_rfl) (by decide) (fun K hK => ?_)
 refine goes_ Try.func10 (by kernel_rfl) rfl #[.agg #[.slice Ao16 t358.length co16, .int .i64 t361, .int .i64 t362, .int .i64 t363], .slice A1 l1.length c1, .int .i64 60] (by rfl) rfl rfl (by (try simp only [List.map_toArray, List.map_cons, List.map_nil]); first | done | rfl | (simp only [List.length_drop, List.length_take]; rfl)) ?_
 with_reducible refine (thresherref04_Fits.calls k _ _ t358 t361 t362 t363 _ _ l1 60 t365 _ ?side1 ?side2 ?side3 ?side4 A6.out).mono ?_
 (case side1 => repeat (first | exact (Kd.R_reads' HO360.out).2.2 | (with_reducible refine Kd.C_alloc ?_ _) | (with_reducible refine Kd.C_drewN ?_ _) | (with_reducible refine Kd.C_drew ?_)))
 (case side2 => exact (Kd.R_reads' HO360.out).2.1)
 (case side3 => repeat (first | exact (Kd.C_below HR1.out HB.out) | (with_reducible refine Kd.C_alloc ?_ _) | (with_reducible refine Kd.C_drewN ?_ _) | (with_reducible refine Kd.C_drew ?_)))
 (case side4 => exact HC1.out)
 rintro e w21 ⟨v366, rfl, ho0, hb⟩
 refine ⟨_, rfl, ?_⟩
 have n0_ := Aside0.mk (Kd.R_below (by (with_reducible repeat (first | apply Kd.R_alloc | apply Kd.R_drewN | apply Kd.R_drew)); exact HO360.out) hb)
 have n1_ := Aside0.mk (Kd.N_lower (Kd.N_mono (ok' := fun k_ => some k_ ≠ (.slice Ao16 t358.length co16 : Value).ownBlock ∧ k_ ≠ gb356 ∧ k_ ≠ gb364) (Kd.S_N (Kd.S_bound ho0)) (fun k_ hk_ => ⟨(Kd.fresh' (Kd.R_lt (by (with_reducible repeat (first | apply Kd.R_alloc | apply Kd.R_drewN | apply Kd.R_drew)); exact HO360.out)) k_ hk_.2.1), (Kd.freshB (g := gb356) (o := .cells #[.int .u8 a0_0, .int .u8 a0_1, .int .u8 a0_2, .int .u8 a0_3, .int .u8 a0_4, .int .u8 a0_5, .int .u8 a0_6, .int .u8 a0_7, .int .u8 a0_8, .int .u8 a0_9, .int .u8 a0_10, .int .u8 a0_11] 24 (0, 0)) (by (with_reducible repeat (first | refine blk_drewN ?_ _ | refine blk_drew ?_ | refine blk_alloc ?_ _)); exact BK356.out) k_ hk_.2.1), (Kd.freshB (g := gb364) (o := .cells #[.slice Ao16 t358.length co16, .int .i64 t361, .int .i64 t362, .int .i64 t363] 33 (0, 0)) (by (with_reducible repeat (first | refine blk_drewN ?_ _ | refine blk_drew ?_ | refine blk_alloc ?_ _)); exact BK364.out) k_ hk_.2.1)⟩)) (below_size (by repeat (first | (with_reducible first | exact HB.out | apply below_alloc | apply pw_below_drewN | apply below_drew1 | refine below_set ?_ GE356.out | refine below_set ?_ GE364.out) | exact HB.out))))
 have n2_ := Aside0.mk (blk_below (g := gb356) (o := .cells #[.int .u8 a0_0, .int .u8 a0_1, .int .u8 a0_2, .int .u8 a0_3, .int .u8 a0_4, .int .u8 a0_5, .int .u8 a0_6, .int .u8 a0_7, .int .u8 a0_8, .int .u8 a0_9, .int .u8 a0_10, .int .u8 a0_11] 24 (0, 0)) (by (with_reducible repeat (first | refine blk_drewN ?_ _ | refine blk_drew ?_ | refine blk_alloc ?_ _)); exact BK356.out) hb)
 have n3_ := Aside0.mk (blk_below (g := gb364) (o := .cells #[.slice Ao16 t358.length co16, .int .i64 t361, .int .i64 t362, .int .i64 t363] 33 (0, 0)) (by (with_reducible repeat (first | refine blk_drewN ?_ _ | refine blk_drew ?_ | refine blk_alloc ?_ _)); exact BK364.out) hb)
 have n4_ := Aside0.mk (below_step (by repeat (first | (with_reducible first | exact HB.out | apply below_alloc | apply pw_below_drewN | apply below_drew1 | refine below_set ?_ GE356.out | refine below_set ?_ GE364.out) | exact HB.out)) hb)
 clear HO360
 clear BK356
 clear BK364
 clear HB
 have HO360 := n0_
 have HO367 := n1_
 have BK356 := n2_
 have BK364 := n3_
 have HB := n4_
 clear n0_ n1_ n2_ n3_ n4_
 (try clear hb)
 (try clear hb2)
 (try clear hk)
 (try clear hi)
 (try clear ho0)
 obtain ⟨Ao22, co22, eo22⟩ := Kd.N_slice HO367.out
 (first | subst eo22 | (injection eo22 with f1_ f2_ f3_; have f4_ := f1_.symm; have f5_ := f3_.symm; clear f1_ f2_ f3_; subst f4_; subst f5_))
 refine hK.out _ _ ⟨(blk_cell BK364.out 0).trans rfl, (blk_cell BK364.out 1).trans rfl, (blk_cell BK364.out 2).trans rfl, (blk_cell BK364.out 3).trans rfl⟩ (fun hHeld => ?_)
 clear hK K
 refine norm_ (a' := ?_) ?_ ?_
 rotate_left
 ·show Act.put _ (some 26) _ = _
  simp only [Act.put, List.setIfInBounds_toArray, List.set_cons_zero, List.set_cons_succ, i64_w, i32_w]
  rfl
 refine one_ (i := 4) (N := some 27) #[true, true, true, true, true, false] rfl rfl (by kernel_rfl) (by decide) (fun K hK => ?_)
 refine goes_ Try.func9 (by kernel_rfl) rfl #[.agg #[.slice Ao16 t358.length co16, .int .i64 t361, .int .i64 t362, .int .i64 t363], .slice Ao22 t365.length co22] (by rfl) rfl rfl (by (try simp only [List.map_toArray, List.map_cons, List.map_nil]); first | done | rfl | (simp only [List.length_drop, List.length_take]; rfl)) ?_
 with_reducible refine (thresherref09_Sort.calls k _ _ t358 t361 t362 t363 (fun k_ => (some k_ ≠ (.slice Ao16 t358.length co16 : Value).ownBlock ∧ (k_ ≠ gb356 ∧ k_ ≠ gb364))) _ _ t365 t368 _ ?side1 ?side2 ?side3 A7.out).mono ?_
 (case side1 => repeat (first | exact (Kd.R_reads' HO360.out).2.2 | (with_reducible refine Kd.C_alloc ?_ _) | (with_reducible refine Kd.C_drewN ?_ _) | (with_reducible refine Kd.C_drew ?_)))
 (case side2 => exact (Kd.R_reads' HO360.out).2.1)
 (case side3 => exact Kd.N_V (HO367.out))
 rintro e w23 ⟨v369, rfl, ho0, hb⟩
 refine ⟨_, rfl, ?_⟩
 have n0_ := Aside0.mk (Kd.R_below (by (with_reducible repeat (first | apply Kd.R_alloc | apply Kd.R_drewN | apply Kd.R_drew)); exact HO360.out) hb)
 have n1_ := Aside0.mk (Kd.N_elder' (by (with_reducible repeat (first | apply Kd.N_alloc | apply Kd.N_drewN | apply Kd.N_drew)); exact HO367.out) (by first | exact Kd.N_base ho0 | exact Kd.S_base ho0) hb)
 have n2_ := Aside0.mk (Kd.N_lower (Kd.N_mono (ok' := fun k_ => some k_ ≠ (.slice Ao16 t358.length co16 : Value).ownBlock ∧ k_ ≠ gb356 ∧ k_ ≠ gb364) ho0 (fun k_ hk_ => ⟨Or.elim hk_ (fun hs_ => hs_.1) (fun hn_ => (Kd.fresh' (Kd.R_lt (by (with_reducible repeat (first | apply Kd.R_alloc | apply Kd.R_drewN | apply Kd.R_drew)); exact HO360.out)) k_ hn_)), Or.elim hk_ (fun hs_ => hs_.2.1) (fun hn_ => (Kd.freshB (g := gb356) (o := .cells #[.int .u8 a0_0, .int .u8 a0_1, .int .u8 a0_2, .int .u8 a0_3, .int .u8 a0_4, .int .u8 a0_5, .int .u8 a0_6, .int .u8 a0_7, .int .u8 a0_8, .int .u8 a0_9, .int .u8 a0_10, .int .u8 a0_11] 24 (0, 0)) (by (with_reducible repeat (first | refine blk_drewN ?_ _ | refine blk_drew ?_ | refine blk_alloc ?_ _)); exact BK356.out) k_ hn_)), Or.elim hk_ (fun hs_ => hs_.2.2) (fun hn_ => (Kd.freshB (g := gb364) (o := .cells #[.slice Ao16 t358.length co16, .int .i64 t361, .int .i64 t362, .int .i64 t363] 33 (0, 0)) (by (with_reducible repeat (first | refine blk_drewN ?_ _ | refine blk_drew ?_ | refine blk_alloc ?_ _)); exact BK364.out) k_ hn_))⟩)) (below_size (by repeat (first | (with_reducible first | exact HB.out | apply below_alloc | apply pw_below_drewN | apply below_drew1 | refine below_set ?_ GE356.out | refine below_set ?_ GE364.out) | exact HB.out))))
 have n3_ := Aside0.mk (blk_below (g := gb356) (o := .cells #[.int .u8 a0_0, .int .u8 a0_1, .int .u8 a0_2, .int .u8 a0_3, .int .u8 a0_4, .int .u8 a0_5, .int .u8 a0_6, .int .u8 a0_7, .int .u8 a0_8, .int .u8 a0_9, .int .u8 a0_10, .int .u8 a0_11] 24 (0, 0)) (by (with_reducible repeat (first | refine blk_drewN ?_ _ | refine blk_drew ?_ | refine blk_alloc ?_ _)); exact BK356.out) hb)
 have n4_ := Aside0.mk (blk_below (g := gb364) (o := .cells #[.slice Ao16 t358.length co16, .int .i64 t361, .int .i64 t362, .int .i64 t363] 33 (0, 0)) (by (with_reducible repeat (first | refine blk_drewN ?_ _ | refine blk_drew ?_ | refine blk_alloc ?_ _)); exact BK364.out) hb)
 have n5_ := Aside0.mk (below_step (by repeat (first | (with_reducible first | exact HB.out | apply below_alloc | apply pw_below_drewN | apply below_drew1 | refine below_set ?_ GE356.out | refine below_set ?_ GE364.out) | exact HB.out)) hb)
 clear HO360
 clear HO367
 clear BK356
 clear BK364
 clear HB
 have HO360 := n0_
 have HO367 := n1_
 have HO370 := n2_
 have BK356 := n3_
 have BK364 := n4_
 have HB := n5_
 clear n0_ n1_ n2_ n3_ n4_ n5_
 (try clear hb)
 (try clear hb2)
 (try clear hk)
 (try clear hi)
 (try clear ho0)
 refine hK.out _ _ ⟨(blk_cell BK364.out 0).trans rfl, (blk_cell BK364.out 1).trans rfl, (blk_cell BK364.out 2).trans rfl, (blk_cell BK364.out 3).trans rfl⟩ (fun hHeld => ?_)
 clear hK K
 refine norm_ (a' := ?_) ?_ ?_
 rotate_left
 ·show Act.put _ (some 27) _ = _
  simp only [Act.put, List.setIfInBounds_toArray, List.set_cons_zero, List.set_cons_succ, i64_w, i32_w]
  rfl
 refine pure_ (i := 5) (N := some 9) (v := ?_) (a' := ?_) #[true, true, true, true, true, true] rfl rfl (by kernel_rfl) (fun _ _ _ h => h) (Or.inl ⟨by rfl, ?_⟩) ?_ ?_
 rotate_left; (intro w'; go_simp; with_reducible rfl); rotate_left; (simp only [Act.put, List.setIfInBounds_toArray, List.set_cons_zero, List.set_cons_succ, i64_w, i32_w]; rfl)
 refine done_ (by kernel_rfl) ?_
 have hcz24_0 : w23.cell? ⟨gb364, 0, none⟩ = some (.slice Ao16 t358.length co16) := (blk_cell BK364.out 0).trans rfl
 have hcz24_1 : w23.cell? ⟨gb364, 1, none⟩ = some (.int .i64 t361) := (blk_cell BK364.out 1).trans rfl
 have hcz24_2 : w23.cell? ⟨gb364, 2, none⟩ = some (.int .i64 t362) := (blk_cell BK364.out 2).trans rfl
 have hcz24_3 : w23.cell? ⟨gb364, 3, none⟩ = some (.int .i64 t363) := (blk_cell BK364.out 3).trans rfl
 have hfz24_0 := blk_frozen BK364.out 0
 have hfz24_1 := blk_frozen BK364.out 1
 have hfz24_2 := blk_frozen BK364.out 2
 have hfz24_3 := blk_frozen BK364.out 3
 obtain ⟨Ao25, co25, eo25⟩ := Kd.N_slice HO370.out
 subst eo25
 go_upto_region 6 with (first | ((with_reducible refine gate_callee (f := 14) rfl ?_); refine goesL_ (some 30) rfl rfl Try.func14 (by kernel_rfl) rfl #[.agg #[.slice Ao16 t358.length co16, .int .i64 t361, .int .i64 t362, .int .i64 t363], .slice Ao25 t368.length co25] rfl (by (try simp only [List.map_toArray, List.map_cons, List.map_nil]); first | done | rfl | (simp only [List.length_drop, List.length_take]; rfl)) ?_; (with_reducible refine (thresherref10_Marks.calls k _ _ t358 t361 t362 t363 _ _ t368 t371 _ ?side1 ?side2 ?side3 ?side4 A8.out).mono ?_); (case side1 => repeat (first | exact (Kd.R_reads' HO360.out).2.2 | (with_reducible refine Kd.C_alloc ?_ _) | (with_reducible refine Kd.C_drewN ?_ _) | (with_reducible refine Kd.C_drew ?_))); (case side2 => exact (Kd.R_reads' HO360.out).2.1); (case side3 => repeat (first | exact (Kd.N_reads' HO370.out).2.2 | (with_reducible refine Kd.C_alloc ?_ _) | (with_reducible refine Kd.C_drewN ?_ _) | (with_reducible refine Kd.C_drew ?_))); (case side4 => exact (Kd.N_reads' HO370.out).2.1); rintro e w26 ⟨v372, rfl, ho0, hb⟩; refine ⟨_, rfl, ?_⟩; have n0_ := Aside0.mk (Kd.R_below (by (with_reducible repeat (first | apply Kd.R_alloc | apply Kd.R_drewN | apply Kd.R_drew)); exact HO360.out) hb); have n1_ := Aside0.mk (Kd.N_elder' (by (with_reducible repeat (first | apply Kd.N_alloc | apply Kd.N_drewN | apply Kd.N_drew)); exact HO367.out) (by first | exact Kd.N_base ho0 | exact Kd.S_base ho0) hb); have n2_ := Aside0.mk (Kd.N_elder' (by (with_reducible repeat (first | apply Kd.N_alloc | apply Kd.N_drewN | apply Kd.N_drew)); exact HO370.out) (by first | exact Kd.N_base ho0 | exact Kd.S_base ho0) hb); have n3_ := Aside0.mk (Kd.N_lower (Kd.N_mono (ok' := fun k_ => some k_ ≠ (.slice Ao16 t358.length co16 : Value).ownBlock ∧ some k_ ≠ (.slice Ao22 t365.length co22 : Value).ownBlock ∧ some k_ ≠ (.slice Ao25 t368.length co25 : Value).ownBlock ∧ k_ ≠ gb356 ∧ k_ ≠ gb364) (Kd.S_N (Kd.S_bound ho0)) (fun k_ hk_ => ⟨(Kd.fresh' (Kd.R_lt (by (with_reducible repeat (first | apply Kd.R_alloc | apply Kd.R_drewN | apply Kd.R_drew)); exact HO360.out)) k_ hk_.2.1), (Kd.fresh' (Kd.N_lt (by (with_reducible repeat (first | apply Kd.N_alloc | apply Kd.N_drewN | apply Kd.N_drew)); exact HO367.out)) k_ hk_.2.1), (Kd.fresh' (Kd.N_lt (by (with_reducible repeat (first | apply Kd.N_alloc | apply Kd.N_drewN | apply Kd.N_drew)); exact HO370.out)) k_ hk_.2.1), (Kd.freshB (g := gb356) (o := .cells #[.int .u8 a0_0, .int .u8 a0_1, .int .u8 a0_2, .int .u8 a0_3, .int .u8 a0_4, .int .u8 a0_5, .int .u8 a0_6, .int .u8 a0_7, .int .u8 a0_8, .int .u8 a0_9, .int .u8 a0_10, .int .u8 a0_11] 24 (0, 0)) (by (with_reducible repeat (first | refine blk_drewN ?_ _ | refine blk_drew ?_ | refine blk_alloc ?_ _)); exact BK356.out) k_ hk_.2.1), (Kd.freshB (g := gb364) (o := .cells #[.slice Ao16 t358.length co16, .int .i64 t361, .int .i64 t362, .int .i64 t363] 33 (0, 0)) (by (with_reducible repeat (first | refine blk_drewN ?_ _ | refine blk_drew ?_ | refine blk_alloc ?_ _)); exact BK364.out) k_ hk_.2.1)⟩)) (below_size (by repeat (first | (with_reducible first | exact HB.out | apply below_alloc | apply pw_below_drewN | apply below_drew1 | refine below_set ?_ GE356.out | refine below_set ?_ GE364.out) | exact HB.out)))); have n4_ := Aside0.mk (blk_below (g := gb356) (o := .cells #[.int .u8 a0_0, .int .u8 a0_1, .int .u8 a0_2, .int .u8 a0_3, .int .u8 a0_4, .int .u8 a0_5, .int .u8 a0_6, .int .u8 a0_7, .int .u8 a0_8, .int .u8 a0_9, .int .u8 a0_10, .int .u8 a0_11] 24 (0, 0)) (by (with_reducible repeat (first | refine blk_drewN ?_ _ | refine blk_drew ?_ | refine blk_alloc ?_ _)); exact BK356.out) hb); have n5_ := Aside0.mk (blk_below (g := gb364) (o := .cells #[.slice Ao16 t358.length co16, .int .i64 t361, .int .i64 t362, .int .i64 t363] 33 (0, 0)) (by (with_reducible repeat (first | refine blk_drewN ?_ _ | refine blk_drew ?_ | refine blk_alloc ?_ _)); exact BK364.out) hb); have n6_ := Aside0.mk (below_step (by repeat (first | (with_reducible first | exact HB.out | apply below_alloc | apply pw_below_drewN | apply below_drew1 | refine below_set ?_ GE356.out | refine below_set ?_ GE364.out) | exact HB.out)) hb); clear HO360; clear HO367; clear HO370; clear BK356; clear BK364; clear HB; have HO360 := n0_; have HO367 := n1_; have HO370 := n2_; have HO373 := n3_; have BK356 := n4_; have BK364 := n5_; have HB := n6_; clear n0_ n1_ n2_ n3_ n4_ n5_ n6_; (try clear hb); (try clear hb2); (try clear hk); (try clear hi); (try clear ho0); have hcz27_0 : w26.cell? ⟨gb364, 0, none⟩ = some (.slice Ao16 t358.length co16) := (blk_cell BK364.out 0).trans rfl; have hcz27_1 : w26.cell? ⟨gb364, 1, none⟩ = some (.int .i64 t361) := (blk_cell BK364.out 1).trans rfl; have hcz27_2 : w26.cell? ⟨gb364, 2, none⟩ = some (.int .i64 t362) := (blk_cell BK364.out 2).trans rfl; have hcz27_3 : w26.cell? ⟨gb364, 3, none⟩ = some (.int .i64 t363) := (blk_cell BK364.out 3).trans rfl; have hfz27_0 := blk_frozen BK364.out 0; have hfz27_1 := blk_frozen BK364.out 1; have hfz27_2 := blk_frozen BK364.out 2; have hfz27_3 := blk_frozen BK364.out 3) | ((with_reducible refine gate_dst (N := 35) rfl ?_); (try (refine gate_guard (by rfl) ?_; dsimp only)); refine Kd.R_lit k44 _ 44 ?hg (N := 35) ?hd (xs := ([(⟨3, (⟨#[]⟩ : ByteArray)⟩ : S44)] : List (S44))) (inner := [.int .i64 3, .string (⟨#[]⟩ : ByteArray)]) (ok := fun _ => True) (okp := fun _ => True) ?hr ?hp (fun _ hk => hk) trivial (Below.refl _ _) (Nat.le_refl _) (by simp) ?_; (case hd => rfl); (case hg => rfl); (case hr => first | (go_simp; done) | (go_simp; rfl)); (case hp => exact (Reps.c2 (show Kd.M k44 _ _ _ (⟨3, (⟨#[]⟩ : ByteArray)⟩ : S44) [.int .i64 3, .string (⟨#[]⟩ : ByteArray)] from (k44_mkM _ _ _ (⟨3, (⟨#[]⟩ : ByteArray)⟩ : S44) )) (Reps.none _ _))); intro v375 w28 ho29 hb hg_ hnew_; clear hg_ hnew_; (first | rw [← Ny374.out] at ho29 | (simp only [Int.reduceToNat] at ho29; rw [← Ny374.out] at ho29)); have n0_ := Aside0.mk (Kd.R_below (by (with_reducible repeat (first | apply Kd.R_alloc | apply Kd.R_drewN | apply Kd.R_drew)); exact HO360.out) hb); have n1_ := Aside0.mk (Kd.N_elder' (by (with_reducible repeat (first | apply Kd.N_alloc | apply Kd.N_drewN | apply Kd.N_drew)); exact HO367.out) (Kd.R_base ho29) hb); have n2_ := Aside0.mk (Kd.N_elder' (by (with_reducible repeat (first | apply Kd.N_alloc | apply Kd.N_drewN | apply Kd.N_drew)); exact HO370.out) (Kd.R_base ho29) hb); have n3_ := Aside0.mk (Kd.N_elder' (by (with_reducible repeat (first | apply Kd.N_alloc | apply Kd.N_drewN | apply Kd.N_drew)); exact HO373.out) (Kd.R_base ho29) hb); have n4_ := Aside0.mk (Kd.R_lower ho29 (below_size (by repeat (first | (with_reducible first | exact HB.out | apply below_alloc | apply pw_below_drewN | apply below_drew1 | refine below_set ?_ GE356.out | refine below_set ?_ GE364.out) | exact HB.out)))); have n5_ := Aside0.mk (blk_below (g := gb356) (o := .cells #[.int .u8 a0_0, .int .u8 a0_1, .int .u8 a0_2, .int .u8 a0_3, .int .u8 a0_4, .int .u8 a0_5, .int .u8 a0_6, .int .u8 a0_7, .int .u8 a0_8, .int .u8 a0_9, .int .u8 a0_10, .int .u8 a0_11] 24 (0, 0)) (by (with_reducible repeat (first | refine blk_drewN ?_ _ | refine blk_drew ?_ | refine blk_alloc ?_ _)); exact BK356.out) hb); have n6_ := Aside0.mk (blk_below (g := gb364) (o := .cells #[.slice Ao16 t358.length co16, .int .i64 t361, .int .i64 t362, .int .i64 t363] 33 (0, 0)) (by (with_reducible repeat (first | refine blk_drewN ?_ _ | refine blk_drew ?_ | refine blk_alloc ?_ _)); exact BK364.out) hb); have n7_ := Aside0.mk (below_step (by repeat (first | (with_reducible first | exact HB.out | apply below_alloc | apply pw_below_drewN | apply below_drew1 | refine below_set ?_ GE356.out | refine below_set ?_ GE364.out) | exact HB.out)) hb); clear HO360; clear HO367; clear HO370; clear HO373; clear BK356; clear BK364; clear HB; have HO360 := n0_; have HO367 := n1_; have HO370 := n2_; have HO373 := n3_; have HO376 := n4_; have BK356 := n5_; have BK364 := n6_; have HB := n7_; clear n0_ n1_ n2_ n3_ n4_ n5_ n6_ n7_; clear hb ho29) | ((with_reducible refine gate_dst (N := 37) rfl ?_); (try (refine gate_guard (by rfl) ?_; dsimp only)); refine Kd.R_lit k44 _ 44 ?hg (N := 37) ?hd (xs := ([(⟨(-3), (⟨#[]⟩ : ByteArray)⟩ : S44)] : List (S44))) (inner := [.int .i64 (-3), .string (⟨#[]⟩ : ByteArray)]) (ok := fun _ => True) (okp := fun _ => True) ?hr ?hp (fun _ hk => hk) trivial (Below.refl _ _) (Nat.le_refl _) (by simp) ?_; (case hd => rfl); (case hg => rfl); (case hr => first | (go_simp; done) | (go_simp; rfl)); (case hp => exact (Reps.c2 (show Kd.M k44 _ _ _ (⟨(-3), (⟨#[]⟩ : ByteArray)⟩ : S44) [.int .i64 (-3), .string (⟨#[]⟩ : ByteArray)] from (k44_mkM _ _ _ (⟨(-3), (⟨#[]⟩ : ByteArray)⟩ : S44) )) (Reps.none _ _))); intro v378 w30 ho31 hb hg_ hnew_; clear hg_ hnew_; (first | rw [← Ny377.out] at ho31 | (simp only [Int.reduceToNat] at ho31; rw [← Ny377.out] at ho31)); have n0_ := Aside0.mk (Kd.R_below (by (with_reducible repeat (first | apply Kd.R_alloc | apply Kd.R_drewN | apply Kd.R_drew)); exact HO360.out) hb); have n1_ := Aside0.mk (Kd.N_elder' (by (with_reducible repeat (first | apply Kd.N_alloc | apply Kd.N_drewN | apply Kd.N_drew)); exact HO367.out) (Kd.R_base ho31) hb); have n2_ := Aside0.mk (Kd.N_elder' (by (with_reducible repeat (first | apply Kd.N_alloc | apply Kd.N_drewN | apply Kd.N_drew)); exact HO370.out) (Kd.R_base ho31) hb); have n3_ := Aside0.mk (Kd.N_elder' (by (with_reducible repeat (first | apply Kd.N_alloc | apply Kd.N_drewN | apply Kd.N_drew)); exact HO373.out) (Kd.R_base ho31) hb); have n4_ := Aside0.mk (Kd.R_elder' (by (with_reducible repeat (first | apply Kd.R_alloc | apply Kd.R_drewN | apply Kd.R_drew)); exact HO376.out) (Kd.R_base ho31) hb); have n5_ := Aside0.mk (Kd.R_lower (Kd.R_new' ho31 (Kd.R_lt (by (with_reducible repeat (first | apply Kd.R_alloc | apply Kd.R_drewN | apply Kd.R_drew)); exact HO376.out))) (below_size (by repeat (first | (with_reducible first | exact HB.out | apply below_alloc | apply pw_below_drewN | apply below_drew1 | refine below_set ?_ GE356.out | refine below_set ?_ GE364.out) | exact HB.out)))); have n6_ := Aside0.mk (blk_below (g := gb356) (o := .cells #[.int .u8 a0_0, .int .u8 a0_1, .int .u8 a0_2, .int .u8 a0_3, .int .u8 a0_4, .int .u8 a0_5, .int .u8 a0_6, .int .u8 a0_7, .int .u8 a0_8, .int .u8 a0_9, .int .u8 a0_10, .int .u8 a0_11] 24 (0, 0)) (by (with_reducible repeat (first | refine blk_drewN ?_ _ | refine blk_drew ?_ | refine blk_alloc ?_ _)); exact BK356.out) hb); have n7_ := Aside0.mk (blk_below (g := gb364) (o := .cells #[.slice Ao16 t358.length co16, .int .i64 t361, .int .i64 t362, .int .i64 t363] 33 (0, 0)) (by (with_reducible repeat (first | refine blk_drewN ?_ _ | refine blk_drew ?_ | refine blk_alloc ?_ _)); exact BK364.out) hb); have n8_ := Aside0.mk (below_step (by repeat (first | (with_reducible first | exact HB.out | apply below_alloc | apply pw_below_drewN | apply below_drew1 | refine below_set ?_ GE356.out | refine below_set ?_ GE364.out) | exact HB.out)) hb); clear HO360; clear HO367; clear HO370; clear HO373; clear HO376; clear BK356; clear BK364; clear HB; have HO360 := n0_; have HO367 := n1_; have HO370 := n2_; have HO373 := n3_; have HO376 := n4_; have HO379 := n5_; have BK356 := n6_; have BK364 := n7_; have HB := n8_; clear n0_ n1_ n2_ n3_ n4_ n5_ n6_ n7_ n8_; clear hb ho31; obtain ⟨Ao32, co32, eo32⟩ := Kd.R_slice HO379.out; subst eo32; obtain ⟨Ao33, co33, eo33⟩ := Kd.R_slice HO376.out; subst eo33; obtain ⟨Ao34, co34, eo34⟩ := Kd.N_slice HO373.out; subst eo34) | ((with_reducible refine gate_callee (f := 15) rfl ?_); refine goesL_ (some 39) rfl rfl Try.func15 (by kernel_rfl) rfl #[.agg #[.slice Ao16 t358.length co16, .int .i64 t361, .int .i64 t362, .int .i64 t363], .slice Ao34 t371.length co34, .agg #[.bool false, .bool false, .slice Ao33 y374.length co33, .slice Ao32 y377.length co32]] rfl (by (try simp only [List.map_toArray, List.map_cons, List.map_nil]); first | done | rfl | (simp only [List.length_drop, List.length_take]; rfl)) ?_; (with_reducible refine (index_Meets.calls k _ _ t358 t361 t362 t363 _ _ t371 false false _ _ y374 _ _ y377 t380 t381 _ ?side1 ?side2 ?side3 ?side4 ?side5 ?side6 ?side7 ?side8 A9.out).mono ?_); (case side1 => repeat (first | exact (Kd.R_reads' HO360.out).2.2 | (with_reducible refine Kd.C_alloc ?_ _) | (with_reducible refine Kd.C_drewN ?_ _) | (with_reducible refine Kd.C_drew ?_))); (case side2 => exact (Kd.R_reads' HO360.out).2.1); (case side3 => repeat (first | exact (Kd.N_reads' HO373.out).2.2 | (with_reducible refine Kd.C_alloc ?_ _) | (with_reducible refine Kd.C_drewN ?_ _) | (with_reducible refine Kd.C_drew ?_))); (case side4 => exact (Kd.N_reads' HO373.out).2.1); (case side5 => repeat (first | exact (Kd.R_reads' HO376.out).2.2 | (with_reducible refine Kd.C_alloc ?_ _) | (with_reducible refine Kd.C_drewN ?_ _) | (with_reducible refine Kd.C_drew ?_))); (case side6 => exact (Kd.R_reads' HO376.out).2.1); (case side7 => repeat (first | exact (Kd.R_reads' HO379.out).2.2 | (with_reducible refine Kd.C_alloc ?_ _) | (with_reducible refine Kd.C_drewN ?_ _) | (with_reducible refine Kd.C_drew ?_))); (case side8 => exact (Kd.R_reads' HO379.out).2.1); rintro e w35 ⟨rfl, hb⟩; refine ⟨_, rfl, ?_⟩; have n0_ := Aside0.mk (Kd.R_below (by (with_reducible repeat (first | apply Kd.R_alloc | apply Kd.R_drewN | apply Kd.R_drew)); exact HO360.out) hb); have n1_ := Aside0.mk (Kd.N_below (by (with_reducible repeat (first | apply Kd.N_alloc | apply Kd.N_drewN | apply Kd.N_drew)); exact HO367.out) hb); have n2_ := Aside0.mk (Kd.N_below (by (with_reducible repeat (first | apply Kd.N_alloc | apply Kd.N_drewN | apply Kd.N_drew)); exact HO370.out) hb); have n3_ := Aside0.mk (Kd.N_below (by (with_reducible repeat (first | apply Kd.N_alloc | apply Kd.N_drewN | apply Kd.N_drew)); exact HO373.out) hb); have n4_ := Aside0.mk (Kd.R_below (by (with_reducible repeat (first | apply Kd.R_alloc | apply Kd.R_drewN | apply Kd.R_drew)); exact HO376.out) hb); have n5_ := Aside0.mk (Kd.R_below (by (with_reducible repeat (first | apply Kd.R_alloc | apply Kd.R_drewN | apply Kd.R_drew)); exact HO379.out) hb); have n6_ := Aside0.mk (blk_below (g := gb356) (o := .cells #[.int .u8 a0_0, .int .u8 a0_1, .int .u8 a0_2, .int .u8 a0_3, .int .u8 a0_4, .int .u8 a0_5, .int .u8 a0_6, .int .u8 a0_7, .int .u8 a0_8, .int .u8 a0_9, .int .u8 a0_10, .int .u8 a0_11] 24 (0, 0)) (by (with_reducible repeat (first | refine blk_drewN ?_ _ | refine blk_drew ?_ | refine blk_alloc ?_ _)); exact BK356.out) hb); have n7_ := Aside0.mk (blk_below (g := gb364) (o := .cells #[.slice Ao16 t358.length co16, .int .i64 t361, .int .i64 t362, .int .i64 t363] 33 (0, 0)) (by (with_reducible repeat (first | refine blk_drewN ?_ _ | refine blk_drew ?_ | refine blk_alloc ?_ _)); exact BK364.out) hb); have n8_ := Aside0.mk (below_step (by repeat (first | (with_reducible first | exact HB.out | apply below_alloc | apply pw_below_drewN | apply below_drew1 | refine below_set ?_ GE356.out | refine below_set ?_ GE364.out) | exact HB.out)) hb); clear HO360; clear HO367; clear HO370; clear HO373; clear HO376; clear HO379; clear BK356; clear BK364; clear HB; have HO360 := n0_; have HO367 := n1_; have HO370 := n2_; have HO373 := n3_; have HO376 := n4_; have HO379 := n5_; have BK356 := n6_; have BK364 := n7_; have HB := n8_; clear n0_ n1_ n2_ n3_ n4_ n5_ n6_ n7_ n8_; (try clear hb); (try clear hb2); (try clear hk); (try clear hi)))
 (try simp only [Act.put, List.setIfInBounds_toArray, List.set_cons_zero, List.set_cons_succ])
 go_cut [54] (fun v54 wc => ∃ (kq : Nat) (x54_9 : Bool), v54 = .bool x54_9 ∧ Aside0 (thresherlaw12_IndexWhole.j0 kq a2 t357 t368 t371 x54_9 t358 t361 t362 t363 = some r) ∧ Aside0 (kq ≤ k) ∧ Aside0 (Kd.N (Kd.slice 44 k44) 27 wc w.heap.size (fun k_ => some k_ ≠ ((.slice Ao34 t371.length co34) : Value).ownBlock ∧ some k_ ≠ ((.slice Ao16 t358.length co16) : Value).ownBlock ∧ k_ ≠ gb356 ∧ k_ ≠ gb364) (.slice Ao25 t368.length co25) t368) ∧ Aside0 (Kd.N (Kd.slice 44 k44) 27 wc w.heap.size (fun k_ => some k_ ≠ ((.slice Ao25 t368.length co25) : Value).ownBlock ∧ some k_ ≠ ((.slice Ao16 t358.length co16) : Value).ownBlock ∧ k_ ≠ gb356 ∧ k_ ≠ gb364) (.slice Ao34 t371.length co34) t371) ∧ Aside0 (Kd.R (Kd.int .i64) 3 wc w.heap.size (fun _ => True) (.slice Ao16 t358.length co16) t358) ∧ Aside0 (wc.heap[gb356]? = some (.cells #[.int .u8 a0_0, .int .u8 a0_1, .int .u8 a0_2, .int .u8 a0_3, .int .u8 a0_4, .int .u8 a0_5, .int .u8 a0_6, .int .u8 a0_7, .int .u8 a0_8, .int .u8 a0_9, .int .u8 a0_10, .int .u8 a0_11] 24 (0, 0))) ∧ Aside0 (wc.heap[gb364]? = some (.cells #[(.slice Ao16 t358.length co16), .int .i64 t361, .int .i64 t362, .int .i64 t363] 33 (0, 0))) ∧ Aside0 (Below w.heap.size w wc))
 case first =>
  have H := HC10.out
  clear HC10
  by_cases c36 : t380 = 0
  ·rw [if_pos c36] at H
   have c36b0 : (t380 == 0) = true := beq_iff_eq.mpr c36
   have c36b1 : (t380 != 0) = false := bne_eq_false_iff_eq.mpr c36
   clear c36
   (first | rw [c36b0] | (simp only [i64_w, i32_w]; rw [c36b0]) | skip)
   by_cases c37 : t381 = (t371.length : Int)
   ·rw [if_pos c37] at H
    have c37b0 : (t381 == (t371.length : Int)) = true := beq_iff_eq.mpr c37
    have c37b1 : (t381 != (t371.length : Int)) = false := bne_eq_false_iff_eq.mpr c37
    clear c37
    replace H := Option.bind_eq_some_iff.mp H
    obtain ⟨t382, A380, H⟩ := H
    replace H : (thresherlaw12_IndexWhole.j0 k a2 t357 t368 t371 t382 t358 t361 t362 t363) = some r := H
    have A38 := Aside0.mk A380
    clear A380
    have H' := Aside0.mk H
    clear H
    have hnb39 := NB364_356.out
    have hnc39 := NB356_364.out
    have hcz40_0 : w35.cell? ⟨gb364, 0, none⟩ = some (.slice Ao16 t358.length co16) := (blk_cell BK364.out 0).trans rfl
    have hcz40_1 : w35.cell? ⟨gb364, 1, none⟩ = some (.int .i64 t361) := (blk_cell BK364.out 1).trans rfl
    have hcz40_2 : w35.cell? ⟨gb364, 2, none⟩ = some (.int .i64 t362) := (blk_cell BK364.out 2).trans rfl
    have hcz40_3 : w35.cell? ⟨gb364, 3, none⟩ = some (.int .i64 t363) := (blk_cell BK364.out 3).trans rfl
    have hfz40_0 := blk_frozen BK364.out 0
    have hfz40_1 := blk_frozen BK364.out 1
    have hfz40_2 := blk_frozen BK364.out 2
    have hfz40_3 := blk_frozen BK364.out 3
    go_wp2_with (first | (go_at_call 17; (refine (index_Empty.calls k _ _ t358 t361 t362 t363 false false _ _ ([] : List (S44)) _ _ ([] : List (S44)) t382 _ ?side1 ?side2 ?side3 ?side4 ?side5 ?side6 A38.out).mono ?_); (case side1 => repeat (first | exact (Kd.R_reads' HO360.out).2.2 | (with_reducible refine Kd.C_alloc ?_ _) | (with_reducible refine Kd.C_drewN ?_ _) | (with_reducible refine Kd.C_drew ?_))); (case side2 => exact (Kd.R_reads' HO360.out).2.1); (case side3 => exact Kd.C_nil _ _); (case side4 => exact Nat.le_refl _); (case side5 => exact Kd.C_nil _ _); (case side6 => exact Nat.le_refl _); rintro e w41 ⟨rfl, hb⟩; have n0_ := Aside0.mk (Kd.R_below (by (with_reducible repeat (first | apply Kd.R_alloc | apply Kd.R_drewN | apply Kd.R_drew)); exact HO360.out) hb); have n1_ := Aside0.mk (Kd.N_below (by (with_reducible repeat (first | apply Kd.N_alloc | apply Kd.N_drewN | apply Kd.N_drew)); exact HO367.out) hb); have n2_ := Aside0.mk (Kd.N_below (by (with_reducible repeat (first | apply Kd.N_alloc | apply Kd.N_drewN | apply Kd.N_drew)); exact HO370.out) hb); have n3_ := Aside0.mk (Kd.N_below (by (with_reducible repeat (first | apply Kd.N_alloc | apply Kd.N_drewN | apply Kd.N_drew)); exact HO373.out) hb); have n4_ := Aside0.mk (Kd.R_below (by (with_reducible repeat (first | apply Kd.R_alloc | apply Kd.R_drewN | apply Kd.R_drew)); exact HO376.out) hb); have n5_ := Aside0.mk (Kd.R_below (by (with_reducible repeat (first | apply Kd.R_alloc | apply Kd.R_drewN | apply Kd.R_drew)); exact HO379.out) hb); have n6_ := Aside0.mk (blk_below (g := gb356) (o := .cells #[.int .u8 a0_0, .int .u8 a0_1, .int .u8 a0_2, .int .u8 a0_3, .int .u8 a0_4, .int .u8 a0_5, .int .u8 a0_6, .int .u8 a0_7, .int .u8 a0_8, .int .u8 a0_9, .int .u8 a0_10, .int .u8 a0_11] 24 (0, 0)) (by (with_reducible repeat (first | refine blk_drewN ?_ _ | refine blk_drew ?_ | refine blk_alloc ?_ _)); exact BK356.out) hb); have n7_ := Aside0.mk (blk_below (g := gb364) (o := .cells #[.slice Ao16 t358.length co16, .int .i64 t361, .int .i64 t362, .int .i64 t363] 33 (0, 0)) (by (with_reducible repeat (first | refine blk_drewN ?_ _ | refine blk_drew ?_ | refine blk_alloc ?_ _)); exact BK364.out) hb); have n8_ := Aside0.mk (below_step (by repeat (first | (with_reducible first | exact HB.out | apply below_alloc | apply pw_below_drewN | apply below_drew1 | refine below_set ?_ GE356.out | refine below_set ?_ GE364.out) | exact HB.out)) hb); clear HO360; clear HO367; clear HO370; clear HO373; clear HO376; clear HO379; clear BK356; clear BK364; clear HB; have HO360 := n0_; have HO367 := n1_; have HO370 := n2_; have HO373 := n3_; have HO376 := n4_; have HO379 := n5_; have BK356 := n6_; have BK364 := n7_; have HB := n8_; clear n0_ n1_ n2_ n3_ n4_ n5_ n6_ n7_ n8_; (try clear hb); (try clear hb2); (try clear hk); (try clear hi)))
    go_meet
    case rel => exact ⟨_, (t382), (by first | rfl | (simp; done) | (simp [*]; done)), (by first | exact H' | (subst_vars; exact H')), ⟨by first | omega | exact Nat.le_refl _⟩, ⟨by (with_reducible repeat (first | apply Kd.N_alloc | apply Kd.N_drewN | apply Kd.N_drew)); exact Kd.N_mono HO370.out (fun _ hk => ⟨hk.1.1.2, ⟨hk.1.1.1.1, ⟨hk.1.1.1.2.1, hk.1.1.1.2.2⟩⟩⟩)⟩, ⟨by (with_reducible repeat (first | apply Kd.N_alloc | apply Kd.N_drewN | apply Kd.N_drew)); exact Kd.N_mono HO373.out (fun _ hk => ⟨hk.1.1.2.2.1, ⟨hk.1.1.1, ⟨hk.1.1.2.2.2.1, hk.1.1.2.2.2.2⟩⟩⟩)⟩, ⟨by (with_reducible repeat (first | apply Kd.R_alloc | apply Kd.R_drewN | apply Kd.R_drew)); exact HO360.out⟩, ⟨by (with_reducible repeat (first | refine blk_drewN ?_ _ | refine blk_drew ?_ | refine blk_alloc ?_ _)); exact BK356.out⟩, ⟨by (with_reducible repeat (first | refine blk_drewN ?_ _ | refine blk_drew ?_ | refine blk_alloc ?_ _)); exact BK364.out⟩, ⟨by repeat (first | (with_reducible first | exact HB.out | apply below_alloc | apply pw_below_drewN | apply below_drew1 | refine below_set ?_ GE356.out | refine below_set ?_ GE364.out) | exact HB.out)⟩⟩
   ·rw [if_neg c37] at H
    have c37b0 : (t381 == (t371.length : Int)) = false := beq_eq_false_iff_ne.mpr c37
    have c37b1 : (t381 != (t371.length : Int)) = true := bne_iff_ne.mpr c37
    have H' := Aside0.mk H
    clear H
    go_wp2
    go_meet
    case rel => exact ⟨_, (true), (by first | rfl | (simp; done) | (simp [*]; done)), (by first | exact H' | (subst_vars; exact H')), ⟨by first | omega | exact Nat.le_refl _⟩, ⟨by (with_reducible repeat (first | apply Kd.N_alloc | apply Kd.N_drewN | apply Kd.N_drew)); exact Kd.N_mono HO370.out (fun _ hk => ⟨hk.1.1.2, ⟨hk.1.1.1.1, ⟨hk.1.1.1.2.1, hk.1.1.1.2.2⟩⟩⟩)⟩, ⟨by (with_reducible repeat (first | apply Kd.N_alloc | apply Kd.N_drewN | apply Kd.N_drew)); exact Kd.N_mono HO373.out (fun _ hk => ⟨hk.1.1.2.2.1, ⟨hk.1.1.1, ⟨hk.1.1.2.2.2.1, hk.1.1.2.2.2.2⟩⟩⟩)⟩, ⟨by (with_reducible repeat (first | apply Kd.R_alloc | apply Kd.R_drewN | apply Kd.R_drew)); exact HO360.out⟩, ⟨by (with_reducible repeat (first | refine blk_drewN ?_ _ | refine blk_drew ?_ | refine blk_alloc ?_ _)); exact BK356.out⟩, ⟨by (with_reducible repeat (first | refine blk_drewN ?_ _ | refine blk_drew ?_ | refine blk_alloc ?_ _)); exact BK364.out⟩, ⟨by repeat (first | (with_reducible first | exact HB.out | apply below_alloc | apply pw_below_drewN | apply below_drew1 | refine below_set ?_ GE356.out | refine below_set ?_ GE364.out) | exact HB.out)⟩⟩
  ·rw [if_neg c36] at H
   have c36b0 : (t380 == 0) = false := beq_eq_false_iff_ne.mpr c36
   have c36b1 : (t380 != 0) = true := bne_iff_ne.mpr c36
   (first | rw [c36b0] | (simp only [i64_w, i32_w]; rw [c36b0]) | skip)
   have H' := Aside0.mk H
   clear H
   go_wp2
   go_meet
   case rel => exact ⟨_, (true), (by first | rfl | (simp; done) | (simp [*]; done)), (by first | exact H' | (subst_vars; exact H')), ⟨by first | omega | exact Nat.le_refl _⟩, ⟨by (with_reducible repeat (first | apply Kd.N_alloc | apply Kd.N_drewN | apply Kd.N_drew)); exact Kd.N_mono HO370.out (fun _ hk => ⟨hk.1.1.2, ⟨hk.1.1.1.1, ⟨hk.1.1.1.2.1, hk.1.1.1.2.2⟩⟩⟩)⟩, ⟨by (with_reducible repeat (first | apply Kd.N_alloc | apply Kd.N_drewN | apply Kd.N_drew)); exact Kd.N_mono HO373.out (fun _ hk => ⟨hk.1.1.2.2.1, ⟨hk.1.1.1, ⟨hk.1.1.2.2.2.1, hk.1.1.2.2.2.2⟩⟩⟩)⟩, ⟨by (with_reducible repeat (first | apply Kd.R_alloc | apply Kd.R_drewN | apply Kd.R_drew)); exact HO360.out⟩, ⟨by (with_reducible repeat (first | refine blk_drewN ?_ _ | refine blk_drew ?_ | refine blk_alloc ?_ _)); exact BK356.out⟩, ⟨by (with_reducible repeat (first | refine blk_drewN ?_ _ | refine blk_drew ?_ | refine blk_alloc ?_ _)); exact BK364.out⟩, ⟨by repeat (first | (with_reducible first | exact HB.out | apply below_alloc | apply pw_below_drewN | apply below_drew1 | refine below_set ?_ GE356.out | refine below_set ?_ GE364.out) | exact HB.out)⟩⟩
 case rest =>
  clear HC10
  try clear c1
  try clear c2
  try clear p2
  try clear c3
  try clear c5
  try clear c7
  try clear c8
  try clear c9
  try clear c10
  try clear c14
  try clear c15
  try clear c17
  try clear c36
  try clear c36b0
  try clear c36b1
  try clear c37
  try clear c37b0
  try clear c37b1
  try clear c39
  try clear hcz13_0
  try clear hcz13_1
  try clear hcz13_10
  try clear hcz13_11
  try clear hcz13_2
  try clear hcz13_3
  try clear hcz13_4
  try clear hcz13_5
  try clear hcz13_6
  try clear hcz13_7
  try clear hcz13_8
  try clear hcz13_9
  try clear hcz18_0
  try clear hcz18_1
  try clear hcz18_2
  try clear hcz18_3
  try clear hcz24_0
  try clear hcz24_1
  try clear hcz24_2
  try clear hcz24_3
  try clear hcz27_0
  try clear hcz27_1
  try clear hcz27_2
  try clear hcz27_3
  try clear hcz40_0
  try clear hcz40_1
  try clear hcz40_2
  try clear hcz40_3
  try clear hfz13_0
  try clear hfz13_1
  try clear hfz13_10
  try clear hfz13_11
  try clear hfz13_2
  try clear hfz13_3
  try clear hfz13_4
  try clear hfz13_5
  try clear hfz13_6
  try clear hfz13_7
  try clear hfz13_8
  try clear hfz13_9
  try clear hfz18_0
  try clear hfz18_1
  try clear hfz18_2
  try clear hfz18_3
  try clear hfz24_0
  try clear hfz24_1
  try clear hfz24_2
  try clear hfz24_3
  try clear hfz27_0
  try clear hfz27_1
  try clear hfz27_2
  try clear hfz27_3
  try clear hfz40_0
  try clear hfz40_1
  try clear hfz40_2
  try clear hfz40_3
  obtain ⟨kq, x54_9, rfl, HA, HJ9, HO_9, HO_10, HO_365000, BK356, BK364, HB⟩ := hcut
  cases kq with
  | zero => exact absurd HA.out (by simp [thresherlaw12_IndexWhole.j0])
  | succ kj9 =>
   have H := HA.out
   clear HA
   simp only [thresherlaw12_IndexWhole.j0] at H
   by_cases c42 : x54_9 = true
   ·subst c42
    have H1 : (some false) = some r := by rw [if_pos rfl] at H; exact H
    clear H
    have H := H1
    clear H1
    obtain rfl := Option.some.inj H
    go_wp2
    go_ret
    exact ⟨by first | rfl | (simp [errW_none, errW_some] <;> rfl) | (simp [*, errW_none, errW_some] <;> rfl), by repeat (first | (with_reducible first | exact HB.out | apply below_alloc | apply pw_below_drewN | apply below_drew1 | refine below_set ?_ GE356.out | refine below_set ?_ GE364.out) | exact HB.out)⟩
   ·replace c42 := Bool.eq_false_iff.mpr c42
    subst c42
    have H1 : (if (t368.length : Int) = 0 then (some t357) else (if 0 ≤ (Int.tmod (wrap64 (a2)) (t368.length : Int)) then (if (Int.tmod (wrap64 (a2)) (t368.length : Int)) < (t368.length : Int) then ((thresherref10_Key.f t358 t361 t362 t363 (rd_L5 t368 (Int.tmod (wrap64 (a2)) (t368.length : Int)))).bind fun t384 => (thresherlaw12_IndexWhole.l0 kj9 t357 t368 t371 t384 0 t358 t361 t362 t363 true true t384 t384)) else (none)) else (none))) = some r := by rw [if_neg (show ¬ (false = true) by decide)] at H; exact H
    clear H
    have H := H1
    clear H1
    by_cases c43 : (t368.length : Int) = 0
    ·rw [if_pos c43] at H
     have c43b0 : ((t368.length : Int) == 0) = true := beq_iff_eq.mpr c43
     have c43b1 : ((t368.length : Int) != 0) = false := bne_eq_false_iff_eq.mpr c43
     clear c43
     obtain rfl := Option.some.inj H
     go_wp2
     go_ret
     exact ⟨by first | rfl | (simp [errW_none, errW_some] <;> rfl) | (simp [*, errW_none, errW_some] <;> rfl), by repeat (first | (with_reducible first | exact HB.out | apply below_alloc | apply pw_below_drewN | apply below_drew1 | refine below_set ?_ GE356.out | refine below_set ?_ GE364.out) | exact HB.out)⟩
    ·rw [if_neg c43] at H
     have c43b0 : ((t368.length : Int) == 0) = false := beq_eq_false_iff_ne.mpr c43
     have c43b1 : ((t368.length : Int) != 0) = true := bne_iff_ne.mpr c43
     have c43b2 : ¬ (t368 = []) := fun h_ => c43 (by rw [h_]; rfl)
     obtain ⟨ji44, hji44⟩ : ∃ j_ : Int, (Int.tmod (wrap64 (a2)) (t368.length : Int)) = j_ := ⟨_, rfl⟩
     replace H : (if 0 ≤ (ji44) then (if (ji44) < (t368.length : Int) then ((thresherref10_Key.f t358 t361 t362 t363 (rd_L5 t368 (ji44))).bind fun t384 => (thresherlaw12_IndexWhole.l0 kj9 t357 t368 t371 t384 0 t358 t361 t362 t363 true true t384 t384)) else (none)) else (none)) = some r := by first | (rw [hji44] at H; exact H) | (simp only [hji44] at H ⊢; exact H)
     by_cases c45 : 0 ≤ (ji44)
     ·rw [if_pos c45] at H
      have c45b0 : decide (0 ≤ (ji44)) = true := decide_eq_true c45
      clear c45
      by_cases c46 : (ji44) < (t368.length : Int)
      ·rw [if_pos c46] at H
       have c46b0 : decide ((ji44) < (t368.length : Int)) = true := decide_eq_true c46
       clear c46
       replace H := Option.bind_eq_some_iff.mp H
       obtain ⟨t384, A470, H⟩ := H
       replace H : (thresherlaw12_IndexWhole.l0 kj9 t357 t368 t371 t384 0 t358 t361 t362 t363 true true t384 t384) = some r := H
       have A47 := Aside0.mk A470
       clear A470
       have H' := Aside0.mk H
       clear H
       try go_wp2
       have n0_ := Aside0.mk (Kd.N_drew HO_9.out)
       have n1_ := Aside0.mk (Kd.N_drew HO_10.out)
       have n2_ := Aside0.mk (Kd.R_drew HO_365000.out)
       have n3_ := Aside0.mk (blk_drew BK356.out)
       have n4_ := Aside0.mk (blk_drew BK364.out)
       have n5_ := Aside0.mk (below_drew1 HB.out)
       clear HO_9
       clear HO_10
       clear HO_365000
       clear BK356
       clear BK364
       clear HB
       have HO_9 := n0_
       have HO_10 := n1_
       have HO_365000 := n2_
       have BK356 := n3_
       have BK364 := n4_
       have HB := n5_
       clear n0_ n1_ n2_ n3_ n4_ n5_
       have p383 : 0 ≤ ((ji44) : Int) := of_decide_eq_true (by first | (with_reducible assumption) | assumption)
       have q383 : (ji44) < (t368.length : Int) := of_decide_eq_true (by first | (with_reducible assumption) | assumption)
       obtain ⟨ad383, A383_0, c383_0, e383, hx383_0, hl383_0, hi383_0⟩ := at_L5 (Kd.N_reads' HO_9.out).2.2 (ji44) p383 q383
       cases e383
       obtain ⟨ce383, hce383, hMe383, hcc383⟩ := Kd.N_get HO_9.out [] (ji44) p383 (by first | exact q383 | exact of_decide_eq_true (by first | (with_reducible assumption) | assumption) | (have e_ := (Kd.N_reads' HO_9.out).1; omega))
       obtain ⟨ua383_0, uc383_0, rfl, ul383_0, ge383_0⟩ := Kd.FK_slice_open hMe383
       have hv383_0 := hcc383 0 _ rfl
       rw [Nat.add_zero, show ((Kd.slice 44 k44)).sz = 1 from rfl, Nat.mul_one] at hv383_0
       replace hv383_0 := Option.some.inj (hv383_0.symm.trans hx383_0)
       injection hv383_0 with hva_ hvn_ hvc_
       rw [hva_] at ge383_0
       rw [hvc_] at ul383_0
       have HL383_0 := Aside0.mk (show Kd.V k44 44 _ w.heap.size _ _ (rd_L5 t368 (ji44)) from Kd.V_mk ul383_0 ge383_0)
       clear hva_ hvn_ hvc_ ge383_0 ul383_0
       clear hcc383 hce383
       have HR383_0 := Aside0.mk hi383_0
       have HC383_0 := Aside0.mk hl383_0
       clear hi383_0 hl383_0
       replace p383 := eq_true p383
       replace q383 := eq_true q383
       refine start_ (n := 11) (S := fun w' => w'.cell? ⟨gb364, 0, none⟩ = some (.slice Ao16 t358.length co16) ∧ w'.cell? ⟨gb364, 1, none⟩ = some (.int .i64 t361) ∧ w'.cell? ⟨gb364, 2, none⟩ = some (.int .i64 t362) ∧ w'.cell? ⟨gb364, 3, none⟩ = some (.int .i64 t363) ∧ w'.cell? (ad383.add ((ji44)).toNat) = some (.slice A383_0 (rd_L5 t368 (ji44)).length c383_0)) (ds := []) #[false, false, false, false, false, false, false, false, false, false, false] (by kernel_rfl) rfl rfl ⟨(blk_cell BK364.out 0).trans rfl, (blk_cell BK364.out 1).trans rfl, (blk_cell BK364.out 2).trans rfl, (blk_cell BK364.out 3).trans rfl, hx383_0⟩ (fun hHeld => ?_); refine with_tabW thresherlaw12_IndexWhole.tab10 thresherlaw12_IndexWhole.bits10 (fun HT_ HW_ => ?_)
       generalize wc.drew = w48 at HO_9 HO_10 HO_365000 BK356 BK364 HB HL383_0 HR383_0 hx383_0 hHeld ⊢
       refine pure_ (i := 1) (N := some 60) (v := ?_) (a' := ?_) #[false, true, false, false, false, false, false, false, false, false, false] rfl rfl (any_of HT_.out (by kernel_rfl)) (fun _ _ _ h => h) (Or.inl ⟨by rfl, ?_⟩) ?_ ?_
       rotate_left; (intro w'; go_simp; with_reducible rfl); rotate_left; (simp only [Act.put, List.setIfInBounds_toArray, List.set_cons_zero, List.set_cons_succ, i64_w, i32_w]; rfl)
       refine pure_ (i := 2) (N := some 61) (v := ?_) (a' := ?_) #[false, true, true, false, false, false, false, false, false, false, false] rfl rfl (any_of HT_.out (by kernel_rfl)) (fun _ _ _ h => h) (Or.inl ⟨by rfl, ?_⟩) ?_ ?_
       rotate_left; (intro w'; go_simp; with_reducible rfl); rotate_left; (simp only [Act.put, List.setIfInBounds_toArray, List.set_cons_zero, List.set_cons_succ, i64_w, i32_w]; rfl)
       refine pure_ (i := 3) (N := some 62) (v := ?_) (a' := ?_) #[false, true, true, true, false, false, false, false, false, false, false] rfl rfl (any_of HT_.out (by kernel_rfl)) (fun _ _ _ h => h) (Or.inl ⟨by rfl, ?_⟩) ?_ ?_
       rotate_left; (intro w'; go_simp; with_reducible rfl); rotate_left; (simp only [Act.put, List.setIfInBounds_toArray, List.set_cons_zero, List.set_cons_succ, i64_w, i32_w]; rfl)
       refine pure_ (i := 4) (N := some 63) (v := ?_) (a' := ?_) #[false, true, true, true, true, false, false, false, false, false, false] rfl rfl (any_of HT_.out (by kernel_rfl)) (fun _ _ _ h => h) (Or.inl ⟨by rfl, ?_⟩) ?_ ?_
       rotate_left; (intro w'; go_simp; with_reducible rfl); rotate_left; (simp only [Act.put, List.setIfInBounds_toArray, List.set_cons_zero, List.set_cons_succ, i64_w, i32_w]; rfl)
       refine pure_ (i := 5) (N := some 64) (v := ?_) (a' := ?_) #[false, true, true, true, true, true, false, false, false, false, false] rfl rfl (any_of HT_.out (by kernel_rfl)) (fun _ _ _ h => h) (Or.inl ⟨by rfl, ?_⟩) ?_ ?_
       rotate_left; (intro w'; go_simp; with_reducible rfl); rotate_left; (simp only [Act.put, List.setIfInBounds_toArray, List.set_cons_zero, List.set_cons_succ, i64_w, i32_w]; rfl)
       refine pure_ (i := 6) (N := some 65) (v := ?_) (a' := ?_) #[false, true, true, true, true, true, true, false, false, false, false] rfl rfl (any_of HT_.out (by kernel_rfl)) (fun _ _ _ h => h) (Or.inl ⟨by rfl, ?_⟩) ?_ ?_
       rotate_left; (intro w'; go_simp; with_reducible rfl); rotate_left; (simp only [Act.put, List.setIfInBounds_toArray, List.set_cons_zero, List.set_cons_succ, i64_w, i32_w]; rfl)
       refine pure_ (i := 7) (N := some 66) (v := ?_) (a' := ?_) #[false, true, true, true, true, true, true, true, false, false, false] rfl rfl (any_of HT_.out (by kernel_rfl)) (fun _ _ _ h => h) (Or.inl ⟨by rfl, ?_⟩) ?_ ?_
       rotate_left; (intro w'; go_simp; with_reducible rfl); rotate_left; (simp only [Act.put, List.setIfInBounds_toArray, List.set_cons_zero, List.set_cons_succ, i64_w, i32_w]; rfl)
       refine take_ (i := 0) (N := some 59) (v := ?_) (a' := ?_) #[true, true, true, true, true, true, true, true, false, false, false] rfl rfl (take_ofW HT_.out HW_.out (by kernel_rfl)) (fun _ _ _ h => h) (Or.inl ⟨by rfl, ?_⟩) hHeld ?_ ?_
       rotate_left; (rintro w' ⟨s0, s1, s2, s3, s4⟩; go_simp; with_reducible rfl); rotate_left; (simp only [Act.put, List.setIfInBounds_toArray, List.set_cons_zero, List.set_cons_succ, i64_w, i32_w]; rfl)
       refine take_ (i := 8) (N := some 67) (v := ?_) (a' := ?_) #[true, true, true, true, true, true, true, true, true, false, false] rfl rfl (take_ofW HT_.out HW_.out (by kernel_rfl)) (fun _ _ _ h => h) (Or.inl ⟨by rfl, ?_⟩) hHeld ?_ ?_
       rotate_left; (rintro w' ⟨s0, s1, s2, s3, s4⟩; go_simp; with_reducible rfl); rotate_left; (simp only [Act.put, List.setIfInBounds_toArray, List.set_cons_zero, List.set_cons_succ, i64_w, i32_w]; rfl)
       refine one_ (i := 9) (N := some 68) #[true, true, true, true, true, true, true, true, true, true, false] rfl rfl (one_of HT_.out (by kernel_rfl)) (by decide) (fun K hK => ?_)
       refine goes_ Try.func19 (by kernel_rfl) rfl #[.agg #[.slice Ao16 t358.length co16, .int .i64 t361, .int .i64 t362, .int .i64 t363], .slice A383_0 (rd_L5 t368 (ji44)).length c383_0] (by rfl) rfl rfl (by (try simp only [List.map_toArray, List.map_cons, List.map_nil]); first | done | (simp only [hji44]; rfl) | rfl | (simp only [List.length_drop, List.length_take]; rfl)) ?_
       with_reducible refine (thresherref10_Key.calls _ _ t358 t361 t362 t363 _ _ (rd_L5 t368 (ji44)) t384 _ ?side1 ?side2 ?side3 ?side4 A47.out).mono ?_
       (case side1 => repeat (first | exact (Kd.R_reads' HO_365000.out).2.2 | (with_reducible refine Kd.C_alloc ?_ _) | (with_reducible refine Kd.C_drewN ?_ _) | (with_reducible refine Kd.C_drew ?_)))
       (case side2 => exact (Kd.R_reads' HO_365000.out).2.1)
       (case side3 => repeat (first | exact (by repeat (first | (with_reducible exact HR383_0.out) | (with_reducible refine Kd.C_alloc ?_ _) | (with_reducible refine Kd.C_drewN ?_ _) | (with_reducible refine Kd.C_drew ?_) | exact HR383_0.out)) | (with_reducible refine Kd.C_alloc ?_ _) | (with_reducible refine Kd.C_drewN ?_ _) | (with_reducible refine Kd.C_drew ?_)))
       (case side4 => exact HC383_0.out)
       rintro e w49 ⟨v385, rfl, ho0, hb⟩
       have HS4_ := (hb.cell (World.block_lt_of_cell? _ _ (hHeld.2.2.2.2))).trans (hHeld.2.2.2.2)
       refine ⟨_, rfl, ?_⟩
       have n0_ := Aside0.mk (Kd.N_elder' (by (with_reducible repeat (first | apply Kd.N_alloc | apply Kd.N_drewN | apply Kd.N_drew)); exact HO_9.out) (Kd.R_base ho0) hb)
       have n1_ := Aside0.mk (Kd.N_elder' (by (with_reducible repeat (first | apply Kd.N_alloc | apply Kd.N_drewN | apply Kd.N_drew)); exact HO_10.out) (Kd.R_base ho0) hb)
       have n2_ := Aside0.mk (Kd.R_below (by (with_reducible repeat (first | apply Kd.R_alloc | apply Kd.R_drewN | apply Kd.R_drew)); exact HO_365000.out) hb)
       have n3_ := Aside0.mk (Kd.V_elder' (by (with_reducible repeat (first | apply Kd.V_alloc | apply Kd.V_drewN | apply Kd.V_drew)); exact HL383_0.out) (Kd.R_base ho0) hb)
       have n4_ := Aside0.mk (Kd.R_lower ho0 (below_size (by repeat (first | (with_reducible first | exact HB.out | apply below_alloc | apply pw_below_drewN | apply below_drew1 | refine below_set ?_ GE356.out | refine below_set ?_ GE364.out) | exact HB.out))))
       have n5_ := Aside0.mk (blk_below (g := gb356) (o := .cells #[.int .u8 a0_0, .int .u8 a0_1, .int .u8 a0_2, .int .u8 a0_3, .int .u8 a0_4, .int .u8 a0_5, .int .u8 a0_6, .int .u8 a0_7, .int .u8 a0_8, .int .u8 a0_9, .int .u8 a0_10, .int .u8 a0_11] 24 (0, 0)) (by (with_reducible repeat (first | refine blk_drewN ?_ _ | refine blk_drew ?_ | refine blk_alloc ?_ _)); exact BK356.out) hb)
       have n6_ := Aside0.mk (blk_below (g := gb364) (o := .cells #[.slice Ao16 t358.length co16, .int .i64 t361, .int .i64 t362, .int .i64 t363] 33 (0, 0)) (by (with_reducible repeat (first | refine blk_drewN ?_ _ | refine blk_drew ?_ | refine blk_alloc ?_ _)); exact BK364.out) hb)
       have n7_ := Aside0.mk (Kd.C_below (by repeat (first | (with_reducible exact HR383_0.out) | (with_reducible refine Kd.C_alloc ?_ _) | (with_reducible refine Kd.C_drewN ?_ _) | (with_reducible refine Kd.C_drew ?_) | exact HR383_0.out)) hb)
       have n8_ := Aside0.mk (below_step (by repeat (first | (with_reducible first | exact HB.out | apply below_alloc | apply pw_below_drewN | apply below_drew1 | refine below_set ?_ GE356.out | refine below_set ?_ GE364.out) | exact HB.out)) hb)
       clear HO_9
       clear HO_10
       clear HO_365000
       clear HL383_0
       clear BK356
       clear BK364
       clear HR383_0
       clear HB
       have HO_9 := n0_
       have HO_10 := n1_
       have HO_365000 := n2_
       have HL383_0 := n3_
       have HO386 := n4_
       have BK356 := n5_
       have BK364 := n6_
       have HR383_0 := n7_
       have HB := n8_
       clear n0_ n1_ n2_ n3_ n4_ n5_ n6_ n7_ n8_
       (try clear hb)
       (try clear hb2)
       (try clear hk)
       (try clear hi)
       (try clear ho0)
       refine hK.out _ _ ⟨(blk_cell BK364.out 0).trans rfl, (blk_cell BK364.out 1).trans rfl, (blk_cell BK364.out 2).trans rfl, (blk_cell BK364.out 3).trans rfl, HS4_⟩ (fun hHeld => ?_)
       clear hK K
       refine norm_ (a' := ?_) ?_ ?_
       rotate_left
       ·show Act.put _ (some 68) _ = _
        simp only [Act.put, List.setIfInBounds_toArray, List.set_cons_zero, List.set_cons_succ, i64_w, i32_w]
        rfl
       refine pure_ (i := 10) (N := some 13) (v := ?_) (a' := ?_) #[true, true, true, true, true, true, true, true, true, true, true] rfl rfl (any_of HT_.out (by kernel_rfl)) (fun _ _ _ h => h) (Or.inl ⟨by rfl, ?_⟩) ?_ ?_
       rotate_left; (intro w'; go_simp; with_reducible rfl); rotate_left; (simp only [Act.put, List.setIfInBounds_toArray, List.set_cons_zero, List.set_cons_succ, i64_w, i32_w]; rfl)
       refine done_ (done_of HT_.out (by kernel_rfl)) ?_
       (try clear HS4_); (try clear hHeld)
       obtain ⟨Ao50, co50, eo50⟩ := Kd.R_slice HO386.out
       subst eo50
       try go_wp2_with (first | ((with_reducible refine gate_dst (N := 14) rfl ?_); (try (refine gate_guard (by rfl) ?_; dsimp only)); refine box_event ?hg (N := 14) ?hd (cs := #[.bool false, .bool false, .slice none 0 0, .slice none 0 0]) (t := 29) ?hr ?_; (case hd => rfl); (case hg => rfl); (case hr => first | (go_simp; done) | (go_simp; rfl)); intro gb387 hg w51 hbox hb; have n0_ := Aside0.mk (Kd.N_below (Kd.N_elderB (by (with_reducible repeat (first | apply Kd.N_alloc | apply Kd.N_drewN | apply Kd.N_drew)); exact HO_9.out) gb387 (Nat.le_of_eq hg.symm)) hb); have n1_ := Aside0.mk (Kd.N_below (Kd.N_elderB (by (with_reducible repeat (first | apply Kd.N_alloc | apply Kd.N_drewN | apply Kd.N_drew)); exact HO_10.out) gb387 (Nat.le_of_eq hg.symm)) hb); have n2_ := Aside0.mk (Kd.R_below (by (with_reducible repeat (first | apply Kd.R_alloc | apply Kd.R_drewN | apply Kd.R_drew)); exact HO_365000.out) hb); have n3_ := Aside0.mk (Kd.V_below (Kd.V_elderB (by (with_reducible repeat (first | apply Kd.V_alloc | apply Kd.V_drewN | apply Kd.V_drew)); exact HL383_0.out) gb387 (Nat.le_of_eq hg.symm)) hb); have n4_ := Aside0.mk (Kd.R_below (by (with_reducible repeat (first | apply Kd.R_alloc | apply Kd.R_drewN | apply Kd.R_drew)); exact HO386.out) hb); have n5_ := Aside0.mk (blk_below (g := gb356) (o := .cells #[.int .u8 a0_0, .int .u8 a0_1, .int .u8 a0_2, .int .u8 a0_3, .int .u8 a0_4, .int .u8 a0_5, .int .u8 a0_6, .int .u8 a0_7, .int .u8 a0_8, .int .u8 a0_9, .int .u8 a0_10, .int .u8 a0_11] 24 (0, 0)) (by (with_reducible repeat (first | refine blk_drewN ?_ _ | refine blk_drew ?_ | refine blk_alloc ?_ _)); exact BK356.out) hb); have n6_ := Aside0.mk (blk_below (g := gb364) (o := .cells #[.slice Ao16 t358.length co16, .int .i64 t361, .int .i64 t362, .int .i64 t363] 33 (0, 0)) (by (with_reducible repeat (first | refine blk_drewN ?_ _ | refine blk_drew ?_ | refine blk_alloc ?_ _)); exact BK364.out) hb); have n7_ := Aside0.mk (Kd.C_below (by repeat (first | (with_reducible exact HR383_0.out) | (with_reducible refine Kd.C_alloc ?_ _) | (with_reducible refine Kd.C_drewN ?_ _) | (with_reducible refine Kd.C_drew ?_) | exact HR383_0.out)) hb); have n8_ := Aside0.mk (below_step (by repeat (first | (with_reducible first | exact HB.out | apply below_alloc | apply pw_below_drewN | apply below_drew1 | refine below_set ?_ GE356.out | refine below_set ?_ GE364.out) | exact HB.out)) hb); have n9_ := Aside0.mk (hbox); have n10_ := Aside0.mk ((by rw [hg]; exact (below_size (by repeat (first | (with_reducible first | exact HB.out | apply below_alloc | apply pw_below_drewN | apply below_drew1 | refine below_set ?_ GE356.out | refine below_set ?_ GE364.out) | exact HB.out))) : w.heap.size ≤ gb387)); have n11_ := Aside0.mk ((by rw [hg]; exact (below_size (by repeat (first | (with_reducible first | exact HB.out | apply below_alloc | apply pw_below_drewN | apply below_drew1 | refine below_set ?_ GE356.out | refine below_set ?_ GE364.out) | exact HB.out))) : w.heap.size ≤ gb387)); have n12_ := Aside0.mk ((by rw [hg]; exact Nat.ne_of_lt (blk_lt (g := gb356) (o := .cells #[.int .u8 a0_0, .int .u8 a0_1, .int .u8 a0_2, .int .u8 a0_3, .int .u8 a0_4, .int .u8 a0_5, .int .u8 a0_6, .int .u8 a0_7, .int .u8 a0_8, .int .u8 a0_9, .int .u8 a0_10, .int .u8 a0_11] 24 (0, 0)) (by (with_reducible repeat (first | refine blk_drewN ?_ _ | refine blk_drew ?_ | refine blk_alloc ?_ _)); exact BK356.out)) : gb356 ≠ gb387)); have n13_ := Aside0.mk ((by rw [hg]; exact Nat.ne_of_gt (blk_lt (g := gb356) (o := .cells #[.int .u8 a0_0, .int .u8 a0_1, .int .u8 a0_2, .int .u8 a0_3, .int .u8 a0_4, .int .u8 a0_5, .int .u8 a0_6, .int .u8 a0_7, .int .u8 a0_8, .int .u8 a0_9, .int .u8 a0_10, .int .u8 a0_11] 24 (0, 0)) (by (with_reducible repeat (first | refine blk_drewN ?_ _ | refine blk_drew ?_ | refine blk_alloc ?_ _)); exact BK356.out)) : gb387 ≠ gb356)); have n14_ := Aside0.mk ((by rw [hg]; exact Nat.ne_of_lt (blk_lt (g := gb364) (o := .cells #[.slice Ao16 t358.length co16, .int .i64 t361, .int .i64 t362, .int .i64 t363] 33 (0, 0)) (by (with_reducible repeat (first | refine blk_drewN ?_ _ | refine blk_drew ?_ | refine blk_alloc ?_ _)); exact BK364.out)) : gb364 ≠ gb387)); have n15_ := Aside0.mk ((by rw [hg]; exact Nat.ne_of_gt (blk_lt (g := gb364) (o := .cells #[.slice Ao16 t358.length co16, .int .i64 t361, .int .i64 t362, .int .i64 t363] 33 (0, 0)) (by (with_reducible repeat (first | refine blk_drewN ?_ _ | refine blk_drew ?_ | refine blk_alloc ?_ _)); exact BK364.out)) : gb387 ≠ gb364)); clear HO_9; clear HO_10; clear HO_365000; clear HL383_0; clear HO386; clear BK356; clear BK364; clear HR383_0; clear HB; have HO_9 := n0_; have HO_10 := n1_; have HO_365000 := n2_; have HL383_0 := n3_; have HO386 := n4_; have BK356 := n5_; have BK364 := n6_; have HR383_0 := n7_; have HB := n8_; have BK387 := n9_; have GW387 := n10_; have GE387 := n11_; have NB356_387 := n12_; have NB387_356 := n13_; have NB364_387 := n14_; have NB387_364 := n15_; clear n0_ n1_ n2_ n3_ n4_ n5_ n6_ n7_ n8_ n9_ n10_ n11_ n12_ n13_ n14_ n15_; clear hb hbox hg; have hnb52 := NB387_356.out; have hnc52 := NB356_387.out; have hnb53 := NB387_364.out; have hnc53 := NB364_387.out; have hcz54_0 : w51.cell? ⟨gb387, 0, none⟩ = some (.bool false) := (blk_cell BK387.out 0).trans rfl; have hcz54_1 : w51.cell? ⟨gb387, 1, none⟩ = some (.bool false) := (blk_cell BK387.out 1).trans rfl; have hcz54_2 : w51.cell? ⟨gb387, 2, none⟩ = some (.slice none 0 0) := (blk_cell BK387.out 2).trans rfl; have hcz54_3 : w51.cell? ⟨gb387, 3, none⟩ = some (.slice none 0 0) := (blk_cell BK387.out 3).trans rfl; have hfz54_0 := blk_frozen BK387.out 0; have hfz54_1 := blk_frozen BK387.out 1; have hfz54_2 := blk_frozen BK387.out 2; have hfz54_3 := blk_frozen BK387.out 3))
       go_loopg [15] kj9 (fun kq v15 w' => ∃ (x15_2 : Int), v15 = .int .i64 x15_2 ∧ Aside0 (thresherlaw12_IndexWhole.l0 kq t357 t368 t371 t384 x15_2 t358 t361 t362 t363 true true t384 t384 = some r) ∧ Aside0 (kq ≤ kj9) ∧ Aside0 (Kd.N (Kd.slice 44 k44) 27 w' w.heap.size (fun k_ => some k_ ≠ ((.slice Ao34 t371.length co34) : Value).ownBlock ∧ some k_ ≠ ((.slice Ao50 t384.length co50) : Value).ownBlock ∧ some k_ ≠ ((.slice Ao16 t358.length co16) : Value).ownBlock ∧ some k_ ≠ ((.slice Ao50 t384.length co50) : Value).ownBlock ∧ some k_ ≠ ((.slice Ao50 t384.length co50) : Value).ownBlock ∧ k_ ≠ gb356 ∧ k_ ≠ gb364 ∧ k_ ≠ gb387) (.slice (some ad383) t368.length co25) t368) ∧ Aside0 (Kd.N (Kd.slice 44 k44) 27 w' w.heap.size (fun k_ => some k_ ≠ ((.slice (some ad383) t368.length co25) : Value).ownBlock ∧ some k_ ≠ ((.slice Ao50 t384.length co50) : Value).ownBlock ∧ some k_ ≠ ((.slice Ao16 t358.length co16) : Value).ownBlock ∧ some k_ ≠ ((.slice Ao50 t384.length co50) : Value).ownBlock ∧ some k_ ≠ ((.slice Ao50 t384.length co50) : Value).ownBlock ∧ k_ ≠ gb356 ∧ k_ ≠ gb364 ∧ k_ ≠ gb387) (.slice Ao34 t371.length co34) t371) ∧ Aside0 (Kd.R k44 44 w' w.heap.size (fun _ => True) (.slice Ao50 t384.length co50) t384) ∧ Aside0 (Kd.R (Kd.int .i64) 3 w' w.heap.size (fun _ => True) (.slice Ao16 t358.length co16) t358) ∧ Aside0 (Kd.R k44 44 w' w.heap.size (fun _ => True) (.slice Ao50 t384.length co50) t384) ∧ Aside0 (Kd.R k44 44 w' w.heap.size (fun _ => True) (.slice Ao50 t384.length co50) t384) ∧ Aside0 (w'.heap[gb356]? = some (.cells #[.int .u8 a0_0, .int .u8 a0_1, .int .u8 a0_2, .int .u8 a0_3, .int .u8 a0_4, .int .u8 a0_5, .int .u8 a0_6, .int .u8 a0_7, .int .u8 a0_8, .int .u8 a0_9, .int .u8 a0_10, .int .u8 a0_11] 24 (0, 0))) ∧ Aside0 (w'.heap[gb364]? = some (.cells #[(.slice Ao16 t358.length co16), .int .i64 t361, .int .i64 t362, .int .i64 t363] 33 (0, 0))) ∧ Aside0 (w'.heap[gb387]? = some (.cells #[.bool true, .bool true, (.slice Ao50 t384.length co50), (.slice Ao50 t384.length co50)] 29 (0, 0))) ∧ Aside0 (Below w.heap.size w w'))
       case atStart => exact ⟨(0), (by first | rfl | (simp; done) | (simp [*]; done)), H', ⟨Nat.le_refl _⟩, ⟨by (with_reducible repeat (first | apply Kd.N_alloc | apply Kd.N_drewN | apply Kd.N_drew)); exact Kd.N_mono (Kd.N_far (p := ⟨gb387, 3, none⟩) (Kd.N_far (p := ⟨gb387, 2, none⟩) (Kd.N_far (p := ⟨gb387, 1, none⟩) (Kd.N_far (p := ⟨gb387, 0, none⟩) (Kd.N_mono HO_9.out (fun k_ hk => (⟨hk, hk.2⟩ : _ ∧ k_ ≠ gb387))) (fun _ hk => hk.2) (.bool true)) (fun _ hk => hk.2) (.bool true)) (fun _ hk => hk.2) (.slice Ao50 t384.length co50)) (fun _ hk => hk.2) (.slice Ao50 t384.length co50)) (fun _ hk => ⟨hk.1.1.1.1, ⟨hk.1.1.2, ⟨hk.1.1.1.2.1, ⟨hk.1.1.2, ⟨hk.1.1.2, ⟨hk.1.1.1.2.2.1, ⟨hk.1.1.1.2.2.2, hk.1.2⟩⟩⟩⟩⟩⟩⟩)⟩, ⟨by (with_reducible repeat (first | apply Kd.N_alloc | apply Kd.N_drewN | apply Kd.N_drew)); exact Kd.N_mono (Kd.N_far (p := ⟨gb387, 3, none⟩) (Kd.N_far (p := ⟨gb387, 2, none⟩) (Kd.N_far (p := ⟨gb387, 1, none⟩) (Kd.N_far (p := ⟨gb387, 0, none⟩) (Kd.N_mono HO_10.out (fun k_ hk => (⟨hk, hk.2⟩ : _ ∧ k_ ≠ gb387))) (fun _ hk => hk.2) (.bool true)) (fun _ hk => hk.2) (.bool true)) (fun _ hk => hk.2) (.slice Ao50 t384.length co50)) (fun _ hk => hk.2) (.slice Ao50 t384.length co50)) (fun _ hk => ⟨hk.1.1.1.1, ⟨hk.1.1.2, ⟨hk.1.1.1.2.1, ⟨hk.1.1.2, ⟨hk.1.1.2, ⟨hk.1.1.1.2.2.1, ⟨hk.1.1.1.2.2.2, hk.1.2⟩⟩⟩⟩⟩⟩⟩)⟩, ⟨by (with_reducible repeat (first | apply Kd.R_alloc | apply Kd.R_drewN | apply Kd.R_drew)); exact Kd.R_mono (Kd.R_far (p := ⟨gb387, 3, none⟩) (Kd.R_far (p := ⟨gb387, 2, none⟩) (Kd.R_far (p := ⟨gb387, 1, none⟩) (Kd.R_far (p := ⟨gb387, 0, none⟩) (Kd.R_types HO386.out BK387.out (by decide)) (fun _ hk => hk.2) (.bool true)) (fun _ hk => hk.2) (.bool true)) (fun _ hk => hk.2) (.slice Ao50 t384.length co50)) (fun _ hk => hk.2) (.slice Ao50 t384.length co50)) (fun _ hk => trivial)⟩, ⟨by (with_reducible repeat (first | apply Kd.R_alloc | apply Kd.R_drewN | apply Kd.R_drew)); exact Kd.R_mono (Kd.R_far (p := ⟨gb387, 3, none⟩) (Kd.R_far (p := ⟨gb387, 2, none⟩) (Kd.R_far (p := ⟨gb387, 1, none⟩) (Kd.R_far (p := ⟨gb387, 0, none⟩) (Kd.R_types HO_365000.out BK387.out (by decide)) (fun _ hk => hk.2) (.bool true)) (fun _ hk => hk.2) (.bool true)) (fun _ hk => hk.2) (.slice Ao50 t384.length co50)) (fun _ hk => hk.2) (.slice Ao50 t384.length co50)) (fun _ hk => trivial)⟩, ⟨by (with_reducible repeat (first | apply Kd.R_alloc | apply Kd.R_drewN | apply Kd.R_drew)); exact Kd.R_mono (Kd.R_far (p := ⟨gb387, 3, none⟩) (Kd.R_far (p := ⟨gb387, 2, none⟩) (Kd.R_far (p := ⟨gb387, 1, none⟩) (Kd.R_far (p := ⟨gb387, 0, none⟩) (Kd.R_types HO386.out BK387.out (by decide)) (fun _ hk => hk.2) (.bool true)) (fun _ hk => hk.2) (.bool true)) (fun _ hk => hk.2) (.slice Ao50 t384.length co50)) (fun _ hk => hk.2) (.slice Ao50 t384.length co50)) (fun _ hk => trivial)⟩, ⟨by (with_reducible repeat (first | apply Kd.R_alloc | apply Kd.R_drewN | apply Kd.R_drew)); exact Kd.R_mono (Kd.R_far (p := ⟨gb387, 3, none⟩) (Kd.R_far (p := ⟨gb387, 2, none⟩) (Kd.R_far (p := ⟨gb387, 1, none⟩) (Kd.R_far (p := ⟨gb387, 0, none⟩) (Kd.R_types HO386.out BK387.out (by decide)) (fun _ hk => hk.2) (.bool true)) (fun _ hk => hk.2) (.bool true)) (fun _ hk => hk.2) (.slice Ao50 t384.length co50)) (fun _ hk => hk.2) (.slice Ao50 t384.length co50)) (fun _ hk => trivial)⟩, ⟨by (with_reducible repeat (first | refine blk_drewN ?_ _ | refine blk_drew ?_ | refine blk_alloc ?_ _)); refine blk_far ?_ NB356_387.out _; (with_reducible repeat (first | refine blk_drewN ?_ _ | refine blk_drew ?_ | refine blk_alloc ?_ _)); refine blk_far ?_ NB356_387.out _; (with_reducible repeat (first | refine blk_drewN ?_ _ | refine blk_drew ?_ | refine blk_alloc ?_ _)); refine blk_far ?_ NB356_387.out _; (with_reducible repeat (first | refine blk_drewN ?_ _ | refine blk_drew ?_ | refine blk_alloc ?_ _)); refine blk_far ?_ NB356_387.out _; (with_reducible repeat (first | refine blk_drewN ?_ _ | refine blk_drew ?_ | refine blk_alloc ?_ _)); exact BK356.out⟩, ⟨by (with_reducible repeat (first | refine blk_drewN ?_ _ | refine blk_drew ?_ | refine blk_alloc ?_ _)); refine blk_far ?_ NB364_387.out _; (with_reducible repeat (first | refine blk_drewN ?_ _ | refine blk_drew ?_ | refine blk_alloc ?_ _)); refine blk_far ?_ NB364_387.out _; (with_reducible repeat (first | refine blk_drewN ?_ _ | refine blk_drew ?_ | refine blk_alloc ?_ _)); refine blk_far ?_ NB364_387.out _; (with_reducible repeat (first | refine blk_drewN ?_ _ | refine blk_drew ?_ | refine blk_alloc ?_ _)); refine blk_far ?_ NB364_387.out _; (with_reducible repeat (first | refine blk_drewN ?_ _ | refine blk_drew ?_ | refine blk_alloc ?_ _)); exact BK364.out⟩, ⟨by (with_reducible repeat (first | refine blk_drewN ?_ _ | refine blk_drew ?_ | refine blk_alloc ?_ _)); refine blk_put (cs := #[.bool true, .bool true, .slice Ao50 t384.length co50, .slice none 0 0]) ?_ 3 _ rfl; (with_reducible repeat (first | refine blk_drewN ?_ _ | refine blk_drew ?_ | refine blk_alloc ?_ _)); refine blk_put (cs := #[.bool true, .bool true, .slice none 0 0, .slice none 0 0]) ?_ 2 _ rfl; (with_reducible repeat (first | refine blk_drewN ?_ _ | refine blk_drew ?_ | refine blk_alloc ?_ _)); refine blk_put (cs := #[.bool true, .bool false, .slice none 0 0, .slice none 0 0]) ?_ 1 _ rfl; (with_reducible repeat (first | refine blk_drewN ?_ _ | refine blk_drew ?_ | refine blk_alloc ?_ _)); refine blk_put (cs := #[.bool false, .bool false, .slice none 0 0, .slice none 0 0]) ?_ 0 _ rfl; (with_reducible repeat (first | refine blk_drewN ?_ _ | refine blk_drew ?_ | refine blk_alloc ?_ _)); exact BK387.out⟩, ⟨by repeat (first | (with_reducible first | exact HB.out | apply below_alloc | apply pw_below_drewN | apply below_drew1 | refine below_set ?_ GE356.out | refine below_set ?_ GE364.out | refine below_set ?_ GE387.out) | exact HB.out)⟩⟩
       case round =>
        clear H'
        try clear c1
        try clear c2
        try clear p2
        try clear c3
        try clear p3
        try clear q3
        try clear hx3
        try clear c4
        try clear c5
        try clear p6
        try clear c7
        try clear c8
        try clear c9
        try clear c10
        try clear c14
        try clear c15
        try clear c17
        try clear c19
        try clear c36
        try clear c36b0
        try clear c36b1
        try clear c37
        try clear c37b0
        try clear c37b1
        try clear c38
        try clear p38
        try clear q38
        try clear hx38
        try clear c39
        try clear c42
        try clear c43
        try clear c43b0
        try clear c43b1
        try clear c43b2
        try clear c45
        try clear c45b0
        try clear c46
        try clear c46b0
        try clear c52
        try clear c53
        try clear hcz13_0
        try clear hcz13_1
        try clear hcz13_10
        try clear hcz13_11
        try clear hcz13_2
        try clear hcz13_3
        try clear hcz13_4
        try clear hcz13_5
        try clear hcz13_6
        try clear hcz13_7
        try clear hcz13_8
        try clear hcz13_9
        try clear hcz18_0
        try clear hcz18_1
        try clear hcz18_2
        try clear hcz18_3
        try clear hcz24_0
        try clear hcz24_1
        try clear hcz24_2
        try clear hcz24_3
        try clear hcz27_0
        try clear hcz27_1
        try clear hcz27_2
        try clear hcz27_3
        try clear hcz40_0
        try clear hcz40_1
        try clear hcz40_2
        try clear hcz40_3
        try clear hcz54_0
        try clear hcz54_1
        try clear hcz54_2
        try clear hcz54_3
        try clear hfz13_0
        try clear hfz13_1
        try clear hfz13_10
        try clear hfz13_11
        try clear hfz13_2
        try clear hfz13_3
        try clear hfz13_4
        try clear hfz13_5
        try clear hfz13_6
        try clear hfz13_7
        try clear hfz13_8
        try clear hfz13_9
        try clear hfz18_0
        try clear hfz18_1
        try clear hfz18_2
        try clear hfz18_3
        try clear hfz24_0
        try clear hfz24_1
        try clear hfz24_2
        try clear hfz24_3
        try clear hfz27_0
        try clear hfz27_1
        try clear hfz27_2
        try clear hfz27_3
        try clear hfz40_0
        try clear hfz40_1
        try clear hfz40_2
        try clear hfz40_3
        try clear hfz54_0
        try clear hfz54_1
        try clear hfz54_2
        try clear hfz54_3
        try clear hx383_0
        try clear p2
        try clear p383
        try clear q383
        obtain ⟨x15_2, rfl, HA, HK2, HO_9, HO_10, HO_13, HO_365000, HO_388002, HO_388003, BK356, BK364, BK387, HB⟩ := hrel
        cases gk with
        | zero => exact absurd HA.out (by simp [thresherlaw12_IndexWhole.l0])
        | succ k2 =>
         have H := HA.out
         clear HA
         simp only [thresherlaw12_IndexWhole.l0] at H
         by_cases c55 : x15_2 < (t368.length : Int)
         ·rw [if_pos c55] at H
          have c55b0 : decide (x15_2 < (t368.length : Int)) = true := decide_eq_true c55
          clear c55
          by_cases c56 : 0 ≤ x15_2
          ·rw [if_pos c56] at H
           have c56b0 : decide (0 ≤ x15_2) = true := decide_eq_true c56
           clear c56
           replace H := Option.bind_eq_some_iff.mp H
           obtain ⟨t389, A570, H⟩ := H
           replace H : ((index_In.f k2 t358 t361 t362 t363 true true t384 t384 (rd_L5 t368 x15_2)).bind fun t391 => (if (t391 != (t389 == 0)) = true then (some false) else ((index_Meets.f k2 t358 t361 t362 t363 t371 true true (rd_L5 t368 x15_2) t384).bind fun bt394 => ((index_Empty.f k2 t358 t361 t362 t363 true true (rd_L5 t368 x15_2) t384).bind fun t396 => (if (t396 != (decide (t389 > 0))) = true then (thresherlaw12_IndexWhole.j2 k2 t357 t368 t371 t384 x15_2 true t358 t361 t362 t363 true true t384 t384) else (if t389 > 0 then (if bt394.1 = 0 then (thresherlaw12_IndexWhole.j2 k2 t357 t368 t371 t384 x15_2 (bt394.2 != 0) t358 t361 t362 t363 true true t384 t384) else (thresherlaw12_IndexWhole.j2 k2 t357 t368 t371 t384 x15_2 true t358 t361 t362 t363 true true t384 t384)) else (thresherlaw12_IndexWhole.j2 k2 t357 t368 t371 t384 x15_2 false t358 t361 t362 t363 true true t384 t384))))))) = some r := H
           have A57 := Aside0.mk A570
           clear A570
           replace H := Option.bind_eq_some_iff.mp H
           obtain ⟨t391, A580, H⟩ := H
           replace H : (if (t391 != (t389 == 0)) = true then (some false) else ((index_Meets.f k2 t358 t361 t362 t363 t371 true true (rd_L5 t368 x15_2) t384).bind fun bt394 => ((index_Empty.f k2 t358 t361 t362 t363 true true (rd_L5 t368 x15_2) t384).bind fun t396 => (if (t396 != (decide (t389 > 0))) = true then (thresherlaw12_IndexWhole.j2 k2 t357 t368 t371 t384 x15_2 true t358 t361 t362 t363 true true t384 t384) else (if t389 > 0 then (if bt394.1 = 0 then (thresherlaw12_IndexWhole.j2 k2 t357 t368 t371 t384 x15_2 (bt394.2 != 0) t358 t361 t362 t363 true true t384 t384) else (thresherlaw12_IndexWhole.j2 k2 t357 t368 t371 t384 x15_2 true t358 t361 t362 t363 true true t384 t384)) else (thresherlaw12_IndexWhole.j2 k2 t357 t368 t371 t384 x15_2 false t358 t361 t362 t363 true true t384 t384)))))) = some r := H
           have A58 := Aside0.mk A580
           clear A580
           by_cases c59 : (t391 != (t389 == 0)) = true
           ·rw [if_pos c59] at H
            have c59b0 : (t391 != (t389 == 0)) = true := c59
            (try (have c59b1 : decide (t391 = (t389 == 0)) = false := by simpa using c59))
            (try (have c59b2 : (t391 == (t389 == 0)) = false := by simpa using c59))
            (try (have c59b3 : ¬ (t391 = (t389 == 0)) := by simpa using c59))
            clear c59
            obtain rfl := Option.some.inj H
            try go_wp2
            have n0_ := Aside0.mk (Kd.N_drew HO_9.out)
            have n1_ := Aside0.mk (Kd.N_drew HO_10.out)
            have n2_ := Aside0.mk (Kd.R_drew HO_13.out)
            have n3_ := Aside0.mk (Kd.R_drew HO_365000.out)
            have n4_ := Aside0.mk (Kd.R_drew HO_388002.out)
            have n5_ := Aside0.mk (Kd.R_drew HO_388003.out)
            have n6_ := Aside0.mk (blk_drew BK356.out)
            have n7_ := Aside0.mk (blk_drew BK364.out)
            have n8_ := Aside0.mk (blk_drew BK387.out)
            have n9_ := Aside0.mk (below_drew1 HB.out)
            clear HO_9
            clear HO_10
            clear HO_13
            clear HO_365000
            clear HO_388002
            clear HO_388003
            clear BK356
            clear BK364
            clear BK387
            clear HB
            have HO_9 := n0_
            have HO_10 := n1_
            have HO_13 := n2_
            have HO_365000 := n3_
            have HO_388002 := n4_
            have HO_388003 := n5_
            have BK356 := n6_
            have BK364 := n7_
            have BK387 := n8_
            have HB := n9_
            clear n0_ n1_ n2_ n3_ n4_ n5_ n6_ n7_ n8_ n9_
            have p388 : 0 ≤ (x15_2 : Int) := of_decide_eq_true (by first | (with_reducible assumption) | assumption)
            have q388 : x15_2 < (t368.length : Int) := of_decide_eq_true (by first | (with_reducible assumption) | assumption)
            obtain ⟨ad388, A388_0, c388_0, e388, hx388_0, hl388_0, hi388_0⟩ := at_L5 (Kd.N_reads' HO_9.out).2.2 x15_2 p388 q388
            obtain rfl : ad383 = ad388 := (by injection e388)
            obtain ⟨ce388, hce388, hMe388, hcc388⟩ := Kd.N_get HO_9.out [] x15_2 p388 (by first | exact q388 | exact of_decide_eq_true (by first | (with_reducible assumption) | assumption) | (have e_ := (Kd.N_reads' HO_9.out).1; omega))
            obtain ⟨ua388_0, uc388_0, rfl, ul388_0, ge388_0⟩ := Kd.FK_slice_open hMe388
            have hv388_0 := hcc388 0 _ rfl
            rw [Nat.add_zero, show ((Kd.slice 44 k44)).sz = 1 from rfl, Nat.mul_one] at hv388_0
            replace hv388_0 := Option.some.inj (hv388_0.symm.trans hx388_0)
            injection hv388_0 with hva_ hvn_ hvc_
            rw [hva_] at ge388_0
            rw [hvc_] at ul388_0
            have HL388_0 := Aside0.mk (show Kd.V k44 44 _ w.heap.size _ _ (rd_L5 t368 x15_2) from Kd.V_mk ul388_0 ge388_0)
            clear hva_ hvn_ hvc_ ge388_0 ul388_0
            clear hcc388 hce388
            have HR388_0 := Aside0.mk hi388_0
            have HC388_0 := Aside0.mk hl388_0
            clear hi388_0 hl388_0
            replace p388 := eq_true p388
            replace q388 := eq_true q388
            refine start_ (n := 8) (S := fun w' => w'.cell? ⟨gb364, 0, none⟩ = some (.slice Ao16 t358.length co16) ∧ w'.cell? ⟨gb364, 1, none⟩ = some (.int .i64 t361) ∧ w'.cell? ⟨gb364, 2, none⟩ = some (.int .i64 t362) ∧ w'.cell? ⟨gb364, 3, none⟩ = some (.int .i64 t363) ∧ w'.cell? (ad383.add (x15_2).toNat) = some (.slice A388_0 (rd_L5 t368 x15_2).length c388_0)) (ds := []) #[false, false, false, false, false, false, false, false] (by kernel_rfl) rfl rfl ⟨(blk_cell BK364.out 0).trans rfl, (blk_cell BK364.out 1).trans rfl, (blk_cell BK364.out 2).trans rfl, (blk_cell BK364.out 3).trans rfl, hx388_0⟩ (fun hHeld => ?_); refine with_tabW thresherlaw12_IndexWhole.tab15 thresherlaw12_IndexWhole.bits15 (fun HT_ HW_ => ?_)
            generalize wr.drew = w60 at HO_9 HO_10 HO_13 HO_365000 HO_388002 HO_388003 BK356 BK364 BK387 HB HL388_0 HR388_0 hx388_0 hHeld ⊢
            refine pure_ (i := 1) (N := some 79) (v := ?_) (a' := ?_) #[false, true, false, false, false, false, false, false] rfl rfl (any_of HT_.out (by kernel_rfl)) (fun _ _ _ h => h) (Or.inl ⟨by rfl, ?_⟩) ?_ ?_
            rotate_left; (intro w'; go_simp; with_reducible rfl); rotate_left; (simp only [Act.put, List.setIfInBounds_toArray, List.set_cons_zero, List.set_cons_succ, i64_w, i32_w]; rfl)
            refine pure_ (i := 2) (N := some 80) (v := ?_) (a' := ?_) #[false, true, true, false, false, false, false, false] rfl rfl (any_of HT_.out (by kernel_rfl)) (fun _ _ _ h => h) (Or.inl ⟨by rfl, ?_⟩) ?_ ?_
            rotate_left; (intro w'; go_simp; with_reducible rfl); rotate_left; (simp only [Act.put, List.setIfInBounds_toArray, List.set_cons_zero, List.set_cons_succ, i64_w, i32_w]; rfl)
            refine pure_ (i := 3) (N := some 81) (v := ?_) (a' := ?_) #[false, true, true, true, false, false, false, false] rfl rfl (any_of HT_.out (by kernel_rfl)) (fun _ _ _ h => h) (Or.inl ⟨by rfl, ?_⟩) ?_ ?_
            rotate_left; (intro w'; go_simp; with_reducible rfl); rotate_left; (simp only [Act.put, List.setIfInBounds_toArray, List.set_cons_zero, List.set_cons_succ, i64_w, i32_w]; rfl)
            refine pure_ (i := 5) (N := some 83) (v := ?_) (a' := ?_) #[false, true, true, true, false, true, false, false] rfl rfl (any_of HT_.out (by kernel_rfl)) (fun _ _ _ h => h) (Or.inl ⟨by rfl, ?_⟩) ?_ ?_
            rotate_left; (intro w'; go_simp; with_reducible rfl); rotate_left; (simp only [Act.put, List.setIfInBounds_toArray, List.set_cons_zero, List.set_cons_succ, i64_w, i32_w]; rfl)
            refine take_ (i := 0) (N := some 78) (v := ?_) (a' := ?_) #[true, true, true, true, false, true, false, false] rfl rfl (take_ofW HT_.out HW_.out (by kernel_rfl)) (fun _ _ _ h => h) (Or.inl ⟨by rfl, ?_⟩) hHeld ?_ ?_
            rotate_left; (rintro w' ⟨s0, s1, s2, s3, s4⟩; go_simp; with_reducible rfl); rotate_left; (simp only [Act.put, List.setIfInBounds_toArray, List.set_cons_zero, List.set_cons_succ, i64_w, i32_w]; rfl)
            refine take_ (i := 4) (N := some 82) (v := ?_) (a' := ?_) #[true, true, true, true, true, true, false, false] rfl rfl (take_ofW HT_.out HW_.out (by kernel_rfl)) (fun _ _ _ h => h) (Or.inl ⟨by rfl, ?_⟩) hHeld ?_ ?_
            rotate_left; (rintro w' ⟨s0, s1, s2, s3, s4⟩; go_simp; with_reducible rfl); rotate_left; (simp only [Act.put, List.setIfInBounds_toArray, List.set_cons_zero, List.set_cons_succ, i64_w, i32_w]; rfl)
            refine one_ (i := 6) (N := some 84) #[true, true, true, true, true, true, true, false] rfl rfl (one_of HT_.out (by kernel_rfl)) (by decide) (fun K hK => ?_)
            refine goes_ Try.func20 (by kernel_rfl) rfl #[.agg #[.slice Ao16 t358.length co16, .int .i64 t361, .int .i64 t362, .int .i64 t363], .slice A388_0 (rd_L5 t368 x15_2).length c388_0, .slice Ao50 t384.length co50] (by rfl) rfl rfl (by (try simp only [List.map_toArray, List.map_cons, List.map_nil]); first | done | rfl | (simp only [List.length_drop, List.length_take]; rfl)) ?_
            with_reducible refine (thresherref04_Compare.calls k2 _ _ t358 t361 t362 t363 _ _ (rd_L5 t368 x15_2) _ _ t384 t389 _ ?side1 ?side2 ?side3 ?side4 ?side5 ?side6 A57.out).mono ?_
            (case side1 => repeat (first | exact (Kd.R_reads' HO_365000.out).2.2 | (with_reducible refine Kd.C_alloc ?_ _) | (with_reducible refine Kd.C_drewN ?_ _) | (with_reducible refine Kd.C_drew ?_)))
            (case side2 => exact (Kd.R_reads' HO_365000.out).2.1)
            (case side3 => repeat (first | exact (by repeat (first | (with_reducible exact HR388_0.out) | (with_reducible refine Kd.C_alloc ?_ _) | (with_reducible refine Kd.C_drewN ?_ _) | (with_reducible refine Kd.C_drew ?_) | exact HR388_0.out)) | (with_reducible refine Kd.C_alloc ?_ _) | (with_reducible refine Kd.C_drewN ?_ _) | (with_reducible refine Kd.C_drew ?_)))
            (case side4 => exact HC388_0.out)
            (case side5 => repeat (first | exact (Kd.R_reads' HO_13.out).2.2 | (with_reducible refine Kd.C_alloc ?_ _) | (with_reducible refine Kd.C_drewN ?_ _) | (with_reducible refine Kd.C_drew ?_)))
            (case side6 => exact (Kd.R_reads' HO_13.out).2.1)
            rintro e w61 ⟨rfl, hb⟩
            have HS4_ := (hb.cell (World.block_lt_of_cell? _ _ (hHeld.2.2.2.2))).trans (hHeld.2.2.2.2)
            refine ⟨_, rfl, ?_⟩
            have n0_ := Aside0.mk (Kd.N_below (by (with_reducible repeat (first | apply Kd.N_alloc | apply Kd.N_drewN | apply Kd.N_drew)); exact HO_9.out) hb)
            have n1_ := Aside0.mk (Kd.N_below (by (with_reducible repeat (first | apply Kd.N_alloc | apply Kd.N_drewN | apply Kd.N_drew)); exact HO_10.out) hb)
            have n2_ := Aside0.mk (Kd.R_below (by (with_reducible repeat (first | apply Kd.R_alloc | apply Kd.R_drewN | apply Kd.R_drew)); exact HO_13.out) hb)
            have n3_ := Aside0.mk (Kd.R_below (by (with_reducible repeat (first | apply Kd.R_alloc | apply Kd.R_drewN | apply Kd.R_drew)); exact HO_365000.out) hb)
            have n4_ := Aside0.mk (Kd.R_below (by (with_reducible repeat (first | apply Kd.R_alloc | apply Kd.R_drewN | apply Kd.R_drew)); exact HO_388002.out) hb)
            have n5_ := Aside0.mk (Kd.R_below (by (with_reducible repeat (first | apply Kd.R_alloc | apply Kd.R_drewN | apply Kd.R_drew)); exact HO_388003.out) hb)
            have n6_ := Aside0.mk (Kd.V_below (by (with_reducible repeat (first | apply Kd.V_alloc | apply Kd.V_drewN | apply Kd.V_drew)); exact HL388_0.out) hb)
            have n7_ := Aside0.mk (blk_below (g := gb356) (o := .cells #[.int .u8 a0_0, .int .u8 a0_1, .int .u8 a0_2, .int .u8 a0_3, .int .u8 a0_4, .int .u8 a0_5, .int .u8 a0_6, .int .u8 a0_7, .int .u8 a0_8, .int .u8 a0_9, .int .u8 a0_10, .int .u8 a0_11] 24 (0, 0)) (by (with_reducible repeat (first | refine blk_drewN ?_ _ | refine blk_drew ?_ | refine blk_alloc ?_ _)); exact BK356.out) hb)
            have n8_ := Aside0.mk (blk_below (g := gb364) (o := .cells #[.slice Ao16 t358.length co16, .int .i64 t361, .int .i64 t362, .int .i64 t363] 33 (0, 0)) (by (with_reducible repeat (first | refine blk_drewN ?_ _ | refine blk_drew ?_ | refine blk_alloc ?_ _)); exact BK364.out) hb)
            have n9_ := Aside0.mk (blk_below (g := gb387) (o := .cells #[.bool true, .bool true, .slice Ao50 t384.length co50, .slice Ao50 t384.length co50] 29 (0, 0)) (by (with_reducible repeat (first | refine blk_drewN ?_ _ | refine blk_drew ?_ | refine blk_alloc ?_ _)); exact BK387.out) hb)
            have n10_ := Aside0.mk (Kd.C_below (by repeat (first | (with_reducible exact HR388_0.out) | (with_reducible refine Kd.C_alloc ?_ _) | (with_reducible refine Kd.C_drewN ?_ _) | (with_reducible refine Kd.C_drew ?_) | exact HR388_0.out)) hb)
            have n11_ := Aside0.mk (below_step (by repeat (first | (with_reducible first | exact HB.out | apply below_alloc | apply pw_below_drewN | apply below_drew1 | refine below_set ?_ GE356.out | refine below_set ?_ GE364.out | refine below_set ?_ GE387.out) | exact HB.out)) hb)
            clear HO_9
            clear HO_10
            clear HO_13
            clear HO_365000
            clear HO_388002
            clear HO_388003
            clear HL388_0
            clear BK356
            clear BK364
            clear BK387
            clear HR388_0
            clear HB
            have HO_9 := n0_
            have HO_10 := n1_
            have HO_13 := n2_
            have HO_365000 := n3_
            have HO_388002 := n4_
            have HO_388003 := n5_
            have HL388_0 := n6_
            have BK356 := n7_
            have BK364 := n8_
            have BK387 := n9_
            have HR388_0 := n10_
            have HB := n11_
            clear n0_ n1_ n2_ n3_ n4_ n5_ n6_ n7_ n8_ n9_ n10_ n11_
            (try clear hb)
            (try clear hb2)
            (try clear hk)
            (try clear hi)
            refine hK.out _ _ ⟨(blk_cell BK364.out 0).trans rfl, (blk_cell BK364.out 1).trans rfl, (blk_cell BK364.out 2).trans rfl, (blk_cell BK364.out 3).trans rfl, HS4_⟩ (fun hHeld => ?_)
            clear hK K
            refine norm_ (a' := ?_) ?_ ?_
            rotate_left
            ·show Act.put _ (some 84) _ = _
             simp only [Act.put, List.setIfInBounds_toArray, List.set_cons_zero, List.set_cons_succ, i64_w, i32_w]
             rfl
            refine pure_ (i := 7) (N := some 16) (v := ?_) (a' := ?_) #[true, true, true, true, true, true, true, true] rfl rfl (any_of HT_.out (by kernel_rfl)) (fun _ _ _ h => h) (Or.inl ⟨by rfl, ?_⟩) ?_ ?_
            rotate_left; (intro w'; go_simp; with_reducible rfl); rotate_left; (simp only [Act.put, List.setIfInBounds_toArray, List.set_cons_zero, List.set_cons_succ, i64_w, i32_w]; rfl)
            refine done_ (done_of HT_.out (by kernel_rfl)) ?_
            (try clear HS4_); (try clear hHeld)
            try go_wp2
            have n0_ := Aside0.mk (Kd.N_drew HO_9.out)
            have n1_ := Aside0.mk (Kd.N_drew HO_10.out)
            have n2_ := Aside0.mk (Kd.R_drew HO_13.out)
            have n3_ := Aside0.mk (Kd.R_drew HO_365000.out)
            have n4_ := Aside0.mk (Kd.R_drew HO_388002.out)
            have n5_ := Aside0.mk (Kd.R_drew HO_388003.out)
            have n6_ := Aside0.mk (Kd.V_drew HL388_0.out)
            have n7_ := Aside0.mk (blk_drew BK356.out)
            have n8_ := Aside0.mk (blk_drew BK364.out)
            have n9_ := Aside0.mk (blk_drew BK387.out)
            have n10_ := Aside0.mk (Kd.C_drew HR388_0.out)
            have n11_ := Aside0.mk (below_drew1 HB.out)
            clear HO_9
            clear HO_10
            clear HO_13
            clear HO_365000
            clear HO_388002
            clear HO_388003
            clear HL388_0
            clear BK356
            clear BK364
            clear BK387
            clear HR388_0
            clear HB
            have HO_9 := n0_
            have HO_10 := n1_
            have HO_13 := n2_
            have HO_365000 := n3_
            have HO_388002 := n4_
            have HO_388003 := n5_
            have HL388_0 := n6_
            have BK356 := n7_
            have BK364 := n8_
            have BK387 := n9_
            have HR388_0 := n10_
            have HB := n11_
            clear n0_ n1_ n2_ n3_ n4_ n5_ n6_ n7_ n8_ n9_ n10_ n11_
            have p390 : 0 ≤ (x15_2 : Int) := of_decide_eq_true (by first | (with_reducible assumption) | assumption)
            have q390 : x15_2 < (t368.length : Int) := of_decide_eq_true (by first | (with_reducible assumption) | assumption)
            obtain ⟨ad390, A390_0, c390_0, e390, hx390_0, hl390_0, hi390_0⟩ := at_L5 (Kd.N_reads' HO_9.out).2.2 x15_2 p390 q390
            obtain rfl : ad383 = ad390 := (by injection e390)
            obtain ⟨ce390, hce390, hMe390, hcc390⟩ := Kd.N_get HO_9.out [] x15_2 p390 (by first | exact q390 | exact of_decide_eq_true (by first | (with_reducible assumption) | assumption) | (have e_ := (Kd.N_reads' HO_9.out).1; omega))
            obtain ⟨ua390_0, uc390_0, rfl, ul390_0, ge390_0⟩ := Kd.FK_slice_open hMe390
            have hv390_0 := hcc390 0 _ rfl
            rw [Nat.add_zero, show ((Kd.slice 44 k44)).sz = 1 from rfl, Nat.mul_one] at hv390_0
            replace hv390_0 := Option.some.inj (hv390_0.symm.trans hx390_0)
            injection hv390_0 with hva_ hvn_ hvc_
            rw [hva_] at ge390_0
            rw [hvc_] at ul390_0
            have HL390_0 := Aside0.mk (show Kd.V k44 44 _ w.heap.size _ _ (rd_L5 t368 x15_2) from Kd.V_mk ul390_0 ge390_0)
            clear hva_ hvn_ hvc_ ge390_0 ul390_0
            clear hcc390 hce390
            have HR390_0 := Aside0.mk hi390_0
            have HC390_0 := Aside0.mk hl390_0
            clear hi390_0 hl390_0
            replace p390 := eq_true p390
            replace q390 := eq_true q390
            refine start_ (n := 10) (S := fun w' => w'.cell? ⟨gb364, 0, none⟩ = some (.slice Ao16 t358.length co16) ∧ w'.cell? ⟨gb364, 1, none⟩ = some (.int .i64 t361) ∧ w'.cell? ⟨gb364, 2, none⟩ = some (.int .i64 t362) ∧ w'.cell? ⟨gb364, 3, none⟩ = some (.int .i64 t363) ∧ w'.cell? ⟨gb387, 0, none⟩ = some (.bool true) ∧ w'.cell? ⟨gb387, 1, none⟩ = some (.bool true) ∧ w'.cell? ⟨gb387, 2, none⟩ = some (.slice Ao50 t384.length co50) ∧ w'.cell? ⟨gb387, 3, none⟩ = some (.slice Ao50 t384.length co50) ∧ w'.cell? (ad383.add (x15_2).toNat) = some (.slice A390_0 (rd_L5 t368 x15_2).length c390_0)) (ds := []) #[false, false, false, false, false, false, false, false, false, false] (by kernel_rfl) rfl rfl ⟨(blk_cell BK364.out 0).trans rfl, (blk_cell BK364.out 1).trans rfl, (blk_cell BK364.out 2).trans rfl, (blk_cell BK364.out 3).trans rfl, (blk_cell BK387.out 0).trans rfl, (blk_cell BK387.out 1).trans rfl, (blk_cell BK387.out 2).trans rfl, (blk_cell BK387.out 3).trans rfl, hx390_0⟩ (fun hHeld => ?_); refine with_tabW thresherlaw12_IndexWhole.tab16 thresherlaw12_IndexWhole.bits16 (fun HT_ HW_ => ?_)
            generalize w61.drew = w62 at HO_9 HO_10 HO_13 HO_365000 HO_388002 HO_388003 HL388_0 BK356 BK364 BK387 HR388_0 HB HL390_0 HR390_0 hx390_0 hHeld ⊢
            refine pure_ (i := 2) (N := some 87) (v := ?_) (a' := ?_) #[false, false, true, false, false, false, false, false, false, false] rfl rfl (any_of HT_.out (by kernel_rfl)) (fun _ _ _ h => h) (Or.inl ⟨by rfl, ?_⟩) ?_ ?_
            rotate_left; (intro w'; go_simp; with_reducible rfl); rotate_left; (simp only [Act.put, List.setIfInBounds_toArray, List.set_cons_zero, List.set_cons_succ, i64_w, i32_w]; rfl)
            refine pure_ (i := 3) (N := some 88) (v := ?_) (a' := ?_) #[false, false, true, true, false, false, false, false, false, false] rfl rfl (any_of HT_.out (by kernel_rfl)) (fun _ _ _ h => h) (Or.inl ⟨by rfl, ?_⟩) ?_ ?_
            rotate_left; (intro w'; go_simp; with_reducible rfl); rotate_left; (simp only [Act.put, List.setIfInBounds_toArray, List.set_cons_zero, List.set_cons_succ, i64_w, i32_w]; rfl)
            refine pure_ (i := 4) (N := some 89) (v := ?_) (a' := ?_) #[false, false, true, true, true, false, false, false, false, false] rfl rfl (any_of HT_.out (by kernel_rfl)) (fun _ _ _ h => h) (Or.inl ⟨by rfl, ?_⟩) ?_ ?_
            rotate_left; (intro w'; go_simp; with_reducible rfl); rotate_left; (simp only [Act.put, List.setIfInBounds_toArray, List.set_cons_zero, List.set_cons_succ, i64_w, i32_w]; rfl)
            refine pure_ (i := 7) (N := some 92) (v := ?_) (a' := ?_) #[false, false, true, true, true, false, false, true, false, false] rfl rfl (any_of HT_.out (by kernel_rfl)) (fun _ _ _ h => h) (Or.inl ⟨by rfl, ?_⟩) ?_ ?_
            rotate_left; (intro w'; go_simp; with_reducible rfl); rotate_left; (simp only [Act.put, List.setIfInBounds_toArray, List.set_cons_zero, List.set_cons_succ, i64_w, i32_w]; rfl)
            refine pure_ (i := 8) (N := some 93) (v := ?_) (a' := ?_) #[false, false, true, true, true, false, false, true, true, false] rfl rfl (any_of HT_.out (by kernel_rfl)) (fun _ _ _ h => h) (Or.inl ⟨by rfl, ?_⟩) ?_ ?_
            rotate_left; (intro w'; go_simp; with_reducible rfl); rotate_left; (simp only [Act.put, List.setIfInBounds_toArray, List.set_cons_zero, List.set_cons_succ, i64_w, i32_w]; rfl)
            refine take_ (i := 0) (N := some 85) (v := ?_) (a' := ?_) #[true, false, true, true, true, false, false, true, true, false] rfl rfl (take_ofW HT_.out HW_.out (by kernel_rfl)) (fun _ _ _ h => h) (Or.inl ⟨by rfl, ?_⟩) hHeld ?_ ?_
            rotate_left; (rintro w' ⟨s0, s1, s2, s3, s4, s5, s6, s7, s8⟩; go_simp; with_reducible rfl); rotate_left; (simp only [Act.put, List.setIfInBounds_toArray, List.set_cons_zero, List.set_cons_succ, i64_w, i32_w]; rfl)
            refine take_ (i := 1) (N := some 86) (v := ?_) (a' := ?_) #[true, true, true, true, true, false, false, true, true, false] rfl rfl (take_ofW HT_.out HW_.out (by kernel_rfl)) (fun _ _ _ h => h) (Or.inl ⟨by rfl, ?_⟩) hHeld ?_ ?_
            rotate_left; (rintro w' ⟨s0, s1, s2, s3, s4, s5, s6, s7, s8⟩; go_simp; with_reducible rfl); rotate_left; (simp only [Act.put, List.setIfInBounds_toArray, List.set_cons_zero, List.set_cons_succ, i64_w, i32_w]; rfl)
            refine take_ (i := 5) (N := some 90) (v := ?_) (a' := ?_) #[true, true, true, true, true, true, false, true, true, false] rfl rfl (take_ofW HT_.out HW_.out (by kernel_rfl)) (fun _ _ _ h => h) (Or.inl ⟨by rfl, ?_⟩) hHeld ?_ ?_
            rotate_left; (rintro w' ⟨s0, s1, s2, s3, s4, s5, s6, s7, s8⟩; go_simp; with_reducible rfl); rotate_left; (simp only [Act.put, List.setIfInBounds_toArray, List.set_cons_zero, List.set_cons_succ, i64_w, i32_w]; rfl)
            refine one_ (i := 6) (N := some 91) #[true, true, true, true, true, true, true, true, true, false] rfl rfl (one_of HT_.out (by kernel_rfl)) (by decide) (fun K hK => ?_)
            refine goes_ Try.func12 (by kernel_rfl) rfl #[.agg #[.slice Ao16 t358.length co16, .int .i64 t361, .int .i64 t362, .int .i64 t363], .agg #[.bool true, .bool true, .slice Ao50 t384.length co50, .slice Ao50 t384.length co50], .slice A390_0 (rd_L5 t368 x15_2).length c390_0] (by rfl) rfl rfl (by (try simp only [List.map_toArray, List.map_cons, List.map_nil]); first | done | rfl | (simp only [List.length_drop, List.length_take]; rfl)) ?_
            with_reducible refine (index_In.calls k2 _ _ t358 t361 t362 t363 true true _ _ t384 _ _ t384 _ _ (rd_L5 t368 x15_2) t391 _ ?side1 ?side2 ?side3 ?side4 ?side5 ?side6 ?side7 ?side8 A58.out).mono ?_
            (case side1 => repeat (first | exact (Kd.R_reads' HO_365000.out).2.2 | (with_reducible refine Kd.C_alloc ?_ _) | (with_reducible refine Kd.C_drewN ?_ _) | (with_reducible refine Kd.C_drew ?_)))
            (case side2 => exact (Kd.R_reads' HO_365000.out).2.1)
            (case side3 => repeat (first | exact (Kd.R_reads' HO_388002.out).2.2 | (with_reducible refine Kd.C_alloc ?_ _) | (with_reducible refine Kd.C_drewN ?_ _) | (with_reducible refine Kd.C_drew ?_)))
            (case side4 => exact (Kd.R_reads' HO_388002.out).2.1)
            (case side5 => repeat (first | exact (Kd.R_reads' HO_388003.out).2.2 | (with_reducible refine Kd.C_alloc ?_ _) | (with_reducible refine Kd.C_drewN ?_ _) | (with_reducible refine Kd.C_drew ?_)))
            (case side6 => exact (Kd.R_reads' HO_388003.out).2.1)
            (case side7 => repeat (first | exact (by repeat (first | (with_reducible exact HR390_0.out) | (with_reducible refine Kd.C_alloc ?_ _) | (with_reducible refine Kd.C_drewN ?_ _) | (with_reducible refine Kd.C_drew ?_) | exact HR390_0.out)) | (with_reducible refine Kd.C_alloc ?_ _) | (with_reducible refine Kd.C_drewN ?_ _) | (with_reducible refine Kd.C_drew ?_)))
            (case side8 => exact HC390_0.out)
            rintro e w63 ⟨rfl, hb⟩
            have HS8_ := (hb.cell (World.block_lt_of_cell? _ _ (hHeld.2.2.2.2.2.2.2.2))).trans (hHeld.2.2.2.2.2.2.2.2)
            refine ⟨_, rfl, ?_⟩
            have n0_ := Aside0.mk (Kd.N_below (by (with_reducible repeat (first | apply Kd.N_alloc | apply Kd.N_drewN | apply Kd.N_drew)); exact HO_9.out) hb)
            have n1_ := Aside0.mk (Kd.N_below (by (with_reducible repeat (first | apply Kd.N_alloc | apply Kd.N_drewN | apply Kd.N_drew)); exact HO_10.out) hb)
            have n2_ := Aside0.mk (Kd.R_below (by (with_reducible repeat (first | apply Kd.R_alloc | apply Kd.R_drewN | apply Kd.R_drew)); exact HO_13.out) hb)
            have n3_ := Aside0.mk (Kd.R_below (by (with_reducible repeat (first | apply Kd.R_alloc | apply Kd.R_drewN | apply Kd.R_drew)); exact HO_365000.out) hb)
            have n4_ := Aside0.mk (Kd.R_below (by (with_reducible repeat (first | apply Kd.R_alloc | apply Kd.R_drewN | apply Kd.R_drew)); exact HO_388002.out) hb)
            have n5_ := Aside0.mk (Kd.R_below (by (with_reducible repeat (first | apply Kd.R_alloc | apply Kd.R_drewN | apply Kd.R_drew)); exact HO_388003.out) hb)
            have n6_ := Aside0.mk (Kd.V_below (by (with_reducible repeat (first | apply Kd.V_alloc | apply Kd.V_drewN | apply Kd.V_drew)); exact HL388_0.out) hb)
            have n7_ := Aside0.mk (Kd.V_below (by (with_reducible repeat (first | apply Kd.V_alloc | apply Kd.V_drewN | apply Kd.V_drew)); exact HL390_0.out) hb)
            have n8_ := Aside0.mk (blk_below (g := gb356) (o := .cells #[.int .u8 a0_0, .int .u8 a0_1, .int .u8 a0_2, .int .u8 a0_3, .int .u8 a0_4, .int .u8 a0_5, .int .u8 a0_6, .int .u8 a0_7, .int .u8 a0_8, .int .u8 a0_9, .int .u8 a0_10, .int .u8 a0_11] 24 (0, 0)) (by (with_reducible repeat (first | refine blk_drewN ?_ _ | refine blk_drew ?_ | refine blk_alloc ?_ _)); exact BK356.out) hb)
            have n9_ := Aside0.mk (blk_below (g := gb364) (o := .cells #[.slice Ao16 t358.length co16, .int .i64 t361, .int .i64 t362, .int .i64 t363] 33 (0, 0)) (by (with_reducible repeat (first | refine blk_drewN ?_ _ | refine blk_drew ?_ | refine blk_alloc ?_ _)); exact BK364.out) hb)
            have n10_ := Aside0.mk (blk_below (g := gb387) (o := .cells #[.bool true, .bool true, .slice Ao50 t384.length co50, .slice Ao50 t384.length co50] 29 (0, 0)) (by (with_reducible repeat (first | refine blk_drewN ?_ _ | refine blk_drew ?_ | refine blk_alloc ?_ _)); exact BK387.out) hb)
            have n11_ := Aside0.mk (Kd.C_below (by repeat (first | (with_reducible exact HR388_0.out) | (with_reducible refine Kd.C_alloc ?_ _) | (with_reducible refine Kd.C_drewN ?_ _) | (with_reducible refine Kd.C_drew ?_) | exact HR388_0.out)) hb)
            have n12_ := Aside0.mk (Kd.C_below (by repeat (first | (with_reducible exact HR390_0.out) | (with_reducible refine Kd.C_alloc ?_ _) | (with_reducible refine Kd.C_drewN ?_ _) | (with_reducible refine Kd.C_drew ?_) | exact HR390_0.out)) hb)
            have n13_ := Aside0.mk (below_step (by repeat (first | (with_reducible first | exact HB.out | apply below_alloc | apply pw_below_drewN | apply below_drew1 | refine below_set ?_ GE356.out | refine below_set ?_ GE364.out | refine below_set ?_ GE387.out) | exact HB.out)) hb)
            clear HO_9
            clear HO_10
            clear HO_13
            clear HO_365000
            clear HO_388002
            clear HO_388003
            clear HL388_0
            clear HL390_0
            clear BK356
            clear BK364
            clear BK387
            clear HR388_0
            clear HR390_0
            clear HB
            have HO_9 := n0_
            have HO_10 := n1_
            have HO_13 := n2_
            have HO_365000 := n3_
            have HO_388002 := n4_
            have HO_388003 := n5_
            have HL388_0 := n6_
            have HL390_0 := n7_
            have BK356 := n8_
            have BK364 := n9_
            have BK387 := n10_
            have HR388_0 := n11_
            have HR390_0 := n12_
            have HB := n13_
            clear n0_ n1_ n2_ n3_ n4_ n5_ n6_ n7_ n8_ n9_ n10_ n11_ n12_ n13_
            (try clear hb)
            (try clear hb2)
            (try clear hk)
            (try clear hi)
            refine hK.out _ _ ⟨(blk_cell BK364.out 0).trans rfl, (blk_cell BK364.out 1).trans rfl, (blk_cell BK364.out 2).trans rfl, (blk_cell BK364.out 3).trans rfl, (blk_cell BK387.out 0).trans rfl, (blk_cell BK387.out 1).trans rfl, (blk_cell BK387.out 2).trans rfl, (blk_cell BK387.out 3).trans rfl, HS8_⟩ (fun hHeld => ?_)
            clear hK K
            refine norm_ (a' := ?_) ?_ ?_
            rotate_left
            ·show Act.put _ (some 91) _ = _
             simp only [Act.put, List.setIfInBounds_toArray, List.set_cons_zero, List.set_cons_succ, i64_w, i32_w]
             rfl
            refine pure_ (i := 9) (N := some 94) (v := ?_) (a' := ?_) #[true, true, true, true, true, true, true, true, true, true] rfl rfl (any_of HT_.out (by kernel_rfl)) (fun _ _ _ h => h) (Or.inl ⟨by rfl, ?_⟩) ?_ ?_
            rotate_left; (intro w'; go_simp; with_reducible rfl); rotate_left; (simp only [Act.put, List.setIfInBounds_toArray, List.set_cons_zero, List.set_cons_succ, i64_w, i32_w]; rfl)
            refine done_ (done_of HT_.out (by kernel_rfl)) ?_
            (try clear HS8_); (try clear hHeld)
            try go_wp2
            go_ret
            exact ⟨by first | rfl | (simp [errW_none, errW_some] <;> rfl) | (simp only [← hji44]; first | rfl | (simp [errW_none, errW_some] <;> rfl)) | (simp [*, errW_none, errW_some] <;> rfl), by repeat (first | (with_reducible first | exact HB.out | apply below_alloc | apply pw_below_drewN | apply below_drew1 | refine below_set ?_ GE356.out | refine below_set ?_ GE364.out | refine below_set ?_ GE387.out) | exact HB.out)⟩
           ·rw [if_neg c59] at H
            have c59b0 : (t391 != (t389 == 0)) = false := by simpa using c59
            (try (have c59b1 : decide (t391 = (t389 == 0)) = true := by simpa using c59))
            (try (have c59b2 : (t391 == (t389 == 0)) = true := by simpa using c59))
            clear c59
            replace H := Option.bind_eq_some_iff.mp H
            obtain ⟨⟨t394, t395⟩, A640, H⟩ := H
            replace H : ((index_Empty.f k2 t358 t361 t362 t363 true true (rd_L5 t368 x15_2) t384).bind fun t396 => (if (t396 != (decide (t389 > 0))) = true then (thresherlaw12_IndexWhole.j2 k2 t357 t368 t371 t384 x15_2 true t358 t361 t362 t363 true true t384 t384) else (if t389 > 0 then (if t394 = 0 then (thresherlaw12_IndexWhole.j2 k2 t357 t368 t371 t384 x15_2 (t395 != 0) t358 t361 t362 t363 true true t384 t384) else (thresherlaw12_IndexWhole.j2 k2 t357 t368 t371 t384 x15_2 true t358 t361 t362 t363 true true t384 t384)) else (thresherlaw12_IndexWhole.j2 k2 t357 t368 t371 t384 x15_2 false t358 t361 t362 t363 true true t384 t384)))) = some r := H
            have A64 := Aside0.mk A640
            clear A640
            have HC65 := Aside0.mk H
            clear H
            try go_wp2
            have n0_ := Aside0.mk (Kd.N_drew HO_9.out)
            have n1_ := Aside0.mk (Kd.N_drew HO_10.out)
            have n2_ := Aside0.mk (Kd.R_drew HO_13.out)
            have n3_ := Aside0.mk (Kd.R_drew HO_365000.out)
            have n4_ := Aside0.mk (Kd.R_drew HO_388002.out)
            have n5_ := Aside0.mk (Kd.R_drew HO_388003.out)
            have n6_ := Aside0.mk (blk_drew BK356.out)
            have n7_ := Aside0.mk (blk_drew BK364.out)
            have n8_ := Aside0.mk (blk_drew BK387.out)
            have n9_ := Aside0.mk (below_drew1 HB.out)
            clear HO_9
            clear HO_10
            clear HO_13
            clear HO_365000
            clear HO_388002
            clear HO_388003
            clear BK356
            clear BK364
            clear BK387
            clear HB
            have HO_9 := n0_
            have HO_10 := n1_
            have HO_13 := n2_
            have HO_365000 := n3_
            have HO_388002 := n4_
            have HO_388003 := n5_
            have BK356 := n6_
            have BK364 := n7_
            have BK387 := n8_
            have HB := n9_
            clear n0_ n1_ n2_ n3_ n4_ n5_ n6_ n7_ n8_ n9_
            have p388 : 0 ≤ (x15_2 : Int) := of_decide_eq_true (by first | (with_reducible assumption) | assumption)
            have q388 : x15_2 < (t368.length : Int) := of_decide_eq_true (by first | (with_reducible assumption) | assumption)
            obtain ⟨ad388, A388_0, c388_0, e388, hx388_0, hl388_0, hi388_0⟩ := at_L5 (Kd.N_reads' HO_9.out).2.2 x15_2 p388 q388
            obtain rfl : ad383 = ad388 := (by injection e388)
            obtain ⟨ce388, hce388, hMe388, hcc388⟩ := Kd.N_get HO_9.out [] x15_2 p388 (by first | exact q388 | exact of_decide_eq_true (by first | (with_reducible assumption) | assumption) | (have e_ := (Kd.N_reads' HO_9.out).1; omega))
            obtain ⟨ua388_0, uc388_0, rfl, ul388_0, ge388_0⟩ := Kd.FK_slice_open hMe388
            have hv388_0 := hcc388 0 _ rfl
            rw [Nat.add_zero, show ((Kd.slice 44 k44)).sz = 1 from rfl, Nat.mul_one] at hv388_0
            replace hv388_0 := Option.some.inj (hv388_0.symm.trans hx388_0)
            injection hv388_0 with hva_ hvn_ hvc_
            rw [hva_] at ge388_0
            rw [hvc_] at ul388_0
            have HL388_0 := Aside0.mk (show Kd.V k44 44 _ w.heap.size _ _ (rd_L5 t368 x15_2) from Kd.V_mk ul388_0 ge388_0)
            clear hva_ hvn_ hvc_ ge388_0 ul388_0
            clear hcc388 hce388
            have HR388_0 := Aside0.mk hi388_0
            have HC388_0 := Aside0.mk hl388_0
            clear hi388_0 hl388_0
            replace p388 := eq_true p388
            replace q388 := eq_true q388
            refine start_ (n := 8) (S := fun w' => w'.cell? ⟨gb364, 0, none⟩ = some (.slice Ao16 t358.length co16) ∧ w'.cell? ⟨gb364, 1, none⟩ = some (.int .i64 t361) ∧ w'.cell? ⟨gb364, 2, none⟩ = some (.int .i64 t362) ∧ w'.cell? ⟨gb364, 3, none⟩ = some (.int .i64 t363) ∧ w'.cell? (ad383.add (x15_2).toNat) = some (.slice A388_0 (rd_L5 t368 x15_2).length c388_0)) (ds := []) #[false, false, false, false, false, false, false, false] (by kernel_rfl) rfl rfl ⟨(blk_cell BK364.out 0).trans rfl, (blk_cell BK364.out 1).trans rfl, (blk_cell BK364.out 2).trans rfl, (blk_cell BK364.out 3).trans rfl, hx388_0⟩ (fun hHeld => ?_); refine with_tabW thresherlaw12_IndexWhole.tab15 thresherlaw12_IndexWhole.bits15 (fun HT_ HW_ => ?_)
            generalize wr.drew = w66 at HO_9 HO_10 HO_13 HO_365000 HO_388002 HO_388003 BK356 BK364 BK387 HB HL388_0 HR388_0 hx388_0 hHeld ⊢
            refine pure_ (i := 1) (N := some 79) (v := ?_) (a' := ?_) #[false, true, false, false, false, false, false, false] rfl rfl (any_of HT_.out (by kernel_rfl)) (fun _ _ _ h => h) (Or.inl ⟨by rfl, ?_⟩) ?_ ?_
            rotate_left; (intro w'; go_simp; with_reducible rfl); rotate_left; (simp only [Act.put, List.setIfInBounds_toArray, List.set_cons_zero, List.set_cons_succ, i64_w, i32_w]; rfl)
            refine pure_ (i := 2) (N := some 80) (v := ?_) (a' := ?_) #[false, true, true, false, false, false, false, false] rfl rfl (any_of HT_.out (by kernel_rfl)) (fun _ _ _ h => h) (Or.inl ⟨by rfl, ?_⟩) ?_ ?_
            rotate_left; (intro w'; go_simp; with_reducible rfl); rotate_left; (simp only [Act.put, List.setIfInBounds_toArray, List.set_cons_zero, List.set_cons_succ, i64_w, i32_w]; rfl)
            refine pure_ (i := 3) (N := some 81) (v := ?_) (a' := ?_) #[false, true, true, true, false, false, false, false] rfl rfl (any_of HT_.out (by kernel_rfl)) (fun _ _ _ h => h) (Or.inl ⟨by rfl, ?_⟩) ?_ ?_
            rotate_left; (intro w'; go_simp; with_reducible rfl); rotate_left; (simp only [Act.put, List.setIfInBounds_toArray, List.set_cons_zero, List.set_cons_succ, i64_w, i32_w]; rfl)
            refine pure_ (i := 5) (N := some 83) (v := ?_) (a' := ?_) #[false, true, true, true, false, true, false, false] rfl rfl (any_of HT_.out (by kernel_rfl)) (fun _ _ _ h => h) (Or.inl ⟨by rfl, ?_⟩) ?_ ?_
            rotate_left; (intro w'; go_simp; with_reducible rfl); rotate_left; (simp only [Act.put, List.setIfInBounds_toArray, List.set_cons_zero, List.set_cons_succ, i64_w, i32_w]; rfl)
            refine take_ (i := 0) (N := some 78) (v := ?_) (a' := ?_) #[true, true, true, true, false, true, false, false] rfl rfl (take_ofW HT_.out HW_.out (by kernel_rfl)) (fun _ _ _ h => h) (Or.inl ⟨by rfl, ?_⟩) hHeld ?_ ?_
            rotate_left; (rintro w' ⟨s0, s1, s2, s3, s4⟩; go_simp; with_reducible rfl); rotate_left; (simp only [Act.put, List.setIfInBounds_toArray, List.set_cons_zero, List.set_cons_succ, i64_w, i32_w]; rfl)
            refine take_ (i := 4) (N := some 82) (v := ?_) (a' := ?_) #[true, true, true, true, true, true, false, false] rfl rfl (take_ofW HT_.out HW_.out (by kernel_rfl)) (fun _ _ _ h => h) (Or.inl ⟨by rfl, ?_⟩) hHeld ?_ ?_
            rotate_left; (rintro w' ⟨s0, s1, s2, s3, s4⟩; go_simp; with_reducible rfl); rotate_left; (simp only [Act.put, List.setIfInBounds_toArray, List.set_cons_zero, List.set_cons_succ, i64_w, i32_w]; rfl)
            refine one_ (i := 6) (N := some 84) #[true, true, true, true, true, true, true, false] rfl rfl (one_of HT_.out (by kernel_rfl)) (by decide) (fun K hK => ?_)
            refine goes_ Try.func20 (by kernel_rfl) rfl #[.agg #[.slice Ao16 t358.length co16, .int .i64 t361, .int .i64 t362, .int .i64 t363], .slice A388_0 (rd_L5 t368 x15_2).length c388_0, .slice Ao50 t384.length co50] (by rfl) rfl rfl (by (try simp only [List.map_toArray, List.map_cons, List.map_nil]); first | done | rfl | (simp only [List.length_drop, List.length_take]; rfl)) ?_
            with_reducible refine (thresherref04_Compare.calls k2 _ _ t358 t361 t362 t363 _ _ (rd_L5 t368 x15_2) _ _ t384 t389 _ ?side1 ?side2 ?side3 ?side4 ?side5 ?side6 A57.out).mono ?_
            (case side1 => repeat (first | exact (Kd.R_reads' HO_365000.out).2.2 | (with_reducible refine Kd.C_alloc ?_ _) | (with_reducible refine Kd.C_drewN ?_ _) | (with_reducible refine Kd.C_drew ?_)))
            (case side2 => exact (Kd.R_reads' HO_365000.out).2.1)
            (case side3 => repeat (first | exact (by repeat (first | (with_reducible exact HR388_0.out) | (with_reducible refine Kd.C_alloc ?_ _) | (with_reducible refine Kd.C_drewN ?_ _) | (with_reducible refine Kd.C_drew ?_) | exact HR388_0.out)) | (with_reducible refine Kd.C_alloc ?_ _) | (with_reducible refine Kd.C_drewN ?_ _) | (with_reducible refine Kd.C_drew ?_)))
            (case side4 => exact HC388_0.out)
            (case side5 => repeat (first | exact (Kd.R_reads' HO_13.out).2.2 | (with_reducible refine Kd.C_alloc ?_ _) | (with_reducible refine Kd.C_drewN ?_ _) | (with_reducible refine Kd.C_drew ?_)))
            (case side6 => exact (Kd.R_reads' HO_13.out).2.1)
            rintro e w67 ⟨rfl, hb⟩
            have HS4_ := (hb.cell (World.block_lt_of_cell? _ _ (hHeld.2.2.2.2))).trans (hHeld.2.2.2.2)
            refine ⟨_, rfl, ?_⟩
            have n0_ := Aside0.mk (Kd.N_below (by (with_reducible repeat (first | apply Kd.N_alloc | apply Kd.N_drewN | apply Kd.N_drew)); exact HO_9.out) hb)
            have n1_ := Aside0.mk (Kd.N_below (by (with_reducible repeat (first | apply Kd.N_alloc | apply Kd.N_drewN | apply Kd.N_drew)); exact HO_10.out) hb)
            have n2_ := Aside0.mk (Kd.R_below (by (with_reducible repeat (first | apply Kd.R_alloc | apply Kd.R_drewN | apply Kd.R_drew)); exact HO_13.out) hb)
            have n3_ := Aside0.mk (Kd.R_below (by (with_reducible repeat (first | apply Kd.R_alloc | apply Kd.R_drewN | apply Kd.R_drew)); exact HO_365000.out) hb)
            have n4_ := Aside0.mk (Kd.R_below (by (with_reducible repeat (first | apply Kd.R_alloc | apply Kd.R_drewN | apply Kd.R_drew)); exact HO_388002.out) hb)
            have n5_ := Aside0.mk (Kd.R_below (by (with_reducible repeat (first | apply Kd.R_alloc | apply Kd.R_drewN | apply Kd.R_drew)); exact HO_388003.out) hb)
            have n6_ := Aside0.mk (Kd.V_below (by (with_reducible repeat (first | apply Kd.V_alloc | apply Kd.V_drewN | apply Kd.V_drew)); exact HL388_0.out) hb)
            have n7_ := Aside0.mk (blk_below (g := gb356) (o := .cells #[.int .u8 a0_0, .int .u8 a0_1, .int .u8 a0_2, .int .u8 a0_3, .int .u8 a0_4, .int .u8 a0_5, .int .u8 a0_6, .int .u8 a0_7, .int .u8 a0_8, .int .u8 a0_9, .int .u8 a0_10, .int .u8 a0_11] 24 (0, 0)) (by (with_reducible repeat (first | refine blk_drewN ?_ _ | refine blk_drew ?_ | refine blk_alloc ?_ _)); exact BK356.out) hb)
            have n8_ := Aside0.mk (blk_below (g := gb364) (o := .cells #[.slice Ao16 t358.length co16, .int .i64 t361, .int .i64 t362, .int .i64 t363] 33 (0, 0)) (by (with_reducible repeat (first | refine blk_drewN ?_ _ | refine blk_drew ?_ | refine blk_alloc ?_ _)); exact BK364.out) hb)
            have n9_ := Aside0.mk (blk_below (g := gb387) (o := .cells #[.bool true, .bool true, .slice Ao50 t384.length co50, .slice Ao50 t384.length co50] 29 (0, 0)) (by (with_reducible repeat (first | refine blk_drewN ?_ _ | refine blk_drew ?_ | refine blk_alloc ?_ _)); exact BK387.out) hb)
            have n10_ := Aside0.mk (Kd.C_below (by repeat (first | (with_reducible exact HR388_0.out) | (with_reducible refine Kd.C_alloc ?_ _) | (with_reducible refine Kd.C_drewN ?_ _) | (with_reducible refine Kd.C_drew ?_) | exact HR388_0.out)) hb)
            have n11_ := Aside0.mk (below_step (by repeat (first | (with_reducible first | exact HB.out | apply below_alloc | apply pw_below_drewN | apply below_drew1 | refine below_set ?_ GE356.out | refine below_set ?_ GE364.out | refine below_set ?_ GE387.out) | exact HB.out)) hb)
            clear HO_9
            clear HO_10
            clear HO_13
            clear HO_365000
            clear HO_388002
            clear HO_388003
            clear HL388_0
            clear BK356
            clear BK364
            clear BK387
            clear HR388_0
            clear HB
            have HO_9 := n0_
            have HO_10 := n1_
            have HO_13 := n2_
            have HO_365000 := n3_
            have HO_388002 := n4_
            have HO_388003 := n5_
            have HL388_0 := n6_
            have BK356 := n7_
            have BK364 := n8_
            have BK387 := n9_
            have HR388_0 := n10_
            have HB := n11_
            clear n0_ n1_ n2_ n3_ n4_ n5_ n6_ n7_ n8_ n9_ n10_ n11_
            (try clear hb)
            (try clear hb2)
            (try clear hk)
            (try clear hi)
            refine hK.out _ _ ⟨(blk_cell BK364.out 0).trans rfl, (blk_cell BK364.out 1).trans rfl, (blk_cell BK364.out 2).trans rfl, (blk_cell BK364.out 3).trans rfl, HS4_⟩ (fun hHeld => ?_)
            clear hK K
            refine norm_ (a' := ?_) ?_ ?_
            rotate_left
            ·show Act.put _ (some 84) _ = _
             simp only [Act.put, List.setIfInBounds_toArray, List.set_cons_zero, List.set_cons_succ, i64_w, i32_w]
             rfl
            refine pure_ (i := 7) (N := some 16) (v := ?_) (a' := ?_) #[true, true, true, true, true, true, true, true] rfl rfl (any_of HT_.out (by kernel_rfl)) (fun _ _ _ h => h) (Or.inl ⟨by rfl, ?_⟩) ?_ ?_
            rotate_left; (intro w'; go_simp; with_reducible rfl); rotate_left; (simp only [Act.put, List.setIfInBounds_toArray, List.set_cons_zero, List.set_cons_succ, i64_w, i32_w]; rfl)
            refine done_ (done_of HT_.out (by kernel_rfl)) ?_
            (try clear HS4_); (try clear hHeld)
            try go_wp2
            have n0_ := Aside0.mk (Kd.N_drew HO_9.out)
            have n1_ := Aside0.mk (Kd.N_drew HO_10.out)
            have n2_ := Aside0.mk (Kd.R_drew HO_13.out)
            have n3_ := Aside0.mk (Kd.R_drew HO_365000.out)
            have n4_ := Aside0.mk (Kd.R_drew HO_388002.out)
            have n5_ := Aside0.mk (Kd.R_drew HO_388003.out)
            have n6_ := Aside0.mk (Kd.V_drew HL388_0.out)
            have n7_ := Aside0.mk (blk_drew BK356.out)
            have n8_ := Aside0.mk (blk_drew BK364.out)
            have n9_ := Aside0.mk (blk_drew BK387.out)
            have n10_ := Aside0.mk (Kd.C_drew HR388_0.out)
            have n11_ := Aside0.mk (below_drew1 HB.out)
            clear HO_9
            clear HO_10
            clear HO_13
            clear HO_365000
            clear HO_388002
            clear HO_388003
            clear HL388_0
            clear BK356
            clear BK364
            clear BK387
            clear HR388_0
            clear HB
            have HO_9 := n0_
            have HO_10 := n1_
            have HO_13 := n2_
            have HO_365000 := n3_
            have HO_388002 := n4_
            have HO_388003 := n5_
            have HL388_0 := n6_
            have BK356 := n7_
            have BK364 := n8_
            have BK387 := n9_
            have HR388_0 := n10_
            have HB := n11_
            clear n0_ n1_ n2_ n3_ n4_ n5_ n6_ n7_ n8_ n9_ n10_ n11_
            have p390 : 0 ≤ (x15_2 : Int) := of_decide_eq_true (by first | (with_reducible assumption) | assumption)
            have q390 : x15_2 < (t368.length : Int) := of_decide_eq_true (by first | (with_reducible assumption) | assumption)
            obtain ⟨ad390, A390_0, c390_0, e390, hx390_0, hl390_0, hi390_0⟩ := at_L5 (Kd.N_reads' HO_9.out).2.2 x15_2 p390 q390
            obtain rfl : ad383 = ad390 := (by injection e390)
            obtain ⟨ce390, hce390, hMe390, hcc390⟩ := Kd.N_get HO_9.out [] x15_2 p390 (by first | exact q390 | exact of_decide_eq_true (by first | (with_reducible assumption) | assumption) | (have e_ := (Kd.N_reads' HO_9.out).1; omega))
            obtain ⟨ua390_0, uc390_0, rfl, ul390_0, ge390_0⟩ := Kd.FK_slice_open hMe390
            have hv390_0 := hcc390 0 _ rfl
            rw [Nat.add_zero, show ((Kd.slice 44 k44)).sz = 1 from rfl, Nat.mul_one] at hv390_0
            replace hv390_0 := Option.some.inj (hv390_0.symm.trans hx390_0)
            injection hv390_0 with hva_ hvn_ hvc_
            rw [hva_] at ge390_0
            rw [hvc_] at ul390_0
            have HL390_0 := Aside0.mk (show Kd.V k44 44 _ w.heap.size _ _ (rd_L5 t368 x15_2) from Kd.V_mk ul390_0 ge390_0)
            clear hva_ hvn_ hvc_ ge390_0 ul390_0
            clear hcc390 hce390
            have HR390_0 := Aside0.mk hi390_0
            have HC390_0 := Aside0.mk hl390_0
            clear hi390_0 hl390_0
            replace p390 := eq_true p390
            replace q390 := eq_true q390
            refine start_ (n := 10) (S := fun w' => w'.cell? ⟨gb364, 0, none⟩ = some (.slice Ao16 t358.length co16) ∧ w'.cell? ⟨gb364, 1, none⟩ = some (.int .i64 t361) ∧ w'.cell? ⟨gb364, 2, none⟩ = some (.int .i64 t362) ∧ w'.cell? ⟨gb364, 3, none⟩ = some (.int .i64 t363) ∧ w'.cell? ⟨gb387, 0, none⟩ = some (.bool true) ∧ w'.cell? ⟨gb387, 1, none⟩ = some (.bool true) ∧ w'.cell? ⟨gb387, 2, none⟩ = some (.slice Ao50 t384.length co50) ∧ w'.cell? ⟨gb387, 3, none⟩ = some (.slice Ao50 t384.length co50) ∧ w'.cell? (ad383.add (x15_2).toNat) = some (.slice A390_0 (rd_L5 t368 x15_2).length c390_0)) (ds := []) #[false, false, false, false, false, false, false, false, false, false] (by kernel_rfl) rfl rfl ⟨(blk_cell BK364.out 0).trans rfl, (blk_cell BK364.out 1).trans rfl, (blk_cell BK364.out 2).trans rfl, (blk_cell BK364.out 3).trans rfl, (blk_cell BK387.out 0).trans rfl, (blk_cell BK387.out 1).trans rfl, (blk_cell BK387.out 2).trans rfl, (blk_cell BK387.out 3).trans rfl, hx390_0⟩ (fun hHeld => ?_); refine with_tabW thresherlaw12_IndexWhole.tab16 thresherlaw12_IndexWhole.bits16 (fun HT_ HW_ => ?_)
            generalize w67.drew = w68 at HO_9 HO_10 HO_13 HO_365000 HO_388002 HO_388003 HL388_0 BK356 BK364 BK387 HR388_0 HB HL390_0 HR390_0 hx390_0 hHeld ⊢
            refine pure_ (i := 2) (N := some 87) (v := ?_) (a' := ?_) #[false, false, true, false, false, false, false, false, false, false] rfl rfl (any_of HT_.out (by kernel_rfl)) (fun _ _ _ h => h) (Or.inl ⟨by rfl, ?_⟩) ?_ ?_
            rotate_left; (intro w'; go_simp; with_reducible rfl); rotate_left; (simp only [Act.put, List.setIfInBounds_toArray, List.set_cons_zero, List.set_cons_succ, i64_w, i32_w]; rfl)
            refine pure_ (i := 3) (N := some 88) (v := ?_) (a' := ?_) #[false, false, true, true, false, false, false, false, false, false] rfl rfl (any_of HT_.out (by kernel_rfl)) (fun _ _ _ h => h) (Or.inl ⟨by rfl, ?_⟩) ?_ ?_
            rotate_left; (intro w'; go_simp; with_reducible rfl); rotate_left; (simp only [Act.put, List.setIfInBounds_toArray, List.set_cons_zero, List.set_cons_succ, i64_w, i32_w]; rfl)
            refine pure_ (i := 4) (N := some 89) (v := ?_) (a' := ?_) #[false, false, true, true, true, false, false, false, false, false] rfl rfl (any_of HT_.out (by kernel_rfl)) (fun _ _ _ h => h) (Or.inl ⟨by rfl, ?_⟩) ?_ ?_
            rotate_left; (intro w'; go_simp; with_reducible rfl); rotate_left; (simp only [Act.put, List.setIfInBounds_toArray, List.set_cons_zero, List.set_cons_succ, i64_w, i32_w]; rfl)
            refine pure_ (i := 7) (N := some 92) (v := ?_) (a' := ?_) #[false, false, true, true, true, false, false, true, false, false] rfl rfl (any_of HT_.out (by kernel_rfl)) (fun _ _ _ h => h) (Or.inl ⟨by rfl, ?_⟩) ?_ ?_
            rotate_left; (intro w'; go_simp; with_reducible rfl); rotate_left; (simp only [Act.put, List.setIfInBounds_toArray, List.set_cons_zero, List.set_cons_succ, i64_w, i32_w]; rfl)
            refine pure_ (i := 8) (N := some 93) (v := ?_) (a' := ?_) #[false, false, true, true, true, false, false, true, true, false] rfl rfl (any_of HT_.out (by kernel_rfl)) (fun _ _ _ h => h) (Or.inl ⟨by rfl, ?_⟩) ?_ ?_
            rotate_left; (intro w'; go_simp; with_reducible rfl); rotate_left; (simp only [Act.put, List.setIfInBounds_toArray, List.set_cons_zero, List.set_cons_succ, i64_w, i32_w]; rfl)
            refine take_ (i := 0) (N := some 85) (v := ?_) (a' := ?_) #[true, false, true, true, true, false, false, true, true, false] rfl rfl (take_ofW HT_.out HW_.out (by kernel_rfl)) (fun _ _ _ h => h) (Or.inl ⟨by rfl, ?_⟩) hHeld ?_ ?_
            rotate_left; (rintro w' ⟨s0, s1, s2, s3, s4, s5, s6, s7, s8⟩; go_simp; with_reducible rfl); rotate_left; (simp only [Act.put, List.setIfInBounds_toArray, List.set_cons_zero, List.set_cons_succ, i64_w, i32_w]; rfl)
            refine take_ (i := 1) (N := some 86) (v := ?_) (a' := ?_) #[true, true, true, true, true, false, false, true, true, false] rfl rfl (take_ofW HT_.out HW_.out (by kernel_rfl)) (fun _ _ _ h => h) (Or.inl ⟨by rfl, ?_⟩) hHeld ?_ ?_
            rotate_left; (rintro w' ⟨s0, s1, s2, s3, s4, s5, s6, s7, s8⟩; go_simp; with_reducible rfl); rotate_left; (simp only [Act.put, List.setIfInBounds_toArray, List.set_cons_zero, List.set_cons_succ, i64_w, i32_w]; rfl)
            refine take_ (i := 5) (N := some 90) (v := ?_) (a' := ?_) #[true, true, true, true, true, true, false, true, true, false] rfl rfl (take_ofW HT_.out HW_.out (by kernel_rfl)) (fun _ _ _ h => h) (Or.inl ⟨by rfl, ?_⟩) hHeld ?_ ?_
            rotate_left; (rintro w' ⟨s0, s1, s2, s3, s4, s5, s6, s7, s8⟩; go_simp; with_reducible rfl); rotate_left; (simp only [Act.put, List.setIfInBounds_toArray, List.set_cons_zero, List.set_cons_succ, i64_w, i32_w]; rfl)
            refine one_ (i := 6) (N := some 91) #[true, true, true, true, true, true, true, true, true, false] rfl rfl (one_of HT_.out (by kernel_rfl)) (by decide) (fun K hK => ?_)
            refine goes_ Try.func12 (by kernel_rfl) rfl #[.agg #[.slice Ao16 t358.length co16, .int .i64 t361, .int .i64 t362, .int .i64 t363], .agg #[.bool true, .bool true, .slice Ao50 t384.length co50, .slice Ao50 t384.length co50], .slice A390_0 (rd_L5 t368 x15_2).length c390_0] (by rfl) rfl rfl (by (try simp only [List.map_toArray, List.map_cons, List.map_nil]); first | done | rfl | (simp only [List.length_drop, List.length_take]; rfl)) ?_
            with_reducible refine (index_In.calls k2 _ _ t358 t361 t362 t363 true true _ _ t384 _ _ t384 _ _ (rd_L5 t368 x15_2) t391 _ ?side1 ?side2 ?side3 ?side4 ?side5 ?side6 ?side7 ?side8 A58.out).mono ?_
            (case side1 => repeat (first | exact (Kd.R_reads' HO_365000.out).2.2 | (with_reducible refine Kd.C_alloc ?_ _) | (with_reducible refine Kd.C_drewN ?_ _) | (with_reducible refine Kd.C_drew ?_)))
            (case side2 => exact (Kd.R_reads' HO_365000.out).2.1)
            (case side3 => repeat (first | exact (Kd.R_reads' HO_388002.out).2.2 | (with_reducible refine Kd.C_alloc ?_ _) | (with_reducible refine Kd.C_drewN ?_ _) | (with_reducible refine Kd.C_drew ?_)))
            (case side4 => exact (Kd.R_reads' HO_388002.out).2.1)
            (case side5 => repeat (first | exact (Kd.R_reads' HO_388003.out).2.2 | (with_reducible refine Kd.C_alloc ?_ _) | (with_reducible refine Kd.C_drewN ?_ _) | (with_reducible refine Kd.C_drew ?_)))
            (case side6 => exact (Kd.R_reads' HO_388003.out).2.1)
            (case side7 => repeat (first | exact (by repeat (first | (with_reducible exact HR390_0.out) | (with_reducible refine Kd.C_alloc ?_ _) | (with_reducible refine Kd.C_drewN ?_ _) | (with_reducible refine Kd.C_drew ?_) | exact HR390_0.out)) | (with_reducible refine Kd.C_alloc ?_ _) | (with_reducible refine Kd.C_drewN ?_ _) | (with_reducible refine Kd.C_drew ?_)))
            (case side8 => exact HC390_0.out)
            rintro e w69 ⟨rfl, hb⟩
            have HS8_ := (hb.cell (World.block_lt_of_cell? _ _ (hHeld.2.2.2.2.2.2.2.2))).trans (hHeld.2.2.2.2.2.2.2.2)
            refine ⟨_, rfl, ?_⟩
            have n0_ := Aside0.mk (Kd.N_below (by (with_reducible repeat (first | apply Kd.N_alloc | apply Kd.N_drewN | apply Kd.N_drew)); exact HO_9.out) hb)
            have n1_ := Aside0.mk (Kd.N_below (by (with_reducible repeat (first | apply Kd.N_alloc | apply Kd.N_drewN | apply Kd.N_drew)); exact HO_10.out) hb)
            have n2_ := Aside0.mk (Kd.R_below (by (with_reducible repeat (first | apply Kd.R_alloc | apply Kd.R_drewN | apply Kd.R_drew)); exact HO_13.out) hb)
            have n3_ := Aside0.mk (Kd.R_below (by (with_reducible repeat (first | apply Kd.R_alloc | apply Kd.R_drewN | apply Kd.R_drew)); exact HO_365000.out) hb)
            have n4_ := Aside0.mk (Kd.R_below (by (with_reducible repeat (first | apply Kd.R_alloc | apply Kd.R_drewN | apply Kd.R_drew)); exact HO_388002.out) hb)
            have n5_ := Aside0.mk (Kd.R_below (by (with_reducible repeat (first | apply Kd.R_alloc | apply Kd.R_drewN | apply Kd.R_drew)); exact HO_388003.out) hb)
            have n6_ := Aside0.mk (Kd.V_below (by (with_reducible repeat (first | apply Kd.V_alloc | apply Kd.V_drewN | apply Kd.V_drew)); exact HL388_0.out) hb)
            have n7_ := Aside0.mk (Kd.V_below (by (with_reducible repeat (first | apply Kd.V_alloc | apply Kd.V_drewN | apply Kd.V_drew)); exact HL390_0.out) hb)
            have n8_ := Aside0.mk (blk_below (g := gb356) (o := .cells #[.int .u8 a0_0, .int .u8 a0_1, .int .u8 a0_2, .int .u8 a0_3, .int .u8 a0_4, .int .u8 a0_5, .int .u8 a0_6, .int .u8 a0_7, .int .u8 a0_8, .int .u8 a0_9, .int .u8 a0_10, .int .u8 a0_11] 24 (0, 0)) (by (with_reducible repeat (first | refine blk_drewN ?_ _ | refine blk_drew ?_ | refine blk_alloc ?_ _)); exact BK356.out) hb)
            have n9_ := Aside0.mk (blk_below (g := gb364) (o := .cells #[.slice Ao16 t358.length co16, .int .i64 t361, .int .i64 t362, .int .i64 t363] 33 (0, 0)) (by (with_reducible repeat (first | refine blk_drewN ?_ _ | refine blk_drew ?_ | refine blk_alloc ?_ _)); exact BK364.out) hb)
            have n10_ := Aside0.mk (blk_below (g := gb387) (o := .cells #[.bool true, .bool true, .slice Ao50 t384.length co50, .slice Ao50 t384.length co50] 29 (0, 0)) (by (with_reducible repeat (first | refine blk_drewN ?_ _ | refine blk_drew ?_ | refine blk_alloc ?_ _)); exact BK387.out) hb)
            have n11_ := Aside0.mk (Kd.C_below (by repeat (first | (with_reducible exact HR388_0.out) | (with_reducible refine Kd.C_alloc ?_ _) | (with_reducible refine Kd.C_drewN ?_ _) | (with_reducible refine Kd.C_drew ?_) | exact HR388_0.out)) hb)
            have n12_ := Aside0.mk (Kd.C_below (by repeat (first | (with_reducible exact HR390_0.out) | (with_reducible refine Kd.C_alloc ?_ _) | (with_reducible refine Kd.C_drewN ?_ _) | (with_reducible refine Kd.C_drew ?_) | exact HR390_0.out)) hb)
            have n13_ := Aside0.mk (below_step (by repeat (first | (with_reducible first | exact HB.out | apply below_alloc | apply pw_below_drewN | apply below_drew1 | refine below_set ?_ GE356.out | refine below_set ?_ GE364.out | refine below_set ?_ GE387.out) | exact HB.out)) hb)
            clear HO_9
            clear HO_10
            clear HO_13
            clear HO_365000
            clear HO_388002
            clear HO_388003
            clear HL388_0
            clear HL390_0
            clear BK356
            clear BK364
            clear BK387
            clear HR388_0
            clear HR390_0
            clear HB
            have HO_9 := n0_
            have HO_10 := n1_
            have HO_13 := n2_
            have HO_365000 := n3_
            have HO_388002 := n4_
            have HO_388003 := n5_
            have HL388_0 := n6_
            have HL390_0 := n7_
            have BK356 := n8_
            have BK364 := n9_
            have BK387 := n10_
            have HR388_0 := n11_
            have HR390_0 := n12_
            have HB := n13_
            clear n0_ n1_ n2_ n3_ n4_ n5_ n6_ n7_ n8_ n9_ n10_ n11_ n12_ n13_
            (try clear hb)
            (try clear hb2)
            (try clear hk)
            (try clear hi)
            refine hK.out _ _ ⟨(blk_cell BK364.out 0).trans rfl, (blk_cell BK364.out 1).trans rfl, (blk_cell BK364.out 2).trans rfl, (blk_cell BK364.out 3).trans rfl, (blk_cell BK387.out 0).trans rfl, (blk_cell BK387.out 1).trans rfl, (blk_cell BK387.out 2).trans rfl, (blk_cell BK387.out 3).trans rfl, HS8_⟩ (fun hHeld => ?_)
            clear hK K
            refine norm_ (a' := ?_) ?_ ?_
            rotate_left
            ·show Act.put _ (some 91) _ = _
             simp only [Act.put, List.setIfInBounds_toArray, List.set_cons_zero, List.set_cons_succ, i64_w, i32_w]
             rfl
            refine pure_ (i := 9) (N := some 94) (v := ?_) (a' := ?_) #[true, true, true, true, true, true, true, true, true, true] rfl rfl (any_of HT_.out (by kernel_rfl)) (fun _ _ _ h => h) (Or.inl ⟨by rfl, ?_⟩) ?_ ?_
            rotate_left; (intro w'; go_simp; with_reducible rfl); rotate_left; (simp only [Act.put, List.setIfInBounds_toArray, List.set_cons_zero, List.set_cons_succ, i64_w, i32_w]; rfl)
            refine done_ (done_of HT_.out (by kernel_rfl)) ?_
            (try clear HS8_); (try clear hHeld)
            have p392 : 0 ≤ (x15_2 : Int) := of_decide_eq_true (by first | (with_reducible assumption) | assumption)
            have q392 : x15_2 < (t368.length : Int) := of_decide_eq_true (by first | (with_reducible assumption) | assumption)
            obtain ⟨ad392, A392_0, c392_0, e392, hx392_0, hl392_0, hi392_0⟩ := at_L5 (Kd.N_reads' HO_9.out).2.2 x15_2 p392 q392
            obtain rfl : ad383 = ad392 := (by injection e392)
            obtain ⟨ce392, hce392, hMe392, hcc392⟩ := Kd.N_get HO_9.out [] x15_2 p392 (by first | exact q392 | exact of_decide_eq_true (by first | (with_reducible assumption) | assumption) | (have e_ := (Kd.N_reads' HO_9.out).1; omega))
            obtain ⟨ua392_0, uc392_0, rfl, ul392_0, ge392_0⟩ := Kd.FK_slice_open hMe392
            have hv392_0 := hcc392 0 _ rfl
            rw [Nat.add_zero, show ((Kd.slice 44 k44)).sz = 1 from rfl, Nat.mul_one] at hv392_0
            replace hv392_0 := Option.some.inj (hv392_0.symm.trans hx392_0)
            injection hv392_0 with hva_ hvn_ hvc_
            rw [hva_] at ge392_0
            rw [hvc_] at ul392_0
            have HL392_0 := Aside0.mk (show Kd.V k44 44 _ w.heap.size _ _ (rd_L5 t368 x15_2) from Kd.V_mk ul392_0 ge392_0)
            clear hva_ hvn_ hvc_ ge392_0 ul392_0
            clear hcc392 hce392
            have HR392_0 := Aside0.mk hi392_0
            have HC392_0 := Aside0.mk hl392_0
            clear hi392_0 hl392_0
            replace p392 := eq_true p392
            replace q392 := eq_true q392
            go_upto_region 20 with (first | ((with_reducible refine gate_dst (N := 17) rfl ?_); (try (refine gate_guard (by rfl) ?_; dsimp only)); refine box_event ?hg (N := 17) ?hd (cs := #[.bool false, .bool false, .slice none 0 0, .slice none 0 0]) (t := 29) ?hr ?_; (case hd => rfl); (case hg => rfl); (case hr => first | (go_simp; done) | (go_simp; rfl)); intro gb393 hg w70 hbox hb; have n0_ := Aside0.mk (Kd.N_below (Kd.N_elderB (by (with_reducible repeat (first | apply Kd.N_alloc | apply Kd.N_drewN | apply Kd.N_drew)); exact HO_9.out) gb393 (Nat.le_of_eq hg.symm)) hb); have n1_ := Aside0.mk (Kd.N_below (Kd.N_elderB (by (with_reducible repeat (first | apply Kd.N_alloc | apply Kd.N_drewN | apply Kd.N_drew)); exact HO_10.out) gb393 (Nat.le_of_eq hg.symm)) hb); have n2_ := Aside0.mk (Kd.R_below (by (with_reducible repeat (first | apply Kd.R_alloc | apply Kd.R_drewN | apply Kd.R_drew)); exact HO_13.out) hb); have n3_ := Aside0.mk (Kd.R_below (by (with_reducible repeat (first | apply Kd.R_alloc | apply Kd.R_drewN | apply Kd.R_drew)); exact HO_365000.out) hb); have n4_ := Aside0.mk (Kd.R_below (by (with_reducible repeat (first | apply Kd.R_alloc | apply Kd.R_drewN | apply Kd.R_drew)); exact HO_388002.out) hb); have n5_ := Aside0.mk (Kd.R_below (by (with_reducible repeat (first | apply Kd.R_alloc | apply Kd.R_drewN | apply Kd.R_drew)); exact HO_388003.out) hb); have n6_ := Aside0.mk (Kd.V_below (Kd.V_elderB (by (with_reducible repeat (first | apply Kd.V_alloc | apply Kd.V_drewN | apply Kd.V_drew)); exact HL388_0.out) gb393 (Nat.le_of_eq hg.symm)) hb); have n7_ := Aside0.mk (Kd.V_below (Kd.V_elderB (by (with_reducible repeat (first | apply Kd.V_alloc | apply Kd.V_drewN | apply Kd.V_drew)); exact HL390_0.out) gb393 (Nat.le_of_eq hg.symm)) hb); have n8_ := Aside0.mk (Kd.V_below (Kd.V_elderB (by (with_reducible repeat (first | apply Kd.V_alloc | apply Kd.V_drewN | apply Kd.V_drew)); exact HL392_0.out) gb393 (Nat.le_of_eq hg.symm)) hb); have n9_ := Aside0.mk (blk_below (g := gb356) (o := .cells #[.int .u8 a0_0, .int .u8 a0_1, .int .u8 a0_2, .int .u8 a0_3, .int .u8 a0_4, .int .u8 a0_5, .int .u8 a0_6, .int .u8 a0_7, .int .u8 a0_8, .int .u8 a0_9, .int .u8 a0_10, .int .u8 a0_11] 24 (0, 0)) (by (with_reducible repeat (first | refine blk_drewN ?_ _ | refine blk_drew ?_ | refine blk_alloc ?_ _)); exact BK356.out) hb); have n10_ := Aside0.mk (blk_below (g := gb364) (o := .cells #[.slice Ao16 t358.length co16, .int .i64 t361, .int .i64 t362, .int .i64 t363] 33 (0, 0)) (by (with_reducible repeat (first | refine blk_drewN ?_ _ | refine blk_drew ?_ | refine blk_alloc ?_ _)); exact BK364.out) hb); have n11_ := Aside0.mk (blk_below (g := gb387) (o := .cells #[.bool true, .bool true, .slice Ao50 t384.length co50, .slice Ao50 t384.length co50] 29 (0, 0)) (by (with_reducible repeat (first | refine blk_drewN ?_ _ | refine blk_drew ?_ | refine blk_alloc ?_ _)); exact BK387.out) hb); have n12_ := Aside0.mk (Kd.C_below (by repeat (first | (with_reducible exact HR388_0.out) | (with_reducible refine Kd.C_alloc ?_ _) | (with_reducible refine Kd.C_drewN ?_ _) | (with_reducible refine Kd.C_drew ?_) | exact HR388_0.out)) hb); have n13_ := Aside0.mk (Kd.C_below (by repeat (first | (with_reducible exact HR390_0.out) | (with_reducible refine Kd.C_alloc ?_ _) | (with_reducible refine Kd.C_drewN ?_ _) | (with_reducible refine Kd.C_drew ?_) | exact HR390_0.out)) hb); have n14_ := Aside0.mk (Kd.C_below (by repeat (first | (with_reducible exact HR392_0.out) | (with_reducible refine Kd.C_alloc ?_ _) | (with_reducible refine Kd.C_drewN ?_ _) | (with_reducible refine Kd.C_drew ?_) | exact HR392_0.out)) hb); have n15_ := Aside0.mk (below_step (by repeat (first | (with_reducible first | exact HB.out | apply below_alloc | apply pw_below_drewN | apply below_drew1 | refine below_set ?_ GE356.out | refine below_set ?_ GE364.out | refine below_set ?_ GE387.out) | exact HB.out)) hb); have n16_ := Aside0.mk (hbox); have n17_ := Aside0.mk ((by rw [hg]; exact (below_size (by repeat (first | (with_reducible first | exact HB.out | apply below_alloc | apply pw_below_drewN | apply below_drew1 | refine below_set ?_ GE356.out | refine below_set ?_ GE364.out | refine below_set ?_ GE387.out) | exact HB.out))) : w.heap.size ≤ gb393)); have n18_ := Aside0.mk ((by rw [hg]; exact (below_size (by repeat (first | (with_reducible first | exact HB.out | apply below_alloc | apply pw_below_drewN | apply below_drew1 | refine below_set ?_ GE356.out | refine below_set ?_ GE364.out | refine below_set ?_ GE387.out) | exact HB.out))) : w.heap.size ≤ gb393)); have n19_ := Aside0.mk ((by rw [hg]; exact Nat.ne_of_lt (blk_lt (g := gb356) (o := .cells #[.int .u8 a0_0, .int .u8 a0_1, .int .u8 a0_2, .int .u8 a0_3, .int .u8 a0_4, .int .u8 a0_5, .int .u8 a0_6, .int .u8 a0_7, .int .u8 a0_8, .int .u8 a0_9, .int .u8 a0_10, .int .u8 a0_11] 24 (0, 0)) (by (with_reducible repeat (first | refine blk_drewN ?_ _ | refine blk_drew ?_ | refine blk_alloc ?_ _)); exact BK356.out)) : gb356 ≠ gb393)); have n20_ := Aside0.mk ((by rw [hg]; exact Nat.ne_of_gt (blk_lt (g := gb356) (o := .cells #[.int .u8 a0_0, .int .u8 a0_1, .int .u8 a0_2, .int .u8 a0_3, .int .u8 a0_4, .int .u8 a0_5, .int .u8 a0_6, .int .u8 a0_7, .int .u8 a0_8, .int .u8 a0_9, .int .u8 a0_10, .int .u8 a0_11] 24 (0, 0)) (by (with_reducible repeat (first | refine blk_drewN ?_ _ | refine blk_drew ?_ | refine blk_alloc ?_ _)); exact BK356.out)) : gb393 ≠ gb356)); have n21_ := Aside0.mk ((by rw [hg]; exact Nat.ne_of_lt (blk_lt (g := gb364) (o := .cells #[.slice Ao16 t358.length co16, .int .i64 t361, .int .i64 t362, .int .i64 t363] 33 (0, 0)) (by (with_reducible repeat (first | refine blk_drewN ?_ _ | refine blk_drew ?_ | refine blk_alloc ?_ _)); exact BK364.out)) : gb364 ≠ gb393)); have n22_ := Aside0.mk ((by rw [hg]; exact Nat.ne_of_gt (blk_lt (g := gb364) (o := .cells #[.slice Ao16 t358.length co16, .int .i64 t361, .int .i64 t362, .int .i64 t363] 33 (0, 0)) (by (with_reducible repeat (first | refine blk_drewN ?_ _ | refine blk_drew ?_ | refine blk_alloc ?_ _)); exact BK364.out)) : gb393 ≠ gb364)); have n23_ := Aside0.mk ((by rw [hg]; exact Nat.ne_of_lt (blk_lt (g := gb387) (o := .cells #[.bool true, .bool true, .slice Ao50 t384.length co50, .slice Ao50 t384.length co50] 29 (0, 0)) (by (with_reducible repeat (first | refine blk_drewN ?_ _ | refine blk_drew ?_ | refine blk_alloc ?_ _)); exact BK387.out)) : gb387 ≠ gb393)); have n24_ := Aside0.mk ((by rw [hg]; exact Nat.ne_of_gt (blk_lt (g := gb387) (o := .cells #[.bool true, .bool true, .slice Ao50 t384.length co50, .slice Ao50 t384.length co50] 29 (0, 0)) (by (with_reducible repeat (first | refine blk_drewN ?_ _ | refine blk_drew ?_ | refine blk_alloc ?_ _)); exact BK387.out)) : gb393 ≠ gb387)); clear HO_9; clear HO_10; clear HO_13; clear HO_365000; clear HO_388002; clear HO_388003; clear HL388_0; clear HL390_0; clear HL392_0; clear BK356; clear BK364; clear BK387; clear HR388_0; clear HR390_0; clear HR392_0; clear HB; have HO_9 := n0_; have HO_10 := n1_; have HO_13 := n2_; have HO_365000 := n3_; have HO_388002 := n4_; have HO_388003 := n5_; have HL388_0 := n6_; have HL390_0 := n7_; have HL392_0 := n8_; have BK356 := n9_; have BK364 := n10_; have BK387 := n11_; have HR388_0 := n12_; have HR390_0 := n13_; have HR392_0 := n14_; have HB := n15_; have BK393 := n16_; have GW393 := n17_; have GE393 := n18_; have NB356_393 := n19_; have NB393_356 := n20_; have NB364_393 := n21_; have NB393_364 := n22_; have NB387_393 := n23_; have NB393_387 := n24_; clear n0_ n1_ n2_ n3_ n4_ n5_ n6_ n7_ n8_ n9_ n10_ n11_ n12_ n13_ n14_ n15_ n16_ n17_ n18_ n19_ n20_ n21_ n22_ n23_ n24_; clear hb hbox hg; have hnb71 := NB393_356.out; have hnc71 := NB356_393.out; have hnb72 := NB393_364.out; have hnc72 := NB364_393.out; have hnb73 := NB393_387.out; have hnc73 := NB387_393.out; have hcz74_0 : w70.cell? ⟨gb393, 0, none⟩ = some (.bool false) := (blk_cell BK393.out 0).trans rfl; have hcz74_1 : w70.cell? ⟨gb393, 1, none⟩ = some (.bool false) := (blk_cell BK393.out 1).trans rfl; have hcz74_2 : w70.cell? ⟨gb393, 2, none⟩ = some (.slice none 0 0) := (blk_cell BK393.out 2).trans rfl; have hcz74_3 : w70.cell? ⟨gb393, 3, none⟩ = some (.slice none 0 0) := (blk_cell BK393.out 3).trans rfl; have hfz74_0 := blk_frozen BK393.out 0; have hfz74_1 := blk_frozen BK393.out 1; have hfz74_2 := blk_frozen BK393.out 2; have hfz74_3 := blk_frozen BK393.out 3; have hnb75 := NB364_356.out; have hnc75 := NB356_364.out; have hnb76 := NB364_387.out; have hnc76 := NB387_364.out; have hcz77_0 : w70.cell? ⟨gb364, 0, none⟩ = some (.slice Ao16 t358.length co16) := (blk_cell BK364.out 0).trans rfl; have hcz77_1 : w70.cell? ⟨gb364, 1, none⟩ = some (.int .i64 t361) := (blk_cell BK364.out 1).trans rfl; have hcz77_2 : w70.cell? ⟨gb364, 2, none⟩ = some (.int .i64 t362) := (blk_cell BK364.out 2).trans rfl; have hcz77_3 : w70.cell? ⟨gb364, 3, none⟩ = some (.int .i64 t363) := (blk_cell BK364.out 3).trans rfl; have hfz77_0 := blk_frozen BK364.out 0; have hfz77_1 := blk_frozen BK364.out 1; have hfz77_2 := blk_frozen BK364.out 2; have hfz77_3 := blk_frozen BK364.out 3) | ((with_reducible refine gate_callee (f := 15) rfl ?_); refine goesL_ (some 105) rfl rfl Try.func15 (by kernel_rfl) rfl #[.agg #[.slice Ao16 t358.length co16, .int .i64 t361, .int .i64 t362, .int .i64 t363], .slice Ao34 t371.length co34, .agg #[.bool true, .bool true, .slice A392_0 (rd_L5 t368 x15_2).length c392_0, .slice Ao50 t384.length co50]] rfl (by (try simp only [List.map_toArray, List.map_cons, List.map_nil]); first | done | rfl | (simp only [List.length_drop, List.length_take]; rfl)) ?_; (with_reducible refine (index_Meets.calls k2 _ _ t358 t361 t362 t363 _ _ t371 true true _ _ (rd_L5 t368 x15_2) _ _ t384 t394 t395 _ ?side1 ?side2 ?side3 ?side4 ?side5 ?side6 ?side7 ?side8 A64.out).mono ?_); (case side1 => refine (Kd.R_reads' (e := 3) (base := w.heap.size) (ok := fun k_ => True) (n := t358.length) (c := co16) ?_).2.2; exact (by (with_reducible repeat (first | apply Kd.R_alloc | apply Kd.R_drewN | apply Kd.R_drew)); exact (Kd.R_mono (Kd.R_far (p := ⟨gb393, 3, none⟩) (Kd.R_far (p := ⟨gb393, 2, none⟩) (Kd.R_far (p := ⟨gb393, 1, none⟩) (Kd.R_far (p := ⟨gb393, 0, none⟩) (Kd.R_types HO_365000.out BK393.out (by decide)) (fun _ hk => hk.2) (.bool true)) (fun _ hk => hk.2) (.bool true)) (fun _ hk => hk.2) (.slice A392_0 (rd_L5 t368 x15_2).length c392_0)) (fun _ hk => hk.2) (.slice Ao50 t384.length co50)) (fun _ h_ => h_.1)))); (case side2 => exact (Kd.R_reads' HO_365000.out).2.1); (case side3 => refine (Kd.N_reads' (e := 27) (base := w.heap.size) (ok := fun k_ => ((some k_ ≠ (.slice (some ad383) t368.length co25 : Value).ownBlock ∧ (some k_ ≠ (.slice Ao50 t384.length co50 : Value).ownBlock ∧ (some k_ ≠ (.slice Ao16 t358.length co16 : Value).ownBlock ∧ (some k_ ≠ (.slice Ao50 t384.length co50 : Value).ownBlock ∧ (some k_ ≠ (.slice Ao50 t384.length co50 : Value).ownBlock ∧ (k_ ≠ gb356 ∧ (k_ ≠ gb364 ∧ k_ ≠ gb387))))))) ∧ k_ ≠ gb393)) (n := t371.length) (c := co34) ?_).2.2; exact (by (with_reducible repeat (first | apply Kd.N_alloc | apply Kd.N_drewN | apply Kd.N_drew)); exact (Kd.N_mono (Kd.N_far (p := ⟨gb393, 3, none⟩) (Kd.N_far (p := ⟨gb393, 2, none⟩) (Kd.N_far (p := ⟨gb393, 1, none⟩) (Kd.N_far (p := ⟨gb393, 0, none⟩) (Kd.N_mono HO_10.out (fun k_ hk => (⟨hk, hk.2⟩ : _ ∧ k_ ≠ gb393))) (fun _ hk => hk.2) (.bool true)) (fun _ hk => hk.2) (.bool true)) (fun _ hk => hk.2) (.slice A392_0 (rd_L5 t368 x15_2).length c392_0)) (fun _ hk => hk.2) (.slice Ao50 t384.length co50)) (fun _ h_ => h_.1)))); (case side4 => exact (Kd.N_reads' HO_10.out).2.1); (case side5 => repeat (first | exact ((Kd.V_reads' (by (with_reducible repeat (first | apply Kd.V_alloc | apply Kd.V_drewN | apply Kd.V_drew)); exact (Kd.V_mono (Kd.V_far (p := ⟨gb393, 3, none⟩) (Kd.V_far (p := ⟨gb393, 2, none⟩) (Kd.V_far (p := ⟨gb393, 1, none⟩) (Kd.V_far (p := ⟨gb393, 0, none⟩) (Kd.V_mono HL392_0.out (fun k_ hk => (⟨hk, hk.2⟩ : _ ∧ k_ ≠ gb393))) (fun _ hk => hk.2) (.bool true)) (fun _ hk => hk.2) (.bool true)) (fun _ hk => hk.2) (.slice A392_0 (rd_L5 t368 x15_2).length c392_0)) (fun _ hk => hk.2) (.slice Ao50 t384.length co50)) (fun _ h_ => h_.1)))).2.2) | (with_reducible refine Kd.C_alloc ?_ _) | (with_reducible refine Kd.C_drewN ?_ _) | (with_reducible refine Kd.C_drew ?_))); (case side6 => exact HC392_0.out); (case side7 => refine (Kd.R_reads' (e := 44) (base := w.heap.size) (ok := fun k_ => True) (n := t384.length) (c := co50) ?_).2.2; exact (by (with_reducible repeat (first | apply Kd.R_alloc | apply Kd.R_drewN | apply Kd.R_drew)); exact (Kd.R_mono (Kd.R_far (p := ⟨gb393, 3, none⟩) (Kd.R_far (p := ⟨gb393, 2, none⟩) (Kd.R_far (p := ⟨gb393, 1, none⟩) (Kd.R_far (p := ⟨gb393, 0, none⟩) (Kd.R_types HO_13.out BK393.out (by decide)) (fun _ hk => hk.2) (.bool true)) (fun _ hk => hk.2) (.bool true)) (fun _ hk => hk.2) (.slice A392_0 (rd_L5 t368 x15_2).length c392_0)) (fun _ hk => hk.2) (.slice Ao50 t384.length co50)) (fun _ h_ => h_.1)))); (case side8 => exact (Kd.R_reads' HO_13.out).2.1); rintro e w78 ⟨rfl, hb⟩; refine ⟨_, rfl, ?_⟩; have n0_ := Aside0.mk (Kd.N_below (by (with_reducible repeat (first | apply Kd.N_alloc | apply Kd.N_drewN | apply Kd.N_drew)); exact (Kd.N_mono (Kd.N_far (p := ⟨gb393, 3, none⟩) (Kd.N_far (p := ⟨gb393, 2, none⟩) (Kd.N_far (p := ⟨gb393, 1, none⟩) (Kd.N_far (p := ⟨gb393, 0, none⟩) (Kd.N_mono HO_9.out (fun k_ hk => (⟨hk, hk.2⟩ : _ ∧ k_ ≠ gb393))) (fun _ hk => hk.2) (.bool true)) (fun _ hk => hk.2) (.bool true)) (fun _ hk => hk.2) (.slice A392_0 (rd_L5 t368 x15_2).length c392_0)) (fun _ hk => hk.2) (.slice Ao50 t384.length co50)) (fun _ h_ => h_.1))) hb); have n1_ := Aside0.mk (Kd.N_below (by (with_reducible repeat (first | apply Kd.N_alloc | apply Kd.N_drewN | apply Kd.N_drew)); exact (Kd.N_mono (Kd.N_far (p := ⟨gb393, 3, none⟩) (Kd.N_far (p := ⟨gb393, 2, none⟩) (Kd.N_far (p := ⟨gb393, 1, none⟩) (Kd.N_far (p := ⟨gb393, 0, none⟩) (Kd.N_mono HO_10.out (fun k_ hk => (⟨hk, hk.2⟩ : _ ∧ k_ ≠ gb393))) (fun _ hk => hk.2) (.bool true)) (fun _ hk => hk.2) (.bool true)) (fun _ hk => hk.2) (.slice A392_0 (rd_L5 t368 x15_2).length c392_0)) (fun _ hk => hk.2) (.slice Ao50 t384.length co50)) (fun _ h_ => h_.1))) hb); have n2_ := Aside0.mk (Kd.R_below (by (with_reducible repeat (first | apply Kd.R_alloc | apply Kd.R_drewN | apply Kd.R_drew)); exact (Kd.R_mono (Kd.R_far (p := ⟨gb393, 3, none⟩) (Kd.R_far (p := ⟨gb393, 2, none⟩) (Kd.R_far (p := ⟨gb393, 1, none⟩) (Kd.R_far (p := ⟨gb393, 0, none⟩) (Kd.R_types HO_13.out BK393.out (by decide)) (fun _ hk => hk.2) (.bool true)) (fun _ hk => hk.2) (.bool true)) (fun _ hk => hk.2) (.slice A392_0 (rd_L5 t368 x15_2).length c392_0)) (fun _ hk => hk.2) (.slice Ao50 t384.length co50)) (fun _ h_ => h_.1))) hb); have n3_ := Aside0.mk (Kd.R_below (by (with_reducible repeat (first | apply Kd.R_alloc | apply Kd.R_drewN | apply Kd.R_drew)); exact (Kd.R_mono (Kd.R_far (p := ⟨gb393, 3, none⟩) (Kd.R_far (p := ⟨gb393, 2, none⟩) (Kd.R_far (p := ⟨gb393, 1, none⟩) (Kd.R_far (p := ⟨gb393, 0, none⟩) (Kd.R_types HO_365000.out BK393.out (by decide)) (fun _ hk => hk.2) (.bool true)) (fun _ hk => hk.2) (.bool true)) (fun _ hk => hk.2) (.slice A392_0 (rd_L5 t368 x15_2).length c392_0)) (fun _ hk => hk.2) (.slice Ao50 t384.length co50)) (fun _ h_ => h_.1))) hb); have n4_ := Aside0.mk (Kd.R_below (by (with_reducible repeat (first | apply Kd.R_alloc | apply Kd.R_drewN | apply Kd.R_drew)); exact (Kd.R_mono (Kd.R_far (p := ⟨gb393, 3, none⟩) (Kd.R_far (p := ⟨gb393, 2, none⟩) (Kd.R_far (p := ⟨gb393, 1, none⟩) (Kd.R_far (p := ⟨gb393, 0, none⟩) (Kd.R_types HO_388002.out BK393.out (by decide)) (fun _ hk => hk.2) (.bool true)) (fun _ hk => hk.2) (.bool true)) (fun _ hk => hk.2) (.slice A392_0 (rd_L5 t368 x15_2).length c392_0)) (fun _ hk => hk.2) (.slice Ao50 t384.length co50)) (fun _ h_ => h_.1))) hb); have n5_ := Aside0.mk (Kd.R_below (by (with_reducible repeat (first | apply Kd.R_alloc | apply Kd.R_drewN | apply Kd.R_drew)); exact (Kd.R_mono (Kd.R_far (p := ⟨gb393, 3, none⟩) (Kd.R_far (p := ⟨gb393, 2, none⟩) (Kd.R_far (p := ⟨gb393, 1, none⟩) (Kd.R_far (p := ⟨gb393, 0, none⟩) (Kd.R_types HO_388003.out BK393.out (by decide)) (fun _ hk => hk.2) (.bool true)) (fun _ hk => hk.2) (.bool true)) (fun _ hk => hk.2) (.slice A392_0 (rd_L5 t368 x15_2).length c392_0)) (fun _ hk => hk.2) (.slice Ao50 t384.length co50)) (fun _ h_ => h_.1))) hb); have n6_ := Aside0.mk (Kd.V_below (by (with_reducible repeat (first | apply Kd.V_alloc | apply Kd.V_drewN | apply Kd.V_drew)); exact (Kd.V_mono (Kd.V_far (p := ⟨gb393, 3, none⟩) (Kd.V_far (p := ⟨gb393, 2, none⟩) (Kd.V_far (p := ⟨gb393, 1, none⟩) (Kd.V_far (p := ⟨gb393, 0, none⟩) (Kd.V_mono HL388_0.out (fun k_ hk => (⟨hk, hk.2⟩ : _ ∧ k_ ≠ gb393))) (fun _ hk => hk.2) (.bool true)) (fun _ hk => hk.2) (.bool true)) (fun _ hk => hk.2) (.slice A392_0 (rd_L5 t368 x15_2).length c392_0)) (fun _ hk => hk.2) (.slice Ao50 t384.length co50)) (fun _ h_ => h_.1))) hb); have n7_ := Aside0.mk (Kd.V_below (by (with_reducible repeat (first | apply Kd.V_alloc | apply Kd.V_drewN | apply Kd.V_drew)); exact (Kd.V_mono (Kd.V_far (p := ⟨gb393, 3, none⟩) (Kd.V_far (p := ⟨gb393, 2, none⟩) (Kd.V_far (p := ⟨gb393, 1, none⟩) (Kd.V_far (p := ⟨gb393, 0, none⟩) (Kd.V_mono HL390_0.out (fun k_ hk => (⟨hk, hk.2⟩ : _ ∧ k_ ≠ gb393))) (fun _ hk => hk.2) (.bool true)) (fun _ hk => hk.2) (.bool true)) (fun _ hk => hk.2) (.slice A392_0 (rd_L5 t368 x15_2).length c392_0)) (fun _ hk => hk.2) (.slice Ao50 t384.length co50)) (fun _ h_ => h_.1))) hb); have n8_ := Aside0.mk (Kd.V_below (by (with_reducible repeat (first | apply Kd.V_alloc | apply Kd.V_drewN | apply Kd.V_drew)); exact (Kd.V_mono (Kd.V_far (p := ⟨gb393, 3, none⟩) (Kd.V_far (p := ⟨gb393, 2, none⟩) (Kd.V_far (p := ⟨gb393, 1, none⟩) (Kd.V_far (p := ⟨gb393, 0, none⟩) (Kd.V_mono HL392_0.out (fun k_ hk => (⟨hk, hk.2⟩ : _ ∧ k_ ≠ gb393))) (fun _ hk => hk.2) (.bool true)) (fun _ hk => hk.2) (.bool true)) (fun _ hk => hk.2) (.slice A392_0 (rd_L5 t368 x15_2).length c392_0)) (fun _ hk => hk.2) (.slice Ao50 t384.length co50)) (fun _ h_ => h_.1))) hb); have n9_ := Aside0.mk (blk_below (g := gb356) (o := .cells #[.int .u8 a0_0, .int .u8 a0_1, .int .u8 a0_2, .int .u8 a0_3, .int .u8 a0_4, .int .u8 a0_5, .int .u8 a0_6, .int .u8 a0_7, .int .u8 a0_8, .int .u8 a0_9, .int .u8 a0_10, .int .u8 a0_11] 24 (0, 0)) (by (with_reducible repeat (first | refine blk_drewN ?_ _ | refine blk_drew ?_ | refine blk_alloc ?_ _)); refine blk_far ?_ NB356_393.out _; (with_reducible repeat (first | refine blk_drewN ?_ _ | refine blk_drew ?_ | refine blk_alloc ?_ _)); refine blk_far ?_ NB356_393.out _; (with_reducible repeat (first | refine blk_drewN ?_ _ | refine blk_drew ?_ | refine blk_alloc ?_ _)); refine blk_far ?_ NB356_393.out _; (with_reducible repeat (first | refine blk_drewN ?_ _ | refine blk_drew ?_ | refine blk_alloc ?_ _)); refine blk_far ?_ NB356_393.out _; (with_reducible repeat (first | refine blk_drewN ?_ _ | refine blk_drew ?_ | refine blk_alloc ?_ _)); exact BK356.out) hb); have n10_ := Aside0.mk (blk_below (g := gb364) (o := .cells #[.slice Ao16 t358.length co16, .int .i64 t361, .int .i64 t362, .int .i64 t363] 33 (0, 0)) (by (with_reducible repeat (first | refine blk_drewN ?_ _ | refine blk_drew ?_ | refine blk_alloc ?_ _)); refine blk_far ?_ NB364_393.out _; (with_reducible repeat (first | refine blk_drewN ?_ _ | refine blk_drew ?_ | refine blk_alloc ?_ _)); refine blk_far ?_ NB364_393.out _; (with_reducible repeat (first | refine blk_drewN ?_ _ | refine blk_drew ?_ | refine blk_alloc ?_ _)); refine blk_far ?_ NB364_393.out _; (with_reducible repeat (first | refine blk_drewN ?_ _ | refine blk_drew ?_ | refine blk_alloc ?_ _)); refine blk_far ?_ NB364_393.out _; (with_reducible repeat (first | refine blk_drewN ?_ _ | refine blk_drew ?_ | refine blk_alloc ?_ _)); exact BK364.out) hb); have n11_ := Aside0.mk (blk_below (g := gb387) (o := .cells #[.bool true, .bool true, .slice Ao50 t384.length co50, .slice Ao50 t384.length co50] 29 (0, 0)) (by (with_reducible repeat (first | refine blk_drewN ?_ _ | refine blk_drew ?_ | refine blk_alloc ?_ _)); refine blk_far ?_ NB387_393.out _; (with_reducible repeat (first | refine blk_drewN ?_ _ | refine blk_drew ?_ | refine blk_alloc ?_ _)); refine blk_far ?_ NB387_393.out _; (with_reducible repeat (first | refine blk_drewN ?_ _ | refine blk_drew ?_ | refine blk_alloc ?_ _)); refine blk_far ?_ NB387_393.out _; (with_reducible repeat (first | refine blk_drewN ?_ _ | refine blk_drew ?_ | refine blk_alloc ?_ _)); refine blk_far ?_ NB387_393.out _; (with_reducible repeat (first | refine blk_drewN ?_ _ | refine blk_drew ?_ | refine blk_alloc ?_ _)); exact BK387.out) hb); have n12_ := Aside0.mk (Kd.C_below ((Kd.V_reads' (by (with_reducible repeat (first | apply Kd.V_alloc | apply Kd.V_drewN | apply Kd.V_drew)); exact (Kd.V_mono (Kd.V_far (p := ⟨gb393, 3, none⟩) (Kd.V_far (p := ⟨gb393, 2, none⟩) (Kd.V_far (p := ⟨gb393, 1, none⟩) (Kd.V_far (p := ⟨gb393, 0, none⟩) (Kd.V_mono HL388_0.out (fun k_ hk => (⟨hk, hk.2⟩ : _ ∧ k_ ≠ gb393))) (fun _ hk => hk.2) (.bool true)) (fun _ hk => hk.2) (.bool true)) (fun _ hk => hk.2) (.slice A392_0 (rd_L5 t368 x15_2).length c392_0)) (fun _ hk => hk.2) (.slice Ao50 t384.length co50)) (fun _ h_ => h_.1)))).2.2) hb); have n13_ := Aside0.mk (Kd.C_below ((Kd.V_reads' (by (with_reducible repeat (first | apply Kd.V_alloc | apply Kd.V_drewN | apply Kd.V_drew)); exact (Kd.V_mono (Kd.V_far (p := ⟨gb393, 3, none⟩) (Kd.V_far (p := ⟨gb393, 2, none⟩) (Kd.V_far (p := ⟨gb393, 1, none⟩) (Kd.V_far (p := ⟨gb393, 0, none⟩) (Kd.V_mono HL390_0.out (fun k_ hk => (⟨hk, hk.2⟩ : _ ∧ k_ ≠ gb393))) (fun _ hk => hk.2) (.bool true)) (fun _ hk => hk.2) (.bool true)) (fun _ hk => hk.2) (.slice A392_0 (rd_L5 t368 x15_2).length c392_0)) (fun _ hk => hk.2) (.slice Ao50 t384.length co50)) (fun _ h_ => h_.1)))).2.2) hb); have n14_ := Aside0.mk (Kd.C_below ((Kd.V_reads' (by (with_reducible repeat (first | apply Kd.V_alloc | apply Kd.V_drewN | apply Kd.V_drew)); exact (Kd.V_mono (Kd.V_far (p := ⟨gb393, 3, none⟩) (Kd.V_far (p := ⟨gb393, 2, none⟩) (Kd.V_far (p := ⟨gb393, 1, none⟩) (Kd.V_far (p := ⟨gb393, 0, none⟩) (Kd.V_mono HL392_0.out (fun k_ hk => (⟨hk, hk.2⟩ : _ ∧ k_ ≠ gb393))) (fun _ hk => hk.2) (.bool true)) (fun _ hk => hk.2) (.bool true)) (fun _ hk => hk.2) (.slice A392_0 (rd_L5 t368 x15_2).length c392_0)) (fun _ hk => hk.2) (.slice Ao50 t384.length co50)) (fun _ h_ => h_.1)))).2.2) hb); have n15_ := Aside0.mk (blk_below (g := gb393) (o := .cells #[.bool true, .bool true, .slice A392_0 (rd_L5 t368 x15_2).length c392_0, .slice Ao50 t384.length co50] 29 (0, 0)) (by (with_reducible repeat (first | refine blk_drewN ?_ _ | refine blk_drew ?_ | refine blk_alloc ?_ _)); refine blk_put (cs := #[.bool true, .bool true, .slice A392_0 (rd_L5 t368 x15_2).length c392_0, .slice none 0 0]) ?_ 3 _ rfl; (with_reducible repeat (first | refine blk_drewN ?_ _ | refine blk_drew ?_ | refine blk_alloc ?_ _)); refine blk_put (cs := #[.bool true, .bool true, .slice none 0 0, .slice none 0 0]) ?_ 2 _ rfl; (with_reducible repeat (first | refine blk_drewN ?_ _ | refine blk_drew ?_ | refine blk_alloc ?_ _)); refine blk_put (cs := #[.bool true, .bool false, .slice none 0 0, .slice none 0 0]) ?_ 1 _ rfl; (with_reducible repeat (first | refine blk_drewN ?_ _ | refine blk_drew ?_ | refine blk_alloc ?_ _)); refine blk_put (cs := #[.bool false, .bool false, .slice none 0 0, .slice none 0 0]) ?_ 0 _ rfl; (with_reducible repeat (first | refine blk_drewN ?_ _ | refine blk_drew ?_ | refine blk_alloc ?_ _)); exact BK393.out) hb); have n16_ := Aside0.mk (below_step (by repeat (first | (with_reducible first | exact HB.out | apply below_alloc | apply pw_below_drewN | apply below_drew1 | refine below_set ?_ GE356.out | refine below_set ?_ GE364.out | refine below_set ?_ GE387.out | refine below_set ?_ GE393.out) | exact HB.out)) hb); clear HO_9; clear HO_10; clear HO_13; clear HO_365000; clear HO_388002; clear HO_388003; clear HL388_0; clear HL390_0; clear HL392_0; clear BK356; clear BK364; clear BK387; clear HR388_0; clear HR390_0; clear HR392_0; clear BK393; clear HB; have HO_9 := n0_; have HO_10 := n1_; have HO_13 := n2_; have HO_365000 := n3_; have HO_388002 := n4_; have HO_388003 := n5_; have HL388_0 := n6_; have HL390_0 := n7_; have HL392_0 := n8_; have BK356 := n9_; have BK364 := n10_; have BK387 := n11_; have HR388_0 := n12_; have HR390_0 := n13_; have HR392_0 := n14_; have BK393 := n15_; have HB := n16_; clear n0_ n1_ n2_ n3_ n4_ n5_ n6_ n7_ n8_ n9_ n10_ n11_ n12_ n13_ n14_ n15_ n16_; (try clear hb); (try clear hb2); (try clear hk); (try clear hi)))
            (try simp only [Act.put, List.setIfInBounds_toArray, List.set_cons_zero, List.set_cons_succ])
            go_cut [125] (fun v125 wc => ∃ (kq : Nat) (x125_64 : Bool), v125 = .bool x125_64 ∧ Aside0 (thresherlaw12_IndexWhole.j2 kq t357 t368 t371 t384 x15_2 x125_64 t358 t361 t362 t363 true true t384 t384 = some r) ∧ Aside0 (kq ≤ k2) ∧ Aside0 (Kd.N (Kd.slice 44 k44) 27 wc w.heap.size (fun k_ => some k_ ≠ ((.slice Ao34 t371.length co34) : Value).ownBlock ∧ some k_ ≠ ((.slice Ao50 t384.length co50) : Value).ownBlock ∧ some k_ ≠ ((.slice Ao16 t358.length co16) : Value).ownBlock ∧ some k_ ≠ ((.slice Ao50 t384.length co50) : Value).ownBlock ∧ some k_ ≠ ((.slice Ao50 t384.length co50) : Value).ownBlock ∧ k_ ≠ gb356 ∧ k_ ≠ gb364 ∧ k_ ≠ gb387) (.slice (some ad383) t368.length co25) t368) ∧ Aside0 (Kd.N (Kd.slice 44 k44) 27 wc w.heap.size (fun k_ => some k_ ≠ ((.slice (some ad383) t368.length co25) : Value).ownBlock ∧ some k_ ≠ ((.slice Ao50 t384.length co50) : Value).ownBlock ∧ some k_ ≠ ((.slice Ao16 t358.length co16) : Value).ownBlock ∧ some k_ ≠ ((.slice Ao50 t384.length co50) : Value).ownBlock ∧ some k_ ≠ ((.slice Ao50 t384.length co50) : Value).ownBlock ∧ k_ ≠ gb356 ∧ k_ ≠ gb364 ∧ k_ ≠ gb387) (.slice Ao34 t371.length co34) t371) ∧ Aside0 (Kd.R k44 44 wc w.heap.size (fun _ => True) (.slice Ao50 t384.length co50) t384) ∧ Aside0 (Kd.R (Kd.int .i64) 3 wc w.heap.size (fun _ => True) (.slice Ao16 t358.length co16) t358) ∧ Aside0 (Kd.R k44 44 wc w.heap.size (fun _ => True) (.slice Ao50 t384.length co50) t384) ∧ Aside0 (Kd.R k44 44 wc w.heap.size (fun _ => True) (.slice Ao50 t384.length co50) t384) ∧ Aside0 (wc.heap[gb356]? = some (.cells #[.int .u8 a0_0, .int .u8 a0_1, .int .u8 a0_2, .int .u8 a0_3, .int .u8 a0_4, .int .u8 a0_5, .int .u8 a0_6, .int .u8 a0_7, .int .u8 a0_8, .int .u8 a0_9, .int .u8 a0_10, .int .u8 a0_11] 24 (0, 0))) ∧ Aside0 (wc.heap[gb364]? = some (.cells #[(.slice Ao16 t358.length co16), .int .i64 t361, .int .i64 t362, .int .i64 t363] 33 (0, 0))) ∧ Aside0 (wc.heap[gb387]? = some (.cells #[.bool true, .bool true, (.slice Ao50 t384.length co50), (.slice Ao50 t384.length co50)] 29 (0, 0))) ∧ Aside0 (Kd.C k44 wc A388_0 (rd_L5 t368 x15_2).length (rd_L5 t368 x15_2)) ∧ Aside0 (Kd.C k44 wc A390_0 (rd_L5 t368 x15_2).length (rd_L5 t368 x15_2)) ∧ Aside0 (Kd.C k44 wc A392_0 (rd_L5 t368 x15_2).length (rd_L5 t368 x15_2)) ∧ Aside0 (Below w.heap.size w wc))
            case first =>
             have H := HC65.out
             clear HC65
             replace H := Option.bind_eq_some_iff.mp H
             obtain ⟨t396, A790, H⟩ := H
             replace H : (if (t396 != (decide (t389 > 0))) = true then (thresherlaw12_IndexWhole.j2 k2 t357 t368 t371 t384 x15_2 true t358 t361 t362 t363 true true t384 t384) else (if t389 > 0 then (if t394 = 0 then (thresherlaw12_IndexWhole.j2 k2 t357 t368 t371 t384 x15_2 (t395 != 0) t358 t361 t362 t363 true true t384 t384) else (thresherlaw12_IndexWhole.j2 k2 t357 t368 t371 t384 x15_2 true t358 t361 t362 t363 true true t384 t384)) else (thresherlaw12_IndexWhole.j2 k2 t357 t368 t371 t384 x15_2 false t358 t361 t362 t363 true true t384 t384))) = some r := H
             have A79 := Aside0.mk A790
             clear A790
             by_cases c80 : (t396 != (decide (t389 > 0))) = true
             ·rw [if_pos c80] at H
              have c80b0 : (t396 != (decide (t389 > 0))) = true := c80
              (try (have c80b1 : decide (t396 = (decide (t389 > 0))) = false := by simpa using c80))
              (try (have c80b2 : (t396 == (decide (t389 > 0))) = false := by simpa using c80))
              (try (have c80b3 : ¬ (t396 = (decide (t389 > 0))) := by simpa using c80))
              clear c80
              (first | rw [c80b0] | (simp only [i64_w, i32_w]; rw [c80b0]) | skip)
              have H' := Aside0.mk H
              clear H
              have hnb81 := NB364_356.out
              have hnc81 := NB356_364.out
              have hnb82 := NB364_387.out
              have hnc82 := NB387_364.out
              have hnb83 := NB364_393.out
              have hnc83 := NB393_364.out
              have hcz84_0 : w78.cell? ⟨gb364, 0, none⟩ = some (.slice Ao16 t358.length co16) := (blk_cell BK364.out 0).trans rfl
              have hcz84_1 : w78.cell? ⟨gb364, 1, none⟩ = some (.int .i64 t361) := (blk_cell BK364.out 1).trans rfl
              have hcz84_2 : w78.cell? ⟨gb364, 2, none⟩ = some (.int .i64 t362) := (blk_cell BK364.out 2).trans rfl
              have hcz84_3 : w78.cell? ⟨gb364, 3, none⟩ = some (.int .i64 t363) := (blk_cell BK364.out 3).trans rfl
              have hfz84_0 := blk_frozen BK364.out 0
              have hfz84_1 := blk_frozen BK364.out 1
              have hfz84_2 := blk_frozen BK364.out 2
              have hfz84_3 := blk_frozen BK364.out 3
              have hnb85 := NB393_356.out
              have hnc85 := NB356_393.out
              have hnb86 := NB393_387.out
              have hnc86 := NB387_393.out
              have hcz87_0 : w78.cell? ⟨gb393, 0, none⟩ = some (.bool true) := (blk_cell BK393.out 0).trans rfl
              have hcz87_1 : w78.cell? ⟨gb393, 1, none⟩ = some (.bool true) := (blk_cell BK393.out 1).trans rfl
              have hcz87_2 : w78.cell? ⟨gb393, 2, none⟩ = some (.slice A392_0 (rd_L5 t368 x15_2).length c392_0) := (blk_cell BK393.out 2).trans rfl
              have hcz87_3 : w78.cell? ⟨gb393, 3, none⟩ = some (.slice Ao50 t384.length co50) := (blk_cell BK393.out 3).trans rfl
              have hfz87_0 := blk_frozen BK393.out 0
              have hfz87_1 := blk_frozen BK393.out 1
              have hfz87_2 := blk_frozen BK393.out 2
              have hfz87_3 := blk_frozen BK393.out 3
              go_wp2_with (first | ((with_reducible refine gate_callee (f := 17) rfl ?_); refine goesL_ (some 110) rfl rfl Try.func17 (by kernel_rfl) rfl #[.agg #[.slice Ao16 t358.length co16, .int .i64 t361, .int .i64 t362, .int .i64 t363], .agg #[.bool true, .bool true, .slice A392_0 (rd_L5 t368 x15_2).length c392_0, .slice Ao50 t384.length co50]] rfl (by (try simp only [List.map_toArray, List.map_cons, List.map_nil]); first | done | rfl | (simp only [List.length_drop, List.length_take]; rfl)) ?_; (with_reducible refine (index_Empty.calls k2 _ _ t358 t361 t362 t363 true true _ _ (rd_L5 t368 x15_2) _ _ t384 t396 _ ?side1 ?side2 ?side3 ?side4 ?side5 ?side6 A79.out).mono ?_); (case side1 => repeat (first | exact (Kd.R_reads' HO_365000.out).2.2 | (with_reducible refine Kd.C_alloc ?_ _) | (with_reducible refine Kd.C_drewN ?_ _) | (with_reducible refine Kd.C_drew ?_))); (case side2 => exact (Kd.R_reads' HO_365000.out).2.1); (case side3 => repeat (first | exact (by repeat (first | (with_reducible exact HR392_0.out) | (with_reducible refine Kd.C_alloc ?_ _) | (with_reducible refine Kd.C_drewN ?_ _) | (with_reducible refine Kd.C_drew ?_) | exact HR392_0.out)) | (with_reducible refine Kd.C_alloc ?_ _) | (with_reducible refine Kd.C_drewN ?_ _) | (with_reducible refine Kd.C_drew ?_))); (case side4 => exact HC392_0.out); (case side5 => repeat (first | exact (Kd.R_reads' HO_13.out).2.2 | (with_reducible refine Kd.C_alloc ?_ _) | (with_reducible refine Kd.C_drewN ?_ _) | (with_reducible refine Kd.C_drew ?_))); (case side6 => exact (Kd.R_reads' HO_13.out).2.1); rintro e w88 ⟨rfl, hb⟩; refine ⟨_, rfl, ?_⟩; have n0_ := Aside0.mk (Kd.N_below (by (with_reducible repeat (first | apply Kd.N_alloc | apply Kd.N_drewN | apply Kd.N_drew)); exact HO_9.out) hb); have n1_ := Aside0.mk (Kd.N_below (by (with_reducible repeat (first | apply Kd.N_alloc | apply Kd.N_drewN | apply Kd.N_drew)); exact HO_10.out) hb); have n2_ := Aside0.mk (Kd.R_below (by (with_reducible repeat (first | apply Kd.R_alloc | apply Kd.R_drewN | apply Kd.R_drew)); exact HO_13.out) hb); have n3_ := Aside0.mk (Kd.R_below (by (with_reducible repeat (first | apply Kd.R_alloc | apply Kd.R_drewN | apply Kd.R_drew)); exact HO_365000.out) hb); have n4_ := Aside0.mk (Kd.R_below (by (with_reducible repeat (first | apply Kd.R_alloc | apply Kd.R_drewN | apply Kd.R_drew)); exact HO_388002.out) hb); have n5_ := Aside0.mk (Kd.R_below (by (with_reducible repeat (first | apply Kd.R_alloc | apply Kd.R_drewN | apply Kd.R_drew)); exact HO_388003.out) hb); have n6_ := Aside0.mk (Kd.V_below (by (with_reducible repeat (first | apply Kd.V_alloc | apply Kd.V_drewN | apply Kd.V_drew)); exact HL388_0.out) hb); have n7_ := Aside0.mk (Kd.V_below (by (with_reducible repeat (first | apply Kd.V_alloc | apply Kd.V_drewN | apply Kd.V_drew)); exact HL390_0.out) hb); have n8_ := Aside0.mk (Kd.V_below (by (with_reducible repeat (first | apply Kd.V_alloc | apply Kd.V_drewN | apply Kd.V_drew)); exact HL392_0.out) hb); have n9_ := Aside0.mk (blk_below (g := gb356) (o := .cells #[.int .u8 a0_0, .int .u8 a0_1, .int .u8 a0_2, .int .u8 a0_3, .int .u8 a0_4, .int .u8 a0_5, .int .u8 a0_6, .int .u8 a0_7, .int .u8 a0_8, .int .u8 a0_9, .int .u8 a0_10, .int .u8 a0_11] 24 (0, 0)) (by (with_reducible repeat (first | refine blk_drewN ?_ _ | refine blk_drew ?_ | refine blk_alloc ?_ _)); exact BK356.out) hb); have n10_ := Aside0.mk (blk_below (g := gb364) (o := .cells #[.slice Ao16 t358.length co16, .int .i64 t361, .int .i64 t362, .int .i64 t363] 33 (0, 0)) (by (with_reducible repeat (first | refine blk_drewN ?_ _ | refine blk_drew ?_ | refine blk_alloc ?_ _)); exact BK364.out) hb); have n11_ := Aside0.mk (blk_below (g := gb387) (o := .cells #[.bool true, .bool true, .slice Ao50 t384.length co50, .slice Ao50 t384.length co50] 29 (0, 0)) (by (with_reducible repeat (first | refine blk_drewN ?_ _ | refine blk_drew ?_ | refine blk_alloc ?_ _)); exact BK387.out) hb); have n12_ := Aside0.mk (Kd.C_below (by repeat (first | (with_reducible exact HR388_0.out) | (with_reducible refine Kd.C_alloc ?_ _) | (with_reducible refine Kd.C_drewN ?_ _) | (with_reducible refine Kd.C_drew ?_) | exact HR388_0.out)) hb); have n13_ := Aside0.mk (Kd.C_below (by repeat (first | (with_reducible exact HR390_0.out) | (with_reducible refine Kd.C_alloc ?_ _) | (with_reducible refine Kd.C_drewN ?_ _) | (with_reducible refine Kd.C_drew ?_) | exact HR390_0.out)) hb); have n14_ := Aside0.mk (Kd.C_below (by repeat (first | (with_reducible exact HR392_0.out) | (with_reducible refine Kd.C_alloc ?_ _) | (with_reducible refine Kd.C_drewN ?_ _) | (with_reducible refine Kd.C_drew ?_) | exact HR392_0.out)) hb); have n15_ := Aside0.mk (blk_below (g := gb393) (o := .cells #[.bool true, .bool true, .slice A392_0 (rd_L5 t368 x15_2).length c392_0, .slice Ao50 t384.length co50] 29 (0, 0)) (by (with_reducible repeat (first | refine blk_drewN ?_ _ | refine blk_drew ?_ | refine blk_alloc ?_ _)); exact BK393.out) hb); have n16_ := Aside0.mk (below_step (by repeat (first | (with_reducible first | exact HB.out | apply below_alloc | apply pw_below_drewN | apply below_drew1 | refine below_set ?_ GE356.out | refine below_set ?_ GE364.out | refine below_set ?_ GE387.out | refine below_set ?_ GE393.out) | exact HB.out)) hb); clear HO_9; clear HO_10; clear HO_13; clear HO_365000; clear HO_388002; clear HO_388003; clear HL388_0; clear HL390_0; clear HL392_0; clear BK356; clear BK364; clear BK387; clear HR388_0; clear HR390_0; clear HR392_0; clear BK393; clear HB; have HO_9 := n0_; have HO_10 := n1_; have HO_13 := n2_; have HO_365000 := n3_; have HO_388002 := n4_; have HO_388003 := n5_; have HL388_0 := n6_; have HL390_0 := n7_; have HL392_0 := n8_; have BK356 := n9_; have BK364 := n10_; have BK387 := n11_; have HR388_0 := n12_; have HR390_0 := n13_; have HR392_0 := n14_; have BK393 := n15_; have HB := n16_; clear n0_ n1_ n2_ n3_ n4_ n5_ n6_ n7_ n8_ n9_ n10_ n11_ n12_ n13_ n14_ n15_ n16_; (try clear hb); (try clear hb2); (try clear hk); (try clear hi)))
              go_meet
              case rel => exact ⟨_, (true), (by first | rfl | (simp; done) | (simp [*]; done)), (by first | exact H' | (subst_vars; exact H')), ⟨by have := HJ9.out; have := HK2.out; first | omega | exact Nat.le_refl _⟩, ⟨by (with_reducible repeat (first | apply Kd.N_alloc | apply Kd.N_drewN | apply Kd.N_drew)); exact Kd.N_mono HO_9.out (fun _ hk => ⟨hk.1.1, ⟨hk.1.2.1, ⟨hk.1.2.2.1, ⟨hk.1.2.2.2.1, ⟨hk.1.2.2.2.2.1, ⟨hk.1.2.2.2.2.2.1, ⟨hk.1.2.2.2.2.2.2.1, hk.1.2.2.2.2.2.2.2⟩⟩⟩⟩⟩⟩⟩)⟩, ⟨by (with_reducible repeat (first | apply Kd.N_alloc | apply Kd.N_drewN | apply Kd.N_drew)); exact Kd.N_mono HO_10.out (fun _ hk => ⟨hk.1.1, ⟨hk.1.2.1, ⟨hk.1.2.2.1, ⟨hk.1.2.2.2.1, ⟨hk.1.2.2.2.2.1, ⟨hk.1.2.2.2.2.2.1, ⟨hk.1.2.2.2.2.2.2.1, hk.1.2.2.2.2.2.2.2⟩⟩⟩⟩⟩⟩⟩)⟩, ⟨by (with_reducible repeat (first | apply Kd.R_alloc | apply Kd.R_drewN | apply Kd.R_drew)); exact HO_13.out⟩, ⟨by (with_reducible repeat (first | apply Kd.R_alloc | apply Kd.R_drewN | apply Kd.R_drew)); exact HO_365000.out⟩, ⟨by (with_reducible repeat (first | apply Kd.R_alloc | apply Kd.R_drewN | apply Kd.R_drew)); exact HO_388002.out⟩, ⟨by (with_reducible repeat (first | apply Kd.R_alloc | apply Kd.R_drewN | apply Kd.R_drew)); exact HO_388003.out⟩, ⟨by (with_reducible repeat (first | refine blk_drewN ?_ _ | refine blk_drew ?_ | refine blk_alloc ?_ _)); exact BK356.out⟩, ⟨by (with_reducible repeat (first | refine blk_drewN ?_ _ | refine blk_drew ?_ | refine blk_alloc ?_ _)); exact BK364.out⟩, ⟨by (with_reducible repeat (first | refine blk_drewN ?_ _ | refine blk_drew ?_ | refine blk_alloc ?_ _)); exact BK387.out⟩, ⟨by repeat (first | (with_reducible exact HR388_0.out) | (with_reducible refine Kd.C_alloc ?_ _) | (with_reducible refine Kd.C_drewN ?_ _) | (with_reducible refine Kd.C_drew ?_) | exact HR388_0.out)⟩, ⟨by repeat (first | (with_reducible exact HR390_0.out) | (with_reducible refine Kd.C_alloc ?_ _) | (with_reducible refine Kd.C_drewN ?_ _) | (with_reducible refine Kd.C_drew ?_) | exact HR390_0.out)⟩, ⟨by repeat (first | (with_reducible exact HR392_0.out) | (with_reducible refine Kd.C_alloc ?_ _) | (with_reducible refine Kd.C_drewN ?_ _) | (with_reducible refine Kd.C_drew ?_) | exact HR392_0.out)⟩, ⟨by repeat (first | (with_reducible first | exact HB.out | apply below_alloc | apply pw_below_drewN | apply below_drew1 | refine below_set ?_ GE356.out | refine below_set ?_ GE364.out | refine below_set ?_ GE387.out | refine below_set ?_ GE393.out) | exact HB.out)⟩⟩
             ·rw [if_neg c80] at H
              have c80b0 : (t396 != (decide (t389 > 0))) = false := by simpa using c80
              (try (have c80b1 : decide (t396 = (decide (t389 > 0))) = true := by simpa using c80))
              (try (have c80b2 : (t396 == (decide (t389 > 0))) = true := by simpa using c80))
              clear c80
              (first | rw [c80b0] | (simp only [i64_w, i32_w]; rw [c80b0]) | skip)
              by_cases c89 : t389 > 0
              ·rw [if_pos c89] at H
               have c89b0 : decide (0 < t389) = true := decide_eq_true c89
               (try (have cz89 : t396 = true := by have h_ := c80b0; rw [show decide (t389 > 0) = true from c89b0] at h_; simpa using h_))
               clear c89
               by_cases c90 : t394 = 0
               ·rw [if_pos c90] at H
                have c90b0 : (t394 == 0) = true := beq_iff_eq.mpr c90
                have c90b1 : (t394 != 0) = false := bne_eq_false_iff_eq.mpr c90
                clear c90
                have H' := Aside0.mk H
                clear H
                have hnb91 := NB364_356.out
                have hnc91 := NB356_364.out
                have hnb92 := NB364_387.out
                have hnc92 := NB387_364.out
                have hnb93 := NB364_393.out
                have hnc93 := NB393_364.out
                have hcz94_0 : w78.cell? ⟨gb364, 0, none⟩ = some (.slice Ao16 t358.length co16) := (blk_cell BK364.out 0).trans rfl
                have hcz94_1 : w78.cell? ⟨gb364, 1, none⟩ = some (.int .i64 t361) := (blk_cell BK364.out 1).trans rfl
                have hcz94_2 : w78.cell? ⟨gb364, 2, none⟩ = some (.int .i64 t362) := (blk_cell BK364.out 2).trans rfl
                have hcz94_3 : w78.cell? ⟨gb364, 3, none⟩ = some (.int .i64 t363) := (blk_cell BK364.out 3).trans rfl
                have hfz94_0 := blk_frozen BK364.out 0
                have hfz94_1 := blk_frozen BK364.out 1
                have hfz94_2 := blk_frozen BK364.out 2
                have hfz94_3 := blk_frozen BK364.out 3
                have hnb95 := NB393_356.out
                have hnc95 := NB356_393.out
                have hnb96 := NB393_387.out
                have hnc96 := NB387_393.out
                have hcz97_0 : w78.cell? ⟨gb393, 0, none⟩ = some (.bool true) := (blk_cell BK393.out 0).trans rfl
                have hcz97_1 : w78.cell? ⟨gb393, 1, none⟩ = some (.bool true) := (blk_cell BK393.out 1).trans rfl
                have hcz97_2 : w78.cell? ⟨gb393, 2, none⟩ = some (.slice A392_0 (rd_L5 t368 x15_2).length c392_0) := (blk_cell BK393.out 2).trans rfl
                have hcz97_3 : w78.cell? ⟨gb393, 3, none⟩ = some (.slice Ao50 t384.length co50) := (blk_cell BK393.out 3).trans rfl
                have hfz97_0 := blk_frozen BK393.out 0
                have hfz97_1 := blk_frozen BK393.out 1
                have hfz97_2 := blk_frozen BK393.out 2
                have hfz97_3 := blk_frozen BK393.out 3
                go_wp2_with (first | ((with_reducible refine gate_callee (f := 17) rfl ?_); refine goesL_ (some 110) rfl rfl Try.func17 (by kernel_rfl) rfl #[.agg #[.slice Ao16 t358.length co16, .int .i64 t361, .int .i64 t362, .int .i64 t363], .agg #[.bool true, .bool true, .slice A392_0 (rd_L5 t368 x15_2).length c392_0, .slice Ao50 t384.length co50]] rfl (by (try simp only [List.map_toArray, List.map_cons, List.map_nil]); first | done | rfl | (simp only [List.length_drop, List.length_take]; rfl)) ?_; (with_reducible refine (index_Empty.calls k2 _ _ t358 t361 t362 t363 true true _ _ (rd_L5 t368 x15_2) _ _ t384 t396 _ ?side1 ?side2 ?side3 ?side4 ?side5 ?side6 A79.out).mono ?_); (case side1 => repeat (first | exact (Kd.R_reads' HO_365000.out).2.2 | (with_reducible refine Kd.C_alloc ?_ _) | (with_reducible refine Kd.C_drewN ?_ _) | (with_reducible refine Kd.C_drew ?_))); (case side2 => exact (Kd.R_reads' HO_365000.out).2.1); (case side3 => repeat (first | exact (by repeat (first | (with_reducible exact HR392_0.out) | (with_reducible refine Kd.C_alloc ?_ _) | (with_reducible refine Kd.C_drewN ?_ _) | (with_reducible refine Kd.C_drew ?_) | exact HR392_0.out)) | (with_reducible refine Kd.C_alloc ?_ _) | (with_reducible refine Kd.C_drewN ?_ _) | (with_reducible refine Kd.C_drew ?_))); (case side4 => exact HC392_0.out); (case side5 => repeat (first | exact (Kd.R_reads' HO_13.out).2.2 | (with_reducible refine Kd.C_alloc ?_ _) | (with_reducible refine Kd.C_drewN ?_ _) | (with_reducible refine Kd.C_drew ?_))); (case side6 => exact (Kd.R_reads' HO_13.out).2.1); rintro e w98 ⟨rfl, hb⟩; refine ⟨_, rfl, ?_⟩; have n0_ := Aside0.mk (Kd.N_below (by (with_reducible repeat (first | apply Kd.N_alloc | apply Kd.N_drewN | apply Kd.N_drew)); exact HO_9.out) hb); have n1_ := Aside0.mk (Kd.N_below (by (with_reducible repeat (first | apply Kd.N_alloc | apply Kd.N_drewN | apply Kd.N_drew)); exact HO_10.out) hb); have n2_ := Aside0.mk (Kd.R_below (by (with_reducible repeat (first | apply Kd.R_alloc | apply Kd.R_drewN | apply Kd.R_drew)); exact HO_13.out) hb); have n3_ := Aside0.mk (Kd.R_below (by (with_reducible repeat (first | apply Kd.R_alloc | apply Kd.R_drewN | apply Kd.R_drew)); exact HO_365000.out) hb); have n4_ := Aside0.mk (Kd.R_below (by (with_reducible repeat (first | apply Kd.R_alloc | apply Kd.R_drewN | apply Kd.R_drew)); exact HO_388002.out) hb); have n5_ := Aside0.mk (Kd.R_below (by (with_reducible repeat (first | apply Kd.R_alloc | apply Kd.R_drewN | apply Kd.R_drew)); exact HO_388003.out) hb); have n6_ := Aside0.mk (Kd.V_below (by (with_reducible repeat (first | apply Kd.V_alloc | apply Kd.V_drewN | apply Kd.V_drew)); exact HL388_0.out) hb); have n7_ := Aside0.mk (Kd.V_below (by (with_reducible repeat (first | apply Kd.V_alloc | apply Kd.V_drewN | apply Kd.V_drew)); exact HL390_0.out) hb); have n8_ := Aside0.mk (Kd.V_below (by (with_reducible repeat (first | apply Kd.V_alloc | apply Kd.V_drewN | apply Kd.V_drew)); exact HL392_0.out) hb); have n9_ := Aside0.mk (blk_below (g := gb356) (o := .cells #[.int .u8 a0_0, .int .u8 a0_1, .int .u8 a0_2, .int .u8 a0_3, .int .u8 a0_4, .int .u8 a0_5, .int .u8 a0_6, .int .u8 a0_7, .int .u8 a0_8, .int .u8 a0_9, .int .u8 a0_10, .int .u8 a0_11] 24 (0, 0)) (by (with_reducible repeat (first | refine blk_drewN ?_ _ | refine blk_drew ?_ | refine blk_alloc ?_ _)); exact BK356.out) hb); have n10_ := Aside0.mk (blk_below (g := gb364) (o := .cells #[.slice Ao16 t358.length co16, .int .i64 t361, .int .i64 t362, .int .i64 t363] 33 (0, 0)) (by (with_reducible repeat (first | refine blk_drewN ?_ _ | refine blk_drew ?_ | refine blk_alloc ?_ _)); exact BK364.out) hb); have n11_ := Aside0.mk (blk_below (g := gb387) (o := .cells #[.bool true, .bool true, .slice Ao50 t384.length co50, .slice Ao50 t384.length co50] 29 (0, 0)) (by (with_reducible repeat (first | refine blk_drewN ?_ _ | refine blk_drew ?_ | refine blk_alloc ?_ _)); exact BK387.out) hb); have n12_ := Aside0.mk (Kd.C_below (by repeat (first | (with_reducible exact HR388_0.out) | (with_reducible refine Kd.C_alloc ?_ _) | (with_reducible refine Kd.C_drewN ?_ _) | (with_reducible refine Kd.C_drew ?_) | exact HR388_0.out)) hb); have n13_ := Aside0.mk (Kd.C_below (by repeat (first | (with_reducible exact HR390_0.out) | (with_reducible refine Kd.C_alloc ?_ _) | (with_reducible refine Kd.C_drewN ?_ _) | (with_reducible refine Kd.C_drew ?_) | exact HR390_0.out)) hb); have n14_ := Aside0.mk (Kd.C_below (by repeat (first | (with_reducible exact HR392_0.out) | (with_reducible refine Kd.C_alloc ?_ _) | (with_reducible refine Kd.C_drewN ?_ _) | (with_reducible refine Kd.C_drew ?_) | exact HR392_0.out)) hb); have n15_ := Aside0.mk (blk_below (g := gb393) (o := .cells #[.bool true, .bool true, .slice A392_0 (rd_L5 t368 x15_2).length c392_0, .slice Ao50 t384.length co50] 29 (0, 0)) (by (with_reducible repeat (first | refine blk_drewN ?_ _ | refine blk_drew ?_ | refine blk_alloc ?_ _)); exact BK393.out) hb); have n16_ := Aside0.mk (below_step (by repeat (first | (with_reducible first | exact HB.out | apply below_alloc | apply pw_below_drewN | apply below_drew1 | refine below_set ?_ GE356.out | refine below_set ?_ GE364.out | refine below_set ?_ GE387.out | refine below_set ?_ GE393.out) | exact HB.out)) hb); clear HO_9; clear HO_10; clear HO_13; clear HO_365000; clear HO_388002; clear HO_388003; clear HL388_0; clear HL390_0; clear HL392_0; clear BK356; clear BK364; clear BK387; clear HR388_0; clear HR390_0; clear HR392_0; clear BK393; clear HB; have HO_9 := n0_; have HO_10 := n1_; have HO_13 := n2_; have HO_365000 := n3_; have HO_388002 := n4_; have HO_388003 := n5_; have HL388_0 := n6_; have HL390_0 := n7_; have HL392_0 := n8_; have BK356 := n9_; have BK364 := n10_; have BK387 := n11_; have HR388_0 := n12_; have HR390_0 := n13_; have HR392_0 := n14_; have BK393 := n15_; have HB := n16_; clear n0_ n1_ n2_ n3_ n4_ n5_ n6_ n7_ n8_ n9_ n10_ n11_ n12_ n13_ n14_ n15_ n16_; (try clear hb); (try clear hb2); (try clear hk); (try clear hi)))
                go_meet
                case rel => exact ⟨_, ((t395 != 0)), (by first | rfl | (simp; done) | (simp [*]; done)), (by first | exact H' | (subst_vars; exact H')), ⟨by have := HJ9.out; have := HK2.out; first | omega | exact Nat.le_refl _⟩, ⟨by (with_reducible repeat (first | apply Kd.N_alloc | apply Kd.N_drewN | apply Kd.N_drew)); exact Kd.N_mono HO_9.out (fun _ hk => ⟨hk.1.1, ⟨hk.1.2.1, ⟨hk.1.2.2.1, ⟨hk.1.2.2.2.1, ⟨hk.1.2.2.2.2.1, ⟨hk.1.2.2.2.2.2.1, ⟨hk.1.2.2.2.2.2.2.1, hk.1.2.2.2.2.2.2.2⟩⟩⟩⟩⟩⟩⟩)⟩, ⟨by (with_reducible repeat (first | apply Kd.N_alloc | apply Kd.N_drewN | apply Kd.N_drew)); exact Kd.N_mono HO_10.out (fun _ hk => ⟨hk.1.1, ⟨hk.1.2.1, ⟨hk.1.2.2.1, ⟨hk.1.2.2.2.1, ⟨hk.1.2.2.2.2.1, ⟨hk.1.2.2.2.2.2.1, ⟨hk.1.2.2.2.2.2.2.1, hk.1.2.2.2.2.2.2.2⟩⟩⟩⟩⟩⟩⟩)⟩, ⟨by (with_reducible repeat (first | apply Kd.R_alloc | apply Kd.R_drewN | apply Kd.R_drew)); exact HO_13.out⟩, ⟨by (with_reducible repeat (first | apply Kd.R_alloc | apply Kd.R_drewN | apply Kd.R_drew)); exact HO_365000.out⟩, ⟨by (with_reducible repeat (first | apply Kd.R_alloc | apply Kd.R_drewN | apply Kd.R_drew)); exact HO_388002.out⟩, ⟨by (with_reducible repeat (first | apply Kd.R_alloc | apply Kd.R_drewN | apply Kd.R_drew)); exact HO_388003.out⟩, ⟨by (with_reducible repeat (first | refine blk_drewN ?_ _ | refine blk_drew ?_ | refine blk_alloc ?_ _)); exact BK356.out⟩, ⟨by (with_reducible repeat (first | refine blk_drewN ?_ _ | refine blk_drew ?_ | refine blk_alloc ?_ _)); exact BK364.out⟩, ⟨by (with_reducible repeat (first | refine blk_drewN ?_ _ | refine blk_drew ?_ | refine blk_alloc ?_ _)); exact BK387.out⟩, ⟨by repeat (first | (with_reducible exact HR388_0.out) | (with_reducible refine Kd.C_alloc ?_ _) | (with_reducible refine Kd.C_drewN ?_ _) | (with_reducible refine Kd.C_drew ?_) | exact HR388_0.out)⟩, ⟨by repeat (first | (with_reducible exact HR390_0.out) | (with_reducible refine Kd.C_alloc ?_ _) | (with_reducible refine Kd.C_drewN ?_ _) | (with_reducible refine Kd.C_drew ?_) | exact HR390_0.out)⟩, ⟨by repeat (first | (with_reducible exact HR392_0.out) | (with_reducible refine Kd.C_alloc ?_ _) | (with_reducible refine Kd.C_drewN ?_ _) | (with_reducible refine Kd.C_drew ?_) | exact HR392_0.out)⟩, ⟨by repeat (first | (with_reducible first | exact HB.out | apply below_alloc | apply pw_below_drewN | apply below_drew1 | refine below_set ?_ GE356.out | refine below_set ?_ GE364.out | refine below_set ?_ GE387.out | refine below_set ?_ GE393.out) | exact HB.out)⟩⟩
               ·rw [if_neg c90] at H
                have c90b0 : (t394 == 0) = false := beq_eq_false_iff_ne.mpr c90
                have c90b1 : (t394 != 0) = true := bne_iff_ne.mpr c90
                have H' := Aside0.mk H
                clear H
                have hnb99 := NB364_356.out
                have hnc99 := NB356_364.out
                have hnb100 := NB364_387.out
                have hnc100 := NB387_364.out
                have hnb101 := NB364_393.out
                have hnc101 := NB393_364.out
                have hcz102_0 : w78.cell? ⟨gb364, 0, none⟩ = some (.slice Ao16 t358.length co16) := (blk_cell BK364.out 0).trans rfl
                have hcz102_1 : w78.cell? ⟨gb364, 1, none⟩ = some (.int .i64 t361) := (blk_cell BK364.out 1).trans rfl
                have hcz102_2 : w78.cell? ⟨gb364, 2, none⟩ = some (.int .i64 t362) := (blk_cell BK364.out 2).trans rfl
                have hcz102_3 : w78.cell? ⟨gb364, 3, none⟩ = some (.int .i64 t363) := (blk_cell BK364.out 3).trans rfl
                have hfz102_0 := blk_frozen BK364.out 0
                have hfz102_1 := blk_frozen BK364.out 1
                have hfz102_2 := blk_frozen BK364.out 2
                have hfz102_3 := blk_frozen BK364.out 3
                have hnb103 := NB393_356.out
                have hnc103 := NB356_393.out
                have hnb104 := NB393_387.out
                have hnc104 := NB387_393.out
                have hcz105_0 : w78.cell? ⟨gb393, 0, none⟩ = some (.bool true) := (blk_cell BK393.out 0).trans rfl
                have hcz105_1 : w78.cell? ⟨gb393, 1, none⟩ = some (.bool true) := (blk_cell BK393.out 1).trans rfl
                have hcz105_2 : w78.cell? ⟨gb393, 2, none⟩ = some (.slice A392_0 (rd_L5 t368 x15_2).length c392_0) := (blk_cell BK393.out 2).trans rfl
                have hcz105_3 : w78.cell? ⟨gb393, 3, none⟩ = some (.slice Ao50 t384.length co50) := (blk_cell BK393.out 3).trans rfl
                have hfz105_0 := blk_frozen BK393.out 0
                have hfz105_1 := blk_frozen BK393.out 1
                have hfz105_2 := blk_frozen BK393.out 2
                have hfz105_3 := blk_frozen BK393.out 3
                go_wp2_with (first | ((with_reducible refine gate_callee (f := 17) rfl ?_); refine goesL_ (some 110) rfl rfl Try.func17 (by kernel_rfl) rfl #[.agg #[.slice Ao16 t358.length co16, .int .i64 t361, .int .i64 t362, .int .i64 t363], .agg #[.bool true, .bool true, .slice A392_0 (rd_L5 t368 x15_2).length c392_0, .slice Ao50 t384.length co50]] rfl (by (try simp only [List.map_toArray, List.map_cons, List.map_nil]); first | done | rfl | (simp only [List.length_drop, List.length_take]; rfl)) ?_; (with_reducible refine (index_Empty.calls k2 _ _ t358 t361 t362 t363 true true _ _ (rd_L5 t368 x15_2) _ _ t384 t396 _ ?side1 ?side2 ?side3 ?side4 ?side5 ?side6 A79.out).mono ?_); (case side1 => repeat (first | exact (Kd.R_reads' HO_365000.out).2.2 | (with_reducible refine Kd.C_alloc ?_ _) | (with_reducible refine Kd.C_drewN ?_ _) | (with_reducible refine Kd.C_drew ?_))); (case side2 => exact (Kd.R_reads' HO_365000.out).2.1); (case side3 => repeat (first | exact (by repeat (first | (with_reducible exact HR392_0.out) | (with_reducible refine Kd.C_alloc ?_ _) | (with_reducible refine Kd.C_drewN ?_ _) | (with_reducible refine Kd.C_drew ?_) | exact HR392_0.out)) | (with_reducible refine Kd.C_alloc ?_ _) | (with_reducible refine Kd.C_drewN ?_ _) | (with_reducible refine Kd.C_drew ?_))); (case side4 => exact HC392_0.out); (case side5 => repeat (first | exact (Kd.R_reads' HO_13.out).2.2 | (with_reducible refine Kd.C_alloc ?_ _) | (with_reducible refine Kd.C_drewN ?_ _) | (with_reducible refine Kd.C_drew ?_))); (case side6 => exact (Kd.R_reads' HO_13.out).2.1); rintro e w106 ⟨rfl, hb⟩; refine ⟨_, rfl, ?_⟩; have n0_ := Aside0.mk (Kd.N_below (by (with_reducible repeat (first | apply Kd.N_alloc | apply Kd.N_drewN | apply Kd.N_drew)); exact HO_9.out) hb); have n1_ := Aside0.mk (Kd.N_below (by (with_reducible repeat (first | apply Kd.N_alloc | apply Kd.N_drewN | apply Kd.N_drew)); exact HO_10.out) hb); have n2_ := Aside0.mk (Kd.R_below (by (with_reducible repeat (first | apply Kd.R_alloc | apply Kd.R_drewN | apply Kd.R_drew)); exact HO_13.out) hb); have n3_ := Aside0.mk (Kd.R_below (by (with_reducible repeat (first | apply Kd.R_alloc | apply Kd.R_drewN | apply Kd.R_drew)); exact HO_365000.out) hb); have n4_ := Aside0.mk (Kd.R_below (by (with_reducible repeat (first | apply Kd.R_alloc | apply Kd.R_drewN | apply Kd.R_drew)); exact HO_388002.out) hb); have n5_ := Aside0.mk (Kd.R_below (by (with_reducible repeat (first | apply Kd.R_alloc | apply Kd.R_drewN | apply Kd.R_drew)); exact HO_388003.out) hb); have n6_ := Aside0.mk (Kd.V_below (by (with_reducible repeat (first | apply Kd.V_alloc | apply Kd.V_drewN | apply Kd.V_drew)); exact HL388_0.out) hb); have n7_ := Aside0.mk (Kd.V_below (by (with_reducible repeat (first | apply Kd.V_alloc | apply Kd.V_drewN | apply Kd.V_drew)); exact HL390_0.out) hb); have n8_ := Aside0.mk (Kd.V_below (by (with_reducible repeat (first | apply Kd.V_alloc | apply Kd.V_drewN | apply Kd.V_drew)); exact HL392_0.out) hb); have n9_ := Aside0.mk (blk_below (g := gb356) (o := .cells #[.int .u8 a0_0, .int .u8 a0_1, .int .u8 a0_2, .int .u8 a0_3, .int .u8 a0_4, .int .u8 a0_5, .int .u8 a0_6, .int .u8 a0_7, .int .u8 a0_8, .int .u8 a0_9, .int .u8 a0_10, .int .u8 a0_11] 24 (0, 0)) (by (with_reducible repeat (first | refine blk_drewN ?_ _ | refine blk_drew ?_ | refine blk_alloc ?_ _)); exact BK356.out) hb); have n10_ := Aside0.mk (blk_below (g := gb364) (o := .cells #[.slice Ao16 t358.length co16, .int .i64 t361, .int .i64 t362, .int .i64 t363] 33 (0, 0)) (by (with_reducible repeat (first | refine blk_drewN ?_ _ | refine blk_drew ?_ | refine blk_alloc ?_ _)); exact BK364.out) hb); have n11_ := Aside0.mk (blk_below (g := gb387) (o := .cells #[.bool true, .bool true, .slice Ao50 t384.length co50, .slice Ao50 t384.length co50] 29 (0, 0)) (by (with_reducible repeat (first | refine blk_drewN ?_ _ | refine blk_drew ?_ | refine blk_alloc ?_ _)); exact BK387.out) hb); have n12_ := Aside0.mk (Kd.C_below (by repeat (first | (with_reducible exact HR388_0.out) | (with_reducible refine Kd.C_alloc ?_ _) | (with_reducible refine Kd.C_drewN ?_ _) | (with_reducible refine Kd.C_drew ?_) | exact HR388_0.out)) hb); have n13_ := Aside0.mk (Kd.C_below (by repeat (first | (with_reducible exact HR390_0.out) | (with_reducible refine Kd.C_alloc ?_ _) | (with_reducible refine Kd.C_drewN ?_ _) | (with_reducible refine Kd.C_drew ?_) | exact HR390_0.out)) hb); have n14_ := Aside0.mk (Kd.C_below (by repeat (first | (with_reducible exact HR392_0.out) | (with_reducible refine Kd.C_alloc ?_ _) | (with_reducible refine Kd.C_drewN ?_ _) | (with_reducible refine Kd.C_drew ?_) | exact HR392_0.out)) hb); have n15_ := Aside0.mk (blk_below (g := gb393) (o := .cells #[.bool true, .bool true, .slice A392_0 (rd_L5 t368 x15_2).length c392_0, .slice Ao50 t384.length co50] 29 (0, 0)) (by (with_reducible repeat (first | refine blk_drewN ?_ _ | refine blk_drew ?_ | refine blk_alloc ?_ _)); exact BK393.out) hb); have n16_ := Aside0.mk (below_step (by repeat (first | (with_reducible first | exact HB.out | apply below_alloc | apply pw_below_drewN | apply below_drew1 | refine below_set ?_ GE356.out | refine below_set ?_ GE364.out | refine below_set ?_ GE387.out | refine below_set ?_ GE393.out) | exact HB.out)) hb); clear HO_9; clear HO_10; clear HO_13; clear HO_365000; clear HO_388002; clear HO_388003; clear HL388_0; clear HL390_0; clear HL392_0; clear BK356; clear BK364; clear BK387; clear HR388_0; clear HR390_0; clear HR392_0; clear BK393; clear HB; have HO_9 := n0_; have HO_10 := n1_; have HO_13 := n2_; have HO_365000 := n3_; have HO_388002 := n4_; have HO_388003 := n5_; have HL388_0 := n6_; have HL390_0 := n7_; have HL392_0 := n8_; have BK356 := n9_; have BK364 := n10_; have BK387 := n11_; have HR388_0 := n12_; have HR390_0 := n13_; have HR392_0 := n14_; have BK393 := n15_; have HB := n16_; clear n0_ n1_ n2_ n3_ n4_ n5_ n6_ n7_ n8_ n9_ n10_ n11_ n12_ n13_ n14_ n15_ n16_; (try clear hb); (try clear hb2); (try clear hk); (try clear hi)))
                go_meet
                case rel => exact ⟨_, (true), (by first | rfl | (simp; done) | (simp [*]; done)), (by first | exact H' | (subst_vars; exact H')), ⟨by have := HJ9.out; have := HK2.out; first | omega | exact Nat.le_refl _⟩, ⟨by (with_reducible repeat (first | apply Kd.N_alloc | apply Kd.N_drewN | apply Kd.N_drew)); exact Kd.N_mono HO_9.out (fun _ hk => ⟨hk.1.1, ⟨hk.1.2.1, ⟨hk.1.2.2.1, ⟨hk.1.2.2.2.1, ⟨hk.1.2.2.2.2.1, ⟨hk.1.2.2.2.2.2.1, ⟨hk.1.2.2.2.2.2.2.1, hk.1.2.2.2.2.2.2.2⟩⟩⟩⟩⟩⟩⟩)⟩, ⟨by (with_reducible repeat (first | apply Kd.N_alloc | apply Kd.N_drewN | apply Kd.N_drew)); exact Kd.N_mono HO_10.out (fun _ hk => ⟨hk.1.1, ⟨hk.1.2.1, ⟨hk.1.2.2.1, ⟨hk.1.2.2.2.1, ⟨hk.1.2.2.2.2.1, ⟨hk.1.2.2.2.2.2.1, ⟨hk.1.2.2.2.2.2.2.1, hk.1.2.2.2.2.2.2.2⟩⟩⟩⟩⟩⟩⟩)⟩, ⟨by (with_reducible repeat (first | apply Kd.R_alloc | apply Kd.R_drewN | apply Kd.R_drew)); exact HO_13.out⟩, ⟨by (with_reducible repeat (first | apply Kd.R_alloc | apply Kd.R_drewN | apply Kd.R_drew)); exact HO_365000.out⟩, ⟨by (with_reducible repeat (first | apply Kd.R_alloc | apply Kd.R_drewN | apply Kd.R_drew)); exact HO_388002.out⟩, ⟨by (with_reducible repeat (first | apply Kd.R_alloc | apply Kd.R_drewN | apply Kd.R_drew)); exact HO_388003.out⟩, ⟨by (with_reducible repeat (first | refine blk_drewN ?_ _ | refine blk_drew ?_ | refine blk_alloc ?_ _)); exact BK356.out⟩, ⟨by (with_reducible repeat (first | refine blk_drewN ?_ _ | refine blk_drew ?_ | refine blk_alloc ?_ _)); exact BK364.out⟩, ⟨by (with_reducible repeat (first | refine blk_drewN ?_ _ | refine blk_drew ?_ | refine blk_alloc ?_ _)); exact BK387.out⟩, ⟨by repeat (first | (with_reducible exact HR388_0.out) | (with_reducible refine Kd.C_alloc ?_ _) | (with_reducible refine Kd.C_drewN ?_ _) | (with_reducible refine Kd.C_drew ?_) | exact HR388_0.out)⟩, ⟨by repeat (first | (with_reducible exact HR390_0.out) | (with_reducible refine Kd.C_alloc ?_ _) | (with_reducible refine Kd.C_drewN ?_ _) | (with_reducible refine Kd.C_drew ?_) | exact HR390_0.out)⟩, ⟨by repeat (first | (with_reducible exact HR392_0.out) | (with_reducible refine Kd.C_alloc ?_ _) | (with_reducible refine Kd.C_drewN ?_ _) | (with_reducible refine Kd.C_drew ?_) | exact HR392_0.out)⟩, ⟨by repeat (first | (with_reducible first | exact HB.out | apply below_alloc | apply pw_below_drewN | apply below_drew1 | refine below_set ?_ GE356.out | refine below_set ?_ GE364.out | refine below_set ?_ GE387.out | refine below_set ?_ GE393.out) | exact HB.out)⟩⟩
              ·rw [if_neg c89] at H
               have c89b0 : decide (0 < t389) = false := decide_eq_false c89
               (try (have cz89 : t396 = false := by have h_ := c80b0; rw [show decide (t389 > 0) = false from c89b0] at h_; simpa using h_))
               clear c89
               have H' := Aside0.mk H
               clear H
               have hnb107 := NB364_356.out
               have hnc107 := NB356_364.out
               have hnb108 := NB364_387.out
               have hnc108 := NB387_364.out
               have hnb109 := NB364_393.out
               have hnc109 := NB393_364.out
               have hcz110_0 : w78.cell? ⟨gb364, 0, none⟩ = some (.slice Ao16 t358.length co16) := (blk_cell BK364.out 0).trans rfl
               have hcz110_1 : w78.cell? ⟨gb364, 1, none⟩ = some (.int .i64 t361) := (blk_cell BK364.out 1).trans rfl
               have hcz110_2 : w78.cell? ⟨gb364, 2, none⟩ = some (.int .i64 t362) := (blk_cell BK364.out 2).trans rfl
               have hcz110_3 : w78.cell? ⟨gb364, 3, none⟩ = some (.int .i64 t363) := (blk_cell BK364.out 3).trans rfl
               have hfz110_0 := blk_frozen BK364.out 0
               have hfz110_1 := blk_frozen BK364.out 1
               have hfz110_2 := blk_frozen BK364.out 2
               have hfz110_3 := blk_frozen BK364.out 3
               have hnb111 := NB393_356.out
               have hnc111 := NB356_393.out
               have hnb112 := NB393_387.out
               have hnc112 := NB387_393.out
               have hcz113_0 : w78.cell? ⟨gb393, 0, none⟩ = some (.bool true) := (blk_cell BK393.out 0).trans rfl
               have hcz113_1 : w78.cell? ⟨gb393, 1, none⟩ = some (.bool true) := (blk_cell BK393.out 1).trans rfl
               have hcz113_2 : w78.cell? ⟨gb393, 2, none⟩ = some (.slice A392_0 (rd_L5 t368 x15_2).length c392_0) := (blk_cell BK393.out 2).trans rfl
               have hcz113_3 : w78.cell? ⟨gb393, 3, none⟩ = some (.slice Ao50 t384.length co50) := (blk_cell BK393.out 3).trans rfl
               have hfz113_0 := blk_frozen BK393.out 0
               have hfz113_1 := blk_frozen BK393.out 1
               have hfz113_2 := blk_frozen BK393.out 2
               have hfz113_3 := blk_frozen BK393.out 3
               go_wp2_with (first | ((with_reducible refine gate_callee (f := 17) rfl ?_); refine goesL_ (some 110) rfl rfl Try.func17 (by kernel_rfl) rfl #[.agg #[.slice Ao16 t358.length co16, .int .i64 t361, .int .i64 t362, .int .i64 t363], .agg #[.bool true, .bool true, .slice A392_0 (rd_L5 t368 x15_2).length c392_0, .slice Ao50 t384.length co50]] rfl (by (try simp only [List.map_toArray, List.map_cons, List.map_nil]); first | done | rfl | (simp only [List.length_drop, List.length_take]; rfl)) ?_; (with_reducible refine (index_Empty.calls k2 _ _ t358 t361 t362 t363 true true _ _ (rd_L5 t368 x15_2) _ _ t384 t396 _ ?side1 ?side2 ?side3 ?side4 ?side5 ?side6 A79.out).mono ?_); (case side1 => repeat (first | exact (Kd.R_reads' HO_365000.out).2.2 | (with_reducible refine Kd.C_alloc ?_ _) | (with_reducible refine Kd.C_drewN ?_ _) | (with_reducible refine Kd.C_drew ?_))); (case side2 => exact (Kd.R_reads' HO_365000.out).2.1); (case side3 => repeat (first | exact (by repeat (first | (with_reducible exact HR392_0.out) | (with_reducible refine Kd.C_alloc ?_ _) | (with_reducible refine Kd.C_drewN ?_ _) | (with_reducible refine Kd.C_drew ?_) | exact HR392_0.out)) | (with_reducible refine Kd.C_alloc ?_ _) | (with_reducible refine Kd.C_drewN ?_ _) | (with_reducible refine Kd.C_drew ?_))); (case side4 => exact HC392_0.out); (case side5 => repeat (first | exact (Kd.R_reads' HO_13.out).2.2 | (with_reducible refine Kd.C_alloc ?_ _) | (with_reducible refine Kd.C_drewN ?_ _) | (with_reducible refine Kd.C_drew ?_))); (case side6 => exact (Kd.R_reads' HO_13.out).2.1); rintro e w114 ⟨rfl, hb⟩; refine ⟨_, rfl, ?_⟩; have n0_ := Aside0.mk (Kd.N_below (by (with_reducible repeat (first | apply Kd.N_alloc | apply Kd.N_drewN | apply Kd.N_drew)); exact HO_9.out) hb); have n1_ := Aside0.mk (Kd.N_below (by (with_reducible repeat (first | apply Kd.N_alloc | apply Kd.N_drewN | apply Kd.N_drew)); exact HO_10.out) hb); have n2_ := Aside0.mk (Kd.R_below (by (with_reducible repeat (first | apply Kd.R_alloc | apply Kd.R_drewN | apply Kd.R_drew)); exact HO_13.out) hb); have n3_ := Aside0.mk (Kd.R_below (by (with_reducible repeat (first | apply Kd.R_alloc | apply Kd.R_drewN | apply Kd.R_drew)); exact HO_365000.out) hb); have n4_ := Aside0.mk (Kd.R_below (by (with_reducible repeat (first | apply Kd.R_alloc | apply Kd.R_drewN | apply Kd.R_drew)); exact HO_388002.out) hb); have n5_ := Aside0.mk (Kd.R_below (by (with_reducible repeat (first | apply Kd.R_alloc | apply Kd.R_drewN | apply Kd.R_drew)); exact HO_388003.out) hb); have n6_ := Aside0.mk (Kd.V_below (by (with_reducible repeat (first | apply Kd.V_alloc | apply Kd.V_drewN | apply Kd.V_drew)); exact HL388_0.out) hb); have n7_ := Aside0.mk (Kd.V_below (by (with_reducible repeat (first | apply Kd.V_alloc | apply Kd.V_drewN | apply Kd.V_drew)); exact HL390_0.out) hb); have n8_ := Aside0.mk (Kd.V_below (by (with_reducible repeat (first | apply Kd.V_alloc | apply Kd.V_drewN | apply Kd.V_drew)); exact HL392_0.out) hb); have n9_ := Aside0.mk (blk_below (g := gb356) (o := .cells #[.int .u8 a0_0, .int .u8 a0_1, .int .u8 a0_2, .int .u8 a0_3, .int .u8 a0_4, .int .u8 a0_5, .int .u8 a0_6, .int .u8 a0_7, .int .u8 a0_8, .int .u8 a0_9, .int .u8 a0_10, .int .u8 a0_11] 24 (0, 0)) (by (with_reducible repeat (first | refine blk_drewN ?_ _ | refine blk_drew ?_ | refine blk_alloc ?_ _)); exact BK356.out) hb); have n10_ := Aside0.mk (blk_below (g := gb364) (o := .cells #[.slice Ao16 t358.length co16, .int .i64 t361, .int .i64 t362, .int .i64 t363] 33 (0, 0)) (by (with_reducible repeat (first | refine blk_drewN ?_ _ | refine blk_drew ?_ | refine blk_alloc ?_ _)); exact BK364.out) hb); have n11_ := Aside0.mk (blk_below (g := gb387) (o := .cells #[.bool true, .bool true, .slice Ao50 t384.length co50, .slice Ao50 t384.length co50] 29 (0, 0)) (by (with_reducible repeat (first | refine blk_drewN ?_ _ | refine blk_drew ?_ | refine blk_alloc ?_ _)); exact BK387.out) hb); have n12_ := Aside0.mk (Kd.C_below (by repeat (first | (with_reducible exact HR388_0.out) | (with_reducible refine Kd.C_alloc ?_ _) | (with_reducible refine Kd.C_drewN ?_ _) | (with_reducible refine Kd.C_drew ?_) | exact HR388_0.out)) hb); have n13_ := Aside0.mk (Kd.C_below (by repeat (first | (with_reducible exact HR390_0.out) | (with_reducible refine Kd.C_alloc ?_ _) | (with_reducible refine Kd.C_drewN ?_ _) | (with_reducible refine Kd.C_drew ?_) | exact HR390_0.out)) hb); have n14_ := Aside0.mk (Kd.C_below (by repeat (first | (with_reducible exact HR392_0.out) | (with_reducible refine Kd.C_alloc ?_ _) | (with_reducible refine Kd.C_drewN ?_ _) | (with_reducible refine Kd.C_drew ?_) | exact HR392_0.out)) hb); have n15_ := Aside0.mk (blk_below (g := gb393) (o := .cells #[.bool true, .bool true, .slice A392_0 (rd_L5 t368 x15_2).length c392_0, .slice Ao50 t384.length co50] 29 (0, 0)) (by (with_reducible repeat (first | refine blk_drewN ?_ _ | refine blk_drew ?_ | refine blk_alloc ?_ _)); exact BK393.out) hb); have n16_ := Aside0.mk (below_step (by repeat (first | (with_reducible first | exact HB.out | apply below_alloc | apply pw_below_drewN | apply below_drew1 | refine below_set ?_ GE356.out | refine below_set ?_ GE364.out | refine below_set ?_ GE387.out | refine below_set ?_ GE393.out) | exact HB.out)) hb); clear HO_9; clear HO_10; clear HO_13; clear HO_365000; clear HO_388002; clear HO_388003; clear HL388_0; clear HL390_0; clear HL392_0; clear BK356; clear BK364; clear BK387; clear HR388_0; clear HR390_0; clear HR392_0; clear BK393; clear HB; have HO_9 := n0_; have HO_10 := n1_; have HO_13 := n2_; have HO_365000 := n3_; have HO_388002 := n4_; have HO_388003 := n5_; have HL388_0 := n6_; have HL390_0 := n7_; have HL392_0 := n8_; have BK356 := n9_; have BK364 := n10_; have BK387 := n11_; have HR388_0 := n12_; have HR390_0 := n13_; have HR392_0 := n14_; have BK393 := n15_; have HB := n16_; clear n0_ n1_ n2_ n3_ n4_ n5_ n6_ n7_ n8_ n9_ n10_ n11_ n12_ n13_ n14_ n15_ n16_; (try clear hb); (try clear hb2); (try clear hk); (try clear hi)))
               go_meet
               case rel => exact ⟨_, (false), (by first | rfl | (simp; done) | (simp [*]; done)), (by first | exact H' | (subst_vars; exact H')), ⟨by have := HJ9.out; have := HK2.out; first | omega | exact Nat.le_refl _⟩, ⟨by (with_reducible repeat (first | apply Kd.N_alloc | apply Kd.N_drewN | apply Kd.N_drew)); exact Kd.N_mono HO_9.out (fun _ hk => ⟨hk.1.1, ⟨hk.1.2.1, ⟨hk.1.2.2.1, ⟨hk.1.2.2.2.1, ⟨hk.1.2.2.2.2.1, ⟨hk.1.2.2.2.2.2.1, ⟨hk.1.2.2.2.2.2.2.1, hk.1.2.2.2.2.2.2.2⟩⟩⟩⟩⟩⟩⟩)⟩, ⟨by (with_reducible repeat (first | apply Kd.N_alloc | apply Kd.N_drewN | apply Kd.N_drew)); exact Kd.N_mono HO_10.out (fun _ hk => ⟨hk.1.1, ⟨hk.1.2.1, ⟨hk.1.2.2.1, ⟨hk.1.2.2.2.1, ⟨hk.1.2.2.2.2.1, ⟨hk.1.2.2.2.2.2.1, ⟨hk.1.2.2.2.2.2.2.1, hk.1.2.2.2.2.2.2.2⟩⟩⟩⟩⟩⟩⟩)⟩, ⟨by (with_reducible repeat (first | apply Kd.R_alloc | apply Kd.R_drewN | apply Kd.R_drew)); exact HO_13.out⟩, ⟨by (with_reducible repeat (first | apply Kd.R_alloc | apply Kd.R_drewN | apply Kd.R_drew)); exact HO_365000.out⟩, ⟨by (with_reducible repeat (first | apply Kd.R_alloc | apply Kd.R_drewN | apply Kd.R_drew)); exact HO_388002.out⟩, ⟨by (with_reducible repeat (first | apply Kd.R_alloc | apply Kd.R_drewN | apply Kd.R_drew)); exact HO_388003.out⟩, ⟨by (with_reducible repeat (first | refine blk_drewN ?_ _ | refine blk_drew ?_ | refine blk_alloc ?_ _)); exact BK356.out⟩, ⟨by (with_reducible repeat (first | refine blk_drewN ?_ _ | refine blk_drew ?_ | refine blk_alloc ?_ _)); exact BK364.out⟩, ⟨by (with_reducible repeat (first | refine blk_drewN ?_ _ | refine blk_drew ?_ | refine blk_alloc ?_ _)); exact BK387.out⟩, ⟨by repeat (first | (with_reducible exact HR388_0.out) | (with_reducible refine Kd.C_alloc ?_ _) | (with_reducible refine Kd.C_drewN ?_ _) | (with_reducible refine Kd.C_drew ?_) | exact HR388_0.out)⟩, ⟨by repeat (first | (with_reducible exact HR390_0.out) | (with_reducible refine Kd.C_alloc ?_ _) | (with_reducible refine Kd.C_drewN ?_ _) | (with_reducible refine Kd.C_drew ?_) | exact HR390_0.out)⟩, ⟨by repeat (first | (with_reducible exact HR392_0.out) | (with_reducible refine Kd.C_alloc ?_ _) | (with_reducible refine Kd.C_drewN ?_ _) | (with_reducible refine Kd.C_drew ?_) | exact HR392_0.out)⟩, ⟨by repeat (first | (with_reducible first | exact HB.out | apply below_alloc | apply pw_below_drewN | apply below_drew1 | refine below_set ?_ GE356.out | refine below_set ?_ GE364.out | refine below_set ?_ GE387.out | refine below_set ?_ GE393.out) | exact HB.out)⟩⟩
            case rest =>
             clear HC65
             try clear c1
             try clear c2
             try clear p2
             try clear c3
             try clear p3
             try clear q3
             try clear hx3
             try clear c5
             try clear c7
             try clear c8
             try clear c9
             try clear c10
             try clear c11
             try clear c12
             try clear c15
             try clear c17
             try clear c20
             try clear c38
             try clear p38
             try clear q38
             try clear hx38
             try clear c39
             try clear p39
             try clear q39
             try clear hx39
             try clear c59
             try clear c59b0
             try clear c59b1
             try clear c59b2
             try clear c71
             try clear c72
             try clear c73
             try clear c75
             try clear c76
             try clear c80
             try clear c80b0
             try clear c80b1
             try clear c80b2
             try clear c81
             try clear c82
             try clear c83
             try clear c85
             try clear c86
             try clear c89
             try clear c89b0
             try clear c90
             try clear c90b0
             try clear c90b1
             try clear c91
             try clear c92
             try clear c93
             try clear c95
             try clear c96
             try clear c99
             try clear c100
             try clear c101
             try clear c103
             try clear c104
             try clear c107
             try clear c108
             try clear c109
             try clear c111
             try clear c112
             try clear hcz102_0
             try clear hcz102_1
             try clear hcz102_2
             try clear hcz102_3
             try clear hcz105_0
             try clear hcz105_1
             try clear hcz105_2
             try clear hcz105_3
             try clear hcz110_0
             try clear hcz110_1
             try clear hcz110_2
             try clear hcz110_3
             try clear hcz113_0
             try clear hcz113_1
             try clear hcz113_2
             try clear hcz113_3
             try clear hcz74_0
             try clear hcz74_1
             try clear hcz74_2
             try clear hcz74_3
             try clear hcz77_0
             try clear hcz77_1
             try clear hcz77_2
             try clear hcz77_3
             try clear hcz84_0
             try clear hcz84_1
             try clear hcz84_2
             try clear hcz84_3
             try clear hcz87_0
             try clear hcz87_1
             try clear hcz87_2
             try clear hcz87_3
             try clear hcz94_0
             try clear hcz94_1
             try clear hcz94_2
             try clear hcz94_3
             try clear hcz97_0
             try clear hcz97_1
             try clear hcz97_2
             try clear hcz97_3
             try clear hfz102_0
             try clear hfz102_1
             try clear hfz102_2
             try clear hfz102_3
             try clear hfz105_0
             try clear hfz105_1
             try clear hfz105_2
             try clear hfz105_3
             try clear hfz110_0
             try clear hfz110_1
             try clear hfz110_2
             try clear hfz110_3
             try clear hfz113_0
             try clear hfz113_1
             try clear hfz113_2
             try clear hfz113_3
             try clear hfz74_0
             try clear hfz74_1
             try clear hfz74_2
             try clear hfz74_3
             try clear hfz77_0
             try clear hfz77_1
             try clear hfz77_2
             try clear hfz77_3
             try clear hfz84_0
             try clear hfz84_1
             try clear hfz84_2
             try clear hfz84_3
             try clear hfz87_0
             try clear hfz87_1
             try clear hfz87_2
             try clear hfz87_3
             try clear hfz94_0
             try clear hfz94_1
             try clear hfz94_2
             try clear hfz94_3
             try clear hfz97_0
             try clear hfz97_1
             try clear hfz97_2
             try clear hfz97_3
             try clear hx388_0
             try clear hx390_0
             try clear hx392_0
             try clear p388
             try clear p390
             try clear p392
             try clear q388
             try clear q390
             try clear q392
             obtain ⟨kq, x125_64, rfl, HA, HJ64, HO_9, HO_10, HO_13, HO_365000, HO_388002, HO_388003, BK356, BK364, BK387, HR388_0, HR390_0, HR392_0, HB⟩ := hcut
             cases kq with
             | zero => exact absurd HA.out (by simp [thresherlaw12_IndexWhole.j2])
             | succ kj64 =>
              have H := HA.out
              clear HA
              simp only [thresherlaw12_IndexWhole.j2] at H
              by_cases c115 : x125_64 = true
              ·subst c115
               have H1 : (some false) = some r := by rw [if_pos rfl] at H; exact H
               clear H
               have H := H1
               clear H1
               obtain rfl := Option.some.inj H
               go_wp2
               go_ret
               exact ⟨by first | rfl | (simp [errW_none, errW_some] <;> rfl) | (simp only [← hji44]; first | rfl | (simp [errW_none, errW_some] <;> rfl)) | (simp [*, errW_none, errW_some] <;> rfl), by repeat (first | (with_reducible first | exact HB.out | apply below_alloc | apply pw_below_drewN | apply below_drew1 | refine below_set ?_ GE356.out | refine below_set ?_ GE364.out | refine below_set ?_ GE387.out) | exact HB.out)⟩
              ·replace c115 := Bool.eq_false_iff.mpr c115
               subst c115
               have H1 : (thresherlaw12_IndexWhole.l0 kj64 t357 t368 t371 t384 (wrap64 (x15_2 + 1)) t358 t361 t362 t363 true true t384 t384) = some r := by rw [if_neg (show ¬ (false = true) by decide)] at H; exact H
               clear H
               have H := H1
               clear H1
               have H' := Aside0.mk H
               clear H
               go_wp2
               go_roundg kj64
               case measure => have := HJ9.out; have := HK2.out; have := HJ64.out; omega
               case rel => exact ⟨(wrap64 (x15_2 + 1)), (by first | rfl | (simp; done) | (simp [*]; done)), (by first | exact H' | (subst_vars; exact H')), ⟨by have := HJ9.out; have := HK2.out; have := HJ64.out; omega⟩, ⟨by (with_reducible repeat (first | apply Kd.N_alloc | apply Kd.N_drewN | apply Kd.N_drew)); exact HO_9.out⟩, ⟨by (with_reducible repeat (first | apply Kd.N_alloc | apply Kd.N_drewN | apply Kd.N_drew)); exact HO_10.out⟩, ⟨by (with_reducible repeat (first | apply Kd.R_alloc | apply Kd.R_drewN | apply Kd.R_drew)); exact HO_13.out⟩, ⟨by (with_reducible repeat (first | apply Kd.R_alloc | apply Kd.R_drewN | apply Kd.R_drew)); exact HO_365000.out⟩, ⟨by (with_reducible repeat (first | apply Kd.R_alloc | apply Kd.R_drewN | apply Kd.R_drew)); exact HO_388002.out⟩, ⟨by (with_reducible repeat (first | apply Kd.R_alloc | apply Kd.R_drewN | apply Kd.R_drew)); exact HO_388003.out⟩, ⟨by (with_reducible repeat (first | refine blk_drewN ?_ _ | refine blk_drew ?_ | refine blk_alloc ?_ _)); exact BK356.out⟩, ⟨by (with_reducible repeat (first | refine blk_drewN ?_ _ | refine blk_drew ?_ | refine blk_alloc ?_ _)); exact BK364.out⟩, ⟨by (with_reducible repeat (first | refine blk_drewN ?_ _ | refine blk_drew ?_ | refine blk_alloc ?_ _)); exact BK387.out⟩, ⟨by repeat (first | (with_reducible first | exact HB.out | apply below_alloc | apply pw_below_drewN | apply below_drew1 | refine below_set ?_ GE356.out | refine below_set ?_ GE364.out | refine below_set ?_ GE387.out) | exact HB.out)⟩⟩
          ·rw [if_neg c56] at H
           exact absurd H (by simp)
         ·rw [if_neg c55] at H
          have c55b0 : decide (x15_2 < (t368.length : Int)) = false := decide_eq_false c55
          clear c55
          obtain rfl := Option.some.inj H
          go_wp2
          go_ret
          exact ⟨by first | rfl | (simp [errW_none, errW_some] <;> rfl) | (simp only [← hji44]; first | rfl | (simp [errW_none, errW_some] <;> rfl)) | (simp [*, errW_none, errW_some] <;> rfl), by repeat (first | (with_reducible first | exact HB.out | apply below_alloc | apply pw_below_drewN | apply below_drew1 | refine below_set ?_ GE356.out | refine below_set ?_ GE364.out | refine below_set ?_ GE387.out) | exact HB.out)⟩
      ·rw [if_neg c46] at H
       exact absurd H (by simp)
     ·rw [if_neg c45] at H
      exact absurd H (by simp)

end Go.Proofs.Ytfccebnoflhkcaa.P

