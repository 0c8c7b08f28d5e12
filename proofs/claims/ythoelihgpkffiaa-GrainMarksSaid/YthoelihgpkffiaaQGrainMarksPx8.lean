/- Texts of GrainMarks. Merged: Px8. -/
import Derived.Test.YthoelihgpkffiaaQGrainMarksPx0
import Derived.Test.YthoelihgpkffiaaQGrainMarksPx2
import Derived.Test.YthoelihgpkffiaaQGrainMarksPx4
import Derived.Test.YthoelihgpkffiaaQGrainMarksPx5
import Derived.Test.YthoelihgpkffiaaQGrainMarksPx6
import Derived.Test.YthoelihgpkffiaaQGrainMarksPx7
-- Written by wip/tools/myprint.py over the kit's print (a program's print; Lean checks it).
namespace Go.Proofs.Ythoelihgpkffiaa.P
open Go.RowKit Go.Proofs.YthoelihgpkffiaaW.PrintWords Go.Proofs.YthoelihgpkffiaaW.PrintLast Go.Proofs.YthoelihgpkffiaaW.PrintMore
attribute [local go_sem] max2_int min2_int max_two min_two max_three min_three max_four min_four   -- for this text's walks alone
set_option linter.unusedVariables false
set_option linter.unusedSimpArgs false

/-! ### thresherlaw10_GrainMarks: function 3 -/
mutual
def thresherlaw10_GrainMarks.j0 : Nat → Bool → List (List (List (S45))) → List (List (S45)) → Bool → List Int → Int → Int → Int → Option (Bool)
 | 0, _, _, _, _, _, _, _, _ => none
 | k + 1, x5, x8, x9, x38, x261000, x261001, x261002, x261003 => if x38 = true then (some false) else (thresherlaw10_GrainMarks.l0 k x5 x8 x9 0 x261000 x261001 x261002 x261003)
def thresherlaw10_GrainMarks.l0 : Nat → Bool → List (List (List (S45))) → List (List (S45)) → Int → List Int → Int → Int → Int → Option (Bool)
 | 0, _, _, _, _, _, _, _, _ => none
 | k + 1, x5, x8, x9, x11, x261000, x261001, x261002, x261003 => if x11 < (x8.length : Int) then (thresherlaw10_GrainMarks.l1 k x5 x8 x9 x11 0 x261000 x261001 x261002 x261003) else (some x5)
def thresherlaw10_GrainMarks.l1 : Nat → Bool → List (List (List (S45))) → List (List (S45)) → Int → Int → List Int → Int → Int → Int → Option (Bool)
 | 0, _, _, _, _, _, _, _, _, _ => none
 | k + 1, x5, x8, x9, x11, x12, x261000, x261001, x261002, x261003 => if 0 ≤ x11 then (if x11 < (x8.length : Int) then (if x12 < ((rd_L4 x8 x11).length : Int) then (if 0 ≤ x12 then (if x11 < (x9.length : Int) then ((thresherref04_Compare.f k x261000 x261001 x261002 x261003 (rd_L3 (rd_L4 x8 x11) x12) (rd_L3 x9 x11)).bind fun t278 => (if t278 < 0 then (some false) else (if (wrap64 (x11 + 1)) < (x9.length : Int) then (if 0 ≤ (wrap64 (x11 + 1)) then ((thresherref04_Compare.f k x261000 x261001 x261002 x261003 (rd_L3 (rd_L4 x8 x11) x12) (rd_L3 x9 (wrap64 (x11 + 1)))).bind fun t282 => (if t282 > 0 then (some false) else (thresherlaw10_GrainMarks.l1 k x5 x8 x9 x11 (wrap64 (x12 + 1)) x261000 x261001 x261002 x261003))) else (none)) else (thresherlaw10_GrainMarks.l1 k x5 x8 x9 x11 (wrap64 (x12 + 1)) x261000 x261001 x261002 x261003)))) else (none)) else (none)) else (thresherlaw10_GrainMarks.l0 k x5 x8 x9 (wrap64 (x11 + 1)) x261000 x261001 x261002 x261003)) else (none)) else (none)
end
def thresherlaw10_GrainMarks.f (k : Nat) (a0_0 : Int) (a0_1 : Int) (a0_2 : Int) (a0_3 : Int) (a0_4 : Int) (a0_5 : Int) (a0_6 : Int) (a0_7 : Int) (a0_8 : Int) (a0_9 : Int) (a0_10 : Int) (a0_11 : Int) (l1 : List (List (S45))) : Option (Bool) := (thresherlaw10_shown.f k).bind fun t253 => ((thresherlaw10_made.f k a0_0 a0_1 a0_2 a0_3 a0_4 a0_5 a0_6 a0_7 a0_8 a0_9 a0_10 a0_11).bind fun bt254 => ((thresherref04_Fits.f k bt254.1 bt254.2.1 bt254.2.2.1 bt254.2.2.2 l1 60).bind fun t261 => ((thresherref09_Sort.f k bt254.1 bt254.2.1 bt254.2.2.1 bt254.2.2.2 t261).bind fun t264 => ((grain_Split.f k bt254.1 bt254.2.1 bt254.2.2.1 bt254.2.2.2 t264).bind fun t267 => ((grain_Marks.f k bt254.1 bt254.2.1 bt254.2.2.1 bt254.2.2.2 t264).bind fun t270 => ((thresherref09_Sorted.f k bt254.1 bt254.2.1 bt254.2.2.1 bt254.2.2.2 t270).bind fun t273 => (if (t267.length : Int) = (t270.length : Int) then (thresherlaw10_GrainMarks.j0 k t253 t267 t270 (!t273) bt254.1 bt254.2.1 bt254.2.2.1 bt254.2.2.2) else (thresherlaw10_GrainMarks.j0 k t253 t267 t270 true bt254.1 bt254.2.1 bt254.2.2.1 bt254.2.2.2))))))))
theorem thresherlaw10_GrainMarks.mono_l : ∀ k, (∀ y0 y1 y2 y3 y4 y5 y6 y7, LeO (thresherlaw10_GrainMarks.j0 k y0 y1 y2 y3 y4 y5 y6 y7) (thresherlaw10_GrainMarks.j0 (k + 1) y0 y1 y2 y3 y4 y5 y6 y7)) ∧ (∀ y0 y1 y2 y3 y4 y5 y6 y7, LeO (thresherlaw10_GrainMarks.l0 k y0 y1 y2 y3 y4 y5 y6 y7) (thresherlaw10_GrainMarks.l0 (k + 1) y0 y1 y2 y3 y4 y5 y6 y7)) ∧ (∀ y0 y1 y2 y3 y4 y5 y6 y7 y8, LeO (thresherlaw10_GrainMarks.l1 k y0 y1 y2 y3 y4 y5 y6 y7 y8) (thresherlaw10_GrainMarks.l1 (k + 1) y0 y1 y2 y3 y4 y5 y6 y7 y8))
 | 0 => ⟨fun _ _ _ _ _ _ _ _ r h => by simp [thresherlaw10_GrainMarks.j0] at h, fun _ _ _ _ _ _ _ _ r h => by simp [thresherlaw10_GrainMarks.l0] at h, fun _ _ _ _ _ _ _ _ _ r h => by simp [thresherlaw10_GrainMarks.l1] at h⟩
 | k + 1 => by
  obtain ⟨ih0, ih1, ih2⟩ := thresherlaw10_GrainMarks.mono_l k
  refine ⟨?_, ?_, ?_⟩
  ·intro y0 y1 y2 y3 y4 y5 y6 y7
   unfold thresherlaw10_GrainMarks.j0
   repeat' first
   | (with_reducible exact ih0 _ _ _ _ _ _ _ _)
   | (with_reducible exact ih1 _ _ _ _ _ _ _ _)
   | (with_reducible exact ih2 _ _ _ _ _ _ _ _ _)
   | (with_reducible exact grain_Marks.mono _ _ _ _ _ _)
   | (with_reducible exact grain_Split.mono _ _ _ _ _ _)
   | (with_reducible exact thresherlaw10_made.mono _ _ _ _ _ _ _ _ _ _ _ _ _)
   | (with_reducible exact thresherlaw10_shown.mono _)
   | (with_reducible exact thresherref04_Compare.mono _ _ _ _ _ _ _)
   | (with_reducible exact thresherref04_Fits.mono _ _ _ _ _ _ _)
   | (with_reducible exact thresherref09_Sort.mono _ _ _ _ _ _)
   | (with_reducible exact thresherref09_Sorted.mono _ _ _ _ _ _)
   | (with_reducible exact LeO.refl _)
   | (with_reducible exact LeO.none _)
   | (with_reducible refine LeO.ite ?_ ?_)
   | (with_reducible refine LeO.bind ?_ (fun _ => ?_))
   | exact ih0 _ _ _ _ _ _ _ _
   | exact ih1 _ _ _ _ _ _ _ _
   | exact ih2 _ _ _ _ _ _ _ _ _
   | exact grain_Marks.mono _ _ _ _ _ _
   | exact grain_Split.mono _ _ _ _ _ _
   | exact thresherlaw10_made.mono _ _ _ _ _ _ _ _ _ _ _ _ _
   | exact thresherlaw10_shown.mono _
   | exact thresherref04_Compare.mono _ _ _ _ _ _ _
   | exact thresherref04_Fits.mono _ _ _ _ _ _ _
   | exact thresherref09_Sort.mono _ _ _ _ _ _
   | exact thresherref09_Sorted.mono _ _ _ _ _ _
   | exact LeO.none _
   | refine LeO.ite ?_ ?_
   | refine LeO.bind ?_ (fun _ => ?_)
  ·intro y0 y1 y2 y3 y4 y5 y6 y7
   unfold thresherlaw10_GrainMarks.l0
   repeat' first
   | (with_reducible exact ih0 _ _ _ _ _ _ _ _)
   | (with_reducible exact ih1 _ _ _ _ _ _ _ _)
   | (with_reducible exact ih2 _ _ _ _ _ _ _ _ _)
   | (with_reducible exact grain_Marks.mono _ _ _ _ _ _)
   | (with_reducible exact grain_Split.mono _ _ _ _ _ _)
   | (with_reducible exact thresherlaw10_made.mono _ _ _ _ _ _ _ _ _ _ _ _ _)
   | (with_reducible exact thresherlaw10_shown.mono _)
   | (with_reducible exact thresherref04_Compare.mono _ _ _ _ _ _ _)
   | (with_reducible exact thresherref04_Fits.mono _ _ _ _ _ _ _)
   | (with_reducible exact thresherref09_Sort.mono _ _ _ _ _ _)
   | (with_reducible exact thresherref09_Sorted.mono _ _ _ _ _ _)
   | (with_reducible exact LeO.refl _)
   | (with_reducible exact LeO.none _)
   | (with_reducible refine LeO.ite ?_ ?_)
   | (with_reducible refine LeO.bind ?_ (fun _ => ?_))
   | exact ih0 _ _ _ _ _ _ _ _
   | exact ih1 _ _ _ _ _ _ _ _
   | exact ih2 _ _ _ _ _ _ _ _ _
   | exact grain_Marks.mono _ _ _ _ _ _
   | exact grain_Split.mono _ _ _ _ _ _
   | exact thresherlaw10_made.mono _ _ _ _ _ _ _ _ _ _ _ _ _
   | exact thresherlaw10_shown.mono _
   | exact thresherref04_Compare.mono _ _ _ _ _ _ _
   | exact thresherref04_Fits.mono _ _ _ _ _ _ _
   | exact thresherref09_Sort.mono _ _ _ _ _ _
   | exact thresherref09_Sorted.mono _ _ _ _ _ _
   | exact LeO.none _
   | refine LeO.ite ?_ ?_
   | refine LeO.bind ?_ (fun _ => ?_)
  ·intro y0 y1 y2 y3 y4 y5 y6 y7 y8
   unfold thresherlaw10_GrainMarks.l1
   repeat' first
   | (with_reducible exact ih0 _ _ _ _ _ _ _ _)
   | (with_reducible exact ih1 _ _ _ _ _ _ _ _)
   | (with_reducible exact ih2 _ _ _ _ _ _ _ _ _)
   | (with_reducible exact grain_Marks.mono _ _ _ _ _ _)
   | (with_reducible exact grain_Split.mono _ _ _ _ _ _)
   | (with_reducible exact thresherlaw10_made.mono _ _ _ _ _ _ _ _ _ _ _ _ _)
   | (with_reducible exact thresherlaw10_shown.mono _)
   | (with_reducible exact thresherref04_Compare.mono _ _ _ _ _ _ _)
   | (with_reducible exact thresherref04_Fits.mono _ _ _ _ _ _ _)
   | (with_reducible exact thresherref09_Sort.mono _ _ _ _ _ _)
   | (with_reducible exact thresherref09_Sorted.mono _ _ _ _ _ _)
   | (with_reducible exact LeO.refl _)
   | (with_reducible exact LeO.none _)
   | (with_reducible refine LeO.ite ?_ ?_)
   | (with_reducible refine LeO.bind ?_ (fun _ => ?_))
   | exact ih0 _ _ _ _ _ _ _ _
   | exact ih1 _ _ _ _ _ _ _ _
   | exact ih2 _ _ _ _ _ _ _ _ _
   | exact grain_Marks.mono _ _ _ _ _ _
   | exact grain_Split.mono _ _ _ _ _ _
   | exact thresherlaw10_made.mono _ _ _ _ _ _ _ _ _ _ _ _ _
   | exact thresherlaw10_shown.mono _
   | exact thresherref04_Compare.mono _ _ _ _ _ _ _
   | exact thresherref04_Fits.mono _ _ _ _ _ _ _
   | exact thresherref09_Sort.mono _ _ _ _ _ _
   | exact thresherref09_Sorted.mono _ _ _ _ _ _
   | exact LeO.none _
   | refine LeO.ite ?_ ?_
   | refine LeO.bind ?_ (fun _ => ?_)
theorem thresherlaw10_GrainMarks.mono : ∀ a0 a1 a2 a3 a4 a5 a6 a7 a8 a9 a10 a11 a12 k, LeO (thresherlaw10_GrainMarks.f k a0 a1 a2 a3 a4 a5 a6 a7 a8 a9 a10 a11 a12) (thresherlaw10_GrainMarks.f (k + 1) a0 a1 a2 a3 a4 a5 a6 a7 a8 a9 a10 a11 a12) := by
 intro a0 a1 a2 a3 a4 a5 a6 a7 a8 a9 a10 a11 a12 k
 obtain ⟨ih0, ih1, ih2⟩ := thresherlaw10_GrainMarks.mono_l k
 unfold thresherlaw10_GrainMarks.f
 repeat' first
   | (with_reducible exact ih0 _ _ _ _ _ _ _ _)
   | (with_reducible exact ih1 _ _ _ _ _ _ _ _)
   | (with_reducible exact ih2 _ _ _ _ _ _ _ _ _)
   | (with_reducible exact grain_Marks.mono _ _ _ _ _ _)
   | (with_reducible exact grain_Split.mono _ _ _ _ _ _)
   | (with_reducible exact thresherlaw10_made.mono _ _ _ _ _ _ _ _ _ _ _ _ _)
   | (with_reducible exact thresherlaw10_shown.mono _)
   | (with_reducible exact thresherref04_Compare.mono _ _ _ _ _ _ _)
   | (with_reducible exact thresherref04_Fits.mono _ _ _ _ _ _ _)
   | (with_reducible exact thresherref09_Sort.mono _ _ _ _ _ _)
   | (with_reducible exact thresherref09_Sorted.mono _ _ _ _ _ _)
   | (with_reducible exact LeO.refl _)
   | (with_reducible exact LeO.none _)
   | (with_reducible refine LeO.ite ?_ ?_)
   | (with_reducible refine LeO.bind ?_ (fun _ => ?_))
   | exact ih0 _ _ _ _ _ _ _ _
   | exact ih1 _ _ _ _ _ _ _ _
   | exact ih2 _ _ _ _ _ _ _ _ _
   | exact grain_Marks.mono _ _ _ _ _ _
   | exact grain_Split.mono _ _ _ _ _ _
   | exact thresherlaw10_made.mono _ _ _ _ _ _ _ _ _ _ _ _ _
   | exact thresherlaw10_shown.mono _
   | exact thresherref04_Compare.mono _ _ _ _ _ _ _
   | exact thresherref04_Fits.mono _ _ _ _ _ _ _
   | exact thresherref09_Sort.mono _ _ _ _ _ _
   | exact thresherref09_Sorted.mono _ _ _ _ _ _
   | exact LeO.none _
   | refine LeO.ite ?_ ?_
   | refine LeO.bind ?_ (fun _ => ?_)
def thresherlaw10_GrainMarks.T15 : Bool × List (List Nat × List Nat) := (true, [([], []), ([], []), ([], []), ([1, 2], [1, 2]), ([3], [3]), ([], []), ([4, 5], [4, 5]), ([6], [6]), ([], []), ([], []), ([8, 9], [8, 9]), ([10], [10]), ([0, 7, 11], [0, 7, 11]), ([12], [12]), ([13, 12], [13]), ([14], [14]), ([15, 14], [14, 15]), ([14], [14]), ([17, 14], [14, 17]), ([16, 18, 14], [14, 16, 18]), ([19, 14, 14], [14, 19]), ([20], [20]), ([20], [20]), ([20], [20]), ([22, 23, 20], [20, 22, 23]), ([24, 20], [20, 24]), ([20], [20]), ([25, 26, 20], [20, 25, 26]), ([27, 20], [20, 27]), ([20], [20]), ([20], [20]), ([30, 20], [20, 30]), ([29, 31, 20], [20, 29, 31]), ([32, 20], [20, 32]), ([21, 28, 33, 20, 20], [20, 21, 28, 33]), ([34, 20], [20, 34]), ([20, 35, 14], [14, 20, 35]), ([14, 36], [14, 36])])
def thresherlaw10_GrainMarks.B15 : List Nat := [0, 0, 0, 6, 14, 0, 62, 126, 0, 0, 768, 1792, 4095, 8191, 16383, 32767, 65535, 32767, 163839, 524287, 1048575, 2097151, 2097151, 2097151, 14680063, 31457279, 2097151, 132120575, 266338303, 2097151, 2097151, 1075838975, 3760193535, 8055160831, 17179869183, 34359738367, 68719476735, 137438953471]
theorem thresherlaw10_GrainMarks.tab15 : rtab .any (opsOf Try.f3 15) = thresherlaw10_GrainMarks.T15 := by kernel_rfl
theorem thresherlaw10_GrainMarks.bits15 : waitsOk thresherlaw10_GrainMarks.T15.2 thresherlaw10_GrainMarks.B15 = true := by kernel_rfl
set_option maxHeartbeats 8000000 in
set_option maxRecDepth 100000 in
theorem thresherlaw10_GrainMarks.calls (k : Nat) (a0_0 : Int) (a0_1 : Int) (a0_2 : Int) (a0_3 : Int) (a0_4 : Int) (a0_5 : Int) (a0_6 : Int) (a0_7 : Int) (a0_8 : Int) (a0_9 : Int) (a0_10 : Int) (a0_11 : Int) (A1 : Option Addr) (c1 : Nat) (l1 : List (List (S45))) (r : Bool) (w : World) (hr1 : Kd.C (Kd.slice 45 k45) w A1 l1.length l1) (hc1 : l1.length ≤ c1) (h : thresherlaw10_GrainMarks.f k a0_0 a0_1 a0_2 a0_3 a0_4 a0_5 a0_6 a0_7 a0_8 a0_9 a0_10 a0_11 l1 = some r) :
  Calls Try.prog 3 #[.agg #[.int .u8 a0_0, .int .u8 a0_1, .int .u8 a0_2, .int .u8 a0_3, .int .u8 a0_4, .int .u8 a0_5, .int .u8 a0_6, .int .u8 a0_7, .int .u8 a0_8, .int .u8 a0_9, .int .u8 a0_10, .int .u8 a0_11], .slice A1 l1.length c1] w fun e w' => e = .returned (.bool r) ∧ Below w.heap.size w w' := by
 have hu24 := Try.underlying24
 have hu29 := Try.underlying29
 have HR1 := Aside0.mk hr1
 have HC1 := Aside0.mk hc1
 clear hr1 hc1
 have HB := Aside0.mk (Below.refl w.heap.size w)
 have H : ((thresherlaw10_shown.f k).bind fun t253 => ((thresherlaw10_made.f k a0_0 a0_1 a0_2 a0_3 a0_4 a0_5 a0_6 a0_7 a0_8 a0_9 a0_10 a0_11).bind fun bt254 => ((thresherref04_Fits.f k bt254.1 bt254.2.1 bt254.2.2.1 bt254.2.2.2 l1 60).bind fun t261 => ((thresherref09_Sort.f k bt254.1 bt254.2.1 bt254.2.2.1 bt254.2.2.2 t261).bind fun t264 => ((grain_Split.f k bt254.1 bt254.2.1 bt254.2.2.1 bt254.2.2.2 t264).bind fun t267 => ((grain_Marks.f k bt254.1 bt254.2.1 bt254.2.2.1 bt254.2.2.2 t264).bind fun t270 => ((thresherref09_Sorted.f k bt254.1 bt254.2.1 bt254.2.2.1 bt254.2.2.2 t270).bind fun t273 => (if (t267.length : Int) = (t270.length : Int) then (thresherlaw10_GrainMarks.j0 k t253 t267 t270 (!t273) bt254.1 bt254.2.1 bt254.2.2.1 bt254.2.2.2) else (thresherlaw10_GrainMarks.j0 k t253 t267 t270 true bt254.1 bt254.2.1 bt254.2.2.1 bt254.2.2.2))))))))) = some r := h
 clear h
 replace H := Option.bind_eq_some_iff.mp H
 obtain ⟨t253, A30, H⟩ := H
 replace H : ((thresherlaw10_made.f k a0_0 a0_1 a0_2 a0_3 a0_4 a0_5 a0_6 a0_7 a0_8 a0_9 a0_10 a0_11).bind fun bt254 => ((thresherref04_Fits.f k bt254.1 bt254.2.1 bt254.2.2.1 bt254.2.2.2 l1 60).bind fun t261 => ((thresherref09_Sort.f k bt254.1 bt254.2.1 bt254.2.2.1 bt254.2.2.2 t261).bind fun t264 => ((grain_Split.f k bt254.1 bt254.2.1 bt254.2.2.1 bt254.2.2.2 t264).bind fun t267 => ((grain_Marks.f k bt254.1 bt254.2.1 bt254.2.2.1 bt254.2.2.2 t264).bind fun t270 => ((thresherref09_Sorted.f k bt254.1 bt254.2.1 bt254.2.2.1 bt254.2.2.2 t270).bind fun t273 => (if (t267.length : Int) = (t270.length : Int) then (thresherlaw10_GrainMarks.j0 k t253 t267 t270 (!t273) bt254.1 bt254.2.1 bt254.2.2.1 bt254.2.2.2) else (thresherlaw10_GrainMarks.j0 k t253 t267 t270 true bt254.1 bt254.2.1 bt254.2.2.1 bt254.2.2.2)))))))) = some r := H
 have A3 := Aside0.mk A30
 clear A30
 replace H := Option.bind_eq_some_iff.mp H
 obtain ⟨⟨t254, t257, t258, t259⟩, A40, H⟩ := H
 replace H : ((thresherref04_Fits.f k t254 t257 t258 t259 l1 60).bind fun t261 => ((thresherref09_Sort.f k t254 t257 t258 t259 t261).bind fun t264 => ((grain_Split.f k t254 t257 t258 t259 t264).bind fun t267 => ((grain_Marks.f k t254 t257 t258 t259 t264).bind fun t270 => ((thresherref09_Sorted.f k t254 t257 t258 t259 t270).bind fun t273 => (if (t267.length : Int) = (t270.length : Int) then (thresherlaw10_GrainMarks.j0 k t253 t267 t270 (!t273) t254 t257 t258 t259) else (thresherlaw10_GrainMarks.j0 k t253 t267 t270 true t254 t257 t258 t259))))))) = some r := H
 have A4 := Aside0.mk A40
 clear A40
 replace H := Option.bind_eq_some_iff.mp H
 obtain ⟨t261, A50, H⟩ := H
 replace H : ((thresherref09_Sort.f k t254 t257 t258 t259 t261).bind fun t264 => ((grain_Split.f k t254 t257 t258 t259 t264).bind fun t267 => ((grain_Marks.f k t254 t257 t258 t259 t264).bind fun t270 => ((thresherref09_Sorted.f k t254 t257 t258 t259 t270).bind fun t273 => (if (t267.length : Int) = (t270.length : Int) then (thresherlaw10_GrainMarks.j0 k t253 t267 t270 (!t273) t254 t257 t258 t259) else (thresherlaw10_GrainMarks.j0 k t253 t267 t270 true t254 t257 t258 t259)))))) = some r := H
 have A5 := Aside0.mk A50
 clear A50
 replace H := Option.bind_eq_some_iff.mp H
 obtain ⟨t264, A60, H⟩ := H
 replace H : ((grain_Split.f k t254 t257 t258 t259 t264).bind fun t267 => ((grain_Marks.f k t254 t257 t258 t259 t264).bind fun t270 => ((thresherref09_Sorted.f k t254 t257 t258 t259 t270).bind fun t273 => (if (t267.length : Int) = (t270.length : Int) then (thresherlaw10_GrainMarks.j0 k t253 t267 t270 (!t273) t254 t257 t258 t259) else (thresherlaw10_GrainMarks.j0 k t253 t267 t270 true t254 t257 t258 t259))))) = some r := H
 have A6 := Aside0.mk A60
 clear A60
 replace H := Option.bind_eq_some_iff.mp H
 obtain ⟨t267, A70, H⟩ := H
 replace H : ((grain_Marks.f k t254 t257 t258 t259 t264).bind fun t270 => ((thresherref09_Sorted.f k t254 t257 t258 t259 t270).bind fun t273 => (if (t267.length : Int) = (t270.length : Int) then (thresherlaw10_GrainMarks.j0 k t253 t267 t270 (!t273) t254 t257 t258 t259) else (thresherlaw10_GrainMarks.j0 k t253 t267 t270 true t254 t257 t258 t259)))) = some r := H
 have A7 := Aside0.mk A70
 clear A70
 replace H := Option.bind_eq_some_iff.mp H
 obtain ⟨t270, A80, H⟩ := H
 replace H : ((thresherref09_Sorted.f k t254 t257 t258 t259 t270).bind fun t273 => (if (t267.length : Int) = (t270.length : Int) then (thresherlaw10_GrainMarks.j0 k t253 t267 t270 (!t273) t254 t257 t258 t259) else (thresherlaw10_GrainMarks.j0 k t253 t267 t270 true t254 t257 t258 t259))) = some r := H
 have A8 := Aside0.mk A80
 clear A80
 replace H := Option.bind_eq_some_iff.mp H
 obtain ⟨t273, A90, H⟩ := H
 replace H : (if (t267.length : Int) = (t270.length : Int) then (thresherlaw10_GrainMarks.j0 k t253 t267 t270 (!t273) t254 t257 t258 t259) else (thresherlaw10_GrainMarks.j0 k t253 t267 t270 true t254 t257 t258 t259)) = some r := H
 have A9 := Aside0.mk A90
 clear A90
 have HC10 := Aside0.mk H
 clear H
 go_enter Try.func3, Try.ntmps3
 try go_wp2_with (first | ((with_reducible refine gate_dst (N := 2) rfl ?_); (try (refine gate_guard (by rfl) ?_; dsimp only)); refine box_event ?hg (N := 2) ?hd (cs := #[.int .u8 a0_0, .int .u8 a0_1, .int .u8 a0_2, .int .u8 a0_3, .int .u8 a0_4, .int .u8 a0_5, .int .u8 a0_6, .int .u8 a0_7, .int .u8 a0_8, .int .u8 a0_9, .int .u8 a0_10, .int .u8 a0_11]) (t := 24) ?hr ?_; (case hd => rfl); (case hg => rfl); (case hr => first | (go_simp; done) | (go_simp; rfl)); intro gb252 hg w11 hbox hb; have n0_ := Aside0.mk (below_step (by repeat (first | (with_reducible first | exact HB.out | apply below_alloc | apply pw_below_drewN | apply below_drew1) | exact HB.out)) hb); have n1_ := Aside0.mk (hbox); have n2_ := Aside0.mk ((by rw [hg]; exact (below_size (by repeat (first | (with_reducible first | exact HB.out | apply below_alloc | apply pw_below_drewN | apply below_drew1) | exact HB.out))) : w.heap.size ≤ gb252)); have n3_ := Aside0.mk ((by rw [hg]; exact (below_size (by repeat (first | (with_reducible first | exact HB.out | apply below_alloc | apply pw_below_drewN | apply below_drew1) | exact HB.out))) : w.heap.size ≤ gb252)); clear HB; have HB := n0_; have BK252 := n1_; have GW252 := n2_; have GE252 := n3_; clear n0_ n1_ n2_ n3_; clear hb hbox hg) | ((with_reducible refine gate_callee (f := 7) rfl ?_); refine goesL_ (some 13) rfl rfl Try.func7 (by kernel_rfl) rfl #[] rfl (by (try simp only [List.map_toArray, List.map_cons, List.map_nil]); first | done | rfl | (simp only [List.length_drop, List.length_take]; rfl)) ?_; (with_reducible refine (thresherlaw10_shown.calls k  t253 _ A3.out).mono ?_); rintro e w12 ⟨rfl, hb⟩; refine ⟨_, rfl, ?_⟩; have n0_ := Aside0.mk (blk_below (g := gb252) (o := .cells #[.int .u8 a0_0, .int .u8 a0_1, .int .u8 a0_2, .int .u8 a0_3, .int .u8 a0_4, .int .u8 a0_5, .int .u8 a0_6, .int .u8 a0_7, .int .u8 a0_8, .int .u8 a0_9, .int .u8 a0_10, .int .u8 a0_11] 24 (0, 0)) (by (with_reducible repeat (first | refine blk_drewN ?_ _ | refine blk_drew ?_ | refine blk_alloc ?_ _)); exact BK252.out) hb); have n1_ := Aside0.mk (below_step (by repeat (first | (with_reducible first | exact HB.out | apply below_alloc | apply pw_below_drewN | apply below_drew1 | refine below_set ?_ GE252.out) | exact HB.out)) hb); clear BK252; clear HB; have BK252 := n0_; have HB := n1_; clear n0_ n1_; (try clear hb); (try clear hb2); (try clear hk); (try clear hi); have hcz13_0 : w12.cell? ⟨gb252, 0, none⟩ = some (.int .u8 a0_0) := (blk_cell BK252.out 0).trans rfl; have hcz13_1 : w12.cell? ⟨gb252, 1, none⟩ = some (.int .u8 a0_1) := (blk_cell BK252.out 1).trans rfl; have hcz13_2 : w12.cell? ⟨gb252, 2, none⟩ = some (.int .u8 a0_2) := (blk_cell BK252.out 2).trans rfl; have hcz13_3 : w12.cell? ⟨gb252, 3, none⟩ = some (.int .u8 a0_3) := (blk_cell BK252.out 3).trans rfl; have hcz13_4 : w12.cell? ⟨gb252, 4, none⟩ = some (.int .u8 a0_4) := (blk_cell BK252.out 4).trans rfl; have hcz13_5 : w12.cell? ⟨gb252, 5, none⟩ = some (.int .u8 a0_5) := (blk_cell BK252.out 5).trans rfl; have hcz13_6 : w12.cell? ⟨gb252, 6, none⟩ = some (.int .u8 a0_6) := (blk_cell BK252.out 6).trans rfl; have hcz13_7 : w12.cell? ⟨gb252, 7, none⟩ = some (.int .u8 a0_7) := (blk_cell BK252.out 7).trans rfl; have hcz13_8 : w12.cell? ⟨gb252, 8, none⟩ = some (.int .u8 a0_8) := (blk_cell BK252.out 8).trans rfl; have hcz13_9 : w12.cell? ⟨gb252, 9, none⟩ = some (.int .u8 a0_9) := (blk_cell BK252.out 9).trans rfl; have hcz13_10 : w12.cell? ⟨gb252, 10, none⟩ = some (.int .u8 a0_10) := (blk_cell BK252.out 10).trans rfl; have hcz13_11 : w12.cell? ⟨gb252, 11, none⟩ = some (.int .u8 a0_11) := (blk_cell BK252.out 11).trans rfl; have hfz13_0 := blk_frozen BK252.out 0; have hfz13_1 := blk_frozen BK252.out 1; have hfz13_2 := blk_frozen BK252.out 2; have hfz13_3 := blk_frozen BK252.out 3; have hfz13_4 := blk_frozen BK252.out 4; have hfz13_5 := blk_frozen BK252.out 5; have hfz13_6 := blk_frozen BK252.out 6; have hfz13_7 := blk_frozen BK252.out 7; have hfz13_8 := blk_frozen BK252.out 8; have hfz13_9 := blk_frozen BK252.out 9; have hfz13_10 := blk_frozen BK252.out 10; have hfz13_11 := blk_frozen BK252.out 11) | ((with_reducible refine gate_callee (f := 8) rfl ?_); refine goesL_ (some 15) rfl rfl Try.func8 (by kernel_rfl) rfl #[.agg #[.int .u8 a0_0, .int .u8 a0_1, .int .u8 a0_2, .int .u8 a0_3, .int .u8 a0_4, .int .u8 a0_5, .int .u8 a0_6, .int .u8 a0_7, .int .u8 a0_8, .int .u8 a0_9, .int .u8 a0_10, .int .u8 a0_11]] rfl (by (try simp only [List.map_toArray, List.map_cons, List.map_nil]); first | done | rfl | (simp only [List.length_drop, List.length_take]; rfl)) ?_; (with_reducible refine (thresherlaw10_made.calls k a0_0 a0_1 a0_2 a0_3 a0_4 a0_5 a0_6 a0_7 a0_8 a0_9 a0_10 a0_11 t254 t257 t258 t259 _ A4.out).mono ?_); rintro e w14 ⟨v255, rfl, ho0, hb⟩; refine ⟨_, rfl, ?_⟩; have n0_ := Aside0.mk (Kd.R_lower ho0 (below_size (by repeat (first | (with_reducible first | exact HB.out | apply below_alloc | apply pw_below_drewN | apply below_drew1 | refine below_set ?_ GE252.out) | exact HB.out)))); have n1_ := Aside0.mk (blk_below (g := gb252) (o := .cells #[.int .u8 a0_0, .int .u8 a0_1, .int .u8 a0_2, .int .u8 a0_3, .int .u8 a0_4, .int .u8 a0_5, .int .u8 a0_6, .int .u8 a0_7, .int .u8 a0_8, .int .u8 a0_9, .int .u8 a0_10, .int .u8 a0_11] 24 (0, 0)) (by (with_reducible repeat (first | refine blk_drewN ?_ _ | refine blk_drew ?_ | refine blk_alloc ?_ _)); exact BK252.out) hb); have n2_ := Aside0.mk (below_step (by repeat (first | (with_reducible first | exact HB.out | apply below_alloc | apply pw_below_drewN | apply below_drew1 | refine below_set ?_ GE252.out) | exact HB.out)) hb); clear BK252; clear HB; have HO256 := n0_; have BK252 := n1_; have HB := n2_; clear n0_ n1_ n2_; (try clear hb); (try clear hb2); (try clear hk); (try clear hi); (try clear ho0)) | ((with_reducible refine gate_dst (N := 6) rfl ?_); (try (refine gate_guard (by rfl) ?_; dsimp only)); refine box_event ?hg (N := 6) ?hd (cs := #[.slice none 0 0, .int .i64 0, .int .i64 0, .int .i64 0]) (t := 29) ?hr ?_; (case hd => rfl); (case hg => rfl); (case hr => first | (go_simp; done) | (go_simp; rfl)); intro gb260 hg w15 hbox hb; have n0_ := Aside0.mk (Kd.R_below (by (with_reducible repeat (first | apply Kd.R_alloc | apply Kd.R_drewN | apply Kd.R_drew)); exact HO256.out) hb); have n1_ := Aside0.mk (blk_below (g := gb252) (o := .cells #[.int .u8 a0_0, .int .u8 a0_1, .int .u8 a0_2, .int .u8 a0_3, .int .u8 a0_4, .int .u8 a0_5, .int .u8 a0_6, .int .u8 a0_7, .int .u8 a0_8, .int .u8 a0_9, .int .u8 a0_10, .int .u8 a0_11] 24 (0, 0)) (by (with_reducible repeat (first | refine blk_drewN ?_ _ | refine blk_drew ?_ | refine blk_alloc ?_ _)); exact BK252.out) hb); have n2_ := Aside0.mk (below_step (by repeat (first | (with_reducible first | exact HB.out | apply below_alloc | apply pw_below_drewN | apply below_drew1 | refine below_set ?_ GE252.out) | exact HB.out)) hb); have n3_ := Aside0.mk (hbox); have n4_ := Aside0.mk ((by rw [hg]; exact (below_size (by repeat (first | (with_reducible first | exact HB.out | apply below_alloc | apply pw_below_drewN | apply below_drew1 | refine below_set ?_ GE252.out) | exact HB.out))) : w.heap.size ≤ gb260)); have n5_ := Aside0.mk ((by rw [hg]; exact (below_size (by repeat (first | (with_reducible first | exact HB.out | apply below_alloc | apply pw_below_drewN | apply below_drew1 | refine below_set ?_ GE252.out) | exact HB.out))) : w.heap.size ≤ gb260)); have n6_ := Aside0.mk ((by rw [hg]; exact Nat.ne_of_lt (blk_lt (g := gb252) (o := .cells #[.int .u8 a0_0, .int .u8 a0_1, .int .u8 a0_2, .int .u8 a0_3, .int .u8 a0_4, .int .u8 a0_5, .int .u8 a0_6, .int .u8 a0_7, .int .u8 a0_8, .int .u8 a0_9, .int .u8 a0_10, .int .u8 a0_11] 24 (0, 0)) (by (with_reducible repeat (first | refine blk_drewN ?_ _ | refine blk_drew ?_ | refine blk_alloc ?_ _)); exact BK252.out)) : gb252 ≠ gb260)); have n7_ := Aside0.mk ((by rw [hg]; exact Nat.ne_of_gt (blk_lt (g := gb252) (o := .cells #[.int .u8 a0_0, .int .u8 a0_1, .int .u8 a0_2, .int .u8 a0_3, .int .u8 a0_4, .int .u8 a0_5, .int .u8 a0_6, .int .u8 a0_7, .int .u8 a0_8, .int .u8 a0_9, .int .u8 a0_10, .int .u8 a0_11] 24 (0, 0)) (by (with_reducible repeat (first | refine blk_drewN ?_ _ | refine blk_drew ?_ | refine blk_alloc ?_ _)); exact BK252.out)) : gb260 ≠ gb252)); clear HO256; clear BK252; clear HB; have HO256 := n0_; have BK252 := n1_; have HB := n2_; have BK260 := n3_; have GW260 := n4_; have GE260 := n5_; have NB252_260 := n6_; have NB260_252 := n7_; clear n0_ n1_ n2_ n3_ n4_ n5_ n6_ n7_; clear hb hbox hg; obtain ⟨Ao16, co16, eo16⟩ := Kd.R_slice HO256.out; subst eo16; have hnb17 := NB260_252.out; have hnc17 := NB252_260.out; have hcz18_0 : w15.cell? ⟨gb260, 0, none⟩ = some (.slice none 0 0) := (blk_cell BK260.out 0).trans rfl; have hcz18_1 : w15.cell? ⟨gb260, 1, none⟩ = some (.int .i64 0) := (blk_cell BK260.out 1).trans rfl; have hcz18_2 : w15.cell? ⟨gb260, 2, none⟩ = some (.int .i64 0) := (blk_cell BK260.out 2).trans rfl; have hcz18_3 : w15.cell? ⟨gb260, 3, none⟩ = some (.int .i64 0) := (blk_cell BK260.out 3).trans rfl; have hfz18_0 := blk_frozen BK260.out 0; have hfz18_1 := blk_frozen BK260.out 1; have hfz18_2 := blk_frozen BK260.out 2; have hfz18_3 := blk_frozen BK260.out 3))
 have n0_ : Aside0 (Kd.R (Kd.int .i64) 3 ((((w15.setCell ⟨gb260, 0, none⟩ (.slice Ao16 t254.length co16)).setCell ⟨gb260, 1, none⟩ (.int .i64 t257)).setCell ⟨gb260, 2, none⟩ (.int .i64 t258)).setCell ⟨gb260, 3, none⟩ (.int .i64 t259)) w.heap.size (fun _ => True) (.slice Ao16 t254.length co16) t254) := ⟨by (with_reducible repeat (first | apply Kd.R_alloc | apply Kd.R_drewN | apply Kd.R_drew)); exact Kd.R_mono (Kd.R_far (p := ⟨gb260, 3, none⟩) (Kd.R_far (p := ⟨gb260, 2, none⟩) (Kd.R_far (p := ⟨gb260, 1, none⟩) (Kd.R_far (p := ⟨gb260, 0, none⟩) (Kd.R_types HO256.out BK260.out (by decide)) (fun _ hk => hk.2) (.slice Ao16 t254.length co16)) (fun _ hk => hk.2) (.int .i64 t257)) (fun _ hk => hk.2) (.int .i64 t258)) (fun _ hk => hk.2) (.int .i64 t259)) (fun _ hk => trivial)⟩
 have n1_ : Aside0 (((((w15.setCell ⟨gb260, 0, none⟩ (.slice Ao16 t254.length co16)).setCell ⟨gb260, 1, none⟩ (.int .i64 t257)).setCell ⟨gb260, 2, none⟩ (.int .i64 t258)).setCell ⟨gb260, 3, none⟩ (.int .i64 t259)).heap[gb252]? = some (.cells #[.int .u8 a0_0, .int .u8 a0_1, .int .u8 a0_2, .int .u8 a0_3, .int .u8 a0_4, .int .u8 a0_5, .int .u8 a0_6, .int .u8 a0_7, .int .u8 a0_8, .int .u8 a0_9, .int .u8 a0_10, .int .u8 a0_11] 24 (0, 0))) := ⟨by (with_reducible repeat (first | refine blk_drewN ?_ _ | refine blk_drew ?_ | refine blk_alloc ?_ _)); refine blk_far ?_ NB252_260.out _; (with_reducible repeat (first | refine blk_drewN ?_ _ | refine blk_drew ?_ | refine blk_alloc ?_ _)); refine blk_far ?_ NB252_260.out _; (with_reducible repeat (first | refine blk_drewN ?_ _ | refine blk_drew ?_ | refine blk_alloc ?_ _)); refine blk_far ?_ NB252_260.out _; (with_reducible repeat (first | refine blk_drewN ?_ _ | refine blk_drew ?_ | refine blk_alloc ?_ _)); refine blk_far ?_ NB252_260.out _; (with_reducible repeat (first | refine blk_drewN ?_ _ | refine blk_drew ?_ | refine blk_alloc ?_ _)); exact BK252.out⟩
 have n2_ : Aside0 (((((w15.setCell ⟨gb260, 0, none⟩ (.slice Ao16 t254.length co16)).setCell ⟨gb260, 1, none⟩ (.int .i64 t257)).setCell ⟨gb260, 2, none⟩ (.int .i64 t258)).setCell ⟨gb260, 3, none⟩ (.int .i64 t259)).heap[gb260]? = some (.cells #[.slice Ao16 t254.length co16, .int .i64 t257, .int .i64 t258, .int .i64 t259] 29 (0, 0))) := ⟨by (with_reducible repeat (first | refine blk_drewN ?_ _ | refine blk_drew ?_ | refine blk_alloc ?_ _)); refine blk_put (cs := #[.slice Ao16 t254.length co16, .int .i64 t257, .int .i64 t258, .int .i64 0]) ?_ 3 _ rfl; (with_reducible repeat (first | refine blk_drewN ?_ _ | refine blk_drew ?_ | refine blk_alloc ?_ _)); refine blk_put (cs := #[.slice Ao16 t254.length co16, .int .i64 t257, .int .i64 0, .int .i64 0]) ?_ 2 _ rfl; (with_reducible repeat (first | refine blk_drewN ?_ _ | refine blk_drew ?_ | refine blk_alloc ?_ _)); refine blk_put (cs := #[.slice Ao16 t254.length co16, .int .i64 0, .int .i64 0, .int .i64 0]) ?_ 1 _ rfl; (with_reducible repeat (first | refine blk_drewN ?_ _ | refine blk_drew ?_ | refine blk_alloc ?_ _)); refine blk_put (cs := #[.slice none 0 0, .int .i64 0, .int .i64 0, .int .i64 0]) ?_ 0 _ rfl; (with_reducible repeat (first | refine blk_drewN ?_ _ | refine blk_drew ?_ | refine blk_alloc ?_ _)); exact BK260.out⟩
 have n3_ : Aside0 (Below w.heap.size w ((((w15.setCell ⟨gb260, 0, none⟩ (.slice Ao16 t254.length co16)).setCell ⟨gb260, 1, none⟩ (.int .i64 t257)).setCell ⟨gb260, 2, none⟩ (.int .i64 t258)).setCell ⟨gb260, 3, none⟩ (.int .i64 t259))) := ⟨by repeat (first | (with_reducible first | exact HB.out | apply below_alloc | apply pw_below_drewN | apply below_drew1 | refine below_set ?_ GE252.out | refine below_set ?_ GE260.out) | exact HB.out)⟩
 (try clear HO256)
 (try clear BK252)
 (try clear BK260)
 (try clear HB)
 generalize ((((w15.setCell ⟨gb260, 0, none⟩ (.slice Ao16 t254.length co16)).setCell ⟨gb260, 1, none⟩ (.int .i64 t257)).setCell ⟨gb260, 2, none⟩ (.int .i64 t258)).setCell ⟨gb260, 3, none⟩ (.int .i64 t259)) = w19 at n0_ n1_ n2_ n3_ ⊢
 have HO256 := n0_
 have BK252 := n1_
 have BK260 := n2_
 have HB := n3_
 clear n0_ n1_ n2_ n3_
 have n0_ := Aside0.mk (Kd.R_drew HO256.out)
 have n1_ := Aside0.mk (blk_drew BK252.out)
 have n2_ := Aside0.mk (blk_drew BK260.out)
 have n3_ := Aside0.mk (below_drew1 HB.out)
 clear HO256
 clear BK252
 clear BK260
 clear HB
 have HO256 := n0_
 have BK252 := n1_
 have BK260 := n2_
 have HB := n3_
 clear n0_ n1_ n2_ n3_
 refine start_ (n := 6) (S := fun w' => w'.cell? ⟨gb260, 0, none⟩ = some (.slice Ao16 t254.length co16) ∧ w'.cell? ⟨gb260, 1, none⟩ = some (.int .i64 t257) ∧ w'.cell? ⟨gb260, 2, none⟩ = some (.int .i64 t258) ∧ w'.cell? ⟨gb260, 3, none⟩ = some (.int .i64 t259)) (ds := []) #[false, false, false, false, false, false] (by kernel_rfl) rfl rfl ⟨(blk_cell BK260.out 0).trans rfl, (blk_cell BK260.out 1).trans rfl, (blk_cell BK260.out 2).trans rfl, (blk_cell BK260.out 3).trans rfl⟩ (fun hHeld => ?_)
 generalize w19.drew = w20 at HO256 BK252 BK260 HB hHeld ⊢
 refine pure_ (i := 2) (N := some 18) (v := ?_) (a' := ?_) #[false, false, true, false, false, false] rfl rfl (by kernel_rfl) (fun _ _ _ h => h) (Or.inl ⟨by rfl, ?_⟩) ?_ ?_
 rotate_left; (intro w'; go_simp; with_reducible rfl); rotate_left; (simp only [Act.put, List.setIfInBounds_toArray, List.set_cons_zero, List.set_cons_succ, i64_w, i32_w]; rfl)
 refine take_ (i := 0) (N := some 16) (v := ?_) (a' := ?_) #[true, false, true, false, false, false] rfl rfl (by kernel_rfl) (fun _ _ _ h => h) (Or.inl ⟨by rfl, ?_⟩) hHeld ?_ ?_
 rotate_left; (rintro w' ⟨s0, s1, s2, s3⟩; go_simp; with_reducible rfl); rotate_left; (simp only [Act.put, List.setIfInBounds_toArray, List.set_cons_zero, List.set_cons_succ, i64_w, i32_w]; rfl)
 refine take_ (i := 1) (N := some 17) (v := ?_) (a' := ?_) #[true, true, true, false, false, false] rfl rfl (by kernel_rfl) (fun _ _ _ h => h) (Or.inl ⟨by rfl, ?_⟩) hHeld ?_ ?_
 rotate_left; (rintro w' ⟨s0, s1, s2, s3⟩; go_simp; with_reducible rfl); rotate_left; (simp only [Act.put, List.setIfInBounds_toArray, List.set_cons_zero, List.set_cons_succ, i64_w, i32_w]; rfl)
 refine one_ (i := 3) (N := some 19) #[true, true, true, true, false, false] rfl rfl (by kernel_rfl) (by decide) (fun K hK => ?_)
 refine goes_ Try.func10 (by kernel_rfl) rfl #[.agg #[.slice Ao16 t254.length co16, .int .i64 t257, .int .i64 t258, .int .i64 t259], .slice A1 l1.length c1, .int .i64 60] (by rfl) rfl rfl (by (try simp only [List.map_toArray, List.map_cons, List.map_nil]); first | done | rfl | (simp only [List.length_drop, List.length_take]; rfl)) ?_
 with_reducible refine (thresherref04_Fits.calls k _ _ t254 t257 t258 t259 _ _ l1 60 t261 _ ?side1 ?side2 ?side3 ?side4 A5.out).mono ?_
 (case side1 => repeat (first | exact (Kd.R_reads' HO256.out).2.2 | (with_reducible refine Kd.C_alloc ?_ _) | (with_reducible refine Kd.C_drewN ?_ _) | (with_reducible refine Kd.C_drew ?_)))
 (case side2 => exact (Kd.R_reads' HO256.out).2.1)
 (case side3 => repeat (first | exact (Kd.C_below HR1.out HB.out) | (with_reducible refine Kd.C_alloc ?_ _) | (with_reducible refine Kd.C_drewN ?_ _) | (with_reducible refine Kd.C_drew ?_)))
 (case side4 => exact HC1.out)
 rintro e w21 ⟨v262, rfl, ho0, hb⟩
 refine ⟨_, rfl, ?_⟩
 have n0_ := Aside0.mk (Kd.R_below (by (with_reducible repeat (first | apply Kd.R_alloc | apply Kd.R_drewN | apply Kd.R_drew)); exact HO256.out) hb)
 have n1_ := Aside0.mk (Kd.N_lower (Kd.N_mono (ok' := fun k_ => some k_ ≠ (.slice Ao16 t254.length co16 : Value).ownBlock ∧ k_ ≠ gb252 ∧ k_ ≠ gb260) (Kd.S_N (Kd.S_bound ho0)) (fun k_ hk_ => ⟨(Kd.fresh' (Kd.R_lt (by (with_reducible repeat (first | apply Kd.R_alloc | apply Kd.R_drewN | apply Kd.R_drew)); exact HO256.out)) k_ hk_.2.1), (Kd.freshB (g := gb252) (o := .cells #[.int .u8 a0_0, .int .u8 a0_1, .int .u8 a0_2, .int .u8 a0_3, .int .u8 a0_4, .int .u8 a0_5, .int .u8 a0_6, .int .u8 a0_7, .int .u8 a0_8, .int .u8 a0_9, .int .u8 a0_10, .int .u8 a0_11] 24 (0, 0)) (by (with_reducible repeat (first | refine blk_drewN ?_ _ | refine blk_drew ?_ | refine blk_alloc ?_ _)); exact BK252.out) k_ hk_.2.1), (Kd.freshB (g := gb260) (o := .cells #[.slice Ao16 t254.length co16, .int .i64 t257, .int .i64 t258, .int .i64 t259] 29 (0, 0)) (by (with_reducible repeat (first | refine blk_drewN ?_ _ | refine blk_drew ?_ | refine blk_alloc ?_ _)); exact BK260.out) k_ hk_.2.1)⟩)) (below_size (by repeat (first | (with_reducible first | exact HB.out | apply below_alloc | apply pw_below_drewN | apply below_drew1 | refine below_set ?_ GE252.out | refine below_set ?_ GE260.out) | exact HB.out))))
 have n2_ := Aside0.mk (blk_below (g := gb252) (o := .cells #[.int .u8 a0_0, .int .u8 a0_1, .int .u8 a0_2, .int .u8 a0_3, .int .u8 a0_4, .int .u8 a0_5, .int .u8 a0_6, .int .u8 a0_7, .int .u8 a0_8, .int .u8 a0_9, .int .u8 a0_10, .int .u8 a0_11] 24 (0, 0)) (by (with_reducible repeat (first | refine blk_drewN ?_ _ | refine blk_drew ?_ | refine blk_alloc ?_ _)); exact BK252.out) hb)
 have n3_ := Aside0.mk (blk_below (g := gb260) (o := .cells #[.slice Ao16 t254.length co16, .int .i64 t257, .int .i64 t258, .int .i64 t259] 29 (0, 0)) (by (with_reducible repeat (first | refine blk_drewN ?_ _ | refine blk_drew ?_ | refine blk_alloc ?_ _)); exact BK260.out) hb)
 have n4_ := Aside0.mk (below_step (by repeat (first | (with_reducible first | exact HB.out | apply below_alloc | apply pw_below_drewN | apply below_drew1 | refine below_set ?_ GE252.out | refine below_set ?_ GE260.out) | exact HB.out)) hb)
 clear HO256
 clear BK252
 clear BK260
 clear HB
 have HO256 := n0_
 have HO263 := n1_
 have BK252 := n2_
 have BK260 := n3_
 have HB := n4_
 clear n0_ n1_ n2_ n3_ n4_
 (try clear hb)
 (try clear hb2)
 (try clear hk)
 (try clear hi)
 (try clear ho0)
 obtain ⟨Ao22, co22, eo22⟩ := Kd.N_slice HO263.out
 (first | subst eo22 | (injection eo22 with f1_ f2_ f3_; have f4_ := f1_.symm; have f5_ := f3_.symm; clear f1_ f2_ f3_; subst f4_; subst f5_))
 refine hK.out _ _ ⟨(blk_cell BK260.out 0).trans rfl, (blk_cell BK260.out 1).trans rfl, (blk_cell BK260.out 2).trans rfl, (blk_cell BK260.out 3).trans rfl⟩ (fun hHeld => ?_)
 clear hK K
 refine norm_ (a' := ?_) ?_ ?_
 rotate_left
 ·show Act.put _ (some 19) _ = _
  simp only [Act.put, List.setIfInBounds_toArray, List.set_cons_zero, List.set_cons_succ, i64_w, i32_w]
  rfl
 refine one_ (i := 4) (N := some 20) #[true, true, true, true, true, false] rfl rfl (by kernel_rfl) (by decide) (fun K hK => ?_)
 refine goes_ Try.func9 (by kernel_rfl) rfl #[.agg #[.slice Ao16 t254.length co16, .int .i64 t257, .int .i64 t258, .int .i64 t259], .slice Ao22 t261.length co22] (by rfl) rfl rfl (by (try simp only [List.map_toArray, List.map_cons, List.map_nil]); first | done | rfl | (simp only [List.length_drop, List.length_take]; rfl)) ?_
 with_reducible refine (thresherref09_Sort.calls k _ _ t254 t257 t258 t259 (fun k_ => (some k_ ≠ (.slice Ao16 t254.length co16 : Value).ownBlock ∧ (k_ ≠ gb252 ∧ k_ ≠ gb260))) _ _ t261 t264 _ ?side1 ?side2 ?side3 A6.out).mono ?_
 (case side1 => repeat (first | exact (Kd.R_reads' HO256.out).2.2 | (with_reducible refine Kd.C_alloc ?_ _) | (with_reducible refine Kd.C_drewN ?_ _) | (with_reducible refine Kd.C_drew ?_)))
 (case side2 => exact (Kd.R_reads' HO256.out).2.1)
 (case side3 => exact Kd.N_V (HO263.out))
 rintro e w23 ⟨v265, rfl, ho0, hb⟩
 refine ⟨_, rfl, ?_⟩
 have n0_ := Aside0.mk (Kd.R_below (by (with_reducible repeat (first | apply Kd.R_alloc | apply Kd.R_drewN | apply Kd.R_drew)); exact HO256.out) hb)
 have n1_ := Aside0.mk (Kd.N_elder' (by (with_reducible repeat (first | apply Kd.N_alloc | apply Kd.N_drewN | apply Kd.N_drew)); exact HO263.out) (by first | exact Kd.N_base ho0 | exact Kd.S_base ho0) hb)
 have n2_ := Aside0.mk (Kd.N_lower (Kd.N_mono (ok' := fun k_ => some k_ ≠ (.slice Ao16 t254.length co16 : Value).ownBlock ∧ k_ ≠ gb252 ∧ k_ ≠ gb260) ho0 (fun k_ hk_ => ⟨Or.elim hk_ (fun hs_ => hs_.1) (fun hn_ => (Kd.fresh' (Kd.R_lt (by (with_reducible repeat (first | apply Kd.R_alloc | apply Kd.R_drewN | apply Kd.R_drew)); exact HO256.out)) k_ hn_)), Or.elim hk_ (fun hs_ => hs_.2.1) (fun hn_ => (Kd.freshB (g := gb252) (o := .cells #[.int .u8 a0_0, .int .u8 a0_1, .int .u8 a0_2, .int .u8 a0_3, .int .u8 a0_4, .int .u8 a0_5, .int .u8 a0_6, .int .u8 a0_7, .int .u8 a0_8, .int .u8 a0_9, .int .u8 a0_10, .int .u8 a0_11] 24 (0, 0)) (by (with_reducible repeat (first | refine blk_drewN ?_ _ | refine blk_drew ?_ | refine blk_alloc ?_ _)); exact BK252.out) k_ hn_)), Or.elim hk_ (fun hs_ => hs_.2.2) (fun hn_ => (Kd.freshB (g := gb260) (o := .cells #[.slice Ao16 t254.length co16, .int .i64 t257, .int .i64 t258, .int .i64 t259] 29 (0, 0)) (by (with_reducible repeat (first | refine blk_drewN ?_ _ | refine blk_drew ?_ | refine blk_alloc ?_ _)); exact BK260.out) k_ hn_))⟩)) (below_size (by repeat (first | (with_reducible first | exact HB.out | apply below_alloc | apply pw_below_drewN | apply below_drew1 | refine below_set ?_ GE252.out | refine below_set ?_ GE260.out) | exact HB.out))))
 have n3_ := Aside0.mk (blk_below (g := gb252) (o := .cells #[.int .u8 a0_0, .int .u8 a0_1, .int .u8 a0_2, .int .u8 a0_3, .int .u8 a0_4, .int .u8 a0_5, .int .u8 a0_6, .int .u8 a0_7, .int .u8 a0_8, .int .u8 a0_9, .int .u8 a0_10, .int .u8 a0_11] 24 (0, 0)) (by (with_reducible repeat (first | refine blk_drewN ?_ _ | refine blk_drew ?_ | refine blk_alloc ?_ _)); exact BK252.out) hb)
 have n4_ := Aside0.mk (blk_below (g := gb260) (o := .cells #[.slice Ao16 t254.length co16, .int .i64 t257, .int .i64 t258, .int .i64 t259] 29 (0, 0)) (by (with_reducible repeat (first | refine blk_drewN ?_ _ | refine blk_drew ?_ | refine blk_alloc ?_ _)); exact BK260.out) hb)
 have n5_ := Aside0.mk (below_step (by repeat (first | (with_reducible first | exact HB.out | apply below_alloc | apply pw_below_drewN | apply below_drew1 | refine below_set ?_ GE252.out | refine below_set ?_ GE260.out) | exact HB.out)) hb)
 clear HO256
 clear HO263
 clear BK252
 clear BK260
 clear HB
 have HO256 := n0_
 have HO263 := n1_
 have HO266 := n2_
 have BK252 := n3_
 have BK260 := n4_
 have HB := n5_
 clear n0_ n1_ n2_ n3_ n4_ n5_
 (try clear hb)
 (try clear hb2)
 (try clear hk)
 (try clear hi)
 (try clear ho0)
 refine hK.out _ _ ⟨(blk_cell BK260.out 0).trans rfl, (blk_cell BK260.out 1).trans rfl, (blk_cell BK260.out 2).trans rfl, (blk_cell BK260.out 3).trans rfl⟩ (fun hHeld => ?_)
 clear hK K
 refine norm_ (a' := ?_) ?_ ?_
 rotate_left
 ·show Act.put _ (some 20) _ = _
  simp only [Act.put, List.setIfInBounds_toArray, List.set_cons_zero, List.set_cons_succ, i64_w, i32_w]
  rfl
 refine pure_ (i := 5) (N := some 7) (v := ?_) (a' := ?_) #[true, true, true, true, true, true] rfl rfl (by kernel_rfl) (fun _ _ _ h => h) (Or.inl ⟨by rfl, ?_⟩) ?_ ?_
 rotate_left; (intro w'; go_simp; with_reducible rfl); rotate_left; (simp only [Act.put, List.setIfInBounds_toArray, List.set_cons_zero, List.set_cons_succ, i64_w, i32_w]; rfl)
 refine done_ (by kernel_rfl) ?_
 have hcz24_0 : w23.cell? ⟨gb260, 0, none⟩ = some (.slice Ao16 t254.length co16) := (blk_cell BK260.out 0).trans rfl
 have hcz24_1 : w23.cell? ⟨gb260, 1, none⟩ = some (.int .i64 t257) := (blk_cell BK260.out 1).trans rfl
 have hcz24_2 : w23.cell? ⟨gb260, 2, none⟩ = some (.int .i64 t258) := (blk_cell BK260.out 2).trans rfl
 have hcz24_3 : w23.cell? ⟨gb260, 3, none⟩ = some (.int .i64 t259) := (blk_cell BK260.out 3).trans rfl
 have hfz24_0 := blk_frozen BK260.out 0
 have hfz24_1 := blk_frozen BK260.out 1
 have hfz24_2 := blk_frozen BK260.out 2
 have hfz24_3 := blk_frozen BK260.out 3
 obtain ⟨Ao25, co25, eo25⟩ := Kd.N_slice HO266.out
 subst eo25
 go_upto_region 7 with (first | ((with_reducible refine gate_callee (f := 11) rfl ?_); refine goesL_ (some 23) rfl rfl Try.func11 (by kernel_rfl) rfl #[.agg #[.slice Ao16 t254.length co16, .int .i64 t257, .int .i64 t258, .int .i64 t259], .slice Ao25 t264.length co25] rfl (by (try simp only [List.map_toArray, List.map_cons, List.map_nil]); first | done | rfl | (simp only [List.length_drop, List.length_take]; rfl)) ?_; (with_reducible refine (grain_Split.calls k _ _ t254 t257 t258 t259 (fun k_ => (some k_ ≠ (.slice Ao16 t254.length co16 : Value).ownBlock ∧ (k_ ≠ gb252 ∧ k_ ≠ gb260))) _ _ t264 t267 _ ?side1 ?side2 ?side3 A7.out).mono ?_); (case side1 => repeat (first | exact (Kd.R_reads' HO256.out).2.2 | (with_reducible refine Kd.C_alloc ?_ _) | (with_reducible refine Kd.C_drewN ?_ _) | (with_reducible refine Kd.C_drew ?_))); (case side2 => exact (Kd.R_reads' HO256.out).2.1); (case side3 => exact Kd.N_V (HO266.out)); rintro e w26 ⟨v268, rfl, ho0, hb⟩; refine ⟨_, rfl, ?_⟩; have n0_ := Aside0.mk (Kd.R_below (by (with_reducible repeat (first | apply Kd.R_alloc | apply Kd.R_drewN | apply Kd.R_drew)); exact HO256.out) hb); have n1_ := Aside0.mk (Kd.N_elder' (by (with_reducible repeat (first | apply Kd.N_alloc | apply Kd.N_drewN | apply Kd.N_drew)); exact HO263.out) (by first | exact Kd.N_base ho0 | exact Kd.S_base ho0) hb); have n2_ := Aside0.mk (Kd.N_elder' (by (with_reducible repeat (first | apply Kd.N_alloc | apply Kd.N_drewN | apply Kd.N_drew)); exact HO266.out) (by first | exact Kd.N_base ho0 | exact Kd.S_base ho0) hb); have n3_ := Aside0.mk (Kd.N_lower (Kd.N_mono (ok' := fun k_ => some k_ ≠ (.slice Ao16 t254.length co16 : Value).ownBlock ∧ k_ ≠ gb252 ∧ k_ ≠ gb260) ho0 (fun k_ hk_ => ⟨Or.elim hk_ (fun hs_ => hs_.1) (fun hn_ => (Kd.fresh' (Kd.R_lt (by (with_reducible repeat (first | apply Kd.R_alloc | apply Kd.R_drewN | apply Kd.R_drew)); exact HO256.out)) k_ hn_)), Or.elim hk_ (fun hs_ => hs_.2.1) (fun hn_ => (Kd.freshB (g := gb252) (o := .cells #[.int .u8 a0_0, .int .u8 a0_1, .int .u8 a0_2, .int .u8 a0_3, .int .u8 a0_4, .int .u8 a0_5, .int .u8 a0_6, .int .u8 a0_7, .int .u8 a0_8, .int .u8 a0_9, .int .u8 a0_10, .int .u8 a0_11] 24 (0, 0)) (by (with_reducible repeat (first | refine blk_drewN ?_ _ | refine blk_drew ?_ | refine blk_alloc ?_ _)); exact BK252.out) k_ hn_)), Or.elim hk_ (fun hs_ => hs_.2.2) (fun hn_ => (Kd.freshB (g := gb260) (o := .cells #[.slice Ao16 t254.length co16, .int .i64 t257, .int .i64 t258, .int .i64 t259] 29 (0, 0)) (by (with_reducible repeat (first | refine blk_drewN ?_ _ | refine blk_drew ?_ | refine blk_alloc ?_ _)); exact BK260.out) k_ hn_))⟩)) (below_size (by repeat (first | (with_reducible first | exact HB.out | apply below_alloc | apply pw_below_drewN | apply below_drew1 | refine below_set ?_ GE252.out | refine below_set ?_ GE260.out) | exact HB.out)))); have n4_ := Aside0.mk (blk_below (g := gb252) (o := .cells #[.int .u8 a0_0, .int .u8 a0_1, .int .u8 a0_2, .int .u8 a0_3, .int .u8 a0_4, .int .u8 a0_5, .int .u8 a0_6, .int .u8 a0_7, .int .u8 a0_8, .int .u8 a0_9, .int .u8 a0_10, .int .u8 a0_11] 24 (0, 0)) (by (with_reducible repeat (first | refine blk_drewN ?_ _ | refine blk_drew ?_ | refine blk_alloc ?_ _)); exact BK252.out) hb); have n5_ := Aside0.mk (blk_below (g := gb260) (o := .cells #[.slice Ao16 t254.length co16, .int .i64 t257, .int .i64 t258, .int .i64 t259] 29 (0, 0)) (by (with_reducible repeat (first | refine blk_drewN ?_ _ | refine blk_drew ?_ | refine blk_alloc ?_ _)); exact BK260.out) hb); have n6_ := Aside0.mk (below_step (by repeat (first | (with_reducible first | exact HB.out | apply below_alloc | apply pw_below_drewN | apply below_drew1 | refine below_set ?_ GE252.out | refine below_set ?_ GE260.out) | exact HB.out)) hb); clear HO256; clear HO263; clear HO266; clear BK252; clear BK260; clear HB; have HO256 := n0_; have HO263 := n1_; have HO266 := n2_; have HO269 := n3_; have BK252 := n4_; have BK260 := n5_; have HB := n6_; clear n0_ n1_ n2_ n3_ n4_ n5_ n6_; (try clear hb); (try clear hb2); (try clear hk); (try clear hi); (try clear ho0); have hcz27_0 : w26.cell? ⟨gb260, 0, none⟩ = some (.slice Ao16 t254.length co16) := (blk_cell BK260.out 0).trans rfl; have hcz27_1 : w26.cell? ⟨gb260, 1, none⟩ = some (.int .i64 t257) := (blk_cell BK260.out 1).trans rfl; have hcz27_2 : w26.cell? ⟨gb260, 2, none⟩ = some (.int .i64 t258) := (blk_cell BK260.out 2).trans rfl; have hcz27_3 : w26.cell? ⟨gb260, 3, none⟩ = some (.int .i64 t259) := (blk_cell BK260.out 3).trans rfl; have hfz27_0 := blk_frozen BK260.out 0; have hfz27_1 := blk_frozen BK260.out 1; have hfz27_2 := blk_frozen BK260.out 2; have hfz27_3 := blk_frozen BK260.out 3) | ((with_reducible refine gate_callee (f := 12) rfl ?_); refine goesL_ (some 26) rfl rfl Try.func12 (by kernel_rfl) rfl #[.agg #[.slice Ao16 t254.length co16, .int .i64 t257, .int .i64 t258, .int .i64 t259], .slice Ao25 t264.length co25] rfl (by (try simp only [List.map_toArray, List.map_cons, List.map_nil]); first | done | rfl | (simp only [List.length_drop, List.length_take]; rfl)) ?_; (with_reducible refine (grain_Marks.calls k _ _ t254 t257 t258 t259 (fun k_ => ((some k_ ≠ (.slice Ao16 t254.length co16 : Value).ownBlock ∧ (k_ ≠ gb252 ∧ k_ ≠ gb260)) ∧ some k_ ≠ (v268 : Value).ownBlock)) _ _ t264 t270 _ ?side1 ?side2 ?side3 A8.out).mono ?_); (case side1 => repeat (first | exact (Kd.R_reads' HO256.out).2.2 | (with_reducible refine Kd.C_alloc ?_ _) | (with_reducible refine Kd.C_drewN ?_ _) | (with_reducible refine Kd.C_drew ?_))); (case side2 => exact (Kd.R_reads' HO256.out).2.1); (case side3 => exact Kd.N_V (HO266.out)); rintro e w28 ⟨v271, rfl, ho0, hb⟩; refine ⟨_, rfl, ?_⟩; have n0_ := Aside0.mk (Kd.R_below (by (with_reducible repeat (first | apply Kd.R_alloc | apply Kd.R_drewN | apply Kd.R_drew)); exact HO256.out) hb); have n1_ := Aside0.mk (Kd.N_elder' (by (with_reducible repeat (first | apply Kd.N_alloc | apply Kd.N_drewN | apply Kd.N_drew)); exact HO263.out) (by first | exact Kd.N_base ho0 | exact Kd.S_base ho0) hb); have n2_ := Aside0.mk (Kd.N_elder' (by (with_reducible repeat (first | apply Kd.N_alloc | apply Kd.N_drewN | apply Kd.N_drew)); exact HO266.out) (by first | exact Kd.N_base ho0 | exact Kd.S_base ho0) hb); have n3_ := Aside0.mk (Kd.N_elder' (by (with_reducible repeat (first | apply Kd.N_alloc | apply Kd.N_drewN | apply Kd.N_drew)); exact HO269.out) (by first | exact Kd.N_base ho0 | exact Kd.S_base ho0) hb); have n4_ := Aside0.mk (Kd.N_lower (Kd.N_mono (ok' := fun k_ => some k_ ≠ (.slice Ao16 t254.length co16 : Value).ownBlock ∧ some k_ ≠ (v268 : Value).ownBlock ∧ k_ ≠ gb252 ∧ k_ ≠ gb260) ho0 (fun k_ hk_ => ⟨Or.elim hk_ (fun hs_ => hs_.1.1) (fun hn_ => (Kd.fresh' (Kd.R_lt (by (with_reducible repeat (first | apply Kd.R_alloc | apply Kd.R_drewN | apply Kd.R_drew)); exact HO256.out)) k_ hn_)), Or.elim hk_ (fun hs_ => hs_.2) (fun hn_ => (Kd.fresh' (Kd.N_lt (by (with_reducible repeat (first | apply Kd.N_alloc | apply Kd.N_drewN | apply Kd.N_drew)); exact HO269.out)) k_ hn_)), Or.elim hk_ (fun hs_ => hs_.1.2.1) (fun hn_ => (Kd.freshB (g := gb252) (o := .cells #[.int .u8 a0_0, .int .u8 a0_1, .int .u8 a0_2, .int .u8 a0_3, .int .u8 a0_4, .int .u8 a0_5, .int .u8 a0_6, .int .u8 a0_7, .int .u8 a0_8, .int .u8 a0_9, .int .u8 a0_10, .int .u8 a0_11] 24 (0, 0)) (by (with_reducible repeat (first | refine blk_drewN ?_ _ | refine blk_drew ?_ | refine blk_alloc ?_ _)); exact BK252.out) k_ hn_)), Or.elim hk_ (fun hs_ => hs_.1.2.2) (fun hn_ => (Kd.freshB (g := gb260) (o := .cells #[.slice Ao16 t254.length co16, .int .i64 t257, .int .i64 t258, .int .i64 t259] 29 (0, 0)) (by (with_reducible repeat (first | refine blk_drewN ?_ _ | refine blk_drew ?_ | refine blk_alloc ?_ _)); exact BK260.out) k_ hn_))⟩)) (below_size (by repeat (first | (with_reducible first | exact HB.out | apply below_alloc | apply pw_below_drewN | apply below_drew1 | refine below_set ?_ GE252.out | refine below_set ?_ GE260.out) | exact HB.out)))); have n5_ := Aside0.mk (blk_below (g := gb252) (o := .cells #[.int .u8 a0_0, .int .u8 a0_1, .int .u8 a0_2, .int .u8 a0_3, .int .u8 a0_4, .int .u8 a0_5, .int .u8 a0_6, .int .u8 a0_7, .int .u8 a0_8, .int .u8 a0_9, .int .u8 a0_10, .int .u8 a0_11] 24 (0, 0)) (by (with_reducible repeat (first | refine blk_drewN ?_ _ | refine blk_drew ?_ | refine blk_alloc ?_ _)); exact BK252.out) hb); have n6_ := Aside0.mk (blk_below (g := gb260) (o := .cells #[.slice Ao16 t254.length co16, .int .i64 t257, .int .i64 t258, .int .i64 t259] 29 (0, 0)) (by (with_reducible repeat (first | refine blk_drewN ?_ _ | refine blk_drew ?_ | refine blk_alloc ?_ _)); exact BK260.out) hb); have n7_ := Aside0.mk (below_step (by repeat (first | (with_reducible first | exact HB.out | apply below_alloc | apply pw_below_drewN | apply below_drew1 | refine below_set ?_ GE252.out | refine below_set ?_ GE260.out) | exact HB.out)) hb); clear HO256; clear HO263; clear HO266; clear HO269; clear BK252; clear BK260; clear HB; have HO256 := n0_; have HO263 := n1_; have HO266 := n2_; have HO269 := n3_; have HO272 := n4_; have BK252 := n5_; have BK260 := n6_; have HB := n7_; clear n0_ n1_ n2_ n3_ n4_ n5_ n6_ n7_; (try clear hb); (try clear hb2); (try clear hk); (try clear hi); (try clear ho0); have hcz29_0 : w28.cell? ⟨gb260, 0, none⟩ = some (.slice Ao16 t254.length co16) := (blk_cell BK260.out 0).trans rfl; have hcz29_1 : w28.cell? ⟨gb260, 1, none⟩ = some (.int .i64 t257) := (blk_cell BK260.out 1).trans rfl; have hcz29_2 : w28.cell? ⟨gb260, 2, none⟩ = some (.int .i64 t258) := (blk_cell BK260.out 2).trans rfl; have hcz29_3 : w28.cell? ⟨gb260, 3, none⟩ = some (.int .i64 t259) := (blk_cell BK260.out 3).trans rfl; have hfz29_0 := blk_frozen BK260.out 0; have hfz29_1 := blk_frozen BK260.out 1; have hfz29_2 := blk_frozen BK260.out 2; have hfz29_3 := blk_frozen BK260.out 3; obtain ⟨Ao30, co30, eo30⟩ := Kd.N_slice HO272.out; subst eo30) | ((with_reducible refine gate_callee (f := 13) rfl ?_); refine goesL_ (some 29) rfl rfl Try.func13 (by kernel_rfl) rfl #[.agg #[.slice Ao16 t254.length co16, .int .i64 t257, .int .i64 t258, .int .i64 t259], .slice Ao30 t270.length co30] rfl (by (try simp only [List.map_toArray, List.map_cons, List.map_nil]); first | done | rfl | (simp only [List.length_drop, List.length_take]; rfl)) ?_; (with_reducible refine (thresherref09_Sorted.calls k _ _ t254 t257 t258 t259 _ _ t270 t273 _ ?side1 ?side2 ?side3 ?side4 A9.out).mono ?_); (case side1 => repeat (first | exact (Kd.R_reads' HO256.out).2.2 | (with_reducible refine Kd.C_alloc ?_ _) | (with_reducible refine Kd.C_drewN ?_ _) | (with_reducible refine Kd.C_drew ?_))); (case side2 => exact (Kd.R_reads' HO256.out).2.1); (case side3 => repeat (first | exact (Kd.N_reads' HO272.out).2.2 | (with_reducible refine Kd.C_alloc ?_ _) | (with_reducible refine Kd.C_drewN ?_ _) | (with_reducible refine Kd.C_drew ?_))); (case side4 => exact (Kd.N_reads' HO272.out).2.1); rintro e w31 ⟨rfl, hb⟩; refine ⟨_, rfl, ?_⟩; have n0_ := Aside0.mk (Kd.R_below (by (with_reducible repeat (first | apply Kd.R_alloc | apply Kd.R_drewN | apply Kd.R_drew)); exact HO256.out) hb); have n1_ := Aside0.mk (Kd.N_below (by (with_reducible repeat (first | apply Kd.N_alloc | apply Kd.N_drewN | apply Kd.N_drew)); exact HO263.out) hb); have n2_ := Aside0.mk (Kd.N_below (by (with_reducible repeat (first | apply Kd.N_alloc | apply Kd.N_drewN | apply Kd.N_drew)); exact HO266.out) hb); have n3_ := Aside0.mk (Kd.N_below (by (with_reducible repeat (first | apply Kd.N_alloc | apply Kd.N_drewN | apply Kd.N_drew)); exact HO269.out) hb); have n4_ := Aside0.mk (Kd.N_below (by (with_reducible repeat (first | apply Kd.N_alloc | apply Kd.N_drewN | apply Kd.N_drew)); exact HO272.out) hb); have n5_ := Aside0.mk (blk_below (g := gb252) (o := .cells #[.int .u8 a0_0, .int .u8 a0_1, .int .u8 a0_2, .int .u8 a0_3, .int .u8 a0_4, .int .u8 a0_5, .int .u8 a0_6, .int .u8 a0_7, .int .u8 a0_8, .int .u8 a0_9, .int .u8 a0_10, .int .u8 a0_11] 24 (0, 0)) (by (with_reducible repeat (first | refine blk_drewN ?_ _ | refine blk_drew ?_ | refine blk_alloc ?_ _)); exact BK252.out) hb); have n6_ := Aside0.mk (blk_below (g := gb260) (o := .cells #[.slice Ao16 t254.length co16, .int .i64 t257, .int .i64 t258, .int .i64 t259] 29 (0, 0)) (by (with_reducible repeat (first | refine blk_drewN ?_ _ | refine blk_drew ?_ | refine blk_alloc ?_ _)); exact BK260.out) hb); have n7_ := Aside0.mk (below_step (by repeat (first | (with_reducible first | exact HB.out | apply below_alloc | apply pw_below_drewN | apply below_drew1 | refine below_set ?_ GE252.out | refine below_set ?_ GE260.out) | exact HB.out)) hb); clear HO256; clear HO263; clear HO266; clear HO269; clear HO272; clear BK252; clear BK260; clear HB; have HO256 := n0_; have HO263 := n1_; have HO266 := n2_; have HO269 := n3_; have HO272 := n4_; have BK252 := n5_; have BK260 := n6_; have HB := n7_; clear n0_ n1_ n2_ n3_ n4_ n5_ n6_ n7_; (try clear hb); (try clear hb2); (try clear hk); (try clear hi)))
 (try simp only [Act.put, List.setIfInBounds_toArray, List.set_cons_zero, List.set_cons_succ])
 go_cut [38] (fun v38 wc => ∃ (kq : Nat) (x38_9 : Bool), v38 = .bool x38_9 ∧ Aside0 (thresherlaw10_GrainMarks.j0 kq t253 t267 t270 x38_9 t254 t257 t258 t259 = some r) ∧ Aside0 (kq ≤ k) ∧ Aside0 (Kd.N (Kd.slice 38 (Kd.slice 45 k45)) 25 wc w.heap.size (fun k_ => some k_ ≠ ((.slice Ao30 t270.length co30) : Value).ownBlock ∧ some k_ ≠ ((.slice Ao16 t254.length co16) : Value).ownBlock ∧ k_ ≠ gb252 ∧ k_ ≠ gb260) v268 t267) ∧ Aside0 (Kd.N (Kd.slice 45 k45) 38 wc w.heap.size (fun k_ => some k_ ≠ (v268 : Value).ownBlock ∧ some k_ ≠ ((.slice Ao16 t254.length co16) : Value).ownBlock ∧ k_ ≠ gb252 ∧ k_ ≠ gb260) (.slice Ao30 t270.length co30) t270) ∧ Aside0 (Kd.R (Kd.int .i64) 3 wc w.heap.size (fun _ => True) (.slice Ao16 t254.length co16) t254) ∧ Aside0 (wc.heap[gb252]? = some (.cells #[.int .u8 a0_0, .int .u8 a0_1, .int .u8 a0_2, .int .u8 a0_3, .int .u8 a0_4, .int .u8 a0_5, .int .u8 a0_6, .int .u8 a0_7, .int .u8 a0_8, .int .u8 a0_9, .int .u8 a0_10, .int .u8 a0_11] 24 (0, 0))) ∧ Aside0 (wc.heap[gb260]? = some (.cells #[(.slice Ao16 t254.length co16), .int .i64 t257, .int .i64 t258, .int .i64 t259] 29 (0, 0))) ∧ Aside0 (Below w.heap.size w wc))
 case first =>
  have H := HC10.out
  clear HC10
  by_cases c32 : (t267.length : Int) = (t270.length : Int)
  ·rw [if_pos c32] at H
   have c32b0 : ((t267.length : Int) == (t270.length : Int)) = true := beq_iff_eq.mpr c32
   have c32b1 : ((t267.length : Int) != (t270.length : Int)) = false := bne_eq_false_iff_eq.mpr c32
   have c32b2 : (t267.length == t270.length) = true := by first | simpa using c32 | (simp at c32 ⊢; omega)
   clear c32
   (first | rw [c32b0] | (simp only [i64_w, i32_w]; rw [c32b0]) | skip)
   have H' := Aside0.mk H
   clear H
   obtain ⟨Ao33, co33, eo33⟩ := Kd.N_slice HO269.out
   subst eo33
   go_wp2
   go_meet
   case rel => exact ⟨_, (!t273), (by first | rfl | (simp; done) | (simp [*]; done)), (by first | exact H' | (subst_vars; exact H')), ⟨by first | omega | exact Nat.le_refl _⟩, ⟨by (with_reducible repeat (first | apply Kd.N_alloc | apply Kd.N_drewN | apply Kd.N_drew)); exact Kd.N_mono HO269.out (fun _ hk => ⟨hk.2, ⟨hk.1.1, ⟨hk.1.2.1, hk.1.2.2⟩⟩⟩)⟩, ⟨by (with_reducible repeat (first | apply Kd.N_alloc | apply Kd.N_drewN | apply Kd.N_drew)); exact Kd.N_mono HO272.out (fun _ hk => ⟨hk.2.1, ⟨hk.1, ⟨hk.2.2.1, hk.2.2.2⟩⟩⟩)⟩, ⟨by (with_reducible repeat (first | apply Kd.R_alloc | apply Kd.R_drewN | apply Kd.R_drew)); exact HO256.out⟩, ⟨by (with_reducible repeat (first | refine blk_drewN ?_ _ | refine blk_drew ?_ | refine blk_alloc ?_ _)); exact BK252.out⟩, ⟨by (with_reducible repeat (first | refine blk_drewN ?_ _ | refine blk_drew ?_ | refine blk_alloc ?_ _)); exact BK260.out⟩, ⟨by repeat (first | (with_reducible first | exact HB.out | apply below_alloc | apply pw_below_drewN | apply below_drew1 | refine below_set ?_ GE252.out | refine below_set ?_ GE260.out) | exact HB.out)⟩⟩
  ·rw [if_neg c32] at H
   have c32b0 : ((t267.length : Int) == (t270.length : Int)) = false := beq_eq_false_iff_ne.mpr c32
   have c32b1 : ((t267.length : Int) != (t270.length : Int)) = true := bne_iff_ne.mpr c32
   have c32b2 : (t267.length == t270.length) = false := by first | simpa using c32 | (simp at c32 ⊢; omega)
   (first | rw [c32b0] | (simp only [i64_w, i32_w]; rw [c32b0]) | skip)
   have H' := Aside0.mk H
   clear H
   obtain ⟨Ao34, co34, eo34⟩ := Kd.N_slice HO269.out
   subst eo34
   go_wp2
   go_meet
   case rel => exact ⟨_, (true), (by first | rfl | (simp; done) | (simp [*]; done)), (by first | exact H' | (subst_vars; exact H')), ⟨by first | omega | exact Nat.le_refl _⟩, ⟨by (with_reducible repeat (first | apply Kd.N_alloc | apply Kd.N_drewN | apply Kd.N_drew)); exact Kd.N_mono HO269.out (fun _ hk => ⟨hk.2, ⟨hk.1.1, ⟨hk.1.2.1, hk.1.2.2⟩⟩⟩)⟩, ⟨by (with_reducible repeat (first | apply Kd.N_alloc | apply Kd.N_drewN | apply Kd.N_drew)); exact Kd.N_mono HO272.out (fun _ hk => ⟨hk.2.1, ⟨hk.1, ⟨hk.2.2.1, hk.2.2.2⟩⟩⟩)⟩, ⟨by (with_reducible repeat (first | apply Kd.R_alloc | apply Kd.R_drewN | apply Kd.R_drew)); exact HO256.out⟩, ⟨by (with_reducible repeat (first | refine blk_drewN ?_ _ | refine blk_drew ?_ | refine blk_alloc ?_ _)); exact BK252.out⟩, ⟨by (with_reducible repeat (first | refine blk_drewN ?_ _ | refine blk_drew ?_ | refine blk_alloc ?_ _)); exact BK260.out⟩, ⟨by repeat (first | (with_reducible first | exact HB.out | apply below_alloc | apply pw_below_drewN | apply below_drew1 | refine below_set ?_ GE252.out | refine below_set ?_ GE260.out) | exact HB.out)⟩⟩
 case rest =>
  clear HC10
  try clear c1
  try clear p2
  try clear c3
  try clear c7
  try clear c8
  try clear c9
  try clear c10
  try clear c11
  try clear c12
  try clear c13
  try clear c17
  try clear c32
  try clear c32b0
  try clear c32b1
  try clear c32b2
  try clear hcz13_0
  try clear hcz13_1
  try clear hcz13_10
  try clear hcz13_11
  try clear hcz13_2
  try clear hcz13_3
  try clear hcz13_4
  try clear hcz13_5
  try clear hcz13_6
  try clear hcz13_7
  try clear hcz13_8
  try clear hcz13_9
  try clear hcz18_0
  try clear hcz18_1
  try clear hcz18_2
  try clear hcz18_3
  try clear hcz24_0
  try clear hcz24_1
  try clear hcz24_2
  try clear hcz24_3
  try clear hcz27_0
  try clear hcz27_1
  try clear hcz27_2
  try clear hcz27_3
  try clear hcz29_0
  try clear hcz29_1
  try clear hcz29_2
  try clear hcz29_3
  try clear hfz13_0
  try clear hfz13_1
  try clear hfz13_10
  try clear hfz13_11
  try clear hfz13_2
  try clear hfz13_3
  try clear hfz13_4
  try clear hfz13_5
  try clear hfz13_6
  try clear hfz13_7
  try clear hfz13_8
  try clear hfz13_9
  try clear hfz18_0
  try clear hfz18_1
  try clear hfz18_2
  try clear hfz18_3
  try clear hfz24_0
  try clear hfz24_1
  try clear hfz24_2
  try clear hfz24_3
  try clear hfz27_0
  try clear hfz27_1
  try clear hfz27_2
  try clear hfz27_3
  try clear hfz29_0
  try clear hfz29_1
  try clear hfz29_2
  try clear hfz29_3
  obtain ⟨kq, x38_9, rfl, HA, HJ9, HO_8, HO_9, HO_261000, BK252, BK260, HB⟩ := hcut
  cases kq with
  | zero => exact absurd HA.out (by simp [thresherlaw10_GrainMarks.j0])
  | succ kj9 =>
   have H := HA.out
   clear HA
   simp only [thresherlaw10_GrainMarks.j0] at H
   by_cases c35 : x38_9 = true
   ·subst c35
    have H1 : (some false) = some r := by rw [if_pos rfl] at H; exact H
    clear H
    have H := H1
    clear H1
    obtain rfl := Option.some.inj H
    go_wp2
    go_ret
    exact ⟨by first | rfl | (simp [errW_none, errW_some] <;> rfl) | (simp [*, errW_none, errW_some] <;> rfl), by repeat (first | (with_reducible first | exact HB.out | apply below_alloc | apply pw_below_drewN | apply below_drew1 | refine below_set ?_ GE252.out | refine below_set ?_ GE260.out) | exact HB.out)⟩
   ·replace c35 := Bool.eq_false_iff.mpr c35
    subst c35
    have H1 : (thresherlaw10_GrainMarks.l0 kj9 t253 t267 t270 0 t254 t257 t258 t259) = some r := by rw [if_neg (show ¬ (false = true) by decide)] at H; exact H
    clear H
    have H := H1
    clear H1
    have H' := Aside0.mk H
    clear H
    go_wp2
    go_loopg [11] kj9 (fun kq v11 w' => ∃ (x11_2 : Int), v11 = .int .i64 x11_2 ∧ Aside0 (thresherlaw10_GrainMarks.l0 kq t253 t267 t270 x11_2 t254 t257 t258 t259 = some r) ∧ Aside0 (kq ≤ kj9) ∧ Aside0 (Kd.N (Kd.slice 38 (Kd.slice 45 k45)) 25 w' w.heap.size (fun k_ => some k_ ≠ ((.slice Ao30 t270.length co30) : Value).ownBlock ∧ some k_ ≠ ((.slice Ao16 t254.length co16) : Value).ownBlock ∧ k_ ≠ gb252 ∧ k_ ≠ gb260) v268 t267) ∧ Aside0 (Kd.N (Kd.slice 45 k45) 38 w' w.heap.size (fun k_ => some k_ ≠ (v268 : Value).ownBlock ∧ some k_ ≠ ((.slice Ao16 t254.length co16) : Value).ownBlock ∧ k_ ≠ gb252 ∧ k_ ≠ gb260) (.slice Ao30 t270.length co30) t270) ∧ Aside0 (Kd.R (Kd.int .i64) 3 w' w.heap.size (fun _ => True) (.slice Ao16 t254.length co16) t254) ∧ Aside0 (w'.heap[gb252]? = some (.cells #[.int .u8 a0_0, .int .u8 a0_1, .int .u8 a0_2, .int .u8 a0_3, .int .u8 a0_4, .int .u8 a0_5, .int .u8 a0_6, .int .u8 a0_7, .int .u8 a0_8, .int .u8 a0_9, .int .u8 a0_10, .int .u8 a0_11] 24 (0, 0))) ∧ Aside0 (w'.heap[gb260]? = some (.cells #[(.slice Ao16 t254.length co16), .int .i64 t257, .int .i64 t258, .int .i64 t259] 29 (0, 0))) ∧ Aside0 (Below w.heap.size w w'))
    case atStart => exact ⟨(0), (by first | rfl | (simp; done) | (simp [*]; done)), H', ⟨Nat.le_refl _⟩, ⟨by (with_reducible repeat (first | apply Kd.N_alloc | apply Kd.N_drewN | apply Kd.N_drew)); exact HO_8.out⟩, ⟨by (with_reducible repeat (first | apply Kd.N_alloc | apply Kd.N_drewN | apply Kd.N_drew)); exact HO_9.out⟩, ⟨by (with_reducible repeat (first | apply Kd.R_alloc | apply Kd.R_drewN | apply Kd.R_drew)); exact HO_261000.out⟩, ⟨by (with_reducible repeat (first | refine blk_drewN ?_ _ | refine blk_drew ?_ | refine blk_alloc ?_ _)); exact BK252.out⟩, ⟨by (with_reducible repeat (first | refine blk_drewN ?_ _ | refine blk_drew ?_ | refine blk_alloc ?_ _)); exact BK260.out⟩, ⟨by repeat (first | (with_reducible first | exact HB.out | apply below_alloc | apply pw_below_drewN | apply below_drew1 | refine below_set ?_ GE252.out | refine below_set ?_ GE260.out) | exact HB.out)⟩⟩
    case round =>
     clear H'
     try clear c1
     try clear p2
     try clear c3
     try clear c7
     try clear c8
     try clear c9
     try clear c10
     try clear c11
     try clear c12
     try clear c13
     try clear c17
     try clear c32
     try clear c32b0
     try clear c32b1
     try clear c32b2
     try clear c35
     try clear hcz13_0
     try clear hcz13_1
     try clear hcz13_10
     try clear hcz13_11
     try clear hcz13_2
     try clear hcz13_3
     try clear hcz13_4
     try clear hcz13_5
     try clear hcz13_6
     try clear hcz13_7
     try clear hcz13_8
     try clear hcz13_9
     try clear hcz18_0
     try clear hcz18_1
     try clear hcz18_2
     try clear hcz18_3
     try clear hcz24_0
     try clear hcz24_1
     try clear hcz24_2
     try clear hcz24_3
     try clear hcz27_0
     try clear hcz27_1
     try clear hcz27_2
     try clear hcz27_3
     try clear hcz29_0
     try clear hcz29_1
     try clear hcz29_2
     try clear hcz29_3
     try clear hfz13_0
     try clear hfz13_1
     try clear hfz13_10
     try clear hfz13_11
     try clear hfz13_2
     try clear hfz13_3
     try clear hfz13_4
     try clear hfz13_5
     try clear hfz13_6
     try clear hfz13_7
     try clear hfz13_8
     try clear hfz13_9
     try clear hfz18_0
     try clear hfz18_1
     try clear hfz18_2
     try clear hfz18_3
     try clear hfz24_0
     try clear hfz24_1
     try clear hfz24_2
     try clear hfz24_3
     try clear hfz27_0
     try clear hfz27_1
     try clear hfz27_2
     try clear hfz27_3
     try clear hfz29_0
     try clear hfz29_1
     try clear hfz29_2
     try clear hfz29_3
     try clear p2
     obtain ⟨x11_2, rfl, HA, HK2, HO_8, HO_9, HO_261000, BK252, BK260, HB⟩ := hrel
     cases gk with
     | zero => exact absurd HA.out (by simp [thresherlaw10_GrainMarks.l0])
     | succ k2 =>
      have H := HA.out
      clear HA
      simp only [thresherlaw10_GrainMarks.l0] at H
      by_cases c36 : x11_2 < (t267.length : Int)
      ·rw [if_pos c36] at H
       have c36b0 : decide (x11_2 < (t267.length : Int)) = true := decide_eq_true c36
       clear c36
       have H' := Aside0.mk H
       clear H
       obtain ⟨Ao37, co37, eo37⟩ := Kd.N_slice HO_8.out
       subst eo37
       go_wp2
       go_loopg [12] k2 (fun kq v12 w' => ∃ (x12_3 : Int), v12 = .int .i64 x12_3 ∧ Aside0 (thresherlaw10_GrainMarks.l1 kq t253 t267 t270 x11_2 x12_3 t254 t257 t258 t259 = some r) ∧ Aside0 (kq ≤ k2) ∧ Aside0 (Kd.N (Kd.slice 38 (Kd.slice 45 k45)) 25 w' w.heap.size (fun k_ => some k_ ≠ ((.slice Ao30 t270.length co30) : Value).ownBlock ∧ some k_ ≠ ((.slice Ao16 t254.length co16) : Value).ownBlock ∧ k_ ≠ gb252 ∧ k_ ≠ gb260) (.slice Ao37 t267.length co37) t267) ∧ Aside0 (Kd.N (Kd.slice 45 k45) 38 w' w.heap.size (fun k_ => some k_ ≠ ((.slice Ao37 t267.length co37) : Value).ownBlock ∧ some k_ ≠ ((.slice Ao16 t254.length co16) : Value).ownBlock ∧ k_ ≠ gb252 ∧ k_ ≠ gb260) (.slice Ao30 t270.length co30) t270) ∧ Aside0 (Kd.R (Kd.int .i64) 3 w' w.heap.size (fun _ => True) (.slice Ao16 t254.length co16) t254) ∧ Aside0 (w'.heap[gb252]? = some (.cells #[.int .u8 a0_0, .int .u8 a0_1, .int .u8 a0_2, .int .u8 a0_3, .int .u8 a0_4, .int .u8 a0_5, .int .u8 a0_6, .int .u8 a0_7, .int .u8 a0_8, .int .u8 a0_9, .int .u8 a0_10, .int .u8 a0_11] 24 (0, 0))) ∧ Aside0 (w'.heap[gb260]? = some (.cells #[(.slice Ao16 t254.length co16), .int .i64 t257, .int .i64 t258, .int .i64 t259] 29 (0, 0))) ∧ Aside0 (Below w.heap.size w w'))
       case atStart => exact ⟨(0), (by first | rfl | (simp; done) | (simp [*]; done)), H', ⟨Nat.le_refl _⟩, ⟨by (with_reducible repeat (first | apply Kd.N_alloc | apply Kd.N_drewN | apply Kd.N_drew)); exact HO_8.out⟩, ⟨by (with_reducible repeat (first | apply Kd.N_alloc | apply Kd.N_drewN | apply Kd.N_drew)); exact HO_9.out⟩, ⟨by (with_reducible repeat (first | apply Kd.R_alloc | apply Kd.R_drewN | apply Kd.R_drew)); exact HO_261000.out⟩, ⟨by (with_reducible repeat (first | refine blk_drewN ?_ _ | refine blk_drew ?_ | refine blk_alloc ?_ _)); exact BK252.out⟩, ⟨by (with_reducible repeat (first | refine blk_drewN ?_ _ | refine blk_drew ?_ | refine blk_alloc ?_ _)); exact BK260.out⟩, ⟨by repeat (first | (with_reducible first | exact HB.out | apply below_alloc | apply pw_below_drewN | apply below_drew1 | refine below_set ?_ GE252.out | refine below_set ?_ GE260.out) | exact HB.out)⟩⟩
       case round =>
        clear H'
        try clear c1
        try clear p2
        try clear c3
        try clear c7
        try clear c8
        try clear c9
        try clear c10
        try clear c11
        try clear c12
        try clear c13
        try clear c17
        try clear c32
        try clear c32b0
        try clear c32b1
        try clear c32b2
        try clear c35
        try clear c36
        try clear c36b0
        try clear hcz13_0
        try clear hcz13_1
        try clear hcz13_10
        try clear hcz13_11
        try clear hcz13_2
        try clear hcz13_3
        try clear hcz13_4
        try clear hcz13_5
        try clear hcz13_6
        try clear hcz13_7
        try clear hcz13_8
        try clear hcz13_9
        try clear hcz18_0
        try clear hcz18_1
        try clear hcz18_2
        try clear hcz18_3
        try clear hcz24_0
        try clear hcz24_1
        try clear hcz24_2
        try clear hcz24_3
        try clear hcz27_0
        try clear hcz27_1
        try clear hcz27_2
        try clear hcz27_3
        try clear hcz29_0
        try clear hcz29_1
        try clear hcz29_2
        try clear hcz29_3
        try clear hfz13_0
        try clear hfz13_1
        try clear hfz13_10
        try clear hfz13_11
        try clear hfz13_2
        try clear hfz13_3
        try clear hfz13_4
        try clear hfz13_5
        try clear hfz13_6
        try clear hfz13_7
        try clear hfz13_8
        try clear hfz13_9
        try clear hfz18_0
        try clear hfz18_1
        try clear hfz18_2
        try clear hfz18_3
        try clear hfz24_0
        try clear hfz24_1
        try clear hfz24_2
        try clear hfz24_3
        try clear hfz27_0
        try clear hfz27_1
        try clear hfz27_2
        try clear hfz27_3
        try clear hfz29_0
        try clear hfz29_1
        try clear hfz29_2
        try clear hfz29_3
        try clear p2
        obtain ⟨x12_3, rfl, HA, HK3, HO_8, HO_9, HO_261000, BK252, BK260, HB⟩ := hrel
        cases gk with
        | zero => exact absurd HA.out (by simp [thresherlaw10_GrainMarks.l1])
        | succ k3 =>
         have H := HA.out
         clear HA
         simp only [thresherlaw10_GrainMarks.l1] at H
         by_cases c38 : 0 ≤ x11_2
         ·rw [if_pos c38] at H
          have c38b0 : decide (0 ≤ x11_2) = true := decide_eq_true c38
          clear c38
          by_cases c39 : x11_2 < (t267.length : Int)
          ·rw [if_pos c39] at H
           have c39b0 : decide (x11_2 < (t267.length : Int)) = true := decide_eq_true c39
           clear c39
           by_cases c40 : x12_3 < ((rd_L4 t267 x11_2).length : Int)
           ·rw [if_pos c40] at H
            have c40b0 : decide (x12_3 < ((rd_L4 t267 x11_2).length : Int)) = true := decide_eq_true c40
            clear c40
            by_cases c41 : 0 ≤ x12_3
            ·rw [if_pos c41] at H
             have c41b0 : decide (0 ≤ x12_3) = true := decide_eq_true c41
             clear c41
             by_cases c42 : x11_2 < (t270.length : Int)
             ·rw [if_pos c42] at H
              have c42b0 : decide (x11_2 < (t270.length : Int)) = true := decide_eq_true c42
              clear c42
              replace H := Option.bind_eq_some_iff.mp H
              obtain ⟨t278, A430, H⟩ := H
              replace H : (if t278 < 0 then (some false) else (if (wrap64 (x11_2 + 1)) < (t270.length : Int) then (if 0 ≤ (wrap64 (x11_2 + 1)) then ((thresherref04_Compare.f k3 t254 t257 t258 t259 (rd_L3 (rd_L4 t267 x11_2) x12_3) (rd_L3 t270 (wrap64 (x11_2 + 1)))).bind fun t282 => (if t282 > 0 then (some false) else (thresherlaw10_GrainMarks.l1 k3 t253 t267 t270 x11_2 (wrap64 (x12_3 + 1)) t254 t257 t258 t259))) else (none)) else (thresherlaw10_GrainMarks.l1 k3 t253 t267 t270 x11_2 (wrap64 (x12_3 + 1)) t254 t257 t258 t259))) = some r := H
              have A43 := Aside0.mk A430
              clear A430
              by_cases c44 : t278 < 0
              ·rw [if_pos c44] at H
               have c44b0 : decide (t278 < 0) = true := decide_eq_true c44
               clear c44
               obtain rfl := Option.some.inj H
               have p274 : 0 ≤ (x11_2 : Int) := of_decide_eq_true (by first | (with_reducible assumption) | assumption)
               have q274 : x11_2 < (t267.length : Int) := of_decide_eq_true (by first | (with_reducible assumption) | assumption)
               obtain ⟨ad274, A274_0, c274_0, e274, hx274_0, hl274_0, hi274_0⟩ := at_L4 (Kd.N_reads' HO_8.out).2.2 x11_2 p274 q274
               cases e274
               obtain ⟨ce274, hce274, hMe274, hcc274⟩ := Kd.N_get HO_8.out [] x11_2 p274 (by first | exact q274 | exact of_decide_eq_true (by first | (with_reducible assumption) | assumption) | (have e_ := (Kd.N_reads' HO_8.out).1; omega))
               obtain ⟨ua274_0, uc274_0, rfl, ul274_0, ge274_0⟩ := Kd.FK_slice_open hMe274
               have hv274_0 := hcc274 0 _ rfl
               rw [Nat.add_zero, show ((Kd.slice 38 (Kd.slice 45 k45))).sz = 1 from rfl, Nat.mul_one] at hv274_0
               replace hv274_0 := Option.some.inj (hv274_0.symm.trans hx274_0)
               injection hv274_0 with hva_ hvn_ hvc_
               rw [hva_] at ge274_0
               rw [hvc_] at ul274_0
               have HL274_0 := Aside0.mk (show Kd.V (Kd.slice 45 k45) 38 _ w.heap.size _ _ (rd_L4 t267 x11_2) from Kd.V_mk ul274_0 ge274_0)
               clear hva_ hvn_ hvc_ ge274_0 ul274_0
               clear hcc274 hce274
               have HR274_0 := Aside0.mk hi274_0
               have HC274_0 := Aside0.mk hl274_0
               clear hi274_0 hl274_0
               replace p274 := eq_true p274
               replace q274 := eq_true q274
               try go_wp2
               have n0_ := Aside0.mk (Kd.N_drew HO_8.out)
               have n1_ := Aside0.mk (Kd.N_drew HO_9.out)
               have n2_ := Aside0.mk (Kd.R_drew HO_261000.out)
               have n3_ := Aside0.mk (Kd.V_drew HL274_0.out)
               have n4_ := Aside0.mk (blk_drew BK252.out)
               have n5_ := Aside0.mk (blk_drew BK260.out)
               have n6_ := Aside0.mk (Kd.C_drew HR274_0.out)
               have n7_ := Aside0.mk (below_drew1 HB.out)
               clear HO_8
               clear HO_9
               clear HO_261000
               clear HL274_0
               clear BK252
               clear BK260
               clear HR274_0
               clear HB
               have HO_8 := n0_
               have HO_9 := n1_
               have HO_261000 := n2_
               have HL274_0 := n3_
               have BK252 := n4_
               have BK260 := n5_
               have HR274_0 := n6_
               have HB := n7_
               clear n0_ n1_ n2_ n3_ n4_ n5_ n6_ n7_
               have p275 : 0 ≤ (x11_2 : Int) := of_decide_eq_true (by first | (with_reducible assumption) | assumption)
               have q275 : x11_2 < (t267.length : Int) := of_decide_eq_true (by first | (with_reducible assumption) | assumption)
               obtain ⟨ad275, A275_0, c275_0, e275, hx275_0, hl275_0, hi275_0⟩ := at_L4 (Kd.N_reads' HO_8.out).2.2 x11_2 p275 q275
               obtain rfl : ad274 = ad275 := (by injection e275)
               obtain ⟨ce275, hce275, hMe275, hcc275⟩ := Kd.N_get HO_8.out [] x11_2 p275 (by first | exact q275 | exact of_decide_eq_true (by first | (with_reducible assumption) | assumption) | (have e_ := (Kd.N_reads' HO_8.out).1; omega))
               obtain ⟨ua275_0, uc275_0, rfl, ul275_0, ge275_0⟩ := Kd.FK_slice_open hMe275
               have hv275_0 := hcc275 0 _ rfl
               rw [Nat.add_zero, show ((Kd.slice 38 (Kd.slice 45 k45))).sz = 1 from rfl, Nat.mul_one] at hv275_0
               replace hv275_0 := Option.some.inj (hv275_0.symm.trans hx275_0)
               injection hv275_0 with hva_ hvn_ hvc_
               rw [hva_] at ge275_0
               rw [hvc_] at ul275_0
               have HL275_0 := Aside0.mk (show Kd.V (Kd.slice 45 k45) 38 _ w.heap.size _ _ (rd_L4 t267 x11_2) from Kd.V_mk ul275_0 ge275_0)
               clear hva_ hvn_ hvc_ ge275_0 ul275_0
               clear hcc275 hce275
               have HR275_0 := Aside0.mk hi275_0
               have HC275_0 := Aside0.mk hl275_0
               clear hi275_0 hl275_0
               replace p275 := eq_true p275
               replace q275 := eq_true q275
               have p276 : 0 ≤ (x12_3 : Int) := of_decide_eq_true (by first | (with_reducible assumption) | assumption)
               have q276 : x12_3 < ((rd_L4 t267 x11_2).length : Int) := of_decide_eq_true (by first | (with_reducible assumption) | assumption)
               obtain ⟨ad276, A276_0, c276_0, e276, hx276_0, hl276_0, hi276_0⟩ := at_L3 (by repeat (first | (with_reducible exact HR275_0.out) | (with_reducible refine Kd.C_alloc ?_ _) | (with_reducible refine Kd.C_drewN ?_ _) | (with_reducible refine Kd.C_drew ?_) | exact HR275_0.out)) x12_3 p276 q276
               cases e276
               obtain ⟨ce276, hce276, hMe276, hcc276⟩ := Kd.V_get HL275_0.out [] x12_3 p276 (by first | exact q276 | exact of_decide_eq_true (by first | (with_reducible assumption) | assumption) | (have e_ := (Kd.V_reads' HL275_0.out).1; omega))
               obtain ⟨ua276_0, uc276_0, rfl, ul276_0, ge276_0⟩ := Kd.FK_slice_open hMe276
               have hv276_0 := hcc276 0 _ rfl
               rw [Nat.add_zero, show ((Kd.slice 45 k45)).sz = 1 from rfl, Nat.mul_one] at hv276_0
               replace hv276_0 := Option.some.inj (hv276_0.symm.trans hx276_0)
               injection hv276_0 with hva_ hvn_ hvc_
               rw [hva_] at ge276_0
               rw [hvc_] at ul276_0
               have HL276_0 := Aside0.mk (show Kd.V k45 45 _ w.heap.size _ _ (rd_L3 (rd_L4 t267 x11_2) x12_3) from Kd.V_mk ul276_0 ge276_0)
               clear hva_ hvn_ hvc_ ge276_0 ul276_0
               clear hcc276 hce276
               have HR276_0 := Aside0.mk hi276_0
               have HC276_0 := Aside0.mk hl276_0
               clear hi276_0 hl276_0
               replace p276 := eq_true p276
               replace q276 := eq_true q276
               have p277 : 0 ≤ (x11_2 : Int) := of_decide_eq_true (by first | (with_reducible assumption) | assumption)
               have q277 : x11_2 < (t270.length : Int) := of_decide_eq_true (by first | (with_reducible assumption) | assumption)
               obtain ⟨ad277, A277_0, c277_0, e277, hx277_0, hl277_0, hi277_0⟩ := at_L3 (Kd.N_reads' HO_9.out).2.2 x11_2 p277 q277
               cases e277
               obtain ⟨ce277, hce277, hMe277, hcc277⟩ := Kd.N_get HO_9.out [] x11_2 p277 (by first | exact q277 | exact of_decide_eq_true (by first | (with_reducible assumption) | assumption) | (have e_ := (Kd.N_reads' HO_9.out).1; omega))
               obtain ⟨ua277_0, uc277_0, rfl, ul277_0, ge277_0⟩ := Kd.FK_slice_open hMe277
               have hv277_0 := hcc277 0 _ rfl
               rw [Nat.add_zero, show ((Kd.slice 45 k45)).sz = 1 from rfl, Nat.mul_one] at hv277_0
               replace hv277_0 := Option.some.inj (hv277_0.symm.trans hx277_0)
               injection hv277_0 with hva_ hvn_ hvc_
               rw [hva_] at ge277_0
               rw [hvc_] at ul277_0
               have HL277_0 := Aside0.mk (show Kd.V k45 45 _ w.heap.size _ _ (rd_L3 t270 x11_2) from Kd.V_mk ul277_0 ge277_0)
               clear hva_ hvn_ hvc_ ge277_0 ul277_0
               clear hcc277 hce277
               have HR277_0 := Aside0.mk hi277_0
               have HC277_0 := Aside0.mk hl277_0
               clear hi277_0 hl277_0
               replace p277 := eq_true p277
               replace q277 := eq_true q277
               refine start_ (n := 38) (S := fun w' => w'.cell? ⟨gb260, 0, none⟩ = some (.slice Ao16 t254.length co16) ∧ w'.cell? ⟨gb260, 1, none⟩ = some (.int .i64 t257) ∧ w'.cell? ⟨gb260, 2, none⟩ = some (.int .i64 t258) ∧ w'.cell? ⟨gb260, 3, none⟩ = some (.int .i64 t259) ∧ w'.cell? (ad274.add (x11_2).toNat) = some (.slice (some ad276) (rd_L4 t267 x11_2).length c275_0) ∧ w'.cell? (ad276.add (x12_3).toNat) = some (.slice A276_0 (rd_L3 (rd_L4 t267 x11_2) x12_3).length c276_0) ∧ w'.cell? (ad277.add (x11_2).toNat) = some (.slice A277_0 (rd_L3 t270 x11_2).length c277_0)) (ds := []) #[false, false, false, false, false, false, false, false, false, false, false, false, false, false, false, false, false, false, false, false, false, false, false, false, false, false, false, false, false, false, false, false, false, false, false, false, false, false] (by kernel_rfl) rfl rfl ⟨(blk_cell BK260.out 0).trans rfl, (blk_cell BK260.out 1).trans rfl, (blk_cell BK260.out 2).trans rfl, (blk_cell BK260.out 3).trans rfl, hx275_0, hx276_0, hx277_0⟩ (fun hHeld => ?_); refine with_tabW thresherlaw10_GrainMarks.tab15 thresherlaw10_GrainMarks.bits15 (fun HT_ HW_ => ?_)
               generalize wr.drew = w45 at HO_8 HO_9 HO_261000 HL274_0 BK252 BK260 HR274_0 HB HL275_0 HL276_0 HL277_0 HR275_0 HR276_0 HR277_0 hx275_0 hx276_0 hx277_0 hHeld ⊢
               refine pure_ (i := 1) (N := some 55) (v := ?_) (a' := ?_) #[false, true, false, false, false, false, false, false, false, false, false, false, false, false, false, false, false, false, false, false, false, false, false, false, false, false, false, false, false, false, false, false, false, false, false, false, false, false] rfl rfl (any_of HT_.out (by kernel_rfl)) (fun _ _ _ h => h) (Or.inl ⟨by rfl, ?_⟩) ?_ ?_
               rotate_left; (intro w'; go_simp; with_reducible rfl); rotate_left; (simp only [Act.put, List.setIfInBounds_toArray, List.set_cons_zero, List.set_cons_succ, i64_w, i32_w]; rfl)
               refine pure_ (i := 2) (N := some 56) (v := ?_) (a' := ?_) #[false, true, true, false, false, false, false, false, false, false, false, false, false, false, false, false, false, false, false, false, false, false, false, false, false, false, false, false, false, false, false, false, false, false, false, false, false, false] rfl rfl (any_of HT_.out (by kernel_rfl)) (fun _ _ _ h => h) (Or.inl ⟨by rfl, ?_⟩) ?_ ?_
               rotate_left; (intro w'; go_simp; with_reducible rfl); rotate_left; (simp only [Act.put, List.setIfInBounds_toArray, List.set_cons_zero, List.set_cons_succ, i64_w, i32_w]; rfl)
               refine pure_ (i := 3) (N := some 57) (v := ?_) (a' := ?_) #[false, true, true, true, false, false, false, false, false, false, false, false, false, false, false, false, false, false, false, false, false, false, false, false, false, false, false, false, false, false, false, false, false, false, false, false, false, false] rfl rfl (any_of HT_.out (by kernel_rfl)) (fun _ _ _ h => h) (Or.inl ⟨by rfl, ?_⟩) ?_ ?_
               rotate_left; (intro w'; go_simp; with_reducible rfl); rotate_left; (simp only [Act.put, List.setIfInBounds_toArray, List.set_cons_zero, List.set_cons_succ, i64_w, i32_w]; rfl)
               refine pure_ (i := 5) (N := some 59) (v := ?_) (a' := ?_) #[false, true, true, true, false, true, false, false, false, false, false, false, false, false, false, false, false, false, false, false, false, false, false, false, false, false, false, false, false, false, false, false, false, false, false, false, false, false] rfl rfl (any_of HT_.out (by kernel_rfl)) (fun _ _ _ h => h) (Or.inl ⟨by rfl, ?_⟩) ?_ ?_
               rotate_left; (intro w'; go_simp; with_reducible rfl); rotate_left; (simp only [Act.put, List.setIfInBounds_toArray, List.set_cons_zero, List.set_cons_succ, i64_w, i32_w]; rfl)
               refine pure_ (i := 8) (N := some 62) (v := ?_) (a' := ?_) #[false, true, true, true, false, true, false, false, true, false, false, false, false, false, false, false, false, false, false, false, false, false, false, false, false, false, false, false, false, false, false, false, false, false, false, false, false, false] rfl rfl (any_of HT_.out (by kernel_rfl)) (fun _ _ _ h => h) (Or.inl ⟨by rfl, ?_⟩) ?_ ?_
               rotate_left; (intro w'; go_simp; with_reducible rfl); rotate_left; (simp only [Act.put, List.setIfInBounds_toArray, List.set_cons_zero, List.set_cons_succ, i64_w, i32_w]; rfl)
               refine pure_ (i := 9) (N := some 63) (v := ?_) (a' := ?_) #[false, true, true, true, false, true, false, false, true, true, false, false, false, false, false, false, false, false, false, false, false, false, false, false, false, false, false, false, false, false, false, false, false, false, false, false, false, false] rfl rfl (any_of HT_.out (by kernel_rfl)) (fun _ _ _ h => h) (Or.inl ⟨by rfl, ?_⟩) ?_ ?_
               rotate_left; (intro w'; go_simp; with_reducible rfl); rotate_left; (simp only [Act.put, List.setIfInBounds_toArray, List.set_cons_zero, List.set_cons_succ, i64_w, i32_w]; rfl)
               refine pure_ (i := 10) (N := some 64) (v := ?_) (a' := ?_) #[false, true, true, true, false, true, false, false, true, true, true, false, false, false, false, false, false, false, false, false, false, false, false, false, false, false, false, false, false, false, false, false, false, false, false, false, false, false] rfl rfl (any_of HT_.out (by kernel_rfl)) (fun _ _ _ h => h) (Or.inl ⟨by rfl, ?_⟩) ?_ ?_
               rotate_left; (intro w'; go_simp; with_reducible rfl); rotate_left; (simp only [Act.put, List.setIfInBounds_toArray, List.set_cons_zero, List.set_cons_succ, i64_w, i32_w]; rfl)
               refine take_ (i := 0) (N := some 54) (v := ?_) (a' := ?_) #[true, true, true, true, false, true, false, false, true, true, true, false, false, false, false, false, false, false, false, false, false, false, false, false, false, false, false, false, false, false, false, false, false, false, false, false, false, false] rfl rfl (take_ofW HT_.out HW_.out (by kernel_rfl)) (fun _ _ _ h => h) (Or.inl ⟨by rfl, ?_⟩) hHeld ?_ ?_
               rotate_left; (rintro w' ⟨s0, s1, s2, s3, s4, s5, s6⟩; go_simp; with_reducible rfl); rotate_left; (simp only [Act.put, List.setIfInBounds_toArray, List.set_cons_zero, List.set_cons_succ, i64_w, i32_w]; rfl)
               refine take_ (i := 4) (N := some 58) (v := ?_) (a' := ?_) #[true, true, true, true, true, true, false, false, true, true, true, false, false, false, false, false, false, false, false, false, false, false, false, false, false, false, false, false, false, false, false, false, false, false, false, false, false, false] rfl rfl (take_ofW HT_.out HW_.out (by kernel_rfl)) (fun _ _ _ h => h) (Or.inl ⟨by rfl, ?_⟩) hHeld ?_ ?_
               rotate_left; (rintro w' ⟨s0, s1, s2, s3, s4, s5, s6⟩; go_simp; with_reducible rfl); rotate_left; (simp only [Act.put, List.setIfInBounds_toArray, List.set_cons_zero, List.set_cons_succ, i64_w, i32_w]; rfl)
               refine pure_ (i := 6) (N := some 60) (v := ?_) (a' := ?_) #[true, true, true, true, true, true, true, false, true, true, true, false, false, false, false, false, false, false, false, false, false, false, false, false, false, false, false, false, false, false, false, false, false, false, false, false, false, false] rfl rfl (any_of HT_.out (by kernel_rfl)) (fun _ _ _ h => h) (Or.inl ⟨by rfl, ?_⟩) ?_ ?_
               rotate_left; (intro w'; go_simp; with_reducible rfl); rotate_left; (simp only [Act.put, List.setIfInBounds_toArray, List.set_cons_zero, List.set_cons_succ, i64_w, i32_w]; rfl)
               refine take_ (i := 7) (N := some 61) (v := ?_) (a' := ?_) #[true, true, true, true, true, true, true, true, true, true, true, false, false, false, false, false, false, false, false, false, false, false, false, false, false, false, false, false, false, false, false, false, false, false, false, false, false, false] rfl rfl (take_ofW HT_.out HW_.out (by kernel_rfl)) (fun _ _ _ h => h) (Or.inl ⟨by rfl, ?_⟩) hHeld ?_ ?_
               rotate_left; (rintro w' ⟨s0, s1, s2, s3, s4, s5, s6⟩; go_simp; with_reducible rfl); rotate_left; (simp only [Act.put, List.setIfInBounds_toArray, List.set_cons_zero, List.set_cons_succ, i64_w, i32_w]; rfl)
               refine take_ (i := 11) (N := some 65) (v := ?_) (a' := ?_) #[true, true, true, true, true, true, true, true, true, true, true, true, false, false, false, false, false, false, false, false, false, false, false, false, false, false, false, false, false, false, false, false, false, false, false, false, false, false] rfl rfl (take_ofW HT_.out HW_.out (by kernel_rfl)) (fun _ _ _ h => h) (Or.inl ⟨by rfl, ?_⟩) hHeld ?_ ?_
               rotate_left; (rintro w' ⟨s0, s1, s2, s3, s4, s5, s6⟩; go_simp; with_reducible rfl); rotate_left; (simp only [Act.put, List.setIfInBounds_toArray, List.set_cons_zero, List.set_cons_succ, i64_w, i32_w]; rfl)
               refine one_ (i := 12) (N := some 66) #[true, true, true, true, true, true, true, true, true, true, true, true, true, false, false, false, false, false, false, false, false, false, false, false, false, false, false, false, false, false, false, false, false, false, false, false, false, false] rfl rfl (one_of HT_.out (by kernel_rfl)) (by decide) (fun K hK => ?_)
               refine goes_ Try.func14 (by kernel_rfl) rfl #[.agg #[.slice Ao16 t254.length co16, .int .i64 t257, .int .i64 t258, .int .i64 t259], .slice A276_0 (rd_L3 (rd_L4 t267 x11_2) x12_3).length c276_0, .slice A277_0 (rd_L3 t270 x11_2).length c277_0] (by rfl) rfl rfl (by (try simp only [List.map_toArray, List.map_cons, List.map_nil]); first | done | rfl | (simp only [List.length_drop, List.length_take]; rfl)) ?_
               with_reducible refine (thresherref04_Compare.calls k3 _ _ t254 t257 t258 t259 _ _ (rd_L3 (rd_L4 t267 x11_2) x12_3) _ _ (rd_L3 t270 x11_2) t278 _ ?side1 ?side2 ?side3 ?side4 ?side5 ?side6 A43.out).mono ?_
               (case side1 => repeat (first | exact (Kd.R_reads' HO_261000.out).2.2 | (with_reducible refine Kd.C_alloc ?_ _) | (with_reducible refine Kd.C_drewN ?_ _) | (with_reducible refine Kd.C_drew ?_)))
               (case side2 => exact (Kd.R_reads' HO_261000.out).2.1)
               (case side3 => repeat (first | exact (by repeat (first | (with_reducible exact HR276_0.out) | (with_reducible refine Kd.C_alloc ?_ _) | (with_reducible refine Kd.C_drewN ?_ _) | (with_reducible refine Kd.C_drew ?_) | exact HR276_0.out)) | (with_reducible refine Kd.C_alloc ?_ _) | (with_reducible refine Kd.C_drewN ?_ _) | (with_reducible refine Kd.C_drew ?_)))
               (case side4 => exact HC276_0.out)
               (case side5 => repeat (first | exact (by repeat (first | (with_reducible exact HR277_0.out) | (with_reducible refine Kd.C_alloc ?_ _) | (with_reducible refine Kd.C_drewN ?_ _) | (with_reducible refine Kd.C_drew ?_) | exact HR277_0.out)) | (with_reducible refine Kd.C_alloc ?_ _) | (with_reducible refine Kd.C_drewN ?_ _) | (with_reducible refine Kd.C_drew ?_)))
               (case side6 => exact HC277_0.out)
               rintro e w46 ⟨rfl, hb⟩
               have HS4_ := (hb.cell (World.block_lt_of_cell? _ _ (hHeld.2.2.2.2.1))).trans (hHeld.2.2.2.2.1)
               have HS5_ := (hb.cell (World.block_lt_of_cell? _ _ (hHeld.2.2.2.2.2.1))).trans (hHeld.2.2.2.2.2.1)
               have HS6_ := (hb.cell (World.block_lt_of_cell? _ _ (hHeld.2.2.2.2.2.2))).trans (hHeld.2.2.2.2.2.2)
               refine ⟨_, rfl, ?_⟩
               have n0_ := Aside0.mk (Kd.N_below (by (with_reducible repeat (first | apply Kd.N_alloc | apply Kd.N_drewN | apply Kd.N_drew)); exact HO_8.out) hb)
               have n1_ := Aside0.mk (Kd.N_below (by (with_reducible repeat (first | apply Kd.N_alloc | apply Kd.N_drewN | apply Kd.N_drew)); exact HO_9.out) hb)
               have n2_ := Aside0.mk (Kd.R_below (by (with_reducible repeat (first | apply Kd.R_alloc | apply Kd.R_drewN | apply Kd.R_drew)); exact HO_261000.out) hb)
               have n3_ := Aside0.mk (Kd.V_below (by (with_reducible repeat (first | apply Kd.V_alloc | apply Kd.V_drewN | apply Kd.V_drew)); exact HL274_0.out) hb)
               have n4_ := Aside0.mk (Kd.V_below (by (with_reducible repeat (first | apply Kd.V_alloc | apply Kd.V_drewN | apply Kd.V_drew)); exact HL275_0.out) hb)
               have n5_ := Aside0.mk (Kd.V_below (by (with_reducible repeat (first | apply Kd.V_alloc | apply Kd.V_drewN | apply Kd.V_drew)); exact HL276_0.out) hb)
               have n6_ := Aside0.mk (Kd.V_below (by (with_reducible repeat (first | apply Kd.V_alloc | apply Kd.V_drewN | apply Kd.V_drew)); exact HL277_0.out) hb)
               have n7_ := Aside0.mk (blk_below (g := gb252) (o := .cells #[.int .u8 a0_0, .int .u8 a0_1, .int .u8 a0_2, .int .u8 a0_3, .int .u8 a0_4, .int .u8 a0_5, .int .u8 a0_6, .int .u8 a0_7, .int .u8 a0_8, .int .u8 a0_9, .int .u8 a0_10, .int .u8 a0_11] 24 (0, 0)) (by (with_reducible repeat (first | refine blk_drewN ?_ _ | refine blk_drew ?_ | refine blk_alloc ?_ _)); exact BK252.out) hb)
               have n8_ := Aside0.mk (blk_below (g := gb260) (o := .cells #[.slice Ao16 t254.length co16, .int .i64 t257, .int .i64 t258, .int .i64 t259] 29 (0, 0)) (by (with_reducible repeat (first | refine blk_drewN ?_ _ | refine blk_drew ?_ | refine blk_alloc ?_ _)); exact BK260.out) hb)
               have n9_ := Aside0.mk (Kd.C_below (by repeat (first | (with_reducible exact HR274_0.out) | (with_reducible refine Kd.C_alloc ?_ _) | (with_reducible refine Kd.C_drewN ?_ _) | (with_reducible refine Kd.C_drew ?_) | exact HR274_0.out)) hb)
               have n10_ := Aside0.mk (Kd.C_below (by repeat (first | (with_reducible exact HR275_0.out) | (with_reducible refine Kd.C_alloc ?_ _) | (with_reducible refine Kd.C_drewN ?_ _) | (with_reducible refine Kd.C_drew ?_) | exact HR275_0.out)) hb)
               have n11_ := Aside0.mk (Kd.C_below (by repeat (first | (with_reducible exact HR276_0.out) | (with_reducible refine Kd.C_alloc ?_ _) | (with_reducible refine Kd.C_drewN ?_ _) | (with_reducible refine Kd.C_drew ?_) | exact HR276_0.out)) hb)
               have n12_ := Aside0.mk (Kd.C_below (by repeat (first | (with_reducible exact HR277_0.out) | (with_reducible refine Kd.C_alloc ?_ _) | (with_reducible refine Kd.C_drewN ?_ _) | (with_reducible refine Kd.C_drew ?_) | exact HR277_0.out)) hb)
               have n13_ := Aside0.mk (below_step (by repeat (first | (with_reducible first | exact HB.out | apply below_alloc | apply pw_below_drewN | apply below_drew1 | refine below_set ?_ GE252.out | refine below_set ?_ GE260.out) | exact HB.out)) hb)
               clear HO_8
               clear HO_9
               clear HO_261000
               clear HL274_0
               clear HL275_0
               clear HL276_0
               clear HL277_0
               clear BK252
               clear BK260
               clear HR274_0
               clear HR275_0
               clear HR276_0
               clear HR277_0
               clear HB
               have HO_8 := n0_
               have HO_9 := n1_
               have HO_261000 := n2_
               have HL274_0 := n3_
               have HL275_0 := n4_
               have HL276_0 := n5_
               have HL277_0 := n6_
               have BK252 := n7_
               have BK260 := n8_
               have HR274_0 := n9_
               have HR275_0 := n10_
               have HR276_0 := n11_
               have HR277_0 := n12_
               have HB := n13_
               clear n0_ n1_ n2_ n3_ n4_ n5_ n6_ n7_ n8_ n9_ n10_ n11_ n12_ n13_
               (try clear hb)
               (try clear hb2)
               (try clear hk)
               (try clear hi)
               refine hK.out _ _ ⟨(blk_cell BK260.out 0).trans rfl, (blk_cell BK260.out 1).trans rfl, (blk_cell BK260.out 2).trans rfl, (blk_cell BK260.out 3).trans rfl, HS4_, HS5_, HS6_⟩ (fun hHeld => ?_)
               clear hK K
               refine norm_ (a' := ?_) ?_ ?_
               rotate_left
               ·show Act.put _ (some 66) _ = _
                simp only [Act.put, List.setIfInBounds_toArray, List.set_cons_zero, List.set_cons_succ, i64_w, i32_w]
                rfl
               refine pure_ (i := 13) (N := some 67) (v := ?_) (a' := ?_) #[true, true, true, true, true, true, true, true, true, true, true, true, true, true, false, false, false, false, false, false, false, false, false, false, false, false, false, false, false, false, false, false, false, false, false, false, false, false] rfl rfl (any_of HT_.out (by kernel_rfl)) (fun _ _ _ h => h) (Or.inl ⟨by rfl, ?_⟩) ?_ ?_
               rotate_left; (intro w'; go_simp; with_reducible rfl); rotate_left; (simp only [Act.put, List.setIfInBounds_toArray, List.set_cons_zero, List.set_cons_succ, i64_w, i32_w]; rfl)
               refine pure_ (i := 14) (N := some 68) (v := ?_) (a' := ?_) #[true, true, true, true, true, true, true, true, true, true, true, true, true, true, true, false, false, false, false, false, false, false, false, false, false, false, false, false, false, false, false, false, false, false, false, false, false, false] rfl rfl (any_of HT_.out (by kernel_rfl)) (fun _ _ _ h => h) (Or.inl ⟨by rfl, ?_⟩) ?_ ?_
               rotate_left; (intro w'; go_simp; with_reducible rfl); rotate_left; (simp only [Act.put, List.setIfInBounds_toArray, List.set_cons_zero, List.set_cons_succ, i64_w, i32_w]; rfl)
               refine pure_ (i := 15) (N := some 69) (v := undef) (a' := ?_) #[true, true, true, true, true, true, true, true, true, true, true, true, true, true, true, true, false, false, false, false, false, false, false, false, false, false, false, false, false, false, false, false, false, false, false, false, false, false] rfl rfl (any_of HT_.out (by kernel_rfl)) (fun _ _ _ h => h) (Or.inr ⟨by rfl, rfl⟩) ?_ ?_
               rotate_left
               ·simp only [Act.put, List.setIfInBounds_toArray, List.set_cons_zero, List.set_cons_succ, i64_w, i32_w]
                rfl
               refine pure_ (i := 16) (N := some 70) (v := undef) (a' := ?_) #[true, true, true, true, true, true, true, true, true, true, true, true, true, true, true, true, true, false, false, false, false, false, false, false, false, false, false, false, false, false, false, false, false, false, false, false, false, false] rfl rfl (any_of HT_.out (by kernel_rfl)) (fun _ _ _ h => h) (Or.inr ⟨by rfl, rfl⟩) ?_ ?_
               rotate_left
               ·simp only [Act.put, List.setIfInBounds_toArray, List.set_cons_zero, List.set_cons_succ, i64_w, i32_w]
                rfl
               refine pure_ (i := 17) (N := some 71) (v := undef) (a' := ?_) #[true, true, true, true, true, true, true, true, true, true, true, true, true, true, true, true, true, true, false, false, false, false, false, false, false, false, false, false, false, false, false, false, false, false, false, false, false, false] rfl rfl (any_of HT_.out (by kernel_rfl)) (fun _ _ _ h => h) (Or.inr ⟨by rfl, rfl⟩) ?_ ?_
               rotate_left
               ·simp only [Act.put, List.setIfInBounds_toArray, List.set_cons_zero, List.set_cons_succ, i64_w, i32_w]
                rfl
               refine pure_ (i := 18) (N := some 72) (v := undef) (a' := ?_) #[true, true, true, true, true, true, true, true, true, true, true, true, true, true, true, true, true, true, true, false, false, false, false, false, false, false, false, false, false, false, false, false, false, false, false, false, false, false] rfl rfl (any_of HT_.out (by kernel_rfl)) (fun _ _ _ h => h) (Or.inr ⟨by rfl, rfl⟩) ?_ ?_
               rotate_left
               ·simp only [Act.put, List.setIfInBounds_toArray, List.set_cons_zero, List.set_cons_succ, i64_w, i32_w]
                rfl
               refine pure_ (i := 19) (N := some 73) (v := undef) (a' := ?_) #[true, true, true, true, true, true, true, true, true, true, true, true, true, true, true, true, true, true, true, true, false, false, false, false, false, false, false, false, false, false, false, false, false, false, false, false, false, false] rfl rfl (any_of HT_.out (by kernel_rfl)) (fun _ _ _ h => h) (Or.inr ⟨by rfl, rfl⟩) ?_ ?_
               rotate_left
               ·simp only [Act.put, List.setIfInBounds_toArray, List.set_cons_zero, List.set_cons_succ, i64_w, i32_w]
                rfl
               refine pure_ (i := 20) (N := some 74) (v := undef) (a' := ?_) #[true, true, true, true, true, true, true, true, true, true, true, true, true, true, true, true, true, true, true, true, true, false, false, false, false, false, false, false, false, false, false, false, false, false, false, false, false, false] rfl rfl (any_of HT_.out (by kernel_rfl)) (fun _ _ _ h => h) (Or.inr ⟨by rfl, rfl⟩) ?_ ?_
               rotate_left
               ·simp only [Act.put, List.setIfInBounds_toArray, List.set_cons_zero, List.set_cons_succ, i64_w, i32_w]
                rfl
               refine pure_ (i := 21) (N := some 75) (v := undef) (a' := ?_) #[true, true, true, true, true, true, true, true, true, true, true, true, true, true, true, true, true, true, true, true, true, true, false, false, false, false, false, false, false, false, false, false, false, false, false, false, false, false] rfl rfl (any_of HT_.out (by kernel_rfl)) (fun _ _ _ h => h) (Or.inr ⟨by rfl, rfl⟩) ?_ ?_
               rotate_left
               ·simp only [Act.put, List.setIfInBounds_toArray, List.set_cons_zero, List.set_cons_succ, i64_w, i32_w]
                rfl
               refine pure_ (i := 22) (N := some 76) (v := undef) (a' := ?_) #[true, true, true, true, true, true, true, true, true, true, true, true, true, true, true, true, true, true, true, true, true, true, true, false, false, false, false, false, false, false, false, false, false, false, false, false, false, false] rfl rfl (any_of HT_.out (by kernel_rfl)) (fun _ _ _ h => h) (Or.inr ⟨by rfl, rfl⟩) ?_ ?_
               rotate_left
               ·simp only [Act.put, List.setIfInBounds_toArray, List.set_cons_zero, List.set_cons_succ, i64_w, i32_w]
                rfl
               refine pure_ (i := 23) (N := some 77) (v := undef) (a' := ?_) #[true, true, true, true, true, true, true, true, true, true, true, true, true, true, true, true, true, true, true, true, true, true, true, true, false, false, false, false, false, false, false, false, false, false, false, false, false, false] rfl rfl (any_of HT_.out (by kernel_rfl)) (fun _ _ _ h => h) (Or.inr ⟨by rfl, rfl⟩) ?_ ?_
               rotate_left
               ·simp only [Act.put, List.setIfInBounds_toArray, List.set_cons_zero, List.set_cons_succ, i64_w, i32_w]
                rfl
               refine pure_ (i := 24) (N := some 78) (v := undef) (a' := ?_) #[true, true, true, true, true, true, true, true, true, true, true, true, true, true, true, true, true, true, true, true, true, true, true, true, true, false, false, false, false, false, false, false, false, false, false, false, false, false] rfl rfl (any_of HT_.out (by kernel_rfl)) (fun _ _ _ h => h) (Or.inr ⟨by rfl, rfl⟩) ?_ ?_
               rotate_left
               ·simp only [Act.put, List.setIfInBounds_toArray, List.set_cons_zero, List.set_cons_succ, i64_w, i32_w]
                rfl
               refine pure_ (i := 25) (N := some 79) (v := undef) (a' := ?_) #[true, true, true, true, true, true, true, true, true, true, true, true, true, true, true, true, true, true, true, true, true, true, true, true, true, true, false, false, false, false, false, false, false, false, false, false, false, false] rfl rfl (any_of HT_.out (by kernel_rfl)) (fun _ _ _ h => h) (Or.inr ⟨by rfl, rfl⟩) ?_ ?_
               rotate_left
               ·simp only [Act.put, List.setIfInBounds_toArray, List.set_cons_zero, List.set_cons_succ, i64_w, i32_w]
                rfl
               refine pure_ (i := 26) (N := some 80) (v := undef) (a' := ?_) #[true, true, true, true, true, true, true, true, true, true, true, true, true, true, true, true, true, true, true, true, true, true, true, true, true, true, true, false, false, false, false, false, false, false, false, false, false, false] rfl rfl (any_of HT_.out (by kernel_rfl)) (fun _ _ _ h => h) (Or.inr ⟨by rfl, rfl⟩) ?_ ?_
               rotate_left
               ·simp only [Act.put, List.setIfInBounds_toArray, List.set_cons_zero, List.set_cons_succ, i64_w, i32_w]
                rfl
               refine pure_ (i := 27) (N := some 81) (v := undef) (a' := ?_) #[true, true, true, true, true, true, true, true, true, true, true, true, true, true, true, true, true, true, true, true, true, true, true, true, true, true, true, true, false, false, false, false, false, false, false, false, false, false] rfl rfl (any_of HT_.out (by kernel_rfl)) (fun _ _ _ h => h) (Or.inr ⟨by rfl, rfl⟩) ?_ ?_
               rotate_left
               ·simp only [Act.put, List.setIfInBounds_toArray, List.set_cons_zero, List.set_cons_succ, i64_w, i32_w]
                rfl
               refine pure_ (i := 28) (N := some 82) (v := undef) (a' := ?_) #[true, true, true, true, true, true, true, true, true, true, true, true, true, true, true, true, true, true, true, true, true, true, true, true, true, true, true, true, true, false, false, false, false, false, false, false, false, false] rfl rfl (any_of HT_.out (by kernel_rfl)) (fun _ _ _ h => h) (Or.inr ⟨by rfl, rfl⟩) ?_ ?_
               rotate_left
               ·simp only [Act.put, List.setIfInBounds_toArray, List.set_cons_zero, List.set_cons_succ, i64_w, i32_w]
                rfl
               refine pure_ (i := 29) (N := some 83) (v := undef) (a' := ?_) #[true, true, true, true, true, true, true, true, true, true, true, true, true, true, true, true, true, true, true, true, true, true, true, true, true, true, true, true, true, true, false, false, false, false, false, false, false, false] rfl rfl (any_of HT_.out (by kernel_rfl)) (fun _ _ _ h => h) (Or.inr ⟨by rfl, rfl⟩) ?_ ?_
               rotate_left
               ·simp only [Act.put, List.setIfInBounds_toArray, List.set_cons_zero, List.set_cons_succ, i64_w, i32_w]
                rfl
               refine pure_ (i := 30) (N := some 84) (v := undef) (a' := ?_) #[true, true, true, true, true, true, true, true, true, true, true, true, true, true, true, true, true, true, true, true, true, true, true, true, true, true, true, true, true, true, true, false, false, false, false, false, false, false] rfl rfl (any_of HT_.out (by kernel_rfl)) (fun _ _ _ h => h) (Or.inr ⟨by rfl, rfl⟩) ?_ ?_
               rotate_left
               ·simp only [Act.put, List.setIfInBounds_toArray, List.set_cons_zero, List.set_cons_succ, i64_w, i32_w]
                rfl
               refine pure_ (i := 31) (N := some 85) (v := undef) (a' := ?_) #[true, true, true, true, true, true, true, true, true, true, true, true, true, true, true, true, true, true, true, true, true, true, true, true, true, true, true, true, true, true, true, true, false, false, false, false, false, false] rfl rfl (any_of HT_.out (by kernel_rfl)) (fun _ _ _ h => h) (Or.inr ⟨by rfl, rfl⟩) ?_ ?_
               rotate_left
               ·simp only [Act.put, List.setIfInBounds_toArray, List.set_cons_zero, List.set_cons_succ, i64_w, i32_w]
                rfl
               refine pure_ (i := 32) (N := some 86) (v := undef) (a' := ?_) #[true, true, true, true, true, true, true, true, true, true, true, true, true, true, true, true, true, true, true, true, true, true, true, true, true, true, true, true, true, true, true, true, true, false, false, false, false, false] rfl rfl (any_of HT_.out (by kernel_rfl)) (fun _ _ _ h => h) (Or.inr ⟨by rfl, rfl⟩) ?_ ?_
               rotate_left
               ·simp only [Act.put, List.setIfInBounds_toArray, List.set_cons_zero, List.set_cons_succ, i64_w, i32_w]
                rfl
               refine pure_ (i := 33) (N := some 87) (v := undef) (a' := ?_) #[true, true, true, true, true, true, true, true, true, true, true, true, true, true, true, true, true, true, true, true, true, true, true, true, true, true, true, true, true, true, true, true, true, true, false, false, false, false] rfl rfl (any_of HT_.out (by kernel_rfl)) (fun _ _ _ h => h) (Or.inr ⟨by rfl, rfl⟩) ?_ ?_
               rotate_left
               ·simp only [Act.put, List.setIfInBounds_toArray, List.set_cons_zero, List.set_cons_succ, i64_w, i32_w]
                rfl
               refine pure_ (i := 34) (N := some 88) (v := undef) (a' := ?_) #[true, true, true, true, true, true, true, true, true, true, true, true, true, true, true, true, true, true, true, true, true, true, true, true, true, true, true, true, true, true, true, true, true, true, true, false, false, false] rfl rfl (any_of HT_.out (by kernel_rfl)) (fun _ _ _ h => h) (Or.inr ⟨by rfl, rfl⟩) ?_ ?_
               rotate_left
               ·simp only [Act.put, List.setIfInBounds_toArray, List.set_cons_zero, List.set_cons_succ, i64_w, i32_w]
                rfl
               refine pure_ (i := 35) (N := some 89) (v := undef) (a' := ?_) #[true, true, true, true, true, true, true, true, true, true, true, true, true, true, true, true, true, true, true, true, true, true, true, true, true, true, true, true, true, true, true, true, true, true, true, true, false, false] rfl rfl (any_of HT_.out (by kernel_rfl)) (fun _ _ _ h => h) (Or.inr ⟨by rfl, rfl⟩) ?_ ?_
               rotate_left
               ·simp only [Act.put, List.setIfInBounds_toArray, List.set_cons_zero, List.set_cons_succ, i64_w, i32_w]
                rfl
               refine pure_ (i := 36) (N := some 90) (v := undef) (a' := ?_) #[true, true, true, true, true, true, true, true, true, true, true, true, true, true, true, true, true, true, true, true, true, true, true, true, true, true, true, true, true, true, true, true, true, true, true, true, true, false] rfl rfl (any_of HT_.out (by kernel_rfl)) (fun _ _ _ h => h) (Or.inr ⟨by rfl, rfl⟩) ?_ ?_
               rotate_left
               ·simp only [Act.put, List.setIfInBounds_toArray, List.set_cons_zero, List.set_cons_succ, i64_w, i32_w]
                rfl
               refine pure_ (i := 37) (N := some 91) (v := ?_) (a' := ?_) #[true, true, true, true, true, true, true, true, true, true, true, true, true, true, true, true, true, true, true, true, true, true, true, true, true, true, true, true, true, true, true, true, true, true, true, true, true, true] rfl rfl (any_of HT_.out (by kernel_rfl)) (fun _ _ _ h => h) (Or.inl ⟨by rfl, ?_⟩) ?_ ?_
               rotate_left; (intro w'; go_simp; with_reducible rfl); rotate_left; (simp only [Act.put, List.setIfInBounds_toArray, List.set_cons_zero, List.set_cons_succ, i64_w, i32_w]; rfl)
               refine done_ (done_of HT_.out (by kernel_rfl)) ?_
               (try clear HS4_); (try clear HS5_); (try clear HS6_); (try clear hHeld)
               try go_wp2
               go_ret
               exact ⟨by first | rfl | (simp [errW_none, errW_some] <;> rfl) | (simp [*, errW_none, errW_some] <;> rfl), by repeat (first | (with_reducible first | exact HB.out | apply below_alloc | apply pw_below_drewN | apply below_drew1 | refine below_set ?_ GE252.out | refine below_set ?_ GE260.out) | exact HB.out)⟩
              ·rw [if_neg c44] at H
               have c44b0 : decide (t278 < 0) = false := decide_eq_false c44
               clear c44
               by_cases c47 : (wrap64 (x11_2 + 1)) < (t270.length : Int)
               ·rw [if_pos c47] at H
                have c47b0 : decide ((wrap64 (x11_2 + 1)) < (t270.length : Int)) = true := decide_eq_true c47
                clear c47
                obtain ⟨ji48, hji48⟩ : ∃ j_ : Int, (wrap64 (x11_2 + 1)) = j_ := ⟨_, rfl⟩
                replace H : (if 0 ≤ (ji48) then ((thresherref04_Compare.f k3 t254 t257 t258 t259 (rd_L3 (rd_L4 t267 x11_2) x12_3) (rd_L3 t270 (ji48))).bind fun t282 => (if t282 > 0 then (some false) else (thresherlaw10_GrainMarks.l1 k3 t253 t267 t270 x11_2 (wrap64 (x12_3 + 1)) t254 t257 t258 t259))) else (none)) = some r := by first | (rw [hji48] at H; exact H) | (simp only [hji48] at H ⊢; exact H)
                (try rw [hji48] at c47b0)
                (try rw [hji48] at A43)
                have hji48w : (IntKind.i64.wrap (x11_2 + 1)) = ji48 := (i64_w _).trans hji48
                by_cases c49 : 0 ≤ (ji48)
                ·rw [if_pos c49] at H
                 have c49b0 : decide (0 ≤ (ji48)) = true := decide_eq_true c49
                 clear c49
                 replace H := Option.bind_eq_some_iff.mp H
                 obtain ⟨t282, A500, H⟩ := H
                 replace H : (if t282 > 0 then (some false) else (thresherlaw10_GrainMarks.l1 k3 t253 t267 t270 x11_2 (wrap64 (x12_3 + 1)) t254 t257 t258 t259)) = some r := H
                 have A50 := Aside0.mk A500
                 clear A500
                 by_cases c51 : t282 > 0
                 ·rw [if_pos c51] at H
                  have c51b0 : decide (0 < t282) = true := decide_eq_true c51
                  clear c51
                  obtain rfl := Option.some.inj H
                  have p274 : 0 ≤ (x11_2 : Int) := of_decide_eq_true (by first | (with_reducible assumption) | assumption)
                  have q274 : x11_2 < (t267.length : Int) := of_decide_eq_true (by first | (with_reducible assumption) | assumption)
                  obtain ⟨ad274, A274_0, c274_0, e274, hx274_0, hl274_0, hi274_0⟩ := at_L4 (Kd.N_reads' HO_8.out).2.2 x11_2 p274 q274
                  cases e274
                  obtain ⟨ce274, hce274, hMe274, hcc274⟩ := Kd.N_get HO_8.out [] x11_2 p274 (by first | exact q274 | exact of_decide_eq_true (by first | (with_reducible assumption) | assumption) | (have e_ := (Kd.N_reads' HO_8.out).1; omega))
                  obtain ⟨ua274_0, uc274_0, rfl, ul274_0, ge274_0⟩ := Kd.FK_slice_open hMe274
                  have hv274_0 := hcc274 0 _ rfl
                  rw [Nat.add_zero, show ((Kd.slice 38 (Kd.slice 45 k45))).sz = 1 from rfl, Nat.mul_one] at hv274_0
                  replace hv274_0 := Option.some.inj (hv274_0.symm.trans hx274_0)
                  injection hv274_0 with hva_ hvn_ hvc_
                  rw [hva_] at ge274_0
                  rw [hvc_] at ul274_0
                  have HL274_0 := Aside0.mk (show Kd.V (Kd.slice 45 k45) 38 _ w.heap.size _ _ (rd_L4 t267 x11_2) from Kd.V_mk ul274_0 ge274_0)
                  clear hva_ hvn_ hvc_ ge274_0 ul274_0
                  clear hcc274 hce274
                  have HR274_0 := Aside0.mk hi274_0
                  have HC274_0 := Aside0.mk hl274_0
                  clear hi274_0 hl274_0
                  replace p274 := eq_true p274
                  replace q274 := eq_true q274
                  try go_wp2
                  have n0_ := Aside0.mk (Kd.N_drew HO_8.out)
                  have n1_ := Aside0.mk (Kd.N_drew HO_9.out)
                  have n2_ := Aside0.mk (Kd.R_drew HO_261000.out)
                  have n3_ := Aside0.mk (Kd.V_drew HL274_0.out)
                  have n4_ := Aside0.mk (blk_drew BK252.out)
                  have n5_ := Aside0.mk (blk_drew BK260.out)
                  have n6_ := Aside0.mk (Kd.C_drew HR274_0.out)
                  have n7_ := Aside0.mk (below_drew1 HB.out)
                  clear HO_8
                  clear HO_9
                  clear HO_261000
                  clear HL274_0
                  clear BK252
                  clear BK260
                  clear HR274_0
                  clear HB
                  have HO_8 := n0_
                  have HO_9 := n1_
                  have HO_261000 := n2_
                  have HL274_0 := n3_
                  have BK252 := n4_
                  have BK260 := n5_
                  have HR274_0 := n6_
                  have HB := n7_
                  clear n0_ n1_ n2_ n3_ n4_ n5_ n6_ n7_
                  have p275 : 0 ≤ (x11_2 : Int) := of_decide_eq_true (by first | (with_reducible assumption) | assumption)
                  have q275 : x11_2 < (t267.length : Int) := of_decide_eq_true (by first | (with_reducible assumption) | assumption)
                  obtain ⟨ad275, A275_0, c275_0, e275, hx275_0, hl275_0, hi275_0⟩ := at_L4 (Kd.N_reads' HO_8.out).2.2 x11_2 p275 q275
                  obtain rfl : ad274 = ad275 := (by injection e275)
                  obtain ⟨ce275, hce275, hMe275, hcc275⟩ := Kd.N_get HO_8.out [] x11_2 p275 (by first | exact q275 | exact of_decide_eq_true (by first | (with_reducible assumption) | assumption) | (have e_ := (Kd.N_reads' HO_8.out).1; omega))
                  obtain ⟨ua275_0, uc275_0, rfl, ul275_0, ge275_0⟩ := Kd.FK_slice_open hMe275
                  have hv275_0 := hcc275 0 _ rfl
                  rw [Nat.add_zero, show ((Kd.slice 38 (Kd.slice 45 k45))).sz = 1 from rfl, Nat.mul_one] at hv275_0
                  replace hv275_0 := Option.some.inj (hv275_0.symm.trans hx275_0)
                  injection hv275_0 with hva_ hvn_ hvc_
                  rw [hva_] at ge275_0
                  rw [hvc_] at ul275_0
                  have HL275_0 := Aside0.mk (show Kd.V (Kd.slice 45 k45) 38 _ w.heap.size _ _ (rd_L4 t267 x11_2) from Kd.V_mk ul275_0 ge275_0)
                  clear hva_ hvn_ hvc_ ge275_0 ul275_0
                  clear hcc275 hce275
                  have HR275_0 := Aside0.mk hi275_0
                  have HC275_0 := Aside0.mk hl275_0
                  clear hi275_0 hl275_0
                  replace p275 := eq_true p275
                  replace q275 := eq_true q275
                  have p276 : 0 ≤ (x12_3 : Int) := of_decide_eq_true (by first | (with_reducible assumption) | assumption)
                  have q276 : x12_3 < ((rd_L4 t267 x11_2).length : Int) := of_decide_eq_true (by first | (with_reducible assumption) | assumption)
                  obtain ⟨ad276, A276_0, c276_0, e276, hx276_0, hl276_0, hi276_0⟩ := at_L3 (by repeat (first | (with_reducible exact HR275_0.out) | (with_reducible refine Kd.C_alloc ?_ _) | (with_reducible refine Kd.C_drewN ?_ _) | (with_reducible refine Kd.C_drew ?_) | exact HR275_0.out)) x12_3 p276 q276
                  cases e276
                  obtain ⟨ce276, hce276, hMe276, hcc276⟩ := Kd.V_get HL275_0.out [] x12_3 p276 (by first | exact q276 | exact of_decide_eq_true (by first | (with_reducible assumption) | assumption) | (have e_ := (Kd.V_reads' HL275_0.out).1; omega))
                  obtain ⟨ua276_0, uc276_0, rfl, ul276_0, ge276_0⟩ := Kd.FK_slice_open hMe276
                  have hv276_0 := hcc276 0 _ rfl
                  rw [Nat.add_zero, show ((Kd.slice 45 k45)).sz = 1 from rfl, Nat.mul_one] at hv276_0
                  replace hv276_0 := Option.some.inj (hv276_0.symm.trans hx276_0)
                  injection hv276_0 with hva_ hvn_ hvc_
                  rw [hva_] at ge276_0
                  rw [hvc_] at ul276_0
                  have HL276_0 := Aside0.mk (show Kd.V k45 45 _ w.heap.size _ _ (rd_L3 (rd_L4 t267 x11_2) x12_3) from Kd.V_mk ul276_0 ge276_0)
                  clear hva_ hvn_ hvc_ ge276_0 ul276_0
                  clear hcc276 hce276
                  have HR276_0 := Aside0.mk hi276_0
                  have HC276_0 := Aside0.mk hl276_0
                  clear hi276_0 hl276_0
                  replace p276 := eq_true p276
                  replace q276 := eq_true q276
                  have p277 : 0 ≤ (x11_2 : Int) := of_decide_eq_true (by first | (with_reducible assumption) | assumption)
                  have q277 : x11_2 < (t270.length : Int) := of_decide_eq_true (by first | (with_reducible assumption) | assumption)
                  obtain ⟨ad277, A277_0, c277_0, e277, hx277_0, hl277_0, hi277_0⟩ := at_L3 (Kd.N_reads' HO_9.out).2.2 x11_2 p277 q277
                  cases e277
                  obtain ⟨ce277, hce277, hMe277, hcc277⟩ := Kd.N_get HO_9.out [] x11_2 p277 (by first | exact q277 | exact of_decide_eq_true (by first | (with_reducible assumption) | assumption) | (have e_ := (Kd.N_reads' HO_9.out).1; omega))
                  obtain ⟨ua277_0, uc277_0, rfl, ul277_0, ge277_0⟩ := Kd.FK_slice_open hMe277
                  have hv277_0 := hcc277 0 _ rfl
                  rw [Nat.add_zero, show ((Kd.slice 45 k45)).sz = 1 from rfl, Nat.mul_one] at hv277_0
                  replace hv277_0 := Option.some.inj (hv277_0.symm.trans hx277_0)
                  injection hv277_0 with hva_ hvn_ hvc_
                  rw [hva_] at ge277_0
                  rw [hvc_] at ul277_0
                  have HL277_0 := Aside0.mk (show Kd.V k45 45 _ w.heap.size _ _ (rd_L3 t270 x11_2) from Kd.V_mk ul277_0 ge277_0)
                  clear hva_ hvn_ hvc_ ge277_0 ul277_0
                  clear hcc277 hce277
                  have HR277_0 := Aside0.mk hi277_0
                  have HC277_0 := Aside0.mk hl277_0
                  clear hi277_0 hl277_0
                  replace p277 := eq_true p277
                  replace q277 := eq_true q277
                  have p279 : 0 ≤ (x11_2 : Int) := of_decide_eq_true (by first | (with_reducible assumption) | assumption)
                  have q279 : x11_2 < (t267.length : Int) := of_decide_eq_true (by first | (with_reducible assumption) | assumption)
                  obtain ⟨ad279, A279_0, c279_0, e279, hx279_0, hl279_0, hi279_0⟩ := at_L4 (Kd.N_reads' HO_8.out).2.2 x11_2 p279 q279
                  obtain rfl : ad274 = ad279 := (by injection e279)
                  obtain ⟨ce279, hce279, hMe279, hcc279⟩ := Kd.N_get HO_8.out [] x11_2 p279 (by first | exact q279 | exact of_decide_eq_true (by first | (with_reducible assumption) | assumption) | (have e_ := (Kd.N_reads' HO_8.out).1; omega))
                  obtain ⟨ua279_0, uc279_0, rfl, ul279_0, ge279_0⟩ := Kd.FK_slice_open hMe279
                  have hv279_0 := hcc279 0 _ rfl
                  rw [Nat.add_zero, show ((Kd.slice 38 (Kd.slice 45 k45))).sz = 1 from rfl, Nat.mul_one] at hv279_0
                  replace hv279_0 := Option.some.inj (hv279_0.symm.trans hx279_0)
                  injection hv279_0 with hva_ hvn_ hvc_
                  rw [hva_] at ge279_0
                  rw [hvc_] at ul279_0
                  have HL279_0 := Aside0.mk (show Kd.V (Kd.slice 45 k45) 38 _ w.heap.size _ _ (rd_L4 t267 x11_2) from Kd.V_mk ul279_0 ge279_0)
                  clear hva_ hvn_ hvc_ ge279_0 ul279_0
                  clear hcc279 hce279
                  have HR279_0 := Aside0.mk hi279_0
                  have HC279_0 := Aside0.mk hl279_0
                  clear hi279_0 hl279_0
                  replace p279 := eq_true p279
                  replace q279 := eq_true q279
                  have p281 : 0 ≤ ((ji48) : Int) := of_decide_eq_true (by first | (with_reducible assumption) | assumption)
                  have q281 : (ji48) < (t270.length : Int) := of_decide_eq_true (by first | (with_reducible assumption) | assumption)
                  obtain ⟨ad281, A281_0, c281_0, e281, hx281_0, hl281_0, hi281_0⟩ := at_L3 (Kd.N_reads' HO_9.out).2.2 (ji48) p281 q281
                  obtain rfl : ad277 = ad281 := (by injection e281)
                  obtain ⟨ce281, hce281, hMe281, hcc281⟩ := Kd.N_get HO_9.out [] (ji48) p281 (by first | exact q281 | exact of_decide_eq_true (by first | (with_reducible assumption) | assumption) | (have e_ := (Kd.N_reads' HO_9.out).1; omega))
                  obtain ⟨ua281_0, uc281_0, rfl, ul281_0, ge281_0⟩ := Kd.FK_slice_open hMe281
                  have hv281_0 := hcc281 0 _ rfl
                  rw [Nat.add_zero, show ((Kd.slice 45 k45)).sz = 1 from rfl, Nat.mul_one] at hv281_0
                  replace hv281_0 := Option.some.inj (hv281_0.symm.trans hx281_0)
                  injection hv281_0 with hva_ hvn_ hvc_
                  rw [hva_] at ge281_0
                  rw [hvc_] at ul281_0
                  have HL281_0 := Aside0.mk (show Kd.V k45 45 _ w.heap.size _ _ (rd_L3 t270 (ji48)) from Kd.V_mk ul281_0 ge281_0)
                  clear hva_ hvn_ hvc_ ge281_0 ul281_0
                  clear hcc281 hce281
                  have HR281_0 := Aside0.mk hi281_0
                  have HC281_0 := Aside0.mk hl281_0
                  clear hi281_0 hl281_0
                  replace p281 := eq_true p281
                  replace q281 := eq_true q281
                  have p280 : 0 ≤ (x12_3 : Int) := of_decide_eq_true (by first | (with_reducible assumption) | assumption)
                  have q280 : x12_3 < ((rd_L4 t267 x11_2).length : Int) := of_decide_eq_true (by first | (with_reducible assumption) | assumption)
                  obtain ⟨ad280, A280_0, c280_0, e280, hx280_0, hl280_0, hi280_0⟩ := at_L3 (by repeat (first | (with_reducible exact HR279_0.out) | (with_reducible refine Kd.C_alloc ?_ _) | (with_reducible refine Kd.C_drewN ?_ _) | (with_reducible refine Kd.C_drew ?_) | exact HR279_0.out)) x12_3 p280 q280
                  cases e280
                  clear hl280_0 hi280_0 p280 q280
                  have u_ := Option.some.inj (hx275_0.symm.trans hx279_0); injection u_ with u1_ u0_ u2_; injection u1_ with u1_; have v_ := hx280_0; rw [← u1_] at v_; replace v_ := Option.some.inj (hx276_0.symm.trans v_); injection v_ with v1_ v0_ v2_; have HEQ0 := Aside0.mk (And.intro v1_ v2_); clear u0_ u1_ u2_ v0_ v1_ v2_
                  refine start_ (n := 38) (S := fun w' => w'.cell? ⟨gb260, 0, none⟩ = some (.slice Ao16 t254.length co16) ∧ w'.cell? ⟨gb260, 1, none⟩ = some (.int .i64 t257) ∧ w'.cell? ⟨gb260, 2, none⟩ = some (.int .i64 t258) ∧ w'.cell? ⟨gb260, 3, none⟩ = some (.int .i64 t259) ∧ w'.cell? (ad274.add (x11_2).toNat) = some (.slice (some ad276) (rd_L4 t267 x11_2).length c275_0) ∧ w'.cell? (ad276.add (x12_3).toNat) = some (.slice A276_0 (rd_L3 (rd_L4 t267 x11_2) x12_3).length c276_0) ∧ w'.cell? (ad277.add (x11_2).toNat) = some (.slice A277_0 (rd_L3 t270 x11_2).length c277_0) ∧ w'.cell? (ad274.add (x11_2).toNat) = some (.slice (some ad280) (rd_L4 t267 x11_2).length c279_0) ∧ w'.cell? (ad280.add (x12_3).toNat) = some (.slice A280_0 (rd_L3 (rd_L4 t267 x11_2) x12_3).length c280_0) ∧ w'.cell? (ad277.add ((ji48)).toNat) = some (.slice A281_0 (rd_L3 t270 (ji48)).length c281_0)) (ds := []) #[false, false, false, false, false, false, false, false, false, false, false, false, false, false, false, false, false, false, false, false, false, false, false, false, false, false, false, false, false, false, false, false, false, false, false, false, false, false] (by kernel_rfl) rfl rfl ⟨(blk_cell BK260.out 0).trans rfl, (blk_cell BK260.out 1).trans rfl, (blk_cell BK260.out 2).trans rfl, (blk_cell BK260.out 3).trans rfl, hx275_0, hx276_0, hx277_0, hx279_0, hx280_0, hx281_0⟩ (fun hHeld => ?_); refine with_tabW thresherlaw10_GrainMarks.tab15 thresherlaw10_GrainMarks.bits15 (fun HT_ HW_ => ?_)
                  generalize wr.drew = w52 at HO_8 HO_9 HO_261000 HL274_0 BK252 BK260 HR274_0 HB HL275_0 HL276_0 HL277_0 HL279_0 HL281_0 HR275_0 HR276_0 HR277_0 HR279_0 HR281_0 hx275_0 hx276_0 hx277_0 hx279_0 hx281_0 hx280_0 hHeld ⊢
                  refine pure_ (i := 1) (N := some 55) (v := ?_) (a' := ?_) #[false, true, false, false, false, false, false, false, false, false, false, false, false, false, false, false, false, false, false, false, false, false, false, false, false, false, false, false, false, false, false, false, false, false, false, false, false, false] rfl rfl (any_of HT_.out (by kernel_rfl)) (fun _ _ _ h => h) (Or.inl ⟨by rfl, ?_⟩) ?_ ?_
                  rotate_left; (intro w'; go_simp; with_reducible rfl); rotate_left; (simp only [Act.put, List.setIfInBounds_toArray, List.set_cons_zero, List.set_cons_succ, i64_w, i32_w]; rfl)
                  refine pure_ (i := 2) (N := some 56) (v := ?_) (a' := ?_) #[false, true, true, false, false, false, false, false, false, false, false, false, false, false, false, false, false, false, false, false, false, false, false, false, false, false, false, false, false, false, false, false, false, false, false, false, false, false] rfl rfl (any_of HT_.out (by kernel_rfl)) (fun _ _ _ h => h) (Or.inl ⟨by rfl, ?_⟩) ?_ ?_
                  rotate_left; (intro w'; go_simp; with_reducible rfl); rotate_left; (simp only [Act.put, List.setIfInBounds_toArray, List.set_cons_zero, List.set_cons_succ, i64_w, i32_w]; rfl)
                  refine pure_ (i := 3) (N := some 57) (v := ?_) (a' := ?_) #[false, true, true, true, false, false, false, false, false, false, false, false, false, false, false, false, false, false, false, false, false, false, false, false, false, false, false, false, false, false, false, false, false, false, false, false, false, false] rfl rfl (any_of HT_.out (by kernel_rfl)) (fun _ _ _ h => h) (Or.inl ⟨by rfl, ?_⟩) ?_ ?_
                  rotate_left; (intro w'; go_simp; with_reducible rfl); rotate_left; (simp only [Act.put, List.setIfInBounds_toArray, List.set_cons_zero, List.set_cons_succ, i64_w, i32_w]; rfl)
                  refine pure_ (i := 5) (N := some 59) (v := ?_) (a' := ?_) #[false, true, true, true, false, true, false, false, false, false, false, false, false, false, false, false, false, false, false, false, false, false, false, false, false, false, false, false, false, false, false, false, false, false, false, false, false, false] rfl rfl (any_of HT_.out (by kernel_rfl)) (fun _ _ _ h => h) (Or.inl ⟨by rfl, ?_⟩) ?_ ?_
                  rotate_left; (intro w'; go_simp; with_reducible rfl); rotate_left; (simp only [Act.put, List.setIfInBounds_toArray, List.set_cons_zero, List.set_cons_succ, i64_w, i32_w]; rfl)
                  refine pure_ (i := 8) (N := some 62) (v := ?_) (a' := ?_) #[false, true, true, true, false, true, false, false, true, false, false, false, false, false, false, false, false, false, false, false, false, false, false, false, false, false, false, false, false, false, false, false, false, false, false, false, false, false] rfl rfl (any_of HT_.out (by kernel_rfl)) (fun _ _ _ h => h) (Or.inl ⟨by rfl, ?_⟩) ?_ ?_
                  rotate_left; (intro w'; go_simp; with_reducible rfl); rotate_left; (simp only [Act.put, List.setIfInBounds_toArray, List.set_cons_zero, List.set_cons_succ, i64_w, i32_w]; rfl)
                  refine pure_ (i := 9) (N := some 63) (v := ?_) (a' := ?_) #[false, true, true, true, false, true, false, false, true, true, false, false, false, false, false, false, false, false, false, false, false, false, false, false, false, false, false, false, false, false, false, false, false, false, false, false, false, false] rfl rfl (any_of HT_.out (by kernel_rfl)) (fun _ _ _ h => h) (Or.inl ⟨by rfl, ?_⟩) ?_ ?_
                  rotate_left; (intro w'; go_simp; with_reducible rfl); rotate_left; (simp only [Act.put, List.setIfInBounds_toArray, List.set_cons_zero, List.set_cons_succ, i64_w, i32_w]; rfl)
                  refine pure_ (i := 10) (N := some 64) (v := ?_) (a' := ?_) #[false, true, true, true, false, true, false, false, true, true, true, false, false, false, false, false, false, false, false, false, false, false, false, false, false, false, false, false, false, false, false, false, false, false, false, false, false, false] rfl rfl (any_of HT_.out (by kernel_rfl)) (fun _ _ _ h => h) (Or.inl ⟨by rfl, ?_⟩) ?_ ?_
                  rotate_left; (intro w'; go_simp; with_reducible rfl); rotate_left; (simp only [Act.put, List.setIfInBounds_toArray, List.set_cons_zero, List.set_cons_succ, i64_w, i32_w]; rfl)
                  refine take_ (i := 0) (N := some 54) (v := ?_) (a' := ?_) #[true, true, true, true, false, true, false, false, true, true, true, false, false, false, false, false, false, false, false, false, false, false, false, false, false, false, false, false, false, false, false, false, false, false, false, false, false, false] rfl rfl (take_ofW HT_.out HW_.out (by kernel_rfl)) (fun _ _ _ h => h) (Or.inl ⟨by rfl, ?_⟩) hHeld ?_ ?_
                  rotate_left; (rintro w' ⟨s0, s1, s2, s3, s4, s5, s6, s7, s8, s9⟩; go_simp; with_reducible rfl); rotate_left; (simp only [Act.put, List.setIfInBounds_toArray, List.set_cons_zero, List.set_cons_succ, i64_w, i32_w]; rfl)
                  refine take_ (i := 4) (N := some 58) (v := ?_) (a' := ?_) #[true, true, true, true, true, true, false, false, true, true, true, false, false, false, false, false, false, false, false, false, false, false, false, false, false, false, false, false, false, false, false, false, false, false, false, false, false, false] rfl rfl (take_ofW HT_.out HW_.out (by kernel_rfl)) (fun _ _ _ h => h) (Or.inl ⟨by rfl, ?_⟩) hHeld ?_ ?_
                  rotate_left; (rintro w' ⟨s0, s1, s2, s3, s4, s5, s6, s7, s8, s9⟩; go_simp; with_reducible rfl); rotate_left; (simp only [Act.put, List.setIfInBounds_toArray, List.set_cons_zero, List.set_cons_succ, i64_w, i32_w]; rfl)
                  refine pure_ (i := 6) (N := some 60) (v := ?_) (a' := ?_) #[true, true, true, true, true, true, true, false, true, true, true, false, false, false, false, false, false, false, false, false, false, false, false, false, false, false, false, false, false, false, false, false, false, false, false, false, false, false] rfl rfl (any_of HT_.out (by kernel_rfl)) (fun _ _ _ h => h) (Or.inl ⟨by rfl, ?_⟩) ?_ ?_
                  rotate_left; (intro w'; go_simp; with_reducible rfl); rotate_left; (simp only [Act.put, List.setIfInBounds_toArray, List.set_cons_zero, List.set_cons_succ, i64_w, i32_w]; rfl)
                  refine take_ (i := 7) (N := some 61) (v := ?_) (a' := ?_) #[true, true, true, true, true, true, true, true, true, true, true, false, false, false, false, false, false, false, false, false, false, false, false, false, false, false, false, false, false, false, false, false, false, false, false, false, false, false] rfl rfl (take_ofW HT_.out HW_.out (by kernel_rfl)) (fun _ _ _ h => h) (Or.inl ⟨by rfl, ?_⟩) hHeld ?_ ?_
                  rotate_left; (rintro w' ⟨s0, s1, s2, s3, s4, s5, s6, s7, s8, s9⟩; go_simp; with_reducible rfl); rotate_left; (simp only [Act.put, List.setIfInBounds_toArray, List.set_cons_zero, List.set_cons_succ, i64_w, i32_w]; rfl)
                  refine take_ (i := 11) (N := some 65) (v := ?_) (a' := ?_) #[true, true, true, true, true, true, true, true, true, true, true, true, false, false, false, false, false, false, false, false, false, false, false, false, false, false, false, false, false, false, false, false, false, false, false, false, false, false] rfl rfl (take_ofW HT_.out HW_.out (by kernel_rfl)) (fun _ _ _ h => h) (Or.inl ⟨by rfl, ?_⟩) hHeld ?_ ?_
                  rotate_left; (rintro w' ⟨s0, s1, s2, s3, s4, s5, s6, s7, s8, s9⟩; go_simp; with_reducible rfl); rotate_left; (simp only [Act.put, List.setIfInBounds_toArray, List.set_cons_zero, List.set_cons_succ, i64_w, i32_w]; rfl)
                  refine one_ (i := 12) (N := some 66) #[true, true, true, true, true, true, true, true, true, true, true, true, true, false, false, false, false, false, false, false, false, false, false, false, false, false, false, false, false, false, false, false, false, false, false, false, false, false] rfl rfl (one_of HT_.out (by kernel_rfl)) (by decide) (fun K hK => ?_)
                  refine goes_ Try.func14 (by kernel_rfl) rfl #[.agg #[.slice Ao16 t254.length co16, .int .i64 t257, .int .i64 t258, .int .i64 t259], .slice A276_0 (rd_L3 (rd_L4 t267 x11_2) x12_3).length c276_0, .slice A277_0 (rd_L3 t270 x11_2).length c277_0] (by rfl) rfl rfl (by (try simp only [List.map_toArray, List.map_cons, List.map_nil]); first | done | (rw [← HEQ0.out.1, ← HEQ0.out.2]; rfl) | rfl | (simp only [List.length_drop, List.length_take]; rfl)) ?_
                  with_reducible refine (thresherref04_Compare.calls k3 _ _ t254 t257 t258 t259 _ _ (rd_L3 (rd_L4 t267 x11_2) x12_3) _ _ (rd_L3 t270 x11_2) t278 _ ?side1 ?side2 ?side3 ?side4 ?side5 ?side6 A43.out).mono ?_
                  (case side1 => repeat (first | exact (Kd.R_reads' HO_261000.out).2.2 | (with_reducible refine Kd.C_alloc ?_ _) | (with_reducible refine Kd.C_drewN ?_ _) | (with_reducible refine Kd.C_drew ?_)))
                  (case side2 => exact (Kd.R_reads' HO_261000.out).2.1)
                  (case side3 => repeat (first | exact (by repeat (first | (with_reducible exact HR276_0.out) | (with_reducible refine Kd.C_alloc ?_ _) | (with_reducible refine Kd.C_drewN ?_ _) | (with_reducible refine Kd.C_drew ?_) | exact HR276_0.out)) | (with_reducible refine Kd.C_alloc ?_ _) | (with_reducible refine Kd.C_drewN ?_ _) | (with_reducible refine Kd.C_drew ?_)))
                  (case side4 => exact HC276_0.out)
                  (case side5 => repeat (first | exact (by repeat (first | (with_reducible exact HR277_0.out) | (with_reducible refine Kd.C_alloc ?_ _) | (with_reducible refine Kd.C_drewN ?_ _) | (with_reducible refine Kd.C_drew ?_) | exact HR277_0.out)) | (with_reducible refine Kd.C_alloc ?_ _) | (with_reducible refine Kd.C_drewN ?_ _) | (with_reducible refine Kd.C_drew ?_)))
                  (case side6 => exact HC277_0.out)
                  rintro e w53 ⟨rfl, hb⟩
                  have HS4_ := (hb.cell (World.block_lt_of_cell? _ _ (hHeld.2.2.2.2.1))).trans (hHeld.2.2.2.2.1)
                  have HS5_ := (hb.cell (World.block_lt_of_cell? _ _ (hHeld.2.2.2.2.2.1))).trans (hHeld.2.2.2.2.2.1)
                  have HS6_ := (hb.cell (World.block_lt_of_cell? _ _ (hHeld.2.2.2.2.2.2.1))).trans (hHeld.2.2.2.2.2.2.1)
                  have HS7_ := (hb.cell (World.block_lt_of_cell? _ _ (hHeld.2.2.2.2.2.2.2.1))).trans (hHeld.2.2.2.2.2.2.2.1)
                  have HS8_ := (hb.cell (World.block_lt_of_cell? _ _ (hHeld.2.2.2.2.2.2.2.2.1))).trans (hHeld.2.2.2.2.2.2.2.2.1)
                  have HS9_ := (hb.cell (World.block_lt_of_cell? _ _ (hHeld.2.2.2.2.2.2.2.2.2))).trans (hHeld.2.2.2.2.2.2.2.2.2)
                  refine ⟨_, rfl, ?_⟩
                  have n0_ := Aside0.mk (Kd.N_below (by (with_reducible repeat (first | apply Kd.N_alloc | apply Kd.N_drewN | apply Kd.N_drew)); exact HO_8.out) hb)
                  have n1_ := Aside0.mk (Kd.N_below (by (with_reducible repeat (first | apply Kd.N_alloc | apply Kd.N_drewN | apply Kd.N_drew)); exact HO_9.out) hb)
                  have n2_ := Aside0.mk (Kd.R_below (by (with_reducible repeat (first | apply Kd.R_alloc | apply Kd.R_drewN | apply Kd.R_drew)); exact HO_261000.out) hb)
                  have n3_ := Aside0.mk (Kd.V_below (by (with_reducible repeat (first | apply Kd.V_alloc | apply Kd.V_drewN | apply Kd.V_drew)); exact HL274_0.out) hb)
                  have n4_ := Aside0.mk (Kd.V_below (by (with_reducible repeat (first | apply Kd.V_alloc | apply Kd.V_drewN | apply Kd.V_drew)); exact HL275_0.out) hb)
                  have n5_ := Aside0.mk (Kd.V_below (by (with_reducible repeat (first | apply Kd.V_alloc | apply Kd.V_drewN | apply Kd.V_drew)); exact HL276_0.out) hb)
                  have n6_ := Aside0.mk (Kd.V_below (by (with_reducible repeat (first | apply Kd.V_alloc | apply Kd.V_drewN | apply Kd.V_drew)); exact HL277_0.out) hb)
                  have n7_ := Aside0.mk (blk_below (g := gb252) (o := .cells #[.int .u8 a0_0, .int .u8 a0_1, .int .u8 a0_2, .int .u8 a0_3, .int .u8 a0_4, .int .u8 a0_5, .int .u8 a0_6, .int .u8 a0_7, .int .u8 a0_8, .int .u8 a0_9, .int .u8 a0_10, .int .u8 a0_11] 24 (0, 0)) (by (with_reducible repeat (first | refine blk_drewN ?_ _ | refine blk_drew ?_ | refine blk_alloc ?_ _)); exact BK252.out) hb)
                  have n8_ := Aside0.mk (blk_below (g := gb260) (o := .cells #[.slice Ao16 t254.length co16, .int .i64 t257, .int .i64 t258, .int .i64 t259] 29 (0, 0)) (by (with_reducible repeat (first | refine blk_drewN ?_ _ | refine blk_drew ?_ | refine blk_alloc ?_ _)); exact BK260.out) hb)
                  have n9_ := Aside0.mk (Kd.C_below (by repeat (first | (with_reducible exact HR274_0.out) | (with_reducible refine Kd.C_alloc ?_ _) | (with_reducible refine Kd.C_drewN ?_ _) | (with_reducible refine Kd.C_drew ?_) | exact HR274_0.out)) hb)
                  have n10_ := Aside0.mk (Kd.C_below (by repeat (first | (with_reducible exact HR275_0.out) | (with_reducible refine Kd.C_alloc ?_ _) | (with_reducible refine Kd.C_drewN ?_ _) | (with_reducible refine Kd.C_drew ?_) | exact HR275_0.out)) hb)
                  have n11_ := Aside0.mk (Kd.C_below (by repeat (first | (with_reducible exact HR276_0.out) | (with_reducible refine Kd.C_alloc ?_ _) | (with_reducible refine Kd.C_drewN ?_ _) | (with_reducible refine Kd.C_drew ?_) | exact HR276_0.out)) hb)
                  have n12_ := Aside0.mk (Kd.C_below (by repeat (first | (with_reducible exact HR277_0.out) | (with_reducible refine Kd.C_alloc ?_ _) | (with_reducible refine Kd.C_drewN ?_ _) | (with_reducible refine Kd.C_drew ?_) | exact HR277_0.out)) hb)
                  have n13_ := Aside0.mk (below_step (by repeat (first | (with_reducible first | exact HB.out | apply below_alloc | apply pw_below_drewN | apply below_drew1 | refine below_set ?_ GE252.out | refine below_set ?_ GE260.out) | exact HB.out)) hb)
                  clear HO_8
                  clear HO_9
                  clear HO_261000
                  clear HL274_0
                  clear HL275_0
                  clear HL276_0
                  clear HL277_0
                  clear BK252
                  clear BK260
                  clear HR274_0
                  clear HR275_0
                  clear HR276_0
                  clear HR277_0
                  clear HB
                  have HO_8 := n0_
                  have HO_9 := n1_
                  have HO_261000 := n2_
                  have HL274_0 := n3_
                  have HL275_0 := n4_
                  have HL276_0 := n5_
                  have HL277_0 := n6_
                  have BK252 := n7_
                  have BK260 := n8_
                  have HR274_0 := n9_
                  have HR275_0 := n10_
                  have HR276_0 := n11_
                  have HR277_0 := n12_
                  have HB := n13_
                  clear n0_ n1_ n2_ n3_ n4_ n5_ n6_ n7_ n8_ n9_ n10_ n11_ n12_ n13_
                  have x_ := Aside0.mk (Kd.V_below (by (with_reducible repeat (first | apply Kd.V_alloc | apply Kd.V_drewN | apply Kd.V_drew)); exact HL279_0.out) hb); clear HL279_0; have HL279_0 := x_; clear x_
                  have x_ := Aside0.mk (Kd.V_below (by (with_reducible repeat (first | apply Kd.V_alloc | apply Kd.V_drewN | apply Kd.V_drew)); exact HL281_0.out) hb); clear HL281_0; have HL281_0 := x_; clear x_
                  have x_ := Aside0.mk (Kd.C_below HR279_0.out hb); clear HR279_0; have HR279_0 := x_; clear x_
                  have x_ := Aside0.mk (Kd.C_below HR281_0.out hb); clear HR281_0; have HR281_0 := x_; clear x_
                  (try clear hb)
                  (try clear hb2)
                  (try clear hk)
                  (try clear hi)
                  have p280 : 0 ≤ (x12_3 : Int) := of_decide_eq_true (by first | (with_reducible assumption) | assumption)
                  have q280 : x12_3 < ((rd_L4 t267 x11_2).length : Int) := of_decide_eq_true (by first | (with_reducible assumption) | assumption)
                  obtain ⟨ad280b, A280b, c280b, e280, hx280b, hl280_0, hi280_0⟩ := at_L3 (by repeat (first | (with_reducible exact HR279_0.out) | (with_reducible refine Kd.C_alloc ?_ _) | (with_reducible refine Kd.C_drewN ?_ _) | (with_reducible refine Kd.C_drew ?_) | exact HR279_0.out)) x12_3 p280 q280
                  obtain rfl : ad280 = ad280b := (by injection e280)
                  first | have hz280 := Option.some.inj (hx280_0.symm.trans hx280b) | have hz280 := Option.some.inj (HS8_.symm.trans hx280b)
                  injection hz280 with za280 _ zc280; subst za280; subst zc280
                  obtain ⟨ce280, hce280, hMe280, hcc280⟩ := Kd.V_get HL279_0.out [] x12_3 p280 (by first | exact q280 | exact of_decide_eq_true (by first | (with_reducible assumption) | assumption) | (have e_ := (Kd.V_reads' HL279_0.out).1; omega))
                  obtain ⟨ua280_0, uc280_0, rfl, ul280_0, ge280_0⟩ := Kd.FK_slice_open hMe280
                  have hv280_0 := hcc280 0 _ rfl
                  rw [Nat.add_zero, show ((Kd.slice 45 k45)).sz = 1 from rfl, Nat.mul_one] at hv280_0
                  replace hv280_0 := Option.some.inj (hv280_0.symm.trans hx280b)
                  injection hv280_0 with hva_ hvn_ hvc_
                  rw [hva_] at ge280_0
                  rw [hvc_] at ul280_0
                  have HL280_0 := Aside0.mk (show Kd.V k45 45 _ w.heap.size _ _ (rd_L3 (rd_L4 t267 x11_2) x12_3) from Kd.V_mk ul280_0 ge280_0)
                  clear hva_ hvn_ hvc_ ge280_0 ul280_0
                  clear hcc280 hce280
                  have HR280_0 := Aside0.mk hi280_0
                  have HC280_0 := Aside0.mk hl280_0
                  clear hi280_0 hl280_0
                  replace p280 := eq_true p280
                  replace q280 := eq_true q280
                  refine hK.out _ _ ⟨(blk_cell BK260.out 0).trans rfl, (blk_cell BK260.out 1).trans rfl, (blk_cell BK260.out 2).trans rfl, (blk_cell BK260.out 3).trans rfl, HS4_, HS5_, HS6_, HS7_, HS8_, HS9_⟩ (fun hHeld => ?_)
                  clear hK K
                  refine norm_ (a' := ?_) ?_ ?_
                  rotate_left
                  ·show Act.put _ (some 66) _ = _
                   simp only [Act.put, List.setIfInBounds_toArray, List.set_cons_zero, List.set_cons_succ, i64_w, i32_w]
                   rfl
                  refine pure_ (i := 13) (N := some 67) (v := ?_) (a' := ?_) #[true, true, true, true, true, true, true, true, true, true, true, true, true, true, false, false, false, false, false, false, false, false, false, false, false, false, false, false, false, false, false, false, false, false, false, false, false, false] rfl rfl (any_of HT_.out (by kernel_rfl)) (fun _ _ _ h => h) (Or.inl ⟨by rfl, ?_⟩) ?_ ?_
                  rotate_left; (intro w'; go_simp; with_reducible rfl); rotate_left; (simp only [Act.put, List.setIfInBounds_toArray, List.set_cons_zero, List.set_cons_succ, i64_w, i32_w]; rfl)
                  refine pure_ (i := 14) (N := some 68) (v := ?_) (a' := ?_) #[true, true, true, true, true, true, true, true, true, true, true, true, true, true, true, false, false, false, false, false, false, false, false, false, false, false, false, false, false, false, false, false, false, false, false, false, false, false] rfl rfl (any_of HT_.out (by kernel_rfl)) (fun _ _ _ h => h) (Or.inl ⟨by rfl, ?_⟩) ?_ ?_
                  rotate_left; (intro w'; go_simp; with_reducible rfl); rotate_left; (simp only [Act.put, List.setIfInBounds_toArray, List.set_cons_zero, List.set_cons_succ, i64_w, i32_w]; rfl)
                  refine pure_ (i := 15) (N := some 69) (v := ?_) (a' := ?_) #[true, true, true, true, true, true, true, true, true, true, true, true, true, true, true, true, false, false, false, false, false, false, false, false, false, false, false, false, false, false, false, false, false, false, false, false, false, false] rfl rfl (any_of HT_.out (by kernel_rfl)) (fun _ _ _ h => h) (Or.inl ⟨by rfl, ?_⟩) ?_ ?_
                  rotate_left; (intro w'; go_simp; with_reducible rfl); rotate_left; (simp only [Act.put, List.setIfInBounds_toArray, List.set_cons_zero, List.set_cons_succ, i64_w, i32_w]; rfl)
                  refine pure_ (i := 16) (N := some 70) (v := ?_) (a' := ?_) #[true, true, true, true, true, true, true, true, true, true, true, true, true, true, true, true, true, false, false, false, false, false, false, false, false, false, false, false, false, false, false, false, false, false, false, false, false, false] rfl rfl (any_of HT_.out (by kernel_rfl)) (fun _ _ _ h => h) (Or.inl ⟨by rfl, ?_⟩) ?_ ?_
                  rotate_left; (intro w'; go_simp; with_reducible rfl); rotate_left; (simp only [Act.put, List.setIfInBounds_toArray, List.set_cons_zero, List.set_cons_succ, i64_w, i32_w]; rfl)
                  refine pure_ (i := 17) (N := some 71) (v := ?_) (a' := ?_) #[true, true, true, true, true, true, true, true, true, true, true, true, true, true, true, true, true, true, false, false, false, false, false, false, false, false, false, false, false, false, false, false, false, false, false, false, false, false] rfl rfl (any_of HT_.out (by kernel_rfl)) (fun _ _ _ h => h) (Or.inl ⟨by rfl, ?_⟩) ?_ ?_
                  rotate_left; (intro w'; go_simp; with_reducible rfl); rotate_left; (simp only [Act.put, List.setIfInBounds_toArray, List.set_cons_zero, List.set_cons_succ, i64_w, i32_w]; rfl)
                  refine pure_ (i := 18) (N := some 72) (v := ?_) (a' := ?_) #[true, true, true, true, true, true, true, true, true, true, true, true, true, true, true, true, true, true, true, false, false, false, false, false, false, false, false, false, false, false, false, false, false, false, false, false, false, false] rfl rfl (any_of HT_.out (by kernel_rfl)) (fun _ _ _ h => h) (Or.inl ⟨by rfl, ?_⟩) ?_ ?_
                  rotate_left; (intro w'; go_simp; with_reducible rfl); rotate_left; (simp only [Act.put, List.setIfInBounds_toArray, List.set_cons_zero, List.set_cons_succ, i64_w, i32_w]; rfl)
                  refine pure_ (i := 19) (N := some 73) (v := ?_) (a' := ?_) #[true, true, true, true, true, true, true, true, true, true, true, true, true, true, true, true, true, true, true, true, false, false, false, false, false, false, false, false, false, false, false, false, false, false, false, false, false, false] rfl rfl (any_of HT_.out (by kernel_rfl)) (fun _ _ _ h => h) (Or.inl ⟨by rfl, ?_⟩) ?_ ?_
                  rotate_left; (intro w'; go_simp; with_reducible rfl); rotate_left; (simp only [Act.put, List.setIfInBounds_toArray, List.set_cons_zero, List.set_cons_succ, i64_w, i32_w]; rfl)
                  refine pure_ (i := 20) (N := some 74) (v := ?_) (a' := ?_) #[true, true, true, true, true, true, true, true, true, true, true, true, true, true, true, true, true, true, true, true, true, false, false, false, false, false, false, false, false, false, false, false, false, false, false, false, false, false] rfl rfl (any_of HT_.out (by kernel_rfl)) (fun _ _ _ h => h) (Or.inl ⟨by rfl, ?_⟩) ?_ ?_
                  rotate_left; (intro w'; go_simp; with_reducible rfl); rotate_left; (simp only [Act.put, List.setIfInBounds_toArray, List.set_cons_zero, List.set_cons_succ, i64_w, i32_w]; rfl)
                  refine pure_ (i := 22) (N := some 76) (v := ?_) (a' := ?_) #[true, true, true, true, true, true, true, true, true, true, true, true, true, true, true, true, true, true, true, true, true, false, true, false, false, false, false, false, false, false, false, false, false, false, false, false, false, false] rfl rfl (any_of HT_.out (by kernel_rfl)) (fun _ _ _ h => h) (Or.inl ⟨by rfl, ?_⟩) ?_ ?_
                  rotate_left; (intro w'; go_simp; with_reducible rfl); rotate_left; (simp only [Act.put, List.setIfInBounds_toArray, List.set_cons_zero, List.set_cons_succ, i64_w, i32_w]; rfl)
                  refine pure_ (i := 23) (N := some 77) (v := ?_) (a' := ?_) #[true, true, true, true, true, true, true, true, true, true, true, true, true, true, true, true, true, true, true, true, true, false, true, true, false, false, false, false, false, false, false, false, false, false, false, false, false, false] rfl rfl (any_of HT_.out (by kernel_rfl)) (fun _ _ _ h => h) (Or.inl ⟨by rfl, ?_⟩) ?_ ?_
                  rotate_left; (intro w'; go_simp; with_reducible rfl); rotate_left; (simp only [Act.put, List.setIfInBounds_toArray, List.set_cons_zero, List.set_cons_succ, i64_w, i32_w]; rfl)
                  refine pure_ (i := 24) (N := some 78) (v := ?_) (a' := ?_) #[true, true, true, true, true, true, true, true, true, true, true, true, true, true, true, true, true, true, true, true, true, false, true, true, true, false, false, false, false, false, false, false, false, false, false, false, false, false] rfl rfl (any_of HT_.out (by kernel_rfl)) (fun _ _ _ h => h) (Or.inl ⟨by rfl, ?_⟩) ?_ ?_
                  rotate_left; (intro w'; go_simp; with_reducible rfl); rotate_left; (simp only [Act.put, List.setIfInBounds_toArray, List.set_cons_zero, List.set_cons_succ, i64_w, i32_w]; rfl)
                  refine pure_ (i := 26) (N := some 80) (v := ?_) (a' := ?_) #[true, true, true, true, true, true, true, true, true, true, true, true, true, true, true, true, true, true, true, true, true, false, true, true, true, false, true, false, false, false, false, false, false, false, false, false, false, false] rfl rfl (any_of HT_.out (by kernel_rfl)) (fun _ _ _ h => h) (Or.inl ⟨by rfl, ?_⟩) ?_ ?_
                  rotate_left; (intro w'; go_simp; with_reducible rfl); rotate_left; (simp only [Act.put, List.setIfInBounds_toArray, List.set_cons_zero, List.set_cons_succ, i64_w, i32_w]; rfl)
                  refine pure_ (i := 29) (N := some 83) (v := ?_) (a' := ?_) #[true, true, true, true, true, true, true, true, true, true, true, true, true, true, true, true, true, true, true, true, true, false, true, true, true, false, true, false, false, true, false, false, false, false, false, false, false, false] rfl rfl (any_of HT_.out (by kernel_rfl)) (fun _ _ _ h => h) (Or.inl ⟨by rfl, ?_⟩) ?_ ?_
                  rotate_left; (intro w'; go_simp; with_reducible rfl); rotate_left; (simp only [Act.put, List.setIfInBounds_toArray, List.set_cons_zero, List.set_cons_succ, i64_w, i32_w]; rfl)
                  refine pure_ (i := 30) (N := some 84) (v := ?_) (a' := ?_) #[true, true, true, true, true, true, true, true, true, true, true, true, true, true, true, true, true, true, true, true, true, false, true, true, true, false, true, false, false, true, true, false, false, false, false, false, false, false] rfl rfl (any_of HT_.out (by kernel_rfl)) (fun _ _ _ h => h) (Or.inl ⟨by rfl, ?_⟩) ?_ ?_
                  rotate_left; (intro w'; go_simp; with_reducible rfl); rotate_left; (simp only [Act.put, List.setIfInBounds_toArray, List.set_cons_zero, List.set_cons_succ, i64_w, i32_w]; rfl)
                  refine pure_ (i := 31) (N := some 85) (v := ?_) (a' := ?_) #[true, true, true, true, true, true, true, true, true, true, true, true, true, true, true, true, true, true, true, true, true, false, true, true, true, false, true, false, false, true, true, true, false, false, false, false, false, false] rfl rfl (any_of HT_.out (by kernel_rfl)) (fun _ _ _ h => h) (Or.inl ⟨by rfl, ?_⟩) ?_ ?_
                  rotate_left; (intro w'; go_simp; with_reducible rfl); rotate_left; (simp only [Act.put, List.setIfInBounds_toArray, List.set_cons_zero, List.set_cons_succ, i64_w, i32_w]; rfl)
                  refine pure_ (i := 32) (N := some 86) (v := ?_) (a' := ?_) #[true, true, true, true, true, true, true, true, true, true, true, true, true, true, true, true, true, true, true, true, true, false, true, true, true, false, true, false, false, true, true, true, true, false, false, false, false, false] rfl rfl (any_of HT_.out (by kernel_rfl)) (fun _ _ _ h => h) (Or.inl ⟨by rfl, ?_⟩) ?_ ?_
                  rotate_left; (intro w'; go_simp; with_reducible rfl); rotate_left; (simp only [Act.put, List.setIfInBounds_toArray, List.set_cons_zero, List.set_cons_succ, i64_w, i32_w]; rfl)
                  refine take_ (i := 21) (N := some 75) (v := ?_) (a' := ?_) #[true, true, true, true, true, true, true, true, true, true, true, true, true, true, true, true, true, true, true, true, true, true, true, true, true, false, true, false, false, true, true, true, true, false, false, false, false, false] rfl rfl (take_ofW HT_.out HW_.out (by kernel_rfl)) (fun _ _ _ h => h) (Or.inl ⟨by rfl, ?_⟩) hHeld ?_ ?_
                  rotate_left; (rintro w' ⟨s0, s1, s2, s3, s4, s5, s6, s7, s8, s9⟩; go_simp; with_reducible rfl); rotate_left; (simp only [Act.put, List.setIfInBounds_toArray, List.set_cons_zero, List.set_cons_succ, i64_w, i32_w]; rfl)
                  refine take_ (i := 25) (N := some 79) (v := ?_) (a' := ?_) #[true, true, true, true, true, true, true, true, true, true, true, true, true, true, true, true, true, true, true, true, true, true, true, true, true, true, true, false, false, true, true, true, true, false, false, false, false, false] rfl rfl (take_ofW HT_.out HW_.out (by kernel_rfl)) (fun _ _ _ h => h) (Or.inl ⟨by rfl, ?_⟩) hHeld ?_ ?_
                  rotate_left; (rintro w' ⟨s0, s1, s2, s3, s4, s5, s6, s7, s8, s9⟩; go_simp; with_reducible rfl); rotate_left; (simp only [Act.put, List.setIfInBounds_toArray, List.set_cons_zero, List.set_cons_succ, i64_w, i32_w]; rfl)
                  refine pure_ (i := 27) (N := some 81) (v := ?_) (a' := ?_) #[true, true, true, true, true, true, true, true, true, true, true, true, true, true, true, true, true, true, true, true, true, true, true, true, true, true, true, true, false, true, true, true, true, false, false, false, false, false] rfl rfl (any_of HT_.out (by kernel_rfl)) (fun _ _ _ h => h) (Or.inl ⟨by rfl, ?_⟩) ?_ ?_
                  rotate_left; (intro w'; go_simp; with_reducible rfl); rotate_left; (simp only [Act.put, List.setIfInBounds_toArray, List.set_cons_zero, List.set_cons_succ, i64_w, i32_w]; rfl)
                  refine take_ (i := 28) (N := some 82) (v := ?_) (a' := ?_) #[true, true, true, true, true, true, true, true, true, true, true, true, true, true, true, true, true, true, true, true, true, true, true, true, true, true, true, true, true, true, true, true, true, false, false, false, false, false] rfl rfl (take_ofW HT_.out HW_.out (by kernel_rfl)) (fun _ _ _ h => h) (Or.inl ⟨by rfl, ?_⟩) hHeld ?_ ?_
                  rotate_left; (rintro w' ⟨s0, s1, s2, s3, s4, s5, s6, s7, s8, s9⟩; go_simp; with_reducible rfl); rotate_left; (simp only [Act.put, List.setIfInBounds_toArray, List.set_cons_zero, List.set_cons_succ, i64_w, i32_w]; rfl)
                  refine take_ (i := 33) (N := some 87) (v := ?_) (a' := ?_) #[true, true, true, true, true, true, true, true, true, true, true, true, true, true, true, true, true, true, true, true, true, true, true, true, true, true, true, true, true, true, true, true, true, true, false, false, false, false] rfl rfl (take_ofW HT_.out HW_.out (by kernel_rfl)) (fun _ _ _ h => h) (Or.inl ⟨by rfl, ?_⟩) hHeld ?_ ?_
                  rotate_left; (rintro w' ⟨s0, s1, s2, s3, s4, s5, s6, s7, s8, s9⟩; go_simp; with_reducible rfl); rotate_left; (simp only [Act.put, List.setIfInBounds_toArray, List.set_cons_zero, List.set_cons_succ, i64_w, i32_w]; rfl)
                  refine one_ (i := 34) (N := some 88) #[true, true, true, true, true, true, true, true, true, true, true, true, true, true, true, true, true, true, true, true, true, true, true, true, true, true, true, true, true, true, true, true, true, true, true, false, false, false] rfl rfl (one_of HT_.out (by kernel_rfl)) (by decide) (fun K hK => ?_)
                  refine goes_ Try.func14 (by kernel_rfl) rfl #[.agg #[.slice Ao16 t254.length co16, .int .i64 t257, .int .i64 t258, .int .i64 t259], .slice A280_0 (rd_L3 (rd_L4 t267 x11_2) x12_3).length c280_0, .slice A281_0 (rd_L3 t270 (ji48)).length c281_0] (by rfl) rfl rfl (by (try simp only [List.map_toArray, List.map_cons, List.map_nil]); first | done | (rw [← HEQ0.out.1, ← HEQ0.out.2]; rfl) | (simp only [hji48]; rfl) | rfl | (simp only [List.length_drop, List.length_take]; rfl)) ?_
                  with_reducible refine (thresherref04_Compare.calls k3 _ _ t254 t257 t258 t259 _ _ (rd_L3 (rd_L4 t267 x11_2) x12_3) _ _ (rd_L3 t270 (ji48)) t282 _ ?side1 ?side2 ?side3 ?side4 ?side5 ?side6 A50.out).mono ?_
                  (case side1 => repeat (first | exact (Kd.R_reads' HO_261000.out).2.2 | (with_reducible refine Kd.C_alloc ?_ _) | (with_reducible refine Kd.C_drewN ?_ _) | (with_reducible refine Kd.C_drew ?_)))
                  (case side2 => exact (Kd.R_reads' HO_261000.out).2.1)
                  (case side3 => repeat (first | exact (by repeat (first | (with_reducible exact HR280_0.out) | (with_reducible refine Kd.C_alloc ?_ _) | (with_reducible refine Kd.C_drewN ?_ _) | (with_reducible refine Kd.C_drew ?_) | exact HR280_0.out)) | (with_reducible refine Kd.C_alloc ?_ _) | (with_reducible refine Kd.C_drewN ?_ _) | (with_reducible refine Kd.C_drew ?_)))
                  (case side4 => exact HC280_0.out)
                  (case side5 => repeat (first | exact (by repeat (first | (with_reducible exact HR281_0.out) | (with_reducible refine Kd.C_alloc ?_ _) | (with_reducible refine Kd.C_drewN ?_ _) | (with_reducible refine Kd.C_drew ?_) | exact HR281_0.out)) | (with_reducible refine Kd.C_alloc ?_ _) | (with_reducible refine Kd.C_drewN ?_ _) | (with_reducible refine Kd.C_drew ?_)))
                  (case side6 => exact HC281_0.out)
                  rintro e w54 ⟨rfl, hb⟩
                  have HS4_ := (hb.cell (World.block_lt_of_cell? _ _ (hHeld.2.2.2.2.1))).trans (hHeld.2.2.2.2.1)
                  have HS5_ := (hb.cell (World.block_lt_of_cell? _ _ (hHeld.2.2.2.2.2.1))).trans (hHeld.2.2.2.2.2.1)
                  have HS6_ := (hb.cell (World.block_lt_of_cell? _ _ (hHeld.2.2.2.2.2.2.1))).trans (hHeld.2.2.2.2.2.2.1)
                  have HS7_ := (hb.cell (World.block_lt_of_cell? _ _ (hHeld.2.2.2.2.2.2.2.1))).trans (hHeld.2.2.2.2.2.2.2.1)
                  have HS8_ := (hb.cell (World.block_lt_of_cell? _ _ (hHeld.2.2.2.2.2.2.2.2.1))).trans (hHeld.2.2.2.2.2.2.2.2.1)
                  have HS9_ := (hb.cell (World.block_lt_of_cell? _ _ (hHeld.2.2.2.2.2.2.2.2.2))).trans (hHeld.2.2.2.2.2.2.2.2.2)
                  refine ⟨_, rfl, ?_⟩
                  have n0_ := Aside0.mk (Kd.N_below (by (with_reducible repeat (first | apply Kd.N_alloc | apply Kd.N_drewN | apply Kd.N_drew)); exact HO_8.out) hb)
                  have n1_ := Aside0.mk (Kd.N_below (by (with_reducible repeat (first | apply Kd.N_alloc | apply Kd.N_drewN | apply Kd.N_drew)); exact HO_9.out) hb)
                  have n2_ := Aside0.mk (Kd.R_below (by (with_reducible repeat (first | apply Kd.R_alloc | apply Kd.R_drewN | apply Kd.R_drew)); exact HO_261000.out) hb)
                  have n3_ := Aside0.mk (Kd.V_below (by (with_reducible repeat (first | apply Kd.V_alloc | apply Kd.V_drewN | apply Kd.V_drew)); exact HL274_0.out) hb)
                  have n4_ := Aside0.mk (Kd.V_below (by (with_reducible repeat (first | apply Kd.V_alloc | apply Kd.V_drewN | apply Kd.V_drew)); exact HL275_0.out) hb)
                  have n5_ := Aside0.mk (Kd.V_below (by (with_reducible repeat (first | apply Kd.V_alloc | apply Kd.V_drewN | apply Kd.V_drew)); exact HL276_0.out) hb)
                  have n6_ := Aside0.mk (Kd.V_below (by (with_reducible repeat (first | apply Kd.V_alloc | apply Kd.V_drewN | apply Kd.V_drew)); exact HL277_0.out) hb)
                  have n7_ := Aside0.mk (Kd.V_below (by (with_reducible repeat (first | apply Kd.V_alloc | apply Kd.V_drewN | apply Kd.V_drew)); exact HL279_0.out) hb)
                  have n8_ := Aside0.mk (Kd.V_below (by (with_reducible repeat (first | apply Kd.V_alloc | apply Kd.V_drewN | apply Kd.V_drew)); exact HL280_0.out) hb)
                  have n9_ := Aside0.mk (Kd.V_below (by (with_reducible repeat (first | apply Kd.V_alloc | apply Kd.V_drewN | apply Kd.V_drew)); exact HL281_0.out) hb)
                  have n10_ := Aside0.mk (blk_below (g := gb252) (o := .cells #[.int .u8 a0_0, .int .u8 a0_1, .int .u8 a0_2, .int .u8 a0_3, .int .u8 a0_4, .int .u8 a0_5, .int .u8 a0_6, .int .u8 a0_7, .int .u8 a0_8, .int .u8 a0_9, .int .u8 a0_10, .int .u8 a0_11] 24 (0, 0)) (by (with_reducible repeat (first | refine blk_drewN ?_ _ | refine blk_drew ?_ | refine blk_alloc ?_ _)); exact BK252.out) hb)
                  have n11_ := Aside0.mk (blk_below (g := gb260) (o := .cells #[.slice Ao16 t254.length co16, .int .i64 t257, .int .i64 t258, .int .i64 t259] 29 (0, 0)) (by (with_reducible repeat (first | refine blk_drewN ?_ _ | refine blk_drew ?_ | refine blk_alloc ?_ _)); exact BK260.out) hb)
                  have n12_ := Aside0.mk (Kd.C_below (by repeat (first | (with_reducible exact HR274_0.out) | (with_reducible refine Kd.C_alloc ?_ _) | (with_reducible refine Kd.C_drewN ?_ _) | (with_reducible refine Kd.C_drew ?_) | exact HR274_0.out)) hb)
                  have n13_ := Aside0.mk (Kd.C_below (by repeat (first | (with_reducible exact HR275_0.out) | (with_reducible refine Kd.C_alloc ?_ _) | (with_reducible refine Kd.C_drewN ?_ _) | (with_reducible refine Kd.C_drew ?_) | exact HR275_0.out)) hb)
                  have n14_ := Aside0.mk (Kd.C_below (by repeat (first | (with_reducible exact HR276_0.out) | (with_reducible refine Kd.C_alloc ?_ _) | (with_reducible refine Kd.C_drewN ?_ _) | (with_reducible refine Kd.C_drew ?_) | exact HR276_0.out)) hb)
                  have n15_ := Aside0.mk (Kd.C_below (by repeat (first | (with_reducible exact HR277_0.out) | (with_reducible refine Kd.C_alloc ?_ _) | (with_reducible refine Kd.C_drewN ?_ _) | (with_reducible refine Kd.C_drew ?_) | exact HR277_0.out)) hb)
                  have n16_ := Aside0.mk (Kd.C_below (by repeat (first | (with_reducible exact HR279_0.out) | (with_reducible refine Kd.C_alloc ?_ _) | (with_reducible refine Kd.C_drewN ?_ _) | (with_reducible refine Kd.C_drew ?_) | exact HR279_0.out)) hb)
                  have n17_ := Aside0.mk (Kd.C_below (by repeat (first | (with_reducible exact HR280_0.out) | (with_reducible refine Kd.C_alloc ?_ _) | (with_reducible refine Kd.C_drewN ?_ _) | (with_reducible refine Kd.C_drew ?_) | exact HR280_0.out)) hb)
                  have n18_ := Aside0.mk (Kd.C_below (by repeat (first | (with_reducible exact HR281_0.out) | (with_reducible refine Kd.C_alloc ?_ _) | (with_reducible refine Kd.C_drewN ?_ _) | (with_reducible refine Kd.C_drew ?_) | exact HR281_0.out)) hb)
                  have n19_ := Aside0.mk (below_step (by repeat (first | (with_reducible first | exact HB.out | apply below_alloc | apply pw_below_drewN | apply below_drew1 | refine below_set ?_ GE252.out | refine below_set ?_ GE260.out) | exact HB.out)) hb)
                  clear HO_8
                  clear HO_9
                  clear HO_261000
                  clear HL274_0
                  clear HL275_0
                  clear HL276_0
                  clear HL277_0
                  clear HL279_0
                  clear HL280_0
                  clear HL281_0
                  clear BK252
                  clear BK260
                  clear HR274_0
                  clear HR275_0
                  clear HR276_0
                  clear HR277_0
                  clear HR279_0
                  clear HR280_0
                  clear HR281_0
                  clear HB
                  have HO_8 := n0_
                  have HO_9 := n1_
                  have HO_261000 := n2_
                  have HL274_0 := n3_
                  have HL275_0 := n4_
                  have HL276_0 := n5_
                  have HL277_0 := n6_
                  have HL279_0 := n7_
                  have HL280_0 := n8_
                  have HL281_0 := n9_
                  have BK252 := n10_
                  have BK260 := n11_
                  have HR274_0 := n12_
                  have HR275_0 := n13_
                  have HR276_0 := n14_
                  have HR277_0 := n15_
                  have HR279_0 := n16_
                  have HR280_0 := n17_
                  have HR281_0 := n18_
                  have HB := n19_
                  clear n0_ n1_ n2_ n3_ n4_ n5_ n6_ n7_ n8_ n9_ n10_ n11_ n12_ n13_ n14_ n15_ n16_ n17_ n18_ n19_
                  (try clear hb)
                  (try clear hb2)
                  (try clear hk)
                  (try clear hi)
                  refine hK.out _ _ ⟨(blk_cell BK260.out 0).trans rfl, (blk_cell BK260.out 1).trans rfl, (blk_cell BK260.out 2).trans rfl, (blk_cell BK260.out 3).trans rfl, HS4_, HS5_, HS6_, HS7_, HS8_, HS9_⟩ (fun hHeld => ?_)
                  clear hK K
                  refine norm_ (a' := ?_) ?_ ?_
                  rotate_left
                  ·show Act.put _ (some 88) _ = _
                   simp only [Act.put, List.setIfInBounds_toArray, List.set_cons_zero, List.set_cons_succ, i64_w, i32_w]
                   rfl
                  refine pure_ (i := 35) (N := some 89) (v := ?_) (a' := ?_) #[true, true, true, true, true, true, true, true, true, true, true, true, true, true, true, true, true, true, true, true, true, true, true, true, true, true, true, true, true, true, true, true, true, true, true, true, false, false] rfl rfl (any_of HT_.out (by kernel_rfl)) (fun _ _ _ h => h) (Or.inl ⟨by rfl, ?_⟩) ?_ ?_
                  rotate_left; (intro w'; go_simp; with_reducible rfl); rotate_left; (simp only [Act.put, List.setIfInBounds_toArray, List.set_cons_zero, List.set_cons_succ, i64_w, i32_w]; rfl)
                  refine pure_ (i := 36) (N := some 90) (v := ?_) (a' := ?_) #[true, true, true, true, true, true, true, true, true, true, true, true, true, true, true, true, true, true, true, true, true, true, true, true, true, true, true, true, true, true, true, true, true, true, true, true, true, false] rfl rfl (any_of HT_.out (by kernel_rfl)) (fun _ _ _ h => h) (Or.inl ⟨by rfl, ?_⟩) ?_ ?_
                  rotate_left; (intro w'; go_simp; with_reducible rfl); rotate_left; (simp only [Act.put, List.setIfInBounds_toArray, List.set_cons_zero, List.set_cons_succ, i64_w, i32_w]; rfl)
                  refine pure_ (i := 37) (N := some 91) (v := ?_) (a' := ?_) #[true, true, true, true, true, true, true, true, true, true, true, true, true, true, true, true, true, true, true, true, true, true, true, true, true, true, true, true, true, true, true, true, true, true, true, true, true, true] rfl rfl (any_of HT_.out (by kernel_rfl)) (fun _ _ _ h => h) (Or.inl ⟨by rfl, ?_⟩) ?_ ?_
                  rotate_left; (intro w'; go_simp; with_reducible rfl); rotate_left; (simp only [Act.put, List.setIfInBounds_toArray, List.set_cons_zero, List.set_cons_succ, i64_w, i32_w]; rfl)
                  refine done_ (done_of HT_.out (by kernel_rfl)) ?_
                  (try clear HS4_); (try clear HS5_); (try clear HS6_); (try clear HS7_); (try clear HS8_); (try clear HS9_); (try clear hHeld)
                  try go_wp2
                  go_ret
                  exact ⟨by first | rfl | (simp [errW_none, errW_some] <;> rfl) | (simp only [← hji48]; first | rfl | (simp [errW_none, errW_some] <;> rfl)) | (simp [*, errW_none, errW_some] <;> rfl), by repeat (first | (with_reducible first | exact HB.out | apply below_alloc | apply pw_below_drewN | apply below_drew1 | refine below_set ?_ GE252.out | refine below_set ?_ GE260.out) | exact HB.out)⟩
                 ·rw [if_neg c51] at H
                  have c51b0 : decide (0 < t282) = false := decide_eq_false c51
                  clear c51
                  have H' := Aside0.mk H
                  clear H
                  have p274 : 0 ≤ (x11_2 : Int) := of_decide_eq_true (by first | (with_reducible assumption) | assumption)
                  have q274 : x11_2 < (t267.length : Int) := of_decide_eq_true (by first | (with_reducible assumption) | assumption)
                  obtain ⟨ad274, A274_0, c274_0, e274, hx274_0, hl274_0, hi274_0⟩ := at_L4 (Kd.N_reads' HO_8.out).2.2 x11_2 p274 q274
                  cases e274
                  obtain ⟨ce274, hce274, hMe274, hcc274⟩ := Kd.N_get HO_8.out [] x11_2 p274 (by first | exact q274 | exact of_decide_eq_true (by first | (with_reducible assumption) | assumption) | (have e_ := (Kd.N_reads' HO_8.out).1; omega))
                  obtain ⟨ua274_0, uc274_0, rfl, ul274_0, ge274_0⟩ := Kd.FK_slice_open hMe274
                  have hv274_0 := hcc274 0 _ rfl
                  rw [Nat.add_zero, show ((Kd.slice 38 (Kd.slice 45 k45))).sz = 1 from rfl, Nat.mul_one] at hv274_0
                  replace hv274_0 := Option.some.inj (hv274_0.symm.trans hx274_0)
                  injection hv274_0 with hva_ hvn_ hvc_
                  rw [hva_] at ge274_0
                  rw [hvc_] at ul274_0
                  have HL274_0 := Aside0.mk (show Kd.V (Kd.slice 45 k45) 38 _ w.heap.size _ _ (rd_L4 t267 x11_2) from Kd.V_mk ul274_0 ge274_0)
                  clear hva_ hvn_ hvc_ ge274_0 ul274_0
                  clear hcc274 hce274
                  have HR274_0 := Aside0.mk hi274_0
                  have HC274_0 := Aside0.mk hl274_0
                  clear hi274_0 hl274_0
                  replace p274 := eq_true p274
                  replace q274 := eq_true q274
                  try go_wp2
                  have n0_ := Aside0.mk (Kd.N_drew HO_8.out)
                  have n1_ := Aside0.mk (Kd.N_drew HO_9.out)
                  have n2_ := Aside0.mk (Kd.R_drew HO_261000.out)
                  have n3_ := Aside0.mk (Kd.V_drew HL274_0.out)
                  have n4_ := Aside0.mk (blk_drew BK252.out)
                  have n5_ := Aside0.mk (blk_drew BK260.out)
                  have n6_ := Aside0.mk (Kd.C_drew HR274_0.out)
                  have n7_ := Aside0.mk (below_drew1 HB.out)
                  clear HO_8
                  clear HO_9
                  clear HO_261000
                  clear HL274_0
                  clear BK252
                  clear BK260
                  clear HR274_0
                  clear HB
                  have HO_8 := n0_
                  have HO_9 := n1_
                  have HO_261000 := n2_
                  have HL274_0 := n3_
                  have BK252 := n4_
                  have BK260 := n5_
                  have HR274_0 := n6_
                  have HB := n7_
                  clear n0_ n1_ n2_ n3_ n4_ n5_ n6_ n7_
                  have p275 : 0 ≤ (x11_2 : Int) := of_decide_eq_true (by first | (with_reducible assumption) | assumption)
                  have q275 : x11_2 < (t267.length : Int) := of_decide_eq_true (by first | (with_reducible assumption) | assumption)
                  obtain ⟨ad275, A275_0, c275_0, e275, hx275_0, hl275_0, hi275_0⟩ := at_L4 (Kd.N_reads' HO_8.out).2.2 x11_2 p275 q275
                  obtain rfl : ad274 = ad275 := (by injection e275)
                  obtain ⟨ce275, hce275, hMe275, hcc275⟩ := Kd.N_get HO_8.out [] x11_2 p275 (by first | exact q275 | exact of_decide_eq_true (by first | (with_reducible assumption) | assumption) | (have e_ := (Kd.N_reads' HO_8.out).1; omega))
                  obtain ⟨ua275_0, uc275_0, rfl, ul275_0, ge275_0⟩ := Kd.FK_slice_open hMe275
                  have hv275_0 := hcc275 0 _ rfl
                  rw [Nat.add_zero, show ((Kd.slice 38 (Kd.slice 45 k45))).sz = 1 from rfl, Nat.mul_one] at hv275_0
                  replace hv275_0 := Option.some.inj (hv275_0.symm.trans hx275_0)
                  injection hv275_0 with hva_ hvn_ hvc_
                  rw [hva_] at ge275_0
                  rw [hvc_] at ul275_0
                  have HL275_0 := Aside0.mk (show Kd.V (Kd.slice 45 k45) 38 _ w.heap.size _ _ (rd_L4 t267 x11_2) from Kd.V_mk ul275_0 ge275_0)
                  clear hva_ hvn_ hvc_ ge275_0 ul275_0
                  clear hcc275 hce275
                  have HR275_0 := Aside0.mk hi275_0
                  have HC275_0 := Aside0.mk hl275_0
                  clear hi275_0 hl275_0
                  replace p275 := eq_true p275
                  replace q275 := eq_true q275
                  have p276 : 0 ≤ (x12_3 : Int) := of_decide_eq_true (by first | (with_reducible assumption) | assumption)
                  have q276 : x12_3 < ((rd_L4 t267 x11_2).length : Int) := of_decide_eq_true (by first | (with_reducible assumption) | assumption)
                  obtain ⟨ad276, A276_0, c276_0, e276, hx276_0, hl276_0, hi276_0⟩ := at_L3 (by repeat (first | (with_reducible exact HR275_0.out) | (with_reducible refine Kd.C_alloc ?_ _) | (with_reducible refine Kd.C_drewN ?_ _) | (with_reducible refine Kd.C_drew ?_) | exact HR275_0.out)) x12_3 p276 q276
                  cases e276
                  obtain ⟨ce276, hce276, hMe276, hcc276⟩ := Kd.V_get HL275_0.out [] x12_3 p276 (by first | exact q276 | exact of_decide_eq_true (by first | (with_reducible assumption) | assumption) | (have e_ := (Kd.V_reads' HL275_0.out).1; omega))
                  obtain ⟨ua276_0, uc276_0, rfl, ul276_0, ge276_0⟩ := Kd.FK_slice_open hMe276
                  have hv276_0 := hcc276 0 _ rfl
                  rw [Nat.add_zero, show ((Kd.slice 45 k45)).sz = 1 from rfl, Nat.mul_one] at hv276_0
                  replace hv276_0 := Option.some.inj (hv276_0.symm.trans hx276_0)
                  injection hv276_0 with hva_ hvn_ hvc_
                  rw [hva_] at ge276_0
                  rw [hvc_] at ul276_0
                  have HL276_0 := Aside0.mk (show Kd.V k45 45 _ w.heap.size _ _ (rd_L3 (rd_L4 t267 x11_2) x12_3) from Kd.V_mk ul276_0 ge276_0)
                  clear hva_ hvn_ hvc_ ge276_0 ul276_0
                  clear hcc276 hce276
                  have HR276_0 := Aside0.mk hi276_0
                  have HC276_0 := Aside0.mk hl276_0
                  clear hi276_0 hl276_0
                  replace p276 := eq_true p276
                  replace q276 := eq_true q276
                  have p277 : 0 ≤ (x11_2 : Int) := of_decide_eq_true (by first | (with_reducible assumption) | assumption)
                  have q277 : x11_2 < (t270.length : Int) := of_decide_eq_true (by first | (with_reducible assumption) | assumption)
                  obtain ⟨ad277, A277_0, c277_0, e277, hx277_0, hl277_0, hi277_0⟩ := at_L3 (Kd.N_reads' HO_9.out).2.2 x11_2 p277 q277
                  cases e277
                  obtain ⟨ce277, hce277, hMe277, hcc277⟩ := Kd.N_get HO_9.out [] x11_2 p277 (by first | exact q277 | exact of_decide_eq_true (by first | (with_reducible assumption) | assumption) | (have e_ := (Kd.N_reads' HO_9.out).1; omega))
                  obtain ⟨ua277_0, uc277_0, rfl, ul277_0, ge277_0⟩ := Kd.FK_slice_open hMe277
                  have hv277_0 := hcc277 0 _ rfl
                  rw [Nat.add_zero, show ((Kd.slice 45 k45)).sz = 1 from rfl, Nat.mul_one] at hv277_0
                  replace hv277_0 := Option.some.inj (hv277_0.symm.trans hx277_0)
                  injection hv277_0 with hva_ hvn_ hvc_
                  rw [hva_] at ge277_0
                  rw [hvc_] at ul277_0
                  have HL277_0 := Aside0.mk (show Kd.V k45 45 _ w.heap.size _ _ (rd_L3 t270 x11_2) from Kd.V_mk ul277_0 ge277_0)
                  clear hva_ hvn_ hvc_ ge277_0 ul277_0
                  clear hcc277 hce277
                  have HR277_0 := Aside0.mk hi277_0
                  have HC277_0 := Aside0.mk hl277_0
                  clear hi277_0 hl277_0
                  replace p277 := eq_true p277
                  replace q277 := eq_true q277
                  have p279 : 0 ≤ (x11_2 : Int) := of_decide_eq_true (by first | (with_reducible assumption) | assumption)
                  have q279 : x11_2 < (t267.length : Int) := of_decide_eq_true (by first | (with_reducible assumption) | assumption)
                  obtain ⟨ad279, A279_0, c279_0, e279, hx279_0, hl279_0, hi279_0⟩ := at_L4 (Kd.N_reads' HO_8.out).2.2 x11_2 p279 q279
                  obtain rfl : ad274 = ad279 := (by injection e279)
                  obtain ⟨ce279, hce279, hMe279, hcc279⟩ := Kd.N_get HO_8.out [] x11_2 p279 (by first | exact q279 | exact of_decide_eq_true (by first | (with_reducible assumption) | assumption) | (have e_ := (Kd.N_reads' HO_8.out).1; omega))
                  obtain ⟨ua279_0, uc279_0, rfl, ul279_0, ge279_0⟩ := Kd.FK_slice_open hMe279
                  have hv279_0 := hcc279 0 _ rfl
                  rw [Nat.add_zero, show ((Kd.slice 38 (Kd.slice 45 k45))).sz = 1 from rfl, Nat.mul_one] at hv279_0
                  replace hv279_0 := Option.some.inj (hv279_0.symm.trans hx279_0)
                  injection hv279_0 with hva_ hvn_ hvc_
                  rw [hva_] at ge279_0
                  rw [hvc_] at ul279_0
                  have HL279_0 := Aside0.mk (show Kd.V (Kd.slice 45 k45) 38 _ w.heap.size _ _ (rd_L4 t267 x11_2) from Kd.V_mk ul279_0 ge279_0)
                  clear hva_ hvn_ hvc_ ge279_0 ul279_0
                  clear hcc279 hce279
                  have HR279_0 := Aside0.mk hi279_0
                  have HC279_0 := Aside0.mk hl279_0
                  clear hi279_0 hl279_0
                  replace p279 := eq_true p279
                  replace q279 := eq_true q279
                  have p281 : 0 ≤ ((ji48) : Int) := of_decide_eq_true (by first | (with_reducible assumption) | assumption)
                  have q281 : (ji48) < (t270.length : Int) := of_decide_eq_true (by first | (with_reducible assumption) | assumption)
                  obtain ⟨ad281, A281_0, c281_0, e281, hx281_0, hl281_0, hi281_0⟩ := at_L3 (Kd.N_reads' HO_9.out).2.2 (ji48) p281 q281
                  obtain rfl : ad277 = ad281 := (by injection e281)
                  obtain ⟨ce281, hce281, hMe281, hcc281⟩ := Kd.N_get HO_9.out [] (ji48) p281 (by first | exact q281 | exact of_decide_eq_true (by first | (with_reducible assumption) | assumption) | (have e_ := (Kd.N_reads' HO_9.out).1; omega))
                  obtain ⟨ua281_0, uc281_0, rfl, ul281_0, ge281_0⟩ := Kd.FK_slice_open hMe281
                  have hv281_0 := hcc281 0 _ rfl
                  rw [Nat.add_zero, show ((Kd.slice 45 k45)).sz = 1 from rfl, Nat.mul_one] at hv281_0
                  replace hv281_0 := Option.some.inj (hv281_0.symm.trans hx281_0)
                  injection hv281_0 with hva_ hvn_ hvc_
                  rw [hva_] at ge281_0
                  rw [hvc_] at ul281_0
                  have HL281_0 := Aside0.mk (show Kd.V k45 45 _ w.heap.size _ _ (rd_L3 t270 (ji48)) from Kd.V_mk ul281_0 ge281_0)
                  clear hva_ hvn_ hvc_ ge281_0 ul281_0
                  clear hcc281 hce281
                  have HR281_0 := Aside0.mk hi281_0
                  have HC281_0 := Aside0.mk hl281_0
                  clear hi281_0 hl281_0
                  replace p281 := eq_true p281
                  replace q281 := eq_true q281
                  have p280 : 0 ≤ (x12_3 : Int) := of_decide_eq_true (by first | (with_reducible assumption) | assumption)
                  have q280 : x12_3 < ((rd_L4 t267 x11_2).length : Int) := of_decide_eq_true (by first | (with_reducible assumption) | assumption)
                  obtain ⟨ad280, A280_0, c280_0, e280, hx280_0, hl280_0, hi280_0⟩ := at_L3 (by repeat (first | (with_reducible exact HR279_0.out) | (with_reducible refine Kd.C_alloc ?_ _) | (with_reducible refine Kd.C_drewN ?_ _) | (with_reducible refine Kd.C_drew ?_) | exact HR279_0.out)) x12_3 p280 q280
                  cases e280
                  clear hl280_0 hi280_0 p280 q280
                  have u_ := Option.some.inj (hx275_0.symm.trans hx279_0); injection u_ with u1_ u0_ u2_; injection u1_ with u1_; have v_ := hx280_0; rw [← u1_] at v_; replace v_ := Option.some.inj (hx276_0.symm.trans v_); injection v_ with v1_ v0_ v2_; have HEQ0 := Aside0.mk (And.intro v1_ v2_); clear u0_ u1_ u2_ v0_ v1_ v2_
                  refine start_ (n := 38) (S := fun w' => w'.cell? ⟨gb260, 0, none⟩ = some (.slice Ao16 t254.length co16) ∧ w'.cell? ⟨gb260, 1, none⟩ = some (.int .i64 t257) ∧ w'.cell? ⟨gb260, 2, none⟩ = some (.int .i64 t258) ∧ w'.cell? ⟨gb260, 3, none⟩ = some (.int .i64 t259) ∧ w'.cell? (ad274.add (x11_2).toNat) = some (.slice (some ad276) (rd_L4 t267 x11_2).length c275_0) ∧ w'.cell? (ad276.add (x12_3).toNat) = some (.slice A276_0 (rd_L3 (rd_L4 t267 x11_2) x12_3).length c276_0) ∧ w'.cell? (ad277.add (x11_2).toNat) = some (.slice A277_0 (rd_L3 t270 x11_2).length c277_0) ∧ w'.cell? (ad274.add (x11_2).toNat) = some (.slice (some ad280) (rd_L4 t267 x11_2).length c279_0) ∧ w'.cell? (ad280.add (x12_3).toNat) = some (.slice A280_0 (rd_L3 (rd_L4 t267 x11_2) x12_3).length c280_0) ∧ w'.cell? (ad277.add ((ji48)).toNat) = some (.slice A281_0 (rd_L3 t270 (ji48)).length c281_0)) (ds := []) #[false, false, false, false, false, false, false, false, false, false, false, false, false, false, false, false, false, false, false, false, false, false, false, false, false, false, false, false, false, false, false, false, false, false, false, false, false, false] (by kernel_rfl) rfl rfl ⟨(blk_cell BK260.out 0).trans rfl, (blk_cell BK260.out 1).trans rfl, (blk_cell BK260.out 2).trans rfl, (blk_cell BK260.out 3).trans rfl, hx275_0, hx276_0, hx277_0, hx279_0, hx280_0, hx281_0⟩ (fun hHeld => ?_); refine with_tabW thresherlaw10_GrainMarks.tab15 thresherlaw10_GrainMarks.bits15 (fun HT_ HW_ => ?_)
                  generalize wr.drew = w55 at HO_8 HO_9 HO_261000 HL274_0 BK252 BK260 HR274_0 HB HL275_0 HL276_0 HL277_0 HL279_0 HL281_0 HR275_0 HR276_0 HR277_0 HR279_0 HR281_0 hx275_0 hx276_0 hx277_0 hx279_0 hx281_0 hx280_0 hHeld ⊢
                  refine pure_ (i := 1) (N := some 55) (v := ?_) (a' := ?_) #[false, true, false, false, false, false, false, false, false, false, false, false, false, false, false, false, false, false, false, false, false, false, false, false, false, false, false, false, false, false, false, false, false, false, false, false, false, false] rfl rfl (any_of HT_.out (by kernel_rfl)) (fun _ _ _ h => h) (Or.inl ⟨by rfl, ?_⟩) ?_ ?_
                  rotate_left; (intro w'; go_simp; with_reducible rfl); rotate_left; (simp only [Act.put, List.setIfInBounds_toArray, List.set_cons_zero, List.set_cons_succ, i64_w, i32_w]; rfl)
                  refine pure_ (i := 2) (N := some 56) (v := ?_) (a' := ?_) #[false, true, true, false, false, false, false, false, false, false, false, false, false, false, false, false, false, false, false, false, false, false, false, false, false, false, false, false, false, false, false, false, false, false, false, false, false, false] rfl rfl (any_of HT_.out (by kernel_rfl)) (fun _ _ _ h => h) (Or.inl ⟨by rfl, ?_⟩) ?_ ?_
                  rotate_left; (intro w'; go_simp; with_reducible rfl); rotate_left; (simp only [Act.put, List.setIfInBounds_toArray, List.set_cons_zero, List.set_cons_succ, i64_w, i32_w]; rfl)
                  refine pure_ (i := 3) (N := some 57) (v := ?_) (a' := ?_) #[false, true, true, true, false, false, false, false, false, false, false, false, false, false, false, false, false, false, false, false, false, false, false, false, false, false, false, false, false, false, false, false, false, false, false, false, false, false] rfl rfl (any_of HT_.out (by kernel_rfl)) (fun _ _ _ h => h) (Or.inl ⟨by rfl, ?_⟩) ?_ ?_
                  rotate_left; (intro w'; go_simp; with_reducible rfl); rotate_left; (simp only [Act.put, List.setIfInBounds_toArray, List.set_cons_zero, List.set_cons_succ, i64_w, i32_w]; rfl)
                  refine pure_ (i := 5) (N := some 59) (v := ?_) (a' := ?_) #[false, true, true, true, false, true, false, false, false, false, false, false, false, false, false, false, false, false, false, false, false, false, false, false, false, false, false, false, false, false, false, false, false, false, false, false, false, false] rfl rfl (any_of HT_.out (by kernel_rfl)) (fun _ _ _ h => h) (Or.inl ⟨by rfl, ?_⟩) ?_ ?_
                  rotate_left; (intro w'; go_simp; with_reducible rfl); rotate_left; (simp only [Act.put, List.setIfInBounds_toArray, List.set_cons_zero, List.set_cons_succ, i64_w, i32_w]; rfl)
                  refine pure_ (i := 8) (N := some 62) (v := ?_) (a' := ?_) #[false, true, true, true, false, true, false, false, true, false, false, false, false, false, false, false, false, false, false, false, false, false, false, false, false, false, false, false, false, false, false, false, false, false, false, false, false, false] rfl rfl (any_of HT_.out (by kernel_rfl)) (fun _ _ _ h => h) (Or.inl ⟨by rfl, ?_⟩) ?_ ?_
                  rotate_left; (intro w'; go_simp; with_reducible rfl); rotate_left; (simp only [Act.put, List.setIfInBounds_toArray, List.set_cons_zero, List.set_cons_succ, i64_w, i32_w]; rfl)
                  refine pure_ (i := 9) (N := some 63) (v := ?_) (a' := ?_) #[false, true, true, true, false, true, false, false, true, true, false, false, false, false, false, false, false, false, false, false, false, false, false, false, false, false, false, false, false, false, false, false, false, false, false, false, false, false] rfl rfl (any_of HT_.out (by kernel_rfl)) (fun _ _ _ h => h) (Or.inl ⟨by rfl, ?_⟩) ?_ ?_
                  rotate_left; (intro w'; go_simp; with_reducible rfl); rotate_left; (simp only [Act.put, List.setIfInBounds_toArray, List.set_cons_zero, List.set_cons_succ, i64_w, i32_w]; rfl)
                  refine pure_ (i := 10) (N := some 64) (v := ?_) (a' := ?_) #[false, true, true, true, false, true, false, false, true, true, true, false, false, false, false, false, false, false, false, false, false, false, false, false, false, false, false, false, false, false, false, false, false, false, false, false, false, false] rfl rfl (any_of HT_.out (by kernel_rfl)) (fun _ _ _ h => h) (Or.inl ⟨by rfl, ?_⟩) ?_ ?_
                  rotate_left; (intro w'; go_simp; with_reducible rfl); rotate_left; (simp only [Act.put, List.setIfInBounds_toArray, List.set_cons_zero, List.set_cons_succ, i64_w, i32_w]; rfl)
                  refine take_ (i := 0) (N := some 54) (v := ?_) (a' := ?_) #[true, true, true, true, false, true, false, false, true, true, true, false, false, false, false, false, false, false, false, false, false, false, false, false, false, false, false, false, false, false, false, false, false, false, false, false, false, false] rfl rfl (take_ofW HT_.out HW_.out (by kernel_rfl)) (fun _ _ _ h => h) (Or.inl ⟨by rfl, ?_⟩) hHeld ?_ ?_
                  rotate_left; (rintro w' ⟨s0, s1, s2, s3, s4, s5, s6, s7, s8, s9⟩; go_simp; with_reducible rfl); rotate_left; (simp only [Act.put, List.setIfInBounds_toArray, List.set_cons_zero, List.set_cons_succ, i64_w, i32_w]; rfl)
                  refine take_ (i := 4) (N := some 58) (v := ?_) (a' := ?_) #[true, true, true, true, true, true, false, false, true, true, true, false, false, false, false, false, false, false, false, false, false, false, false, false, false, false, false, false, false, false, false, false, false, false, false, false, false, false] rfl rfl (take_ofW HT_.out HW_.out (by kernel_rfl)) (fun _ _ _ h => h) (Or.inl ⟨by rfl, ?_⟩) hHeld ?_ ?_
                  rotate_left; (rintro w' ⟨s0, s1, s2, s3, s4, s5, s6, s7, s8, s9⟩; go_simp; with_reducible rfl); rotate_left; (simp only [Act.put, List.setIfInBounds_toArray, List.set_cons_zero, List.set_cons_succ, i64_w, i32_w]; rfl)
                  refine pure_ (i := 6) (N := some 60) (v := ?_) (a' := ?_) #[true, true, true, true, true, true, true, false, true, true, true, false, false, false, false, false, false, false, false, false, false, false, false, false, false, false, false, false, false, false, false, false, false, false, false, false, false, false] rfl rfl (any_of HT_.out (by kernel_rfl)) (fun _ _ _ h => h) (Or.inl ⟨by rfl, ?_⟩) ?_ ?_
                  rotate_left; (intro w'; go_simp; with_reducible rfl); rotate_left; (simp only [Act.put, List.setIfInBounds_toArray, List.set_cons_zero, List.set_cons_succ, i64_w, i32_w]; rfl)
                  refine take_ (i := 7) (N := some 61) (v := ?_) (a' := ?_) #[true, true, true, true, true, true, true, true, true, true, true, false, false, false, false, false, false, false, false, false, false, false, false, false, false, false, false, false, false, false, false, false, false, false, false, false, false, false] rfl rfl (take_ofW HT_.out HW_.out (by kernel_rfl)) (fun _ _ _ h => h) (Or.inl ⟨by rfl, ?_⟩) hHeld ?_ ?_
                  rotate_left; (rintro w' ⟨s0, s1, s2, s3, s4, s5, s6, s7, s8, s9⟩; go_simp; with_reducible rfl); rotate_left; (simp only [Act.put, List.setIfInBounds_toArray, List.set_cons_zero, List.set_cons_succ, i64_w, i32_w]; rfl)
                  refine take_ (i := 11) (N := some 65) (v := ?_) (a' := ?_) #[true, true, true, true, true, true, true, true, true, true, true, true, false, false, false, false, false, false, false, false, false, false, false, false, false, false, false, false, false, false, false, false, false, false, false, false, false, false] rfl rfl (take_ofW HT_.out HW_.out (by kernel_rfl)) (fun _ _ _ h => h) (Or.inl ⟨by rfl, ?_⟩) hHeld ?_ ?_
                  rotate_left; (rintro w' ⟨s0, s1, s2, s3, s4, s5, s6, s7, s8, s9⟩; go_simp; with_reducible rfl); rotate_left; (simp only [Act.put, List.setIfInBounds_toArray, List.set_cons_zero, List.set_cons_succ, i64_w, i32_w]; rfl)
                  refine one_ (i := 12) (N := some 66) #[true, true, true, true, true, true, true, true, true, true, true, true, true, false, false, false, false, false, false, false, false, false, false, false, false, false, false, false, false, false, false, false, false, false, false, false, false, false] rfl rfl (one_of HT_.out (by kernel_rfl)) (by decide) (fun K hK => ?_)
                  refine goes_ Try.func14 (by kernel_rfl) rfl #[.agg #[.slice Ao16 t254.length co16, .int .i64 t257, .int .i64 t258, .int .i64 t259], .slice A276_0 (rd_L3 (rd_L4 t267 x11_2) x12_3).length c276_0, .slice A277_0 (rd_L3 t270 x11_2).length c277_0] (by rfl) rfl rfl (by (try simp only [List.map_toArray, List.map_cons, List.map_nil]); first | done | (rw [← HEQ0.out.1, ← HEQ0.out.2]; rfl) | rfl | (simp only [List.length_drop, List.length_take]; rfl)) ?_
                  with_reducible refine (thresherref04_Compare.calls k3 _ _ t254 t257 t258 t259 _ _ (rd_L3 (rd_L4 t267 x11_2) x12_3) _ _ (rd_L3 t270 x11_2) t278 _ ?side1 ?side2 ?side3 ?side4 ?side5 ?side6 A43.out).mono ?_
                  (case side1 => repeat (first | exact (Kd.R_reads' HO_261000.out).2.2 | (with_reducible refine Kd.C_alloc ?_ _) | (with_reducible refine Kd.C_drewN ?_ _) | (with_reducible refine Kd.C_drew ?_)))
                  (case side2 => exact (Kd.R_reads' HO_261000.out).2.1)
                  (case side3 => repeat (first | exact (by repeat (first | (with_reducible exact HR276_0.out) | (with_reducible refine Kd.C_alloc ?_ _) | (with_reducible refine Kd.C_drewN ?_ _) | (with_reducible refine Kd.C_drew ?_) | exact HR276_0.out)) | (with_reducible refine Kd.C_alloc ?_ _) | (with_reducible refine Kd.C_drewN ?_ _) | (with_reducible refine Kd.C_drew ?_)))
                  (case side4 => exact HC276_0.out)
                  (case side5 => repeat (first | exact (by repeat (first | (with_reducible exact HR277_0.out) | (with_reducible refine Kd.C_alloc ?_ _) | (with_reducible refine Kd.C_drewN ?_ _) | (with_reducible refine Kd.C_drew ?_) | exact HR277_0.out)) | (with_reducible refine Kd.C_alloc ?_ _) | (with_reducible refine Kd.C_drewN ?_ _) | (with_reducible refine Kd.C_drew ?_)))
                  (case side6 => exact HC277_0.out)
                  rintro e w56 ⟨rfl, hb⟩
                  have HS4_ := (hb.cell (World.block_lt_of_cell? _ _ (hHeld.2.2.2.2.1))).trans (hHeld.2.2.2.2.1)
                  have HS5_ := (hb.cell (World.block_lt_of_cell? _ _ (hHeld.2.2.2.2.2.1))).trans (hHeld.2.2.2.2.2.1)
                  have HS6_ := (hb.cell (World.block_lt_of_cell? _ _ (hHeld.2.2.2.2.2.2.1))).trans (hHeld.2.2.2.2.2.2.1)
                  have HS7_ := (hb.cell (World.block_lt_of_cell? _ _ (hHeld.2.2.2.2.2.2.2.1))).trans (hHeld.2.2.2.2.2.2.2.1)
                  have HS8_ := (hb.cell (World.block_lt_of_cell? _ _ (hHeld.2.2.2.2.2.2.2.2.1))).trans (hHeld.2.2.2.2.2.2.2.2.1)
                  have HS9_ := (hb.cell (World.block_lt_of_cell? _ _ (hHeld.2.2.2.2.2.2.2.2.2))).trans (hHeld.2.2.2.2.2.2.2.2.2)
                  refine ⟨_, rfl, ?_⟩
                  have n0_ := Aside0.mk (Kd.N_below (by (with_reducible repeat (first | apply Kd.N_alloc | apply Kd.N_drewN | apply Kd.N_drew)); exact HO_8.out) hb)
                  have n1_ := Aside0.mk (Kd.N_below (by (with_reducible repeat (first | apply Kd.N_alloc | apply Kd.N_drewN | apply Kd.N_drew)); exact HO_9.out) hb)
                  have n2_ := Aside0.mk (Kd.R_below (by (with_reducible repeat (first | apply Kd.R_alloc | apply Kd.R_drewN | apply Kd.R_drew)); exact HO_261000.out) hb)
                  have n3_ := Aside0.mk (Kd.V_below (by (with_reducible repeat (first | apply Kd.V_alloc | apply Kd.V_drewN | apply Kd.V_drew)); exact HL274_0.out) hb)
                  have n4_ := Aside0.mk (Kd.V_below (by (with_reducible repeat (first | apply Kd.V_alloc | apply Kd.V_drewN | apply Kd.V_drew)); exact HL275_0.out) hb)
                  have n5_ := Aside0.mk (Kd.V_below (by (with_reducible repeat (first | apply Kd.V_alloc | apply Kd.V_drewN | apply Kd.V_drew)); exact HL276_0.out) hb)
                  have n6_ := Aside0.mk (Kd.V_below (by (with_reducible repeat (first | apply Kd.V_alloc | apply Kd.V_drewN | apply Kd.V_drew)); exact HL277_0.out) hb)
                  have n7_ := Aside0.mk (blk_below (g := gb252) (o := .cells #[.int .u8 a0_0, .int .u8 a0_1, .int .u8 a0_2, .int .u8 a0_3, .int .u8 a0_4, .int .u8 a0_5, .int .u8 a0_6, .int .u8 a0_7, .int .u8 a0_8, .int .u8 a0_9, .int .u8 a0_10, .int .u8 a0_11] 24 (0, 0)) (by (with_reducible repeat (first | refine blk_drewN ?_ _ | refine blk_drew ?_ | refine blk_alloc ?_ _)); exact BK252.out) hb)
                  have n8_ := Aside0.mk (blk_below (g := gb260) (o := .cells #[.slice Ao16 t254.length co16, .int .i64 t257, .int .i64 t258, .int .i64 t259] 29 (0, 0)) (by (with_reducible repeat (first | refine blk_drewN ?_ _ | refine blk_drew ?_ | refine blk_alloc ?_ _)); exact BK260.out) hb)
                  have n9_ := Aside0.mk (Kd.C_below (by repeat (first | (with_reducible exact HR274_0.out) | (with_reducible refine Kd.C_alloc ?_ _) | (with_reducible refine Kd.C_drewN ?_ _) | (with_reducible refine Kd.C_drew ?_) | exact HR274_0.out)) hb)
                  have n10_ := Aside0.mk (Kd.C_below (by repeat (first | (with_reducible exact HR275_0.out) | (with_reducible refine Kd.C_alloc ?_ _) | (with_reducible refine Kd.C_drewN ?_ _) | (with_reducible refine Kd.C_drew ?_) | exact HR275_0.out)) hb)
                  have n11_ := Aside0.mk (Kd.C_below (by repeat (first | (with_reducible exact HR276_0.out) | (with_reducible refine Kd.C_alloc ?_ _) | (with_reducible refine Kd.C_drewN ?_ _) | (with_reducible refine Kd.C_drew ?_) | exact HR276_0.out)) hb)
                  have n12_ := Aside0.mk (Kd.C_below (by repeat (first | (with_reducible exact HR277_0.out) | (with_reducible refine Kd.C_alloc ?_ _) | (with_reducible refine Kd.C_drewN ?_ _) | (with_reducible refine Kd.C_drew ?_) | exact HR277_0.out)) hb)
                  have n13_ := Aside0.mk (below_step (by repeat (first | (with_reducible first | exact HB.out | apply below_alloc | apply pw_below_drewN | apply below_drew1 | refine below_set ?_ GE252.out | refine below_set ?_ GE260.out) | exact HB.out)) hb)
                  clear HO_8
                  clear HO_9
                  clear HO_261000
                  clear HL274_0
                  clear HL275_0
                  clear HL276_0
                  clear HL277_0
                  clear BK252
                  clear BK260
                  clear HR274_0
                  clear HR275_0
                  clear HR276_0
                  clear HR277_0
                  clear HB
                  have HO_8 := n0_
                  have HO_9 := n1_
                  have HO_261000 := n2_
                  have HL274_0 := n3_
                  have HL275_0 := n4_
                  have HL276_0 := n5_
                  have HL277_0 := n6_
                  have BK252 := n7_
                  have BK260 := n8_
                  have HR274_0 := n9_
                  have HR275_0 := n10_
                  have HR276_0 := n11_
                  have HR277_0 := n12_
                  have HB := n13_
                  clear n0_ n1_ n2_ n3_ n4_ n5_ n6_ n7_ n8_ n9_ n10_ n11_ n12_ n13_
                  have x_ := Aside0.mk (Kd.V_below (by (with_reducible repeat (first | apply Kd.V_alloc | apply Kd.V_drewN | apply Kd.V_drew)); exact HL279_0.out) hb); clear HL279_0; have HL279_0 := x_; clear x_
                  have x_ := Aside0.mk (Kd.V_below (by (with_reducible repeat (first | apply Kd.V_alloc | apply Kd.V_drewN | apply Kd.V_drew)); exact HL281_0.out) hb); clear HL281_0; have HL281_0 := x_; clear x_
                  have x_ := Aside0.mk (Kd.C_below HR279_0.out hb); clear HR279_0; have HR279_0 := x_; clear x_
                  have x_ := Aside0.mk (Kd.C_below HR281_0.out hb); clear HR281_0; have HR281_0 := x_; clear x_
                  (try clear hb)
                  (try clear hb2)
                  (try clear hk)
                  (try clear hi)
                  have p280 : 0 ≤ (x12_3 : Int) := of_decide_eq_true (by first | (with_reducible assumption) | assumption)
                  have q280 : x12_3 < ((rd_L4 t267 x11_2).length : Int) := of_decide_eq_true (by first | (with_reducible assumption) | assumption)
                  obtain ⟨ad280b, A280b, c280b, e280, hx280b, hl280_0, hi280_0⟩ := at_L3 (by repeat (first | (with_reducible exact HR279_0.out) | (with_reducible refine Kd.C_alloc ?_ _) | (with_reducible refine Kd.C_drewN ?_ _) | (with_reducible refine Kd.C_drew ?_) | exact HR279_0.out)) x12_3 p280 q280
                  obtain rfl : ad280 = ad280b := (by injection e280)
                  first | have hz280 := Option.some.inj (hx280_0.symm.trans hx280b) | have hz280 := Option.some.inj (HS8_.symm.trans hx280b)
                  injection hz280 with za280 _ zc280; subst za280; subst zc280
                  obtain ⟨ce280, hce280, hMe280, hcc280⟩ := Kd.V_get HL279_0.out [] x12_3 p280 (by first | exact q280 | exact of_decide_eq_true (by first | (with_reducible assumption) | assumption) | (have e_ := (Kd.V_reads' HL279_0.out).1; omega))
                  obtain ⟨ua280_0, uc280_0, rfl, ul280_0, ge280_0⟩ := Kd.FK_slice_open hMe280
                  have hv280_0 := hcc280 0 _ rfl
                  rw [Nat.add_zero, show ((Kd.slice 45 k45)).sz = 1 from rfl, Nat.mul_one] at hv280_0
                  replace hv280_0 := Option.some.inj (hv280_0.symm.trans hx280b)
                  injection hv280_0 with hva_ hvn_ hvc_
                  rw [hva_] at ge280_0
                  rw [hvc_] at ul280_0
                  have HL280_0 := Aside0.mk (show Kd.V k45 45 _ w.heap.size _ _ (rd_L3 (rd_L4 t267 x11_2) x12_3) from Kd.V_mk ul280_0 ge280_0)
                  clear hva_ hvn_ hvc_ ge280_0 ul280_0
                  clear hcc280 hce280
                  have HR280_0 := Aside0.mk hi280_0
                  have HC280_0 := Aside0.mk hl280_0
                  clear hi280_0 hl280_0
                  replace p280 := eq_true p280
                  replace q280 := eq_true q280
                  refine hK.out _ _ ⟨(blk_cell BK260.out 0).trans rfl, (blk_cell BK260.out 1).trans rfl, (blk_cell BK260.out 2).trans rfl, (blk_cell BK260.out 3).trans rfl, HS4_, HS5_, HS6_, HS7_, HS8_, HS9_⟩ (fun hHeld => ?_)
                  clear hK K
                  refine norm_ (a' := ?_) ?_ ?_
                  rotate_left
                  ·show Act.put _ (some 66) _ = _
                   simp only [Act.put, List.setIfInBounds_toArray, List.set_cons_zero, List.set_cons_succ, i64_w, i32_w]
                   rfl
                  refine pure_ (i := 13) (N := some 67) (v := ?_) (a' := ?_) #[true, true, true, true, true, true, true, true, true, true, true, true, true, true, false, false, false, false, false, false, false, false, false, false, false, false, false, false, false, false, false, false, false, false, false, false, false, false] rfl rfl (any_of HT_.out (by kernel_rfl)) (fun _ _ _ h => h) (Or.inl ⟨by rfl, ?_⟩) ?_ ?_
                  rotate_left; (intro w'; go_simp; with_reducible rfl); rotate_left; (simp only [Act.put, List.setIfInBounds_toArray, List.set_cons_zero, List.set_cons_succ, i64_w, i32_w]; rfl)
                  refine pure_ (i := 14) (N := some 68) (v := ?_) (a' := ?_) #[true, true, true, true, true, true, true, true, true, true, true, true, true, true, true, false, false, false, false, false, false, false, false, false, false, false, false, false, false, false, false, false, false, false, false, false, false, false] rfl rfl (any_of HT_.out (by kernel_rfl)) (fun _ _ _ h => h) (Or.inl ⟨by rfl, ?_⟩) ?_ ?_
                  rotate_left; (intro w'; go_simp; with_reducible rfl); rotate_left; (simp only [Act.put, List.setIfInBounds_toArray, List.set_cons_zero, List.set_cons_succ, i64_w, i32_w]; rfl)
                  refine pure_ (i := 15) (N := some 69) (v := ?_) (a' := ?_) #[true, true, true, true, true, true, true, true, true, true, true, true, true, true, true, true, false, false, false, false, false, false, false, false, false, false, false, false, false, false, false, false, false, false, false, false, false, false] rfl rfl (any_of HT_.out (by kernel_rfl)) (fun _ _ _ h => h) (Or.inl ⟨by rfl, ?_⟩) ?_ ?_
                  rotate_left; (intro w'; go_simp; with_reducible rfl); rotate_left; (simp only [Act.put, List.setIfInBounds_toArray, List.set_cons_zero, List.set_cons_succ, i64_w, i32_w]; rfl)
                  refine pure_ (i := 16) (N := some 70) (v := ?_) (a' := ?_) #[true, true, true, true, true, true, true, true, true, true, true, true, true, true, true, true, true, false, false, false, false, false, false, false, false, false, false, false, false, false, false, false, false, false, false, false, false, false] rfl rfl (any_of HT_.out (by kernel_rfl)) (fun _ _ _ h => h) (Or.inl ⟨by rfl, ?_⟩) ?_ ?_
                  rotate_left; (intro w'; go_simp; with_reducible rfl); rotate_left; (simp only [Act.put, List.setIfInBounds_toArray, List.set_cons_zero, List.set_cons_succ, i64_w, i32_w]; rfl)
                  refine pure_ (i := 17) (N := some 71) (v := ?_) (a' := ?_) #[true, true, true, true, true, true, true, true, true, true, true, true, true, true, true, true, true, true, false, false, false, false, false, false, false, false, false, false, false, false, false, false, false, false, false, false, false, false] rfl rfl (any_of HT_.out (by kernel_rfl)) (fun _ _ _ h => h) (Or.inl ⟨by rfl, ?_⟩) ?_ ?_
                  rotate_left; (intro w'; go_simp; with_reducible rfl); rotate_left; (simp only [Act.put, List.setIfInBounds_toArray, List.set_cons_zero, List.set_cons_succ, i64_w, i32_w]; rfl)
                  refine pure_ (i := 18) (N := some 72) (v := ?_) (a' := ?_) #[true, true, true, true, true, true, true, true, true, true, true, true, true, true, true, true, true, true, true, false, false, false, false, false, false, false, false, false, false, false, false, false, false, false, false, false, false, false] rfl rfl (any_of HT_.out (by kernel_rfl)) (fun _ _ _ h => h) (Or.inl ⟨by rfl, ?_⟩) ?_ ?_
                  rotate_left; (intro w'; go_simp; with_reducible rfl); rotate_left; (simp only [Act.put, List.setIfInBounds_toArray, List.set_cons_zero, List.set_cons_succ, i64_w, i32_w]; rfl)
                  refine pure_ (i := 19) (N := some 73) (v := ?_) (a' := ?_) #[true, true, true, true, true, true, true, true, true, true, true, true, true, true, true, true, true, true, true, true, false, false, false, false, false, false, false, false, false, false, false, false, false, false, false, false, false, false] rfl rfl (any_of HT_.out (by kernel_rfl)) (fun _ _ _ h => h) (Or.inl ⟨by rfl, ?_⟩) ?_ ?_
                  rotate_left; (intro w'; go_simp; with_reducible rfl); rotate_left; (simp only [Act.put, List.setIfInBounds_toArray, List.set_cons_zero, List.set_cons_succ, i64_w, i32_w]; rfl)
                  refine pure_ (i := 20) (N := some 74) (v := ?_) (a' := ?_) #[true, true, true, true, true, true, true, true, true, true, true, true, true, true, true, true, true, true, true, true, true, false, false, false, false, false, false, false, false, false, false, false, false, false, false, false, false, false] rfl rfl (any_of HT_.out (by kernel_rfl)) (fun _ _ _ h => h) (Or.inl ⟨by rfl, ?_⟩) ?_ ?_
                  rotate_left; (intro w'; go_simp; with_reducible rfl); rotate_left; (simp only [Act.put, List.setIfInBounds_toArray, List.set_cons_zero, List.set_cons_succ, i64_w, i32_w]; rfl)
                  refine pure_ (i := 22) (N := some 76) (v := ?_) (a' := ?_) #[true, true, true, true, true, true, true, true, true, true, true, true, true, true, true, true, true, true, true, true, true, false, true, false, false, false, false, false, false, false, false, false, false, false, false, false, false, false] rfl rfl (any_of HT_.out (by kernel_rfl)) (fun _ _ _ h => h) (Or.inl ⟨by rfl, ?_⟩) ?_ ?_
                  rotate_left; (intro w'; go_simp; with_reducible rfl); rotate_left; (simp only [Act.put, List.setIfInBounds_toArray, List.set_cons_zero, List.set_cons_succ, i64_w, i32_w]; rfl)
                  refine pure_ (i := 23) (N := some 77) (v := ?_) (a' := ?_) #[true, true, true, true, true, true, true, true, true, true, true, true, true, true, true, true, true, true, true, true, true, false, true, true, false, false, false, false, false, false, false, false, false, false, false, false, false, false] rfl rfl (any_of HT_.out (by kernel_rfl)) (fun _ _ _ h => h) (Or.inl ⟨by rfl, ?_⟩) ?_ ?_
                  rotate_left; (intro w'; go_simp; with_reducible rfl); rotate_left; (simp only [Act.put, List.setIfInBounds_toArray, List.set_cons_zero, List.set_cons_succ, i64_w, i32_w]; rfl)
                  refine pure_ (i := 24) (N := some 78) (v := ?_) (a' := ?_) #[true, true, true, true, true, true, true, true, true, true, true, true, true, true, true, true, true, true, true, true, true, false, true, true, true, false, false, false, false, false, false, false, false, false, false, false, false, false] rfl rfl (any_of HT_.out (by kernel_rfl)) (fun _ _ _ h => h) (Or.inl ⟨by rfl, ?_⟩) ?_ ?_
                  rotate_left; (intro w'; go_simp; with_reducible rfl); rotate_left; (simp only [Act.put, List.setIfInBounds_toArray, List.set_cons_zero, List.set_cons_succ, i64_w, i32_w]; rfl)
                  refine pure_ (i := 26) (N := some 80) (v := ?_) (a' := ?_) #[true, true, true, true, true, true, true, true, true, true, true, true, true, true, true, true, true, true, true, true, true, false, true, true, true, false, true, false, false, false, false, false, false, false, false, false, false, false] rfl rfl (any_of HT_.out (by kernel_rfl)) (fun _ _ _ h => h) (Or.inl ⟨by rfl, ?_⟩) ?_ ?_
                  rotate_left; (intro w'; go_simp; with_reducible rfl); rotate_left; (simp only [Act.put, List.setIfInBounds_toArray, List.set_cons_zero, List.set_cons_succ, i64_w, i32_w]; rfl)
                  refine pure_ (i := 29) (N := some 83) (v := ?_) (a' := ?_) #[true, true, true, true, true, true, true, true, true, true, true, true, true, true, true, true, true, true, true, true, true, false, true, true, true, false, true, false, false, true, false, false, false, false, false, false, false, false] rfl rfl (any_of HT_.out (by kernel_rfl)) (fun _ _ _ h => h) (Or.inl ⟨by rfl, ?_⟩) ?_ ?_
                  rotate_left; (intro w'; go_simp; with_reducible rfl); rotate_left; (simp only [Act.put, List.setIfInBounds_toArray, List.set_cons_zero, List.set_cons_succ, i64_w, i32_w]; rfl)
                  refine pure_ (i := 30) (N := some 84) (v := ?_) (a' := ?_) #[true, true, true, true, true, true, true, true, true, true, true, true, true, true, true, true, true, true, true, true, true, false, true, true, true, false, true, false, false, true, true, false, false, false, false, false, false, false] rfl rfl (any_of HT_.out (by kernel_rfl)) (fun _ _ _ h => h) (Or.inl ⟨by rfl, ?_⟩) ?_ ?_
                  rotate_left; (intro w'; go_simp; with_reducible rfl); rotate_left; (simp only [Act.put, List.setIfInBounds_toArray, List.set_cons_zero, List.set_cons_succ, i64_w, i32_w]; rfl)
                  refine pure_ (i := 31) (N := some 85) (v := ?_) (a' := ?_) #[true, true, true, true, true, true, true, true, true, true, true, true, true, true, true, true, true, true, true, true, true, false, true, true, true, false, true, false, false, true, true, true, false, false, false, false, false, false] rfl rfl (any_of HT_.out (by kernel_rfl)) (fun _ _ _ h => h) (Or.inl ⟨by rfl, ?_⟩) ?_ ?_
                  rotate_left; (intro w'; go_simp; with_reducible rfl); rotate_left; (simp only [Act.put, List.setIfInBounds_toArray, List.set_cons_zero, List.set_cons_succ, i64_w, i32_w]; rfl)
                  refine pure_ (i := 32) (N := some 86) (v := ?_) (a' := ?_) #[true, true, true, true, true, true, true, true, true, true, true, true, true, true, true, true, true, true, true, true, true, false, true, true, true, false, true, false, false, true, true, true, true, false, false, false, false, false] rfl rfl (any_of HT_.out (by kernel_rfl)) (fun _ _ _ h => h) (Or.inl ⟨by rfl, ?_⟩) ?_ ?_
                  rotate_left; (intro w'; go_simp; with_reducible rfl); rotate_left; (simp only [Act.put, List.setIfInBounds_toArray, List.set_cons_zero, List.set_cons_succ, i64_w, i32_w]; rfl)
                  refine take_ (i := 21) (N := some 75) (v := ?_) (a' := ?_) #[true, true, true, true, true, true, true, true, true, true, true, true, true, true, true, true, true, true, true, true, true, true, true, true, true, false, true, false, false, true, true, true, true, false, false, false, false, false] rfl rfl (take_ofW HT_.out HW_.out (by kernel_rfl)) (fun _ _ _ h => h) (Or.inl ⟨by rfl, ?_⟩) hHeld ?_ ?_
                  rotate_left; (rintro w' ⟨s0, s1, s2, s3, s4, s5, s6, s7, s8, s9⟩; go_simp; with_reducible rfl); rotate_left; (simp only [Act.put, List.setIfInBounds_toArray, List.set_cons_zero, List.set_cons_succ, i64_w, i32_w]; rfl)
                  refine take_ (i := 25) (N := some 79) (v := ?_) (a' := ?_) #[true, true, true, true, true, true, true, true, true, true, true, true, true, true, true, true, true, true, true, true, true, true, true, true, true, true, true, false, false, true, true, true, true, false, false, false, false, false] rfl rfl (take_ofW HT_.out HW_.out (by kernel_rfl)) (fun _ _ _ h => h) (Or.inl ⟨by rfl, ?_⟩) hHeld ?_ ?_
                  rotate_left; (rintro w' ⟨s0, s1, s2, s3, s4, s5, s6, s7, s8, s9⟩; go_simp; with_reducible rfl); rotate_left; (simp only [Act.put, List.setIfInBounds_toArray, List.set_cons_zero, List.set_cons_succ, i64_w, i32_w]; rfl)
                  refine pure_ (i := 27) (N := some 81) (v := ?_) (a' := ?_) #[true, true, true, true, true, true, true, true, true, true, true, true, true, true, true, true, true, true, true, true, true, true, true, true, true, true, true, true, false, true, true, true, true, false, false, false, false, false] rfl rfl (any_of HT_.out (by kernel_rfl)) (fun _ _ _ h => h) (Or.inl ⟨by rfl, ?_⟩) ?_ ?_
                  rotate_left; (intro w'; go_simp; with_reducible rfl); rotate_left; (simp only [Act.put, List.setIfInBounds_toArray, List.set_cons_zero, List.set_cons_succ, i64_w, i32_w]; rfl)
                  refine take_ (i := 28) (N := some 82) (v := ?_) (a' := ?_) #[true, true, true, true, true, true, true, true, true, true, true, true, true, true, true, true, true, true, true, true, true, true, true, true, true, true, true, true, true, true, true, true, true, false, false, false, false, false] rfl rfl (take_ofW HT_.out HW_.out (by kernel_rfl)) (fun _ _ _ h => h) (Or.inl ⟨by rfl, ?_⟩) hHeld ?_ ?_
                  rotate_left; (rintro w' ⟨s0, s1, s2, s3, s4, s5, s6, s7, s8, s9⟩; go_simp; with_reducible rfl); rotate_left; (simp only [Act.put, List.setIfInBounds_toArray, List.set_cons_zero, List.set_cons_succ, i64_w, i32_w]; rfl)
                  refine take_ (i := 33) (N := some 87) (v := ?_) (a' := ?_) #[true, true, true, true, true, true, true, true, true, true, true, true, true, true, true, true, true, true, true, true, true, true, true, true, true, true, true, true, true, true, true, true, true, true, false, false, false, false] rfl rfl (take_ofW HT_.out HW_.out (by kernel_rfl)) (fun _ _ _ h => h) (Or.inl ⟨by rfl, ?_⟩) hHeld ?_ ?_
                  rotate_left; (rintro w' ⟨s0, s1, s2, s3, s4, s5, s6, s7, s8, s9⟩; go_simp; with_reducible rfl); rotate_left; (simp only [Act.put, List.setIfInBounds_toArray, List.set_cons_zero, List.set_cons_succ, i64_w, i32_w]; rfl)
                  refine one_ (i := 34) (N := some 88) #[true, true, true, true, true, true, true, true, true, true, true, true, true, true, true, true, true, true, true, true, true, true, true, true, true, true, true, true, true, true, true, true, true, true, true, false, false, false] rfl rfl (one_of HT_.out (by kernel_rfl)) (by decide) (fun K hK => ?_)
                  refine goes_ Try.func14 (by kernel_rfl) rfl #[.agg #[.slice Ao16 t254.length co16, .int .i64 t257, .int .i64 t258, .int .i64 t259], .slice A280_0 (rd_L3 (rd_L4 t267 x11_2) x12_3).length c280_0, .slice A281_0 (rd_L3 t270 (ji48)).length c281_0] (by rfl) rfl rfl (by (try simp only [List.map_toArray, List.map_cons, List.map_nil]); first | done | (rw [← HEQ0.out.1, ← HEQ0.out.2]; rfl) | (simp only [hji48]; rfl) | rfl | (simp only [List.length_drop, List.length_take]; rfl)) ?_
                  with_reducible refine (thresherref04_Compare.calls k3 _ _ t254 t257 t258 t259 _ _ (rd_L3 (rd_L4 t267 x11_2) x12_3) _ _ (rd_L3 t270 (ji48)) t282 _ ?side1 ?side2 ?side3 ?side4 ?side5 ?side6 A50.out).mono ?_
                  (case side1 => repeat (first | exact (Kd.R_reads' HO_261000.out).2.2 | (with_reducible refine Kd.C_alloc ?_ _) | (with_reducible refine Kd.C_drewN ?_ _) | (with_reducible refine Kd.C_drew ?_)))
                  (case side2 => exact (Kd.R_reads' HO_261000.out).2.1)
                  (case side3 => repeat (first | exact (by repeat (first | (with_reducible exact HR280_0.out) | (with_reducible refine Kd.C_alloc ?_ _) | (with_reducible refine Kd.C_drewN ?_ _) | (with_reducible refine Kd.C_drew ?_) | exact HR280_0.out)) | (with_reducible refine Kd.C_alloc ?_ _) | (with_reducible refine Kd.C_drewN ?_ _) | (with_reducible refine Kd.C_drew ?_)))
                  (case side4 => exact HC280_0.out)
                  (case side5 => repeat (first | exact (by repeat (first | (with_reducible exact HR281_0.out) | (with_reducible refine Kd.C_alloc ?_ _) | (with_reducible refine Kd.C_drewN ?_ _) | (with_reducible refine Kd.C_drew ?_) | exact HR281_0.out)) | (with_reducible refine Kd.C_alloc ?_ _) | (with_reducible refine Kd.C_drewN ?_ _) | (with_reducible refine Kd.C_drew ?_)))
                  (case side6 => exact HC281_0.out)
                  rintro e w57 ⟨rfl, hb⟩
                  have HS4_ := (hb.cell (World.block_lt_of_cell? _ _ (hHeld.2.2.2.2.1))).trans (hHeld.2.2.2.2.1)
                  have HS5_ := (hb.cell (World.block_lt_of_cell? _ _ (hHeld.2.2.2.2.2.1))).trans (hHeld.2.2.2.2.2.1)
                  have HS6_ := (hb.cell (World.block_lt_of_cell? _ _ (hHeld.2.2.2.2.2.2.1))).trans (hHeld.2.2.2.2.2.2.1)
                  have HS7_ := (hb.cell (World.block_lt_of_cell? _ _ (hHeld.2.2.2.2.2.2.2.1))).trans (hHeld.2.2.2.2.2.2.2.1)
                  have HS8_ := (hb.cell (World.block_lt_of_cell? _ _ (hHeld.2.2.2.2.2.2.2.2.1))).trans (hHeld.2.2.2.2.2.2.2.2.1)
                  have HS9_ := (hb.cell (World.block_lt_of_cell? _ _ (hHeld.2.2.2.2.2.2.2.2.2))).trans (hHeld.2.2.2.2.2.2.2.2.2)
                  refine ⟨_, rfl, ?_⟩
                  have n0_ := Aside0.mk (Kd.N_below (by (with_reducible repeat (first | apply Kd.N_alloc | apply Kd.N_drewN | apply Kd.N_drew)); exact HO_8.out) hb)
                  have n1_ := Aside0.mk (Kd.N_below (by (with_reducible repeat (first | apply Kd.N_alloc | apply Kd.N_drewN | apply Kd.N_drew)); exact HO_9.out) hb)
                  have n2_ := Aside0.mk (Kd.R_below (by (with_reducible repeat (first | apply Kd.R_alloc | apply Kd.R_drewN | apply Kd.R_drew)); exact HO_261000.out) hb)
                  have n3_ := Aside0.mk (Kd.V_below (by (with_reducible repeat (first | apply Kd.V_alloc | apply Kd.V_drewN | apply Kd.V_drew)); exact HL274_0.out) hb)
                  have n4_ := Aside0.mk (Kd.V_below (by (with_reducible repeat (first | apply Kd.V_alloc | apply Kd.V_drewN | apply Kd.V_drew)); exact HL275_0.out) hb)
                  have n5_ := Aside0.mk (Kd.V_below (by (with_reducible repeat (first | apply Kd.V_alloc | apply Kd.V_drewN | apply Kd.V_drew)); exact HL276_0.out) hb)
                  have n6_ := Aside0.mk (Kd.V_below (by (with_reducible repeat (first | apply Kd.V_alloc | apply Kd.V_drewN | apply Kd.V_drew)); exact HL277_0.out) hb)
                  have n7_ := Aside0.mk (Kd.V_below (by (with_reducible repeat (first | apply Kd.V_alloc | apply Kd.V_drewN | apply Kd.V_drew)); exact HL279_0.out) hb)
                  have n8_ := Aside0.mk (Kd.V_below (by (with_reducible repeat (first | apply Kd.V_alloc | apply Kd.V_drewN | apply Kd.V_drew)); exact HL280_0.out) hb)
                  have n9_ := Aside0.mk (Kd.V_below (by (with_reducible repeat (first | apply Kd.V_alloc | apply Kd.V_drewN | apply Kd.V_drew)); exact HL281_0.out) hb)
                  have n10_ := Aside0.mk (blk_below (g := gb252) (o := .cells #[.int .u8 a0_0, .int .u8 a0_1, .int .u8 a0_2, .int .u8 a0_3, .int .u8 a0_4, .int .u8 a0_5, .int .u8 a0_6, .int .u8 a0_7, .int .u8 a0_8, .int .u8 a0_9, .int .u8 a0_10, .int .u8 a0_11] 24 (0, 0)) (by (with_reducible repeat (first | refine blk_drewN ?_ _ | refine blk_drew ?_ | refine blk_alloc ?_ _)); exact BK252.out) hb)
                  have n11_ := Aside0.mk (blk_below (g := gb260) (o := .cells #[.slice Ao16 t254.length co16, .int .i64 t257, .int .i64 t258, .int .i64 t259] 29 (0, 0)) (by (with_reducible repeat (first | refine blk_drewN ?_ _ | refine blk_drew ?_ | refine blk_alloc ?_ _)); exact BK260.out) hb)
                  have n12_ := Aside0.mk (Kd.C_below (by repeat (first | (with_reducible exact HR274_0.out) | (with_reducible refine Kd.C_alloc ?_ _) | (with_reducible refine Kd.C_drewN ?_ _) | (with_reducible refine Kd.C_drew ?_) | exact HR274_0.out)) hb)
                  have n13_ := Aside0.mk (Kd.C_below (by repeat (first | (with_reducible exact HR275_0.out) | (with_reducible refine Kd.C_alloc ?_ _) | (with_reducible refine Kd.C_drewN ?_ _) | (with_reducible refine Kd.C_drew ?_) | exact HR275_0.out)) hb)
                  have n14_ := Aside0.mk (Kd.C_below (by repeat (first | (with_reducible exact HR276_0.out) | (with_reducible refine Kd.C_alloc ?_ _) | (with_reducible refine Kd.C_drewN ?_ _) | (with_reducible refine Kd.C_drew ?_) | exact HR276_0.out)) hb)
                  have n15_ := Aside0.mk (Kd.C_below (by repeat (first | (with_reducible exact HR277_0.out) | (with_reducible refine Kd.C_alloc ?_ _) | (with_reducible refine Kd.C_drewN ?_ _) | (with_reducible refine Kd.C_drew ?_) | exact HR277_0.out)) hb)
                  have n16_ := Aside0.mk (Kd.C_below (by repeat (first | (with_reducible exact HR279_0.out) | (with_reducible refine Kd.C_alloc ?_ _) | (with_reducible refine Kd.C_drewN ?_ _) | (with_reducible refine Kd.C_drew ?_) | exact HR279_0.out)) hb)
                  have n17_ := Aside0.mk (Kd.C_below (by repeat (first | (with_reducible exact HR280_0.out) | (with_reducible refine Kd.C_alloc ?_ _) | (with_reducible refine Kd.C_drewN ?_ _) | (with_reducible refine Kd.C_drew ?_) | exact HR280_0.out)) hb)
                  have n18_ := Aside0.mk (Kd.C_below (by repeat (first | (with_reducible exact HR281_0.out) | (with_reducible refine Kd.C_alloc ?_ _) | (with_reducible refine Kd.C_drewN ?_ _) | (with_reducible refine Kd.C_drew ?_) | exact HR281_0.out)) hb)
                  have n19_ := Aside0.mk (below_step (by repeat (first | (with_reducible first | exact HB.out | apply below_alloc | apply pw_below_drewN | apply below_drew1 | refine below_set ?_ GE252.out | refine below_set ?_ GE260.out) | exact HB.out)) hb)
                  clear HO_8
                  clear HO_9
                  clear HO_261000
                  clear HL274_0
                  clear HL275_0
                  clear HL276_0
                  clear HL277_0
                  clear HL279_0
                  clear HL280_0
                  clear HL281_0
                  clear BK252
                  clear BK260
                  clear HR274_0
                  clear HR275_0
                  clear HR276_0
                  clear HR277_0
                  clear HR279_0
                  clear HR280_0
                  clear HR281_0
                  clear HB
                  have HO_8 := n0_
                  have HO_9 := n1_
                  have HO_261000 := n2_
                  have HL274_0 := n3_
                  have HL275_0 := n4_
                  have HL276_0 := n5_
                  have HL277_0 := n6_
                  have HL279_0 := n7_
                  have HL280_0 := n8_
                  have HL281_0 := n9_
                  have BK252 := n10_
                  have BK260 := n11_
                  have HR274_0 := n12_
                  have HR275_0 := n13_
                  have HR276_0 := n14_
                  have HR277_0 := n15_
                  have HR279_0 := n16_
                  have HR280_0 := n17_
                  have HR281_0 := n18_
                  have HB := n19_
                  clear n0_ n1_ n2_ n3_ n4_ n5_ n6_ n7_ n8_ n9_ n10_ n11_ n12_ n13_ n14_ n15_ n16_ n17_ n18_ n19_
                  (try clear hb)
                  (try clear hb2)
                  (try clear hk)
                  (try clear hi)
                  refine hK.out _ _ ⟨(blk_cell BK260.out 0).trans rfl, (blk_cell BK260.out 1).trans rfl, (blk_cell BK260.out 2).trans rfl, (blk_cell BK260.out 3).trans rfl, HS4_, HS5_, HS6_, HS7_, HS8_, HS9_⟩ (fun hHeld => ?_)
                  clear hK K
                  refine norm_ (a' := ?_) ?_ ?_
                  rotate_left
                  ·show Act.put _ (some 88) _ = _
                   simp only [Act.put, List.setIfInBounds_toArray, List.set_cons_zero, List.set_cons_succ, i64_w, i32_w]
                   rfl
                  refine pure_ (i := 35) (N := some 89) (v := ?_) (a' := ?_) #[true, true, true, true, true, true, true, true, true, true, true, true, true, true, true, true, true, true, true, true, true, true, true, true, true, true, true, true, true, true, true, true, true, true, true, true, false, false] rfl rfl (any_of HT_.out (by kernel_rfl)) (fun _ _ _ h => h) (Or.inl ⟨by rfl, ?_⟩) ?_ ?_
                  rotate_left; (intro w'; go_simp; with_reducible rfl); rotate_left; (simp only [Act.put, List.setIfInBounds_toArray, List.set_cons_zero, List.set_cons_succ, i64_w, i32_w]; rfl)
                  refine pure_ (i := 36) (N := some 90) (v := ?_) (a' := ?_) #[true, true, true, true, true, true, true, true, true, true, true, true, true, true, true, true, true, true, true, true, true, true, true, true, true, true, true, true, true, true, true, true, true, true, true, true, true, false] rfl rfl (any_of HT_.out (by kernel_rfl)) (fun _ _ _ h => h) (Or.inl ⟨by rfl, ?_⟩) ?_ ?_
                  rotate_left; (intro w'; go_simp; with_reducible rfl); rotate_left; (simp only [Act.put, List.setIfInBounds_toArray, List.set_cons_zero, List.set_cons_succ, i64_w, i32_w]; rfl)
                  refine pure_ (i := 37) (N := some 91) (v := ?_) (a' := ?_) #[true, true, true, true, true, true, true, true, true, true, true, true, true, true, true, true, true, true, true, true, true, true, true, true, true, true, true, true, true, true, true, true, true, true, true, true, true, true] rfl rfl (any_of HT_.out (by kernel_rfl)) (fun _ _ _ h => h) (Or.inl ⟨by rfl, ?_⟩) ?_ ?_
                  rotate_left; (intro w'; go_simp; with_reducible rfl); rotate_left; (simp only [Act.put, List.setIfInBounds_toArray, List.set_cons_zero, List.set_cons_succ, i64_w, i32_w]; rfl)
                  refine done_ (done_of HT_.out (by kernel_rfl)) ?_
                  (try clear HS4_); (try clear HS5_); (try clear HS6_); (try clear HS7_); (try clear HS8_); (try clear HS9_); (try clear hHeld)
                  try go_wp2
                  go_roundg k3
                  case measure => have := HJ9.out; have := HK2.out; have := HK3.out; omega
                  case rel => exact ⟨(wrap64 (x12_3 + 1)), (by first | rfl | (simp; done) | (simp [*]; done)), (by first | exact H' | (subst_vars; exact H')), ⟨by have := HJ9.out; have := HK2.out; have := HK3.out; omega⟩, ⟨by (with_reducible repeat (first | apply Kd.N_alloc | apply Kd.N_drewN | apply Kd.N_drew)); exact HO_8.out⟩, ⟨by (with_reducible repeat (first | apply Kd.N_alloc | apply Kd.N_drewN | apply Kd.N_drew)); exact HO_9.out⟩, ⟨by (with_reducible repeat (first | apply Kd.R_alloc | apply Kd.R_drewN | apply Kd.R_drew)); exact HO_261000.out⟩, ⟨by (with_reducible repeat (first | refine blk_drewN ?_ _ | refine blk_drew ?_ | refine blk_alloc ?_ _)); exact BK252.out⟩, ⟨by (with_reducible repeat (first | refine blk_drewN ?_ _ | refine blk_drew ?_ | refine blk_alloc ?_ _)); exact BK260.out⟩, ⟨by repeat (first | (with_reducible first | exact HB.out | apply below_alloc | apply pw_below_drewN | apply below_drew1 | refine below_set ?_ GE252.out | refine below_set ?_ GE260.out) | exact HB.out)⟩⟩
                ·rw [if_neg c49] at H
                 exact absurd H (by simp)
               ·rw [if_neg c47] at H
                have c47b0 : decide ((wrap64 (x11_2 + 1)) < (t270.length : Int)) = false := decide_eq_false c47
                clear c47
                have H' := Aside0.mk H
                clear H
                have p274 : 0 ≤ (x11_2 : Int) := of_decide_eq_true (by first | (with_reducible assumption) | assumption)
                have q274 : x11_2 < (t267.length : Int) := of_decide_eq_true (by first | (with_reducible assumption) | assumption)
                obtain ⟨ad274, A274_0, c274_0, e274, hx274_0, hl274_0, hi274_0⟩ := at_L4 (Kd.N_reads' HO_8.out).2.2 x11_2 p274 q274
                cases e274
                obtain ⟨ce274, hce274, hMe274, hcc274⟩ := Kd.N_get HO_8.out [] x11_2 p274 (by first | exact q274 | exact of_decide_eq_true (by first | (with_reducible assumption) | assumption) | (have e_ := (Kd.N_reads' HO_8.out).1; omega))
                obtain ⟨ua274_0, uc274_0, rfl, ul274_0, ge274_0⟩ := Kd.FK_slice_open hMe274
                have hv274_0 := hcc274 0 _ rfl
                rw [Nat.add_zero, show ((Kd.slice 38 (Kd.slice 45 k45))).sz = 1 from rfl, Nat.mul_one] at hv274_0
                replace hv274_0 := Option.some.inj (hv274_0.symm.trans hx274_0)
                injection hv274_0 with hva_ hvn_ hvc_
                rw [hva_] at ge274_0
                rw [hvc_] at ul274_0
                have HL274_0 := Aside0.mk (show Kd.V (Kd.slice 45 k45) 38 _ w.heap.size _ _ (rd_L4 t267 x11_2) from Kd.V_mk ul274_0 ge274_0)
                clear hva_ hvn_ hvc_ ge274_0 ul274_0
                clear hcc274 hce274
                have HR274_0 := Aside0.mk hi274_0
                have HC274_0 := Aside0.mk hl274_0
                clear hi274_0 hl274_0
                replace p274 := eq_true p274
                replace q274 := eq_true q274
                try go_wp2
                have n0_ := Aside0.mk (Kd.N_drew HO_8.out)
                have n1_ := Aside0.mk (Kd.N_drew HO_9.out)
                have n2_ := Aside0.mk (Kd.R_drew HO_261000.out)
                have n3_ := Aside0.mk (Kd.V_drew HL274_0.out)
                have n4_ := Aside0.mk (blk_drew BK252.out)
                have n5_ := Aside0.mk (blk_drew BK260.out)
                have n6_ := Aside0.mk (Kd.C_drew HR274_0.out)
                have n7_ := Aside0.mk (below_drew1 HB.out)
                clear HO_8
                clear HO_9
                clear HO_261000
                clear HL274_0
                clear BK252
                clear BK260
                clear HR274_0
                clear HB
                have HO_8 := n0_
                have HO_9 := n1_
                have HO_261000 := n2_
                have HL274_0 := n3_
                have BK252 := n4_
                have BK260 := n5_
                have HR274_0 := n6_
                have HB := n7_
                clear n0_ n1_ n2_ n3_ n4_ n5_ n6_ n7_
                have p275 : 0 ≤ (x11_2 : Int) := of_decide_eq_true (by first | (with_reducible assumption) | assumption)
                have q275 : x11_2 < (t267.length : Int) := of_decide_eq_true (by first | (with_reducible assumption) | assumption)
                obtain ⟨ad275, A275_0, c275_0, e275, hx275_0, hl275_0, hi275_0⟩ := at_L4 (Kd.N_reads' HO_8.out).2.2 x11_2 p275 q275
                obtain rfl : ad274 = ad275 := (by injection e275)
                obtain ⟨ce275, hce275, hMe275, hcc275⟩ := Kd.N_get HO_8.out [] x11_2 p275 (by first | exact q275 | exact of_decide_eq_true (by first | (with_reducible assumption) | assumption) | (have e_ := (Kd.N_reads' HO_8.out).1; omega))
                obtain ⟨ua275_0, uc275_0, rfl, ul275_0, ge275_0⟩ := Kd.FK_slice_open hMe275
                have hv275_0 := hcc275 0 _ rfl
                rw [Nat.add_zero, show ((Kd.slice 38 (Kd.slice 45 k45))).sz = 1 from rfl, Nat.mul_one] at hv275_0
                replace hv275_0 := Option.some.inj (hv275_0.symm.trans hx275_0)
                injection hv275_0 with hva_ hvn_ hvc_
                rw [hva_] at ge275_0
                rw [hvc_] at ul275_0
                have HL275_0 := Aside0.mk (show Kd.V (Kd.slice 45 k45) 38 _ w.heap.size _ _ (rd_L4 t267 x11_2) from Kd.V_mk ul275_0 ge275_0)
                clear hva_ hvn_ hvc_ ge275_0 ul275_0
                clear hcc275 hce275
                have HR275_0 := Aside0.mk hi275_0
                have HC275_0 := Aside0.mk hl275_0
                clear hi275_0 hl275_0
                replace p275 := eq_true p275
                replace q275 := eq_true q275
                have p276 : 0 ≤ (x12_3 : Int) := of_decide_eq_true (by first | (with_reducible assumption) | assumption)
                have q276 : x12_3 < ((rd_L4 t267 x11_2).length : Int) := of_decide_eq_true (by first | (with_reducible assumption) | assumption)
                obtain ⟨ad276, A276_0, c276_0, e276, hx276_0, hl276_0, hi276_0⟩ := at_L3 (by repeat (first | (with_reducible exact HR275_0.out) | (with_reducible refine Kd.C_alloc ?_ _) | (with_reducible refine Kd.C_drewN ?_ _) | (with_reducible refine Kd.C_drew ?_) | exact HR275_0.out)) x12_3 p276 q276
                cases e276
                obtain ⟨ce276, hce276, hMe276, hcc276⟩ := Kd.V_get HL275_0.out [] x12_3 p276 (by first | exact q276 | exact of_decide_eq_true (by first | (with_reducible assumption) | assumption) | (have e_ := (Kd.V_reads' HL275_0.out).1; omega))
                obtain ⟨ua276_0, uc276_0, rfl, ul276_0, ge276_0⟩ := Kd.FK_slice_open hMe276
                have hv276_0 := hcc276 0 _ rfl
                rw [Nat.add_zero, show ((Kd.slice 45 k45)).sz = 1 from rfl, Nat.mul_one] at hv276_0
                replace hv276_0 := Option.some.inj (hv276_0.symm.trans hx276_0)
                injection hv276_0 with hva_ hvn_ hvc_
                rw [hva_] at ge276_0
                rw [hvc_] at ul276_0
                have HL276_0 := Aside0.mk (show Kd.V k45 45 _ w.heap.size _ _ (rd_L3 (rd_L4 t267 x11_2) x12_3) from Kd.V_mk ul276_0 ge276_0)
                clear hva_ hvn_ hvc_ ge276_0 ul276_0
                clear hcc276 hce276
                have HR276_0 := Aside0.mk hi276_0
                have HC276_0 := Aside0.mk hl276_0
                clear hi276_0 hl276_0
                replace p276 := eq_true p276
                replace q276 := eq_true q276
                have p277 : 0 ≤ (x11_2 : Int) := of_decide_eq_true (by first | (with_reducible assumption) | assumption)
                have q277 : x11_2 < (t270.length : Int) := of_decide_eq_true (by first | (with_reducible assumption) | assumption)
                obtain ⟨ad277, A277_0, c277_0, e277, hx277_0, hl277_0, hi277_0⟩ := at_L3 (Kd.N_reads' HO_9.out).2.2 x11_2 p277 q277
                cases e277
                obtain ⟨ce277, hce277, hMe277, hcc277⟩ := Kd.N_get HO_9.out [] x11_2 p277 (by first | exact q277 | exact of_decide_eq_true (by first | (with_reducible assumption) | assumption) | (have e_ := (Kd.N_reads' HO_9.out).1; omega))
                obtain ⟨ua277_0, uc277_0, rfl, ul277_0, ge277_0⟩ := Kd.FK_slice_open hMe277
                have hv277_0 := hcc277 0 _ rfl
                rw [Nat.add_zero, show ((Kd.slice 45 k45)).sz = 1 from rfl, Nat.mul_one] at hv277_0
                replace hv277_0 := Option.some.inj (hv277_0.symm.trans hx277_0)
                injection hv277_0 with hva_ hvn_ hvc_
                rw [hva_] at ge277_0
                rw [hvc_] at ul277_0
                have HL277_0 := Aside0.mk (show Kd.V k45 45 _ w.heap.size _ _ (rd_L3 t270 x11_2) from Kd.V_mk ul277_0 ge277_0)
                clear hva_ hvn_ hvc_ ge277_0 ul277_0
                clear hcc277 hce277
                have HR277_0 := Aside0.mk hi277_0
                have HC277_0 := Aside0.mk hl277_0
                clear hi277_0 hl277_0
                replace p277 := eq_true p277
                replace q277 := eq_true q277
                refine start_ (n := 38) (S := fun w' => w'.cell? ⟨gb260, 0, none⟩ = some (.slice Ao16 t254.length co16) ∧ w'.cell? ⟨gb260, 1, none⟩ = some (.int .i64 t257) ∧ w'.cell? ⟨gb260, 2, none⟩ = some (.int .i64 t258) ∧ w'.cell? ⟨gb260, 3, none⟩ = some (.int .i64 t259) ∧ w'.cell? (ad274.add (x11_2).toNat) = some (.slice (some ad276) (rd_L4 t267 x11_2).length c275_0) ∧ w'.cell? (ad276.add (x12_3).toNat) = some (.slice A276_0 (rd_L3 (rd_L4 t267 x11_2) x12_3).length c276_0) ∧ w'.cell? (ad277.add (x11_2).toNat) = some (.slice A277_0 (rd_L3 t270 x11_2).length c277_0)) (ds := []) #[false, false, false, false, false, false, false, false, false, false, false, false, false, false, false, false, false, false, false, false, false, false, false, false, false, false, false, false, false, false, false, false, false, false, false, false, false, false] (by kernel_rfl) rfl rfl ⟨(blk_cell BK260.out 0).trans rfl, (blk_cell BK260.out 1).trans rfl, (blk_cell BK260.out 2).trans rfl, (blk_cell BK260.out 3).trans rfl, hx275_0, hx276_0, hx277_0⟩ (fun hHeld => ?_); refine with_tabW thresherlaw10_GrainMarks.tab15 thresherlaw10_GrainMarks.bits15 (fun HT_ HW_ => ?_)
                generalize wr.drew = w58 at HO_8 HO_9 HO_261000 HL274_0 BK252 BK260 HR274_0 HB HL275_0 HL276_0 HL277_0 HR275_0 HR276_0 HR277_0 hx275_0 hx276_0 hx277_0 hHeld ⊢
                refine pure_ (i := 1) (N := some 55) (v := ?_) (a' := ?_) #[false, true, false, false, false, false, false, false, false, false, false, false, false, false, false, false, false, false, false, false, false, false, false, false, false, false, false, false, false, false, false, false, false, false, false, false, false, false] rfl rfl (any_of HT_.out (by kernel_rfl)) (fun _ _ _ h => h) (Or.inl ⟨by rfl, ?_⟩) ?_ ?_
                rotate_left; (intro w'; go_simp; with_reducible rfl); rotate_left; (simp only [Act.put, List.setIfInBounds_toArray, List.set_cons_zero, List.set_cons_succ, i64_w, i32_w]; rfl)
                refine pure_ (i := 2) (N := some 56) (v := ?_) (a' := ?_) #[false, true, true, false, false, false, false, false, false, false, false, false, false, false, false, false, false, false, false, false, false, false, false, false, false, false, false, false, false, false, false, false, false, false, false, false, false, false] rfl rfl (any_of HT_.out (by kernel_rfl)) (fun _ _ _ h => h) (Or.inl ⟨by rfl, ?_⟩) ?_ ?_
                rotate_left; (intro w'; go_simp; with_reducible rfl); rotate_left; (simp only [Act.put, List.setIfInBounds_toArray, List.set_cons_zero, List.set_cons_succ, i64_w, i32_w]; rfl)
                refine pure_ (i := 3) (N := some 57) (v := ?_) (a' := ?_) #[false, true, true, true, false, false, false, false, false, false, false, false, false, false, false, false, false, false, false, false, false, false, false, false, false, false, false, false, false, false, false, false, false, false, false, false, false, false] rfl rfl (any_of HT_.out (by kernel_rfl)) (fun _ _ _ h => h) (Or.inl ⟨by rfl, ?_⟩) ?_ ?_
                rotate_left; (intro w'; go_simp; with_reducible rfl); rotate_left; (simp only [Act.put, List.setIfInBounds_toArray, List.set_cons_zero, List.set_cons_succ, i64_w, i32_w]; rfl)
                refine pure_ (i := 5) (N := some 59) (v := ?_) (a' := ?_) #[false, true, true, true, false, true, false, false, false, false, false, false, false, false, false, false, false, false, false, false, false, false, false, false, false, false, false, false, false, false, false, false, false, false, false, false, false, false] rfl rfl (any_of HT_.out (by kernel_rfl)) (fun _ _ _ h => h) (Or.inl ⟨by rfl, ?_⟩) ?_ ?_
                rotate_left; (intro w'; go_simp; with_reducible rfl); rotate_left; (simp only [Act.put, List.setIfInBounds_toArray, List.set_cons_zero, List.set_cons_succ, i64_w, i32_w]; rfl)
                refine pure_ (i := 8) (N := some 62) (v := ?_) (a' := ?_) #[false, true, true, true, false, true, false, false, true, false, false, false, false, false, false, false, false, false, false, false, false, false, false, false, false, false, false, false, false, false, false, false, false, false, false, false, false, false] rfl rfl (any_of HT_.out (by kernel_rfl)) (fun _ _ _ h => h) (Or.inl ⟨by rfl, ?_⟩) ?_ ?_
                rotate_left; (intro w'; go_simp; with_reducible rfl); rotate_left; (simp only [Act.put, List.setIfInBounds_toArray, List.set_cons_zero, List.set_cons_succ, i64_w, i32_w]; rfl)
                refine pure_ (i := 9) (N := some 63) (v := ?_) (a' := ?_) #[false, true, true, true, false, true, false, false, true, true, false, false, false, false, false, false, false, false, false, false, false, false, false, false, false, false, false, false, false, false, false, false, false, false, false, false, false, false] rfl rfl (any_of HT_.out (by kernel_rfl)) (fun _ _ _ h => h) (Or.inl ⟨by rfl, ?_⟩) ?_ ?_
                rotate_left; (intro w'; go_simp; with_reducible rfl); rotate_left; (simp only [Act.put, List.setIfInBounds_toArray, List.set_cons_zero, List.set_cons_succ, i64_w, i32_w]; rfl)
                refine pure_ (i := 10) (N := some 64) (v := ?_) (a' := ?_) #[false, true, true, true, false, true, false, false, true, true, true, false, false, false, false, false, false, false, false, false, false, false, false, false, false, false, false, false, false, false, false, false, false, false, false, false, false, false] rfl rfl (any_of HT_.out (by kernel_rfl)) (fun _ _ _ h => h) (Or.inl ⟨by rfl, ?_⟩) ?_ ?_
                rotate_left; (intro w'; go_simp; with_reducible rfl); rotate_left; (simp only [Act.put, List.setIfInBounds_toArray, List.set_cons_zero, List.set_cons_succ, i64_w, i32_w]; rfl)
                refine take_ (i := 0) (N := some 54) (v := ?_) (a' := ?_) #[true, true, true, true, false, true, false, false, true, true, true, false, false, false, false, false, false, false, false, false, false, false, false, false, false, false, false, false, false, false, false, false, false, false, false, false, false, false] rfl rfl (take_ofW HT_.out HW_.out (by kernel_rfl)) (fun _ _ _ h => h) (Or.inl ⟨by rfl, ?_⟩) hHeld ?_ ?_
                rotate_left; (rintro w' ⟨s0, s1, s2, s3, s4, s5, s6⟩; go_simp; with_reducible rfl); rotate_left; (simp only [Act.put, List.setIfInBounds_toArray, List.set_cons_zero, List.set_cons_succ, i64_w, i32_w]; rfl)
                refine take_ (i := 4) (N := some 58) (v := ?_) (a' := ?_) #[true, true, true, true, true, true, false, false, true, true, true, false, false, false, false, false, false, false, false, false, false, false, false, false, false, false, false, false, false, false, false, false, false, false, false, false, false, false] rfl rfl (take_ofW HT_.out HW_.out (by kernel_rfl)) (fun _ _ _ h => h) (Or.inl ⟨by rfl, ?_⟩) hHeld ?_ ?_
                rotate_left; (rintro w' ⟨s0, s1, s2, s3, s4, s5, s6⟩; go_simp; with_reducible rfl); rotate_left; (simp only [Act.put, List.setIfInBounds_toArray, List.set_cons_zero, List.set_cons_succ, i64_w, i32_w]; rfl)
                refine pure_ (i := 6) (N := some 60) (v := ?_) (a' := ?_) #[true, true, true, true, true, true, true, false, true, true, true, false, false, false, false, false, false, false, false, false, false, false, false, false, false, false, false, false, false, false, false, false, false, false, false, false, false, false] rfl rfl (any_of HT_.out (by kernel_rfl)) (fun _ _ _ h => h) (Or.inl ⟨by rfl, ?_⟩) ?_ ?_
                rotate_left; (intro w'; go_simp; with_reducible rfl); rotate_left; (simp only [Act.put, List.setIfInBounds_toArray, List.set_cons_zero, List.set_cons_succ, i64_w, i32_w]; rfl)
                refine take_ (i := 7) (N := some 61) (v := ?_) (a' := ?_) #[true, true, true, true, true, true, true, true, true, true, true, false, false, false, false, false, false, false, false, false, false, false, false, false, false, false, false, false, false, false, false, false, false, false, false, false, false, false] rfl rfl (take_ofW HT_.out HW_.out (by kernel_rfl)) (fun _ _ _ h => h) (Or.inl ⟨by rfl, ?_⟩) hHeld ?_ ?_
                rotate_left; (rintro w' ⟨s0, s1, s2, s3, s4, s5, s6⟩; go_simp; with_reducible rfl); rotate_left; (simp only [Act.put, List.setIfInBounds_toArray, List.set_cons_zero, List.set_cons_succ, i64_w, i32_w]; rfl)
                refine take_ (i := 11) (N := some 65) (v := ?_) (a' := ?_) #[true, true, true, true, true, true, true, true, true, true, true, true, false, false, false, false, false, false, false, false, false, false, false, false, false, false, false, false, false, false, false, false, false, false, false, false, false, false] rfl rfl (take_ofW HT_.out HW_.out (by kernel_rfl)) (fun _ _ _ h => h) (Or.inl ⟨by rfl, ?_⟩) hHeld ?_ ?_
                rotate_left; (rintro w' ⟨s0, s1, s2, s3, s4, s5, s6⟩; go_simp; with_reducible rfl); rotate_left; (simp only [Act.put, List.setIfInBounds_toArray, List.set_cons_zero, List.set_cons_succ, i64_w, i32_w]; rfl)
                refine one_ (i := 12) (N := some 66) #[true, true, true, true, true, true, true, true, true, true, true, true, true, false, false, false, false, false, false, false, false, false, false, false, false, false, false, false, false, false, false, false, false, false, false, false, false, false] rfl rfl (one_of HT_.out (by kernel_rfl)) (by decide) (fun K hK => ?_)
                refine goes_ Try.func14 (by kernel_rfl) rfl #[.agg #[.slice Ao16 t254.length co16, .int .i64 t257, .int .i64 t258, .int .i64 t259], .slice A276_0 (rd_L3 (rd_L4 t267 x11_2) x12_3).length c276_0, .slice A277_0 (rd_L3 t270 x11_2).length c277_0] (by rfl) rfl rfl (by (try simp only [List.map_toArray, List.map_cons, List.map_nil]); first | done | rfl | (simp only [List.length_drop, List.length_take]; rfl)) ?_
                with_reducible refine (thresherref04_Compare.calls k3 _ _ t254 t257 t258 t259 _ _ (rd_L3 (rd_L4 t267 x11_2) x12_3) _ _ (rd_L3 t270 x11_2) t278 _ ?side1 ?side2 ?side3 ?side4 ?side5 ?side6 A43.out).mono ?_
                (case side1 => repeat (first | exact (Kd.R_reads' HO_261000.out).2.2 | (with_reducible refine Kd.C_alloc ?_ _) | (with_reducible refine Kd.C_drewN ?_ _) | (with_reducible refine Kd.C_drew ?_)))
                (case side2 => exact (Kd.R_reads' HO_261000.out).2.1)
                (case side3 => repeat (first | exact (by repeat (first | (with_reducible exact HR276_0.out) | (with_reducible refine Kd.C_alloc ?_ _) | (with_reducible refine Kd.C_drewN ?_ _) | (with_reducible refine Kd.C_drew ?_) | exact HR276_0.out)) | (with_reducible refine Kd.C_alloc ?_ _) | (with_reducible refine Kd.C_drewN ?_ _) | (with_reducible refine Kd.C_drew ?_)))
                (case side4 => exact HC276_0.out)
                (case side5 => repeat (first | exact (by repeat (first | (with_reducible exact HR277_0.out) | (with_reducible refine Kd.C_alloc ?_ _) | (with_reducible refine Kd.C_drewN ?_ _) | (with_reducible refine Kd.C_drew ?_) | exact HR277_0.out)) | (with_reducible refine Kd.C_alloc ?_ _) | (with_reducible refine Kd.C_drewN ?_ _) | (with_reducible refine Kd.C_drew ?_)))
                (case side6 => exact HC277_0.out)
                rintro e w59 ⟨rfl, hb⟩
                have HS4_ := (hb.cell (World.block_lt_of_cell? _ _ (hHeld.2.2.2.2.1))).trans (hHeld.2.2.2.2.1)
                have HS5_ := (hb.cell (World.block_lt_of_cell? _ _ (hHeld.2.2.2.2.2.1))).trans (hHeld.2.2.2.2.2.1)
                have HS6_ := (hb.cell (World.block_lt_of_cell? _ _ (hHeld.2.2.2.2.2.2))).trans (hHeld.2.2.2.2.2.2)
                refine ⟨_, rfl, ?_⟩
                have n0_ := Aside0.mk (Kd.N_below (by (with_reducible repeat (first | apply Kd.N_alloc | apply Kd.N_drewN | apply Kd.N_drew)); exact HO_8.out) hb)
                have n1_ := Aside0.mk (Kd.N_below (by (with_reducible repeat (first | apply Kd.N_alloc | apply Kd.N_drewN | apply Kd.N_drew)); exact HO_9.out) hb)
                have n2_ := Aside0.mk (Kd.R_below (by (with_reducible repeat (first | apply Kd.R_alloc | apply Kd.R_drewN | apply Kd.R_drew)); exact HO_261000.out) hb)
                have n3_ := Aside0.mk (Kd.V_below (by (with_reducible repeat (first | apply Kd.V_alloc | apply Kd.V_drewN | apply Kd.V_drew)); exact HL274_0.out) hb)
                have n4_ := Aside0.mk (Kd.V_below (by (with_reducible repeat (first | apply Kd.V_alloc | apply Kd.V_drewN | apply Kd.V_drew)); exact HL275_0.out) hb)
                have n5_ := Aside0.mk (Kd.V_below (by (with_reducible repeat (first | apply Kd.V_alloc | apply Kd.V_drewN | apply Kd.V_drew)); exact HL276_0.out) hb)
                have n6_ := Aside0.mk (Kd.V_below (by (with_reducible repeat (first | apply Kd.V_alloc | apply Kd.V_drewN | apply Kd.V_drew)); exact HL277_0.out) hb)
                have n7_ := Aside0.mk (blk_below (g := gb252) (o := .cells #[.int .u8 a0_0, .int .u8 a0_1, .int .u8 a0_2, .int .u8 a0_3, .int .u8 a0_4, .int .u8 a0_5, .int .u8 a0_6, .int .u8 a0_7, .int .u8 a0_8, .int .u8 a0_9, .int .u8 a0_10, .int .u8 a0_11] 24 (0, 0)) (by (with_reducible repeat (first | refine blk_drewN ?_ _ | refine blk_drew ?_ | refine blk_alloc ?_ _)); exact BK252.out) hb)
                have n8_ := Aside0.mk (blk_below (g := gb260) (o := .cells #[.slice Ao16 t254.length co16, .int .i64 t257, .int .i64 t258, .int .i64 t259] 29 (0, 0)) (by (with_reducible repeat (first | refine blk_drewN ?_ _ | refine blk_drew ?_ | refine blk_alloc ?_ _)); exact BK260.out) hb)
                have n9_ := Aside0.mk (Kd.C_below (by repeat (first | (with_reducible exact HR274_0.out) | (with_reducible refine Kd.C_alloc ?_ _) | (with_reducible refine Kd.C_drewN ?_ _) | (with_reducible refine Kd.C_drew ?_) | exact HR274_0.out)) hb)
                have n10_ := Aside0.mk (Kd.C_below (by repeat (first | (with_reducible exact HR275_0.out) | (with_reducible refine Kd.C_alloc ?_ _) | (with_reducible refine Kd.C_drewN ?_ _) | (with_reducible refine Kd.C_drew ?_) | exact HR275_0.out)) hb)
                have n11_ := Aside0.mk (Kd.C_below (by repeat (first | (with_reducible exact HR276_0.out) | (with_reducible refine Kd.C_alloc ?_ _) | (with_reducible refine Kd.C_drewN ?_ _) | (with_reducible refine Kd.C_drew ?_) | exact HR276_0.out)) hb)
                have n12_ := Aside0.mk (Kd.C_below (by repeat (first | (with_reducible exact HR277_0.out) | (with_reducible refine Kd.C_alloc ?_ _) | (with_reducible refine Kd.C_drewN ?_ _) | (with_reducible refine Kd.C_drew ?_) | exact HR277_0.out)) hb)
                have n13_ := Aside0.mk (below_step (by repeat (first | (with_reducible first | exact HB.out | apply below_alloc | apply pw_below_drewN | apply below_drew1 | refine below_set ?_ GE252.out | refine below_set ?_ GE260.out) | exact HB.out)) hb)
                clear HO_8
                clear HO_9
                clear HO_261000
                clear HL274_0
                clear HL275_0
                clear HL276_0
                clear HL277_0
                clear BK252
                clear BK260
                clear HR274_0
                clear HR275_0
                clear HR276_0
                clear HR277_0
                clear HB
                have HO_8 := n0_
                have HO_9 := n1_
                have HO_261000 := n2_
                have HL274_0 := n3_
                have HL275_0 := n4_
                have HL276_0 := n5_
                have HL277_0 := n6_
                have BK252 := n7_
                have BK260 := n8_
                have HR274_0 := n9_
                have HR275_0 := n10_
                have HR276_0 := n11_
                have HR277_0 := n12_
                have HB := n13_
                clear n0_ n1_ n2_ n3_ n4_ n5_ n6_ n7_ n8_ n9_ n10_ n11_ n12_ n13_
                (try clear hb)
                (try clear hb2)
                (try clear hk)
                (try clear hi)
                refine hK.out _ _ ⟨(blk_cell BK260.out 0).trans rfl, (blk_cell BK260.out 1).trans rfl, (blk_cell BK260.out 2).trans rfl, (blk_cell BK260.out 3).trans rfl, HS4_, HS5_, HS6_⟩ (fun hHeld => ?_)
                clear hK K
                refine norm_ (a' := ?_) ?_ ?_
                rotate_left
                ·show Act.put _ (some 66) _ = _
                 simp only [Act.put, List.setIfInBounds_toArray, List.set_cons_zero, List.set_cons_succ, i64_w, i32_w]
                 rfl
                refine pure_ (i := 13) (N := some 67) (v := ?_) (a' := ?_) #[true, true, true, true, true, true, true, true, true, true, true, true, true, true, false, false, false, false, false, false, false, false, false, false, false, false, false, false, false, false, false, false, false, false, false, false, false, false] rfl rfl (any_of HT_.out (by kernel_rfl)) (fun _ _ _ h => h) (Or.inl ⟨by rfl, ?_⟩) ?_ ?_
                rotate_left; (intro w'; go_simp; with_reducible rfl); rotate_left; (simp only [Act.put, List.setIfInBounds_toArray, List.set_cons_zero, List.set_cons_succ, i64_w, i32_w]; rfl)
                refine pure_ (i := 14) (N := some 68) (v := ?_) (a' := ?_) #[true, true, true, true, true, true, true, true, true, true, true, true, true, true, true, false, false, false, false, false, false, false, false, false, false, false, false, false, false, false, false, false, false, false, false, false, false, false] rfl rfl (any_of HT_.out (by kernel_rfl)) (fun _ _ _ h => h) (Or.inl ⟨by rfl, ?_⟩) ?_ ?_
                rotate_left; (intro w'; go_simp; with_reducible rfl); rotate_left; (simp only [Act.put, List.setIfInBounds_toArray, List.set_cons_zero, List.set_cons_succ, i64_w, i32_w]; rfl)
                refine pure_ (i := 15) (N := some 69) (v := ?_) (a' := ?_) #[true, true, true, true, true, true, true, true, true, true, true, true, true, true, true, true, false, false, false, false, false, false, false, false, false, false, false, false, false, false, false, false, false, false, false, false, false, false] rfl rfl (any_of HT_.out (by kernel_rfl)) (fun _ _ _ h => h) (Or.inl ⟨by rfl, ?_⟩) ?_ ?_
                rotate_left; (intro w'; go_simp; with_reducible rfl); rotate_left; (simp only [Act.put, List.setIfInBounds_toArray, List.set_cons_zero, List.set_cons_succ, i64_w, i32_w]; rfl)
                refine pure_ (i := 16) (N := some 70) (v := ?_) (a' := ?_) #[true, true, true, true, true, true, true, true, true, true, true, true, true, true, true, true, true, false, false, false, false, false, false, false, false, false, false, false, false, false, false, false, false, false, false, false, false, false] rfl rfl (any_of HT_.out (by kernel_rfl)) (fun _ _ _ h => h) (Or.inl ⟨by rfl, ?_⟩) ?_ ?_
                rotate_left; (intro w'; go_simp; with_reducible rfl); rotate_left; (simp only [Act.put, List.setIfInBounds_toArray, List.set_cons_zero, List.set_cons_succ, i64_w, i32_w]; rfl)
                refine pure_ (i := 17) (N := some 71) (v := ?_) (a' := ?_) #[true, true, true, true, true, true, true, true, true, true, true, true, true, true, true, true, true, true, false, false, false, false, false, false, false, false, false, false, false, false, false, false, false, false, false, false, false, false] rfl rfl (any_of HT_.out (by kernel_rfl)) (fun _ _ _ h => h) (Or.inl ⟨by rfl, ?_⟩) ?_ ?_
                rotate_left; (intro w'; go_simp; with_reducible rfl); rotate_left; (simp only [Act.put, List.setIfInBounds_toArray, List.set_cons_zero, List.set_cons_succ, i64_w, i32_w]; rfl)
                refine pure_ (i := 18) (N := some 72) (v := ?_) (a' := ?_) #[true, true, true, true, true, true, true, true, true, true, true, true, true, true, true, true, true, true, true, false, false, false, false, false, false, false, false, false, false, false, false, false, false, false, false, false, false, false] rfl rfl (any_of HT_.out (by kernel_rfl)) (fun _ _ _ h => h) (Or.inl ⟨by rfl, ?_⟩) ?_ ?_
                rotate_left; (intro w'; go_simp; with_reducible rfl); rotate_left; (simp only [Act.put, List.setIfInBounds_toArray, List.set_cons_zero, List.set_cons_succ, i64_w, i32_w]; rfl)
                refine pure_ (i := 19) (N := some 73) (v := ?_) (a' := ?_) #[true, true, true, true, true, true, true, true, true, true, true, true, true, true, true, true, true, true, true, true, false, false, false, false, false, false, false, false, false, false, false, false, false, false, false, false, false, false] rfl rfl (any_of HT_.out (by kernel_rfl)) (fun _ _ _ h => h) (Or.inl ⟨by rfl, ?_⟩) ?_ ?_
                rotate_left; (intro w'; go_simp; with_reducible rfl); rotate_left; (simp only [Act.put, List.setIfInBounds_toArray, List.set_cons_zero, List.set_cons_succ, i64_w, i32_w]; rfl)
                refine pure_ (i := 20) (N := some 74) (v := ?_) (a' := ?_) #[true, true, true, true, true, true, true, true, true, true, true, true, true, true, true, true, true, true, true, true, true, false, false, false, false, false, false, false, false, false, false, false, false, false, false, false, false, false] rfl rfl (any_of HT_.out (by kernel_rfl)) (fun _ _ _ h => h) (Or.inl ⟨by rfl, ?_⟩) ?_ ?_
                rotate_left; (intro w'; go_simp; with_reducible rfl); rotate_left; (simp only [Act.put, List.setIfInBounds_toArray, List.set_cons_zero, List.set_cons_succ, i64_w, i32_w]; rfl)
                refine pure_ (i := 21) (N := some 75) (v := undef) (a' := ?_) #[true, true, true, true, true, true, true, true, true, true, true, true, true, true, true, true, true, true, true, true, true, true, false, false, false, false, false, false, false, false, false, false, false, false, false, false, false, false] rfl rfl (any_of HT_.out (by kernel_rfl)) (fun _ _ _ h => h) (Or.inr ⟨by rfl, rfl⟩) ?_ ?_
                rotate_left
                ·simp only [Act.put, List.setIfInBounds_toArray, List.set_cons_zero, List.set_cons_succ, i64_w, i32_w]
                 rfl
                refine pure_ (i := 22) (N := some 76) (v := undef) (a' := ?_) #[true, true, true, true, true, true, true, true, true, true, true, true, true, true, true, true, true, true, true, true, true, true, true, false, false, false, false, false, false, false, false, false, false, false, false, false, false, false] rfl rfl (any_of HT_.out (by kernel_rfl)) (fun _ _ _ h => h) (Or.inr ⟨by rfl, rfl⟩) ?_ ?_
                rotate_left
                ·simp only [Act.put, List.setIfInBounds_toArray, List.set_cons_zero, List.set_cons_succ, i64_w, i32_w]
                 rfl
                refine pure_ (i := 23) (N := some 77) (v := undef) (a' := ?_) #[true, true, true, true, true, true, true, true, true, true, true, true, true, true, true, true, true, true, true, true, true, true, true, true, false, false, false, false, false, false, false, false, false, false, false, false, false, false] rfl rfl (any_of HT_.out (by kernel_rfl)) (fun _ _ _ h => h) (Or.inr ⟨by rfl, rfl⟩) ?_ ?_
                rotate_left
                ·simp only [Act.put, List.setIfInBounds_toArray, List.set_cons_zero, List.set_cons_succ, i64_w, i32_w]
                 rfl
                refine pure_ (i := 24) (N := some 78) (v := undef) (a' := ?_) #[true, true, true, true, true, true, true, true, true, true, true, true, true, true, true, true, true, true, true, true, true, true, true, true, true, false, false, false, false, false, false, false, false, false, false, false, false, false] rfl rfl (any_of HT_.out (by kernel_rfl)) (fun _ _ _ h => h) (Or.inr ⟨by rfl, rfl⟩) ?_ ?_
                rotate_left
                ·simp only [Act.put, List.setIfInBounds_toArray, List.set_cons_zero, List.set_cons_succ, i64_w, i32_w]
                 rfl
                refine pure_ (i := 25) (N := some 79) (v := undef) (a' := ?_) #[true, true, true, true, true, true, true, true, true, true, true, true, true, true, true, true, true, true, true, true, true, true, true, true, true, true, false, false, false, false, false, false, false, false, false, false, false, false] rfl rfl (any_of HT_.out (by kernel_rfl)) (fun _ _ _ h => h) (Or.inr ⟨by rfl, rfl⟩) ?_ ?_
                rotate_left
                ·simp only [Act.put, List.setIfInBounds_toArray, List.set_cons_zero, List.set_cons_succ, i64_w, i32_w]
                 rfl
                refine pure_ (i := 26) (N := some 80) (v := undef) (a' := ?_) #[true, true, true, true, true, true, true, true, true, true, true, true, true, true, true, true, true, true, true, true, true, true, true, true, true, true, true, false, false, false, false, false, false, false, false, false, false, false] rfl rfl (any_of HT_.out (by kernel_rfl)) (fun _ _ _ h => h) (Or.inr ⟨by rfl, rfl⟩) ?_ ?_
                rotate_left
                ·simp only [Act.put, List.setIfInBounds_toArray, List.set_cons_zero, List.set_cons_succ, i64_w, i32_w]
                 rfl
                refine pure_ (i := 27) (N := some 81) (v := undef) (a' := ?_) #[true, true, true, true, true, true, true, true, true, true, true, true, true, true, true, true, true, true, true, true, true, true, true, true, true, true, true, true, false, false, false, false, false, false, false, false, false, false] rfl rfl (any_of HT_.out (by kernel_rfl)) (fun _ _ _ h => h) (Or.inr ⟨by rfl, rfl⟩) ?_ ?_
                rotate_left
                ·simp only [Act.put, List.setIfInBounds_toArray, List.set_cons_zero, List.set_cons_succ, i64_w, i32_w]
                 rfl
                refine pure_ (i := 28) (N := some 82) (v := undef) (a' := ?_) #[true, true, true, true, true, true, true, true, true, true, true, true, true, true, true, true, true, true, true, true, true, true, true, true, true, true, true, true, true, false, false, false, false, false, false, false, false, false] rfl rfl (any_of HT_.out (by kernel_rfl)) (fun _ _ _ h => h) (Or.inr ⟨by rfl, rfl⟩) ?_ ?_
                rotate_left
                ·simp only [Act.put, List.setIfInBounds_toArray, List.set_cons_zero, List.set_cons_succ, i64_w, i32_w]
                 rfl
                refine pure_ (i := 29) (N := some 83) (v := undef) (a' := ?_) #[true, true, true, true, true, true, true, true, true, true, true, true, true, true, true, true, true, true, true, true, true, true, true, true, true, true, true, true, true, true, false, false, false, false, false, false, false, false] rfl rfl (any_of HT_.out (by kernel_rfl)) (fun _ _ _ h => h) (Or.inr ⟨by rfl, rfl⟩) ?_ ?_
                rotate_left
                ·simp only [Act.put, List.setIfInBounds_toArray, List.set_cons_zero, List.set_cons_succ, i64_w, i32_w]
                 rfl
                refine pure_ (i := 30) (N := some 84) (v := undef) (a' := ?_) #[true, true, true, true, true, true, true, true, true, true, true, true, true, true, true, true, true, true, true, true, true, true, true, true, true, true, true, true, true, true, true, false, false, false, false, false, false, false] rfl rfl (any_of HT_.out (by kernel_rfl)) (fun _ _ _ h => h) (Or.inr ⟨by rfl, rfl⟩) ?_ ?_
                rotate_left
                ·simp only [Act.put, List.setIfInBounds_toArray, List.set_cons_zero, List.set_cons_succ, i64_w, i32_w]
                 rfl
                refine pure_ (i := 31) (N := some 85) (v := undef) (a' := ?_) #[true, true, true, true, true, true, true, true, true, true, true, true, true, true, true, true, true, true, true, true, true, true, true, true, true, true, true, true, true, true, true, true, false, false, false, false, false, false] rfl rfl (any_of HT_.out (by kernel_rfl)) (fun _ _ _ h => h) (Or.inr ⟨by rfl, rfl⟩) ?_ ?_
                rotate_left
                ·simp only [Act.put, List.setIfInBounds_toArray, List.set_cons_zero, List.set_cons_succ, i64_w, i32_w]
                 rfl
                refine pure_ (i := 32) (N := some 86) (v := undef) (a' := ?_) #[true, true, true, true, true, true, true, true, true, true, true, true, true, true, true, true, true, true, true, true, true, true, true, true, true, true, true, true, true, true, true, true, true, false, false, false, false, false] rfl rfl (any_of HT_.out (by kernel_rfl)) (fun _ _ _ h => h) (Or.inr ⟨by rfl, rfl⟩) ?_ ?_
                rotate_left
                ·simp only [Act.put, List.setIfInBounds_toArray, List.set_cons_zero, List.set_cons_succ, i64_w, i32_w]
                 rfl
                refine pure_ (i := 33) (N := some 87) (v := undef) (a' := ?_) #[true, true, true, true, true, true, true, true, true, true, true, true, true, true, true, true, true, true, true, true, true, true, true, true, true, true, true, true, true, true, true, true, true, true, false, false, false, false] rfl rfl (any_of HT_.out (by kernel_rfl)) (fun _ _ _ h => h) (Or.inr ⟨by rfl, rfl⟩) ?_ ?_
                rotate_left
                ·simp only [Act.put, List.setIfInBounds_toArray, List.set_cons_zero, List.set_cons_succ, i64_w, i32_w]
                 rfl
                refine pure_ (i := 34) (N := some 88) (v := undef) (a' := ?_) #[true, true, true, true, true, true, true, true, true, true, true, true, true, true, true, true, true, true, true, true, true, true, true, true, true, true, true, true, true, true, true, true, true, true, true, false, false, false] rfl rfl (any_of HT_.out (by kernel_rfl)) (fun _ _ _ h => h) (Or.inr ⟨by rfl, rfl⟩) ?_ ?_
                rotate_left
                ·simp only [Act.put, List.setIfInBounds_toArray, List.set_cons_zero, List.set_cons_succ, i64_w, i32_w]
                 rfl
                refine pure_ (i := 35) (N := some 89) (v := undef) (a' := ?_) #[true, true, true, true, true, true, true, true, true, true, true, true, true, true, true, true, true, true, true, true, true, true, true, true, true, true, true, true, true, true, true, true, true, true, true, true, false, false] rfl rfl (any_of HT_.out (by kernel_rfl)) (fun _ _ _ h => h) (Or.inr ⟨by rfl, rfl⟩) ?_ ?_
                rotate_left
                ·simp only [Act.put, List.setIfInBounds_toArray, List.set_cons_zero, List.set_cons_succ, i64_w, i32_w]
                 rfl
                refine pure_ (i := 36) (N := some 90) (v := ?_) (a' := ?_) #[true, true, true, true, true, true, true, true, true, true, true, true, true, true, true, true, true, true, true, true, true, true, true, true, true, true, true, true, true, true, true, true, true, true, true, true, true, false] rfl rfl (any_of HT_.out (by kernel_rfl)) (fun _ _ _ h => h) (Or.inl ⟨by rfl, ?_⟩) ?_ ?_
                rotate_left; (intro w'; go_simp; with_reducible rfl); rotate_left; (simp only [Act.put, List.setIfInBounds_toArray, List.set_cons_zero, List.set_cons_succ, i64_w, i32_w]; rfl)
                refine pure_ (i := 37) (N := some 91) (v := ?_) (a' := ?_) #[true, true, true, true, true, true, true, true, true, true, true, true, true, true, true, true, true, true, true, true, true, true, true, true, true, true, true, true, true, true, true, true, true, true, true, true, true, true] rfl rfl (any_of HT_.out (by kernel_rfl)) (fun _ _ _ h => h) (Or.inl ⟨by rfl, ?_⟩) ?_ ?_
                rotate_left; (intro w'; go_simp; with_reducible rfl); rotate_left; (simp only [Act.put, List.setIfInBounds_toArray, List.set_cons_zero, List.set_cons_succ, i64_w, i32_w]; rfl)
                refine done_ (done_of HT_.out (by kernel_rfl)) ?_
                (try clear HS4_); (try clear HS5_); (try clear HS6_); (try clear hHeld)
                try go_wp2
                go_roundg k3
                case measure => have := HJ9.out; have := HK2.out; have := HK3.out; omega
                case rel => exact ⟨(wrap64 (x12_3 + 1)), (by first | rfl | (simp; done) | (simp [*]; done)), (by first | exact H' | (subst_vars; exact H')), ⟨by have := HJ9.out; have := HK2.out; have := HK3.out; omega⟩, ⟨by (with_reducible repeat (first | apply Kd.N_alloc | apply Kd.N_drewN | apply Kd.N_drew)); exact HO_8.out⟩, ⟨by (with_reducible repeat (first | apply Kd.N_alloc | apply Kd.N_drewN | apply Kd.N_drew)); exact HO_9.out⟩, ⟨by (with_reducible repeat (first | apply Kd.R_alloc | apply Kd.R_drewN | apply Kd.R_drew)); exact HO_261000.out⟩, ⟨by (with_reducible repeat (first | refine blk_drewN ?_ _ | refine blk_drew ?_ | refine blk_alloc ?_ _)); exact BK252.out⟩, ⟨by (with_reducible repeat (first | refine blk_drewN ?_ _ | refine blk_drew ?_ | refine blk_alloc ?_ _)); exact BK260.out⟩, ⟨by repeat (first | (with_reducible first | exact HB.out | apply below_alloc | apply pw_below_drewN | apply below_drew1 | refine below_set ?_ GE252.out | refine below_set ?_ GE260.out) | exact HB.out)⟩⟩
             ·rw [if_neg c42] at H
              exact absurd H (by simp)
            ·rw [if_neg c41] at H
             exact absurd H (by simp)
           ·rw [if_neg c40] at H
            have c40b0 : decide (x12_3 < ((rd_L4 t267 x11_2).length : Int)) = false := decide_eq_false c40
            clear c40
            have H' := Aside0.mk H
            clear H
            have p274 : 0 ≤ (x11_2 : Int) := of_decide_eq_true (by first | (with_reducible assumption) | assumption)
            have q274 : x11_2 < (t267.length : Int) := of_decide_eq_true (by first | (with_reducible assumption) | assumption)
            obtain ⟨ad274, A274_0, c274_0, e274, hx274_0, hl274_0, hi274_0⟩ := at_L4 (Kd.N_reads' HO_8.out).2.2 x11_2 p274 q274
            cases e274
            obtain ⟨ce274, hce274, hMe274, hcc274⟩ := Kd.N_get HO_8.out [] x11_2 p274 (by first | exact q274 | exact of_decide_eq_true (by first | (with_reducible assumption) | assumption) | (have e_ := (Kd.N_reads' HO_8.out).1; omega))
            obtain ⟨ua274_0, uc274_0, rfl, ul274_0, ge274_0⟩ := Kd.FK_slice_open hMe274
            have hv274_0 := hcc274 0 _ rfl
            rw [Nat.add_zero, show ((Kd.slice 38 (Kd.slice 45 k45))).sz = 1 from rfl, Nat.mul_one] at hv274_0
            replace hv274_0 := Option.some.inj (hv274_0.symm.trans hx274_0)
            injection hv274_0 with hva_ hvn_ hvc_
            rw [hva_] at ge274_0
            rw [hvc_] at ul274_0
            have HL274_0 := Aside0.mk (show Kd.V (Kd.slice 45 k45) 38 _ w.heap.size _ _ (rd_L4 t267 x11_2) from Kd.V_mk ul274_0 ge274_0)
            clear hva_ hvn_ hvc_ ge274_0 ul274_0
            clear hcc274 hce274
            have HR274_0 := Aside0.mk hi274_0
            have HC274_0 := Aside0.mk hl274_0
            clear hi274_0 hl274_0
            replace p274 := eq_true p274
            replace q274 := eq_true q274
            go_wp2
            go_roundg k3
            case measure => have := HJ9.out; have := HK2.out; have := HK3.out; omega
            case rel => exact ⟨(wrap64 (x11_2 + 1)), (by first | rfl | (simp; done) | (simp [*]; done)), (by first | exact H' | (subst_vars; exact H')), ⟨by have := HJ9.out; have := HK2.out; have := HK3.out; omega⟩, ⟨by (with_reducible repeat (first | apply Kd.N_alloc | apply Kd.N_drewN | apply Kd.N_drew)); exact HO_8.out⟩, ⟨by (with_reducible repeat (first | apply Kd.N_alloc | apply Kd.N_drewN | apply Kd.N_drew)); exact HO_9.out⟩, ⟨by (with_reducible repeat (first | apply Kd.R_alloc | apply Kd.R_drewN | apply Kd.R_drew)); exact HO_261000.out⟩, ⟨by (with_reducible repeat (first | refine blk_drewN ?_ _ | refine blk_drew ?_ | refine blk_alloc ?_ _)); exact BK252.out⟩, ⟨by (with_reducible repeat (first | refine blk_drewN ?_ _ | refine blk_drew ?_ | refine blk_alloc ?_ _)); exact BK260.out⟩, ⟨by repeat (first | (with_reducible first | exact HB.out | apply below_alloc | apply pw_below_drewN | apply below_drew1 | refine below_set ?_ GE252.out | refine below_set ?_ GE260.out) | exact HB.out)⟩⟩
          ·rw [if_neg c39] at H
           exact absurd H (by simp)
         ·rw [if_neg c38] at H
          exact absurd H (by simp)
      ·rw [if_neg c36] at H
       have c36b0 : decide (x11_2 < (t267.length : Int)) = false := decide_eq_false c36
       clear c36
       obtain rfl := Option.some.inj H
       obtain ⟨Ao60, co60, eo60⟩ := Kd.N_slice HO_8.out
       subst eo60
       go_wp2
       go_ret
       exact ⟨by first | rfl | (simp [errW_none, errW_some] <;> rfl) | (simp [*, errW_none, errW_some] <;> rfl), by repeat (first | (with_reducible first | exact HB.out | apply below_alloc | apply pw_below_drewN | apply below_drew1 | refine below_set ?_ GE252.out | refine below_set ?_ GE260.out) | exact HB.out)⟩

end Go.Proofs.Ythoelihgpkffiaa.P

