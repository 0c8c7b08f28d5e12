/- Texts of FilterAll. Merged: Px18. -/
import Derived.Test.YtbkpifcjgedjaaaQFilterAllPx0
import Derived.Test.YtbkpifcjgedjaaaQFilterAllPx4
import Derived.Test.YtbkpifcjgedjaaaQFilterAllPx5
import Derived.Test.YtbkpifcjgedjaaaQFilterAllPx6
import Derived.Test.YtbkpifcjgedjaaaQFilterAllPx7
import Derived.Test.YtbkpifcjgedjaaaQFilterAllPx11
import Derived.Test.YtbkpifcjgedjaaaQFilterAllPx13
import Derived.Test.YtbkpifcjgedjaaaQFilterAllPx14
import Derived.Test.YtbkpifcjgedjaaaQFilterAllPx15
import Derived.Test.YtbkpifcjgedjaaaQFilterAllPx16
import Derived.Test.YtbkpifcjgedjaaaQFilterAllPx17
-- Written by wip/tools/myprint.py over the kit's print (a program's print; Lean checks it).
namespace Go.Proofs.Ytbkpifcjgedjaaa.P
open Go.RowKit Go.Proofs.YtbkpifcjgedjaaaW.PrintWords Go.Proofs.YtbkpifcjgedjaaaW.PrintLast Go.Proofs.YtbkpifcjgedjaaaW.PrintMore
attribute [local go_sem] max2_int min2_int max_two min_two max_three min_three max_four min_four   -- for this text's walks alone
set_option linter.unusedVariables false
set_option linter.unusedSimpArgs false

/-! ### thresherlaw19_FilterAll: function 6 -/
def thresherlaw19_FilterAll.j0 : Nat → Bool → Option (Bool)
 | 0, _ => none
 | k + 1, x6 => some x6
def thresherlaw19_FilterAll.f (k : Nat) (a0_0 : Int) (a0_1 : Int) (a0_2 : Int) (a0_3 : Int) (a0_4 : Int) (a0_5 : Int) (a0_6 : Int) (a0_7 : Int) (a0_8 : Int) (a0_9 : Int) (a0_10 : Int) (a0_11 : Int) (l1 : List (S39)) (l2 : List (List (S37))) : Option (Bool) := (thresherlaw19_shown.f k).bind fun t347 => ((thresherlaw19_made.f k a0_0 a0_1 a0_2 a0_3 a0_4 a0_5 a0_6 a0_7 a0_8 a0_9 a0_10 a0_11).bind fun bt348 => ((thresherlaw19_some.f k l1).bind fun t355 => ((thresherref04_Fits.f k bt348.1 bt348.2.1 bt348.2.2.1 bt348.2.2.2 l2 60).bind fun t358 => ((filter_May.f k bt348.1 bt348.2.1 bt348.2.2.1 bt348.2.2.2 t355).bind fun t361 => ((thresherref19_May.f k bt348.1 bt348.2.1 bt348.2.2.1 bt348.2.2.2 t355).bind fun t362 => (if (t361 != t362) = true then (some false) else ((thresherref19_Fit.f k bt348.1 bt348.2.1 bt348.2.2.1 bt348.2.2.2 t355 16).bind fun t363 => ((filter_Keep.f k bt348.1 bt348.2.1 bt348.2.2.1 bt348.2.2.2 t363 t358).bind fun t366 => ((thresherref19_Keep.f k bt348.1 bt348.2.1 bt348.2.2.1 bt348.2.2.2 t363 t358).bind fun t369 => ((thresherref04_Rows.f k t366 t369).bind fun t372 => (if t347 = true then (if t372 = true then ((filter_May.f k bt348.1 bt348.2.1 bt348.2.2.1 bt348.2.2.2 t363).bind fun t373 => (thresherlaw19_FilterAll.j0 k t373)) else (thresherlaw19_FilterAll.j0 k false)) else (thresherlaw19_FilterAll.j0 k false))))))))))))
theorem thresherlaw19_FilterAll.mono_l : ∀ k, (∀ y0, LeO (thresherlaw19_FilterAll.j0 k y0) (thresherlaw19_FilterAll.j0 (k + 1) y0))
 | 0 => fun _ r h => by simp [thresherlaw19_FilterAll.j0] at h
 | k + 1 => by
  have ih0 := thresherlaw19_FilterAll.mono_l k
  ·intro y0
   unfold thresherlaw19_FilterAll.j0
   repeat' first
   | (with_reducible exact ih0 _)
   | (with_reducible exact filter_Keep.mono _ _ _ _ _ _ _)
   | (with_reducible exact filter_May.mono _ _ _ _ _ _)
   | (with_reducible exact thresherlaw19_made.mono _ _ _ _ _ _ _ _ _ _ _ _ _)
   | (with_reducible exact thresherlaw19_shown.mono _)
   | (with_reducible exact thresherlaw19_some.mono _ _)
   | (with_reducible exact thresherref04_Fits.mono _ _ _ _ _ _ _)
   | (with_reducible exact thresherref04_Rows.mono _ _ _)
   | (with_reducible exact thresherref19_Fit.mono _ _ _ _ _ _ _)
   | (with_reducible exact thresherref19_Keep.mono _ _ _ _ _ _ _)
   | (with_reducible exact thresherref19_May.mono _ _ _ _ _ _)
   | (with_reducible exact LeO.refl _)
   | (with_reducible exact LeO.none _)
   | (with_reducible refine LeO.ite ?_ ?_)
   | (with_reducible refine LeO.bind ?_ (fun _ => ?_))
   | exact ih0 _
   | exact filter_Keep.mono _ _ _ _ _ _ _
   | exact filter_May.mono _ _ _ _ _ _
   | exact thresherlaw19_made.mono _ _ _ _ _ _ _ _ _ _ _ _ _
   | exact thresherlaw19_shown.mono _
   | exact thresherlaw19_some.mono _ _
   | exact thresherref04_Fits.mono _ _ _ _ _ _ _
   | exact thresherref04_Rows.mono _ _ _
   | exact thresherref19_Fit.mono _ _ _ _ _ _ _
   | exact thresherref19_Keep.mono _ _ _ _ _ _ _
   | exact thresherref19_May.mono _ _ _ _ _ _
   | exact LeO.none _
   | refine LeO.ite ?_ ?_
   | refine LeO.bind ?_ (fun _ => ?_)
theorem thresherlaw19_FilterAll.mono : ∀ a0 a1 a2 a3 a4 a5 a6 a7 a8 a9 a10 a11 a12 a13 k, LeO (thresherlaw19_FilterAll.f k a0 a1 a2 a3 a4 a5 a6 a7 a8 a9 a10 a11 a12 a13) (thresherlaw19_FilterAll.f (k + 1) a0 a1 a2 a3 a4 a5 a6 a7 a8 a9 a10 a11 a12 a13) := by
 intro a0 a1 a2 a3 a4 a5 a6 a7 a8 a9 a10 a11 a12 a13 k
 have ih0 := thresherlaw19_FilterAll.mono_l k
 unfold thresherlaw19_FilterAll.f
 repeat' first
   | (with_reducible exact ih0 _)
   | (with_reducible exact filter_Keep.mono _ _ _ _ _ _ _)
   | (with_reducible exact filter_May.mono _ _ _ _ _ _)
   | (with_reducible exact thresherlaw19_made.mono _ _ _ _ _ _ _ _ _ _ _ _ _)
   | (with_reducible exact thresherlaw19_shown.mono _)
   | (with_reducible exact thresherlaw19_some.mono _ _)
   | (with_reducible exact thresherref04_Fits.mono _ _ _ _ _ _ _)
   | (with_reducible exact thresherref04_Rows.mono _ _ _)
   | (with_reducible exact thresherref19_Fit.mono _ _ _ _ _ _ _)
   | (with_reducible exact thresherref19_Keep.mono _ _ _ _ _ _ _)
   | (with_reducible exact thresherref19_May.mono _ _ _ _ _ _)
   | (with_reducible exact LeO.refl _)
   | (with_reducible exact LeO.none _)
   | (with_reducible refine LeO.ite ?_ ?_)
   | (with_reducible refine LeO.bind ?_ (fun _ => ?_))
   | exact ih0 _
   | exact filter_Keep.mono _ _ _ _ _ _ _
   | exact filter_May.mono _ _ _ _ _ _
   | exact thresherlaw19_made.mono _ _ _ _ _ _ _ _ _ _ _ _ _
   | exact thresherlaw19_shown.mono _
   | exact thresherlaw19_some.mono _ _
   | exact thresherref04_Fits.mono _ _ _ _ _ _ _
   | exact thresherref04_Rows.mono _ _ _
   | exact thresherref19_Fit.mono _ _ _ _ _ _ _
   | exact thresherref19_Keep.mono _ _ _ _ _ _ _
   | exact thresherref19_May.mono _ _ _ _ _ _
   | exact LeO.none _
   | refine LeO.ite ?_ ?_
   | refine LeO.bind ?_ (fun _ => ?_)
def thresherlaw19_FilterAll.T8 : Bool × List (List Nat × List Nat) := (true, [([], []), ([], []), ([], []), ([0, 1, 2], [0, 1, 2]), ([], []), ([], []), ([], []), ([4, 5, 6, 3], [4, 5, 6]), ([3, 7, 7], [3, 7]), ([8, 8, 0, 1, 2, 3, 4, 5, 6, 7, 8], [8])])
def thresherlaw19_FilterAll.B8 : List Nat := [0, 0, 0, 7, 0, 0, 0, 127, 255, 511]
theorem thresherlaw19_FilterAll.tab8 : rtab .any (opsOf Try.f6 8) = thresherlaw19_FilterAll.T8 := by kernel_rfl
theorem thresherlaw19_FilterAll.bits8 : waitsOk thresherlaw19_FilterAll.T8.2 thresherlaw19_FilterAll.B8 = true := by kernel_rfl
set_option maxHeartbeats 8000000 in
set_option maxRecDepth 100000 in
theorem thresherlaw19_FilterAll.calls (k : Nat) (a0_0 : Int) (a0_1 : Int) (a0_2 : Int) (a0_3 : Int) (a0_4 : Int) (a0_5 : Int) (a0_6 : Int) (a0_7 : Int) (a0_8 : Int) (a0_9 : Int) (a0_10 : Int) (a0_11 : Int) (A1 : Option Addr) (c1 : Nat) (l1 : List (S39)) (A2 : Option Addr) (c2 : Nat) (l2 : List (List (S37))) (r : Bool) (w : World) (hr1 : Kd.C k39 w A1 l1.length l1) (hc1 : l1.length ≤ c1) (hr2 : Kd.C (Kd.slice 37 k37) w A2 l2.length l2) (hc2 : l2.length ≤ c2) (h : thresherlaw19_FilterAll.f k a0_0 a0_1 a0_2 a0_3 a0_4 a0_5 a0_6 a0_7 a0_8 a0_9 a0_10 a0_11 l1 l2 = some r) :
  Calls Try.prog 6 #[.agg #[.int .u8 a0_0, .int .u8 a0_1, .int .u8 a0_2, .int .u8 a0_3, .int .u8 a0_4, .int .u8 a0_5, .int .u8 a0_6, .int .u8 a0_7, .int .u8 a0_8, .int .u8 a0_9, .int .u8 a0_10, .int .u8 a0_11], .slice A1 l1.length c1, .slice A2 l2.length c2] w fun e w' => e = .returned (.bool r) ∧ Below w.heap.size w w' := by
 have hu24 := Try.underlying24
 have hu32 := Try.underlying32
 have HR1 := Aside0.mk hr1
 have HC1 := Aside0.mk hc1
 clear hr1 hc1
 have HR2 := Aside0.mk hr2
 have HC2 := Aside0.mk hc2
 clear hr2 hc2
 have HB := Aside0.mk (Below.refl w.heap.size w)
 have H : ((thresherlaw19_shown.f k).bind fun t347 => ((thresherlaw19_made.f k a0_0 a0_1 a0_2 a0_3 a0_4 a0_5 a0_6 a0_7 a0_8 a0_9 a0_10 a0_11).bind fun bt348 => ((thresherlaw19_some.f k l1).bind fun t355 => ((thresherref04_Fits.f k bt348.1 bt348.2.1 bt348.2.2.1 bt348.2.2.2 l2 60).bind fun t358 => ((filter_May.f k bt348.1 bt348.2.1 bt348.2.2.1 bt348.2.2.2 t355).bind fun t361 => ((thresherref19_May.f k bt348.1 bt348.2.1 bt348.2.2.1 bt348.2.2.2 t355).bind fun t362 => (if (t361 != t362) = true then (some false) else ((thresherref19_Fit.f k bt348.1 bt348.2.1 bt348.2.2.1 bt348.2.2.2 t355 16).bind fun t363 => ((filter_Keep.f k bt348.1 bt348.2.1 bt348.2.2.1 bt348.2.2.2 t363 t358).bind fun t366 => ((thresherref19_Keep.f k bt348.1 bt348.2.1 bt348.2.2.1 bt348.2.2.2 t363 t358).bind fun t369 => ((thresherref04_Rows.f k t366 t369).bind fun t372 => (if t347 = true then (if t372 = true then ((filter_May.f k bt348.1 bt348.2.1 bt348.2.2.1 bt348.2.2.2 t363).bind fun t373 => (thresherlaw19_FilterAll.j0 k t373)) else (thresherlaw19_FilterAll.j0 k false)) else (thresherlaw19_FilterAll.j0 k false))))))))))))) = some r := h
 clear h
 replace H := Option.bind_eq_some_iff.mp H
 obtain ⟨t347, A40, H⟩ := H
 replace H : ((thresherlaw19_made.f k a0_0 a0_1 a0_2 a0_3 a0_4 a0_5 a0_6 a0_7 a0_8 a0_9 a0_10 a0_11).bind fun bt348 => ((thresherlaw19_some.f k l1).bind fun t355 => ((thresherref04_Fits.f k bt348.1 bt348.2.1 bt348.2.2.1 bt348.2.2.2 l2 60).bind fun t358 => ((filter_May.f k bt348.1 bt348.2.1 bt348.2.2.1 bt348.2.2.2 t355).bind fun t361 => ((thresherref19_May.f k bt348.1 bt348.2.1 bt348.2.2.1 bt348.2.2.2 t355).bind fun t362 => (if (t361 != t362) = true then (some false) else ((thresherref19_Fit.f k bt348.1 bt348.2.1 bt348.2.2.1 bt348.2.2.2 t355 16).bind fun t363 => ((filter_Keep.f k bt348.1 bt348.2.1 bt348.2.2.1 bt348.2.2.2 t363 t358).bind fun t366 => ((thresherref19_Keep.f k bt348.1 bt348.2.1 bt348.2.2.1 bt348.2.2.2 t363 t358).bind fun t369 => ((thresherref04_Rows.f k t366 t369).bind fun t372 => (if t347 = true then (if t372 = true then ((filter_May.f k bt348.1 bt348.2.1 bt348.2.2.1 bt348.2.2.2 t363).bind fun t373 => (thresherlaw19_FilterAll.j0 k t373)) else (thresherlaw19_FilterAll.j0 k false)) else (thresherlaw19_FilterAll.j0 k false)))))))))))) = some r := H
 have A4 := Aside0.mk A40
 clear A40
 replace H := Option.bind_eq_some_iff.mp H
 obtain ⟨⟨t348, t351, t352, t353⟩, A50, H⟩ := H
 replace H : ((thresherlaw19_some.f k l1).bind fun t355 => ((thresherref04_Fits.f k t348 t351 t352 t353 l2 60).bind fun t358 => ((filter_May.f k t348 t351 t352 t353 t355).bind fun t361 => ((thresherref19_May.f k t348 t351 t352 t353 t355).bind fun t362 => (if (t361 != t362) = true then (some false) else ((thresherref19_Fit.f k t348 t351 t352 t353 t355 16).bind fun t363 => ((filter_Keep.f k t348 t351 t352 t353 t363 t358).bind fun t366 => ((thresherref19_Keep.f k t348 t351 t352 t353 t363 t358).bind fun t369 => ((thresherref04_Rows.f k t366 t369).bind fun t372 => (if t347 = true then (if t372 = true then ((filter_May.f k t348 t351 t352 t353 t363).bind fun t373 => (thresherlaw19_FilterAll.j0 k t373)) else (thresherlaw19_FilterAll.j0 k false)) else (thresherlaw19_FilterAll.j0 k false))))))))))) = some r := H
 have A5 := Aside0.mk A50
 clear A50
 replace H := Option.bind_eq_some_iff.mp H
 obtain ⟨t355, A60, H⟩ := H
 replace H : ((thresherref04_Fits.f k t348 t351 t352 t353 l2 60).bind fun t358 => ((filter_May.f k t348 t351 t352 t353 t355).bind fun t361 => ((thresherref19_May.f k t348 t351 t352 t353 t355).bind fun t362 => (if (t361 != t362) = true then (some false) else ((thresherref19_Fit.f k t348 t351 t352 t353 t355 16).bind fun t363 => ((filter_Keep.f k t348 t351 t352 t353 t363 t358).bind fun t366 => ((thresherref19_Keep.f k t348 t351 t352 t353 t363 t358).bind fun t369 => ((thresherref04_Rows.f k t366 t369).bind fun t372 => (if t347 = true then (if t372 = true then ((filter_May.f k t348 t351 t352 t353 t363).bind fun t373 => (thresherlaw19_FilterAll.j0 k t373)) else (thresherlaw19_FilterAll.j0 k false)) else (thresherlaw19_FilterAll.j0 k false)))))))))) = some r := H
 have A6 := Aside0.mk A60
 clear A60
 replace H := Option.bind_eq_some_iff.mp H
 obtain ⟨t358, A70, H⟩ := H
 replace H : ((filter_May.f k t348 t351 t352 t353 t355).bind fun t361 => ((thresherref19_May.f k t348 t351 t352 t353 t355).bind fun t362 => (if (t361 != t362) = true then (some false) else ((thresherref19_Fit.f k t348 t351 t352 t353 t355 16).bind fun t363 => ((filter_Keep.f k t348 t351 t352 t353 t363 t358).bind fun t366 => ((thresherref19_Keep.f k t348 t351 t352 t353 t363 t358).bind fun t369 => ((thresherref04_Rows.f k t366 t369).bind fun t372 => (if t347 = true then (if t372 = true then ((filter_May.f k t348 t351 t352 t353 t363).bind fun t373 => (thresherlaw19_FilterAll.j0 k t373)) else (thresherlaw19_FilterAll.j0 k false)) else (thresherlaw19_FilterAll.j0 k false))))))))) = some r := H
 have A7 := Aside0.mk A70
 clear A70
 replace H := Option.bind_eq_some_iff.mp H
 obtain ⟨t361, A80, H⟩ := H
 replace H : ((thresherref19_May.f k t348 t351 t352 t353 t355).bind fun t362 => (if (t361 != t362) = true then (some false) else ((thresherref19_Fit.f k t348 t351 t352 t353 t355 16).bind fun t363 => ((filter_Keep.f k t348 t351 t352 t353 t363 t358).bind fun t366 => ((thresherref19_Keep.f k t348 t351 t352 t353 t363 t358).bind fun t369 => ((thresherref04_Rows.f k t366 t369).bind fun t372 => (if t347 = true then (if t372 = true then ((filter_May.f k t348 t351 t352 t353 t363).bind fun t373 => (thresherlaw19_FilterAll.j0 k t373)) else (thresherlaw19_FilterAll.j0 k false)) else (thresherlaw19_FilterAll.j0 k false)))))))) = some r := H
 have A8 := Aside0.mk A80
 clear A80
 replace H := Option.bind_eq_some_iff.mp H
 obtain ⟨t362, A90, H⟩ := H
 replace H : (if (t361 != t362) = true then (some false) else ((thresherref19_Fit.f k t348 t351 t352 t353 t355 16).bind fun t363 => ((filter_Keep.f k t348 t351 t352 t353 t363 t358).bind fun t366 => ((thresherref19_Keep.f k t348 t351 t352 t353 t363 t358).bind fun t369 => ((thresherref04_Rows.f k t366 t369).bind fun t372 => (if t347 = true then (if t372 = true then ((filter_May.f k t348 t351 t352 t353 t363).bind fun t373 => (thresherlaw19_FilterAll.j0 k t373)) else (thresherlaw19_FilterAll.j0 k false)) else (thresherlaw19_FilterAll.j0 k false))))))) = some r := H
 have A9 := Aside0.mk A90
 clear A90
 by_cases c10 : (t361 != t362) = true
 ·rw [if_pos c10] at H
  have c10b0 : (t361 != t362) = true := c10
  (try (have c10b1 : decide (t361 = t362) = false := by simpa using c10))
  (try (have c10b2 : (t361 == t362) = false := by simpa using c10))
  (try (have c10b3 : ¬ (t361 = t362) := by simpa using c10))
  clear c10
  obtain rfl := Option.some.inj H
  go_enter Try.func6, Try.ntmps6
  try go_wp2_with (first | ((with_reducible refine gate_dst (N := 3) rfl ?_); refine box_event ?hg (N := 3) ?hd (cs := #[.int .u8 a0_0, .int .u8 a0_1, .int .u8 a0_2, .int .u8 a0_3, .int .u8 a0_4, .int .u8 a0_5, .int .u8 a0_6, .int .u8 a0_7, .int .u8 a0_8, .int .u8 a0_9, .int .u8 a0_10, .int .u8 a0_11]) (t := 24) ?hr ?_; (case hd => rfl); (case hg => rfl); (case hr => first | (go_simp; done) | (go_simp; rfl)); intro gb346 hg w11 hbox hb; have n0_ := Aside0.mk (below_step (by repeat (first | (with_reducible first | exact HB.out | apply below_alloc | apply pw_below_drewN | apply below_drew1) | exact HB.out)) hb); have n1_ := Aside0.mk (hbox); have n2_ := Aside0.mk ((by rw [hg]; exact (below_size (by repeat (first | (with_reducible first | exact HB.out | apply below_alloc | apply pw_below_drewN | apply below_drew1) | exact HB.out))) : w.heap.size ≤ gb346)); have n3_ := Aside0.mk ((by rw [hg]; exact (below_size (by repeat (first | (with_reducible first | exact HB.out | apply below_alloc | apply pw_below_drewN | apply below_drew1) | exact HB.out))) : w.heap.size ≤ gb346)); clear HB; have HB := n0_; have BK346 := n1_; have GW346 := n2_; have GE346 := n3_; clear n0_ n1_ n2_ n3_; clear hb hbox hg) | ((with_reducible refine gate_callee (f := 8) rfl ?_); refine goesL_ (some 12) rfl rfl Try.func8 (by kernel_rfl) rfl #[] rfl (by (try simp only [List.map_toArray, List.map_cons, List.map_nil]); first | done | rfl | (simp only [List.length_drop, List.length_take]; rfl)) ?_; (with_reducible refine (thresherlaw19_shown.calls k  t347 _ A4.out).mono ?_); rintro e w12 ⟨rfl, hb⟩; refine ⟨_, rfl, ?_⟩; have n0_ := Aside0.mk (blk_below (g := gb346) (o := .cells #[.int .u8 a0_0, .int .u8 a0_1, .int .u8 a0_2, .int .u8 a0_3, .int .u8 a0_4, .int .u8 a0_5, .int .u8 a0_6, .int .u8 a0_7, .int .u8 a0_8, .int .u8 a0_9, .int .u8 a0_10, .int .u8 a0_11] 24 (0, 0)) (by (with_reducible repeat (first | refine blk_drewN ?_ _ | refine blk_drew ?_ | refine blk_alloc ?_ _)); exact BK346.out) hb); have n1_ := Aside0.mk (below_step (by repeat (first | (with_reducible first | exact HB.out | apply below_alloc | apply pw_below_drewN | apply below_drew1 | refine below_set ?_ GE346.out) | exact HB.out)) hb); clear BK346; clear HB; have BK346 := n0_; have HB := n1_; clear n0_ n1_; (try clear hb); (try clear hb2); (try clear hk); (try clear hi); have hcz13_0 : w12.cell? ⟨gb346, 0, none⟩ = some (.int .u8 a0_0) := (blk_cell BK346.out 0).trans rfl; have hcz13_1 : w12.cell? ⟨gb346, 1, none⟩ = some (.int .u8 a0_1) := (blk_cell BK346.out 1).trans rfl; have hcz13_2 : w12.cell? ⟨gb346, 2, none⟩ = some (.int .u8 a0_2) := (blk_cell BK346.out 2).trans rfl; have hcz13_3 : w12.cell? ⟨gb346, 3, none⟩ = some (.int .u8 a0_3) := (blk_cell BK346.out 3).trans rfl; have hcz13_4 : w12.cell? ⟨gb346, 4, none⟩ = some (.int .u8 a0_4) := (blk_cell BK346.out 4).trans rfl; have hcz13_5 : w12.cell? ⟨gb346, 5, none⟩ = some (.int .u8 a0_5) := (blk_cell BK346.out 5).trans rfl; have hcz13_6 : w12.cell? ⟨gb346, 6, none⟩ = some (.int .u8 a0_6) := (blk_cell BK346.out 6).trans rfl; have hcz13_7 : w12.cell? ⟨gb346, 7, none⟩ = some (.int .u8 a0_7) := (blk_cell BK346.out 7).trans rfl; have hcz13_8 : w12.cell? ⟨gb346, 8, none⟩ = some (.int .u8 a0_8) := (blk_cell BK346.out 8).trans rfl; have hcz13_9 : w12.cell? ⟨gb346, 9, none⟩ = some (.int .u8 a0_9) := (blk_cell BK346.out 9).trans rfl; have hcz13_10 : w12.cell? ⟨gb346, 10, none⟩ = some (.int .u8 a0_10) := (blk_cell BK346.out 10).trans rfl; have hcz13_11 : w12.cell? ⟨gb346, 11, none⟩ = some (.int .u8 a0_11) := (blk_cell BK346.out 11).trans rfl; have hfz13_0 := blk_frozen BK346.out 0; have hfz13_1 := blk_frozen BK346.out 1; have hfz13_2 := blk_frozen BK346.out 2; have hfz13_3 := blk_frozen BK346.out 3; have hfz13_4 := blk_frozen BK346.out 4; have hfz13_5 := blk_frozen BK346.out 5; have hfz13_6 := blk_frozen BK346.out 6; have hfz13_7 := blk_frozen BK346.out 7; have hfz13_8 := blk_frozen BK346.out 8; have hfz13_9 := blk_frozen BK346.out 9; have hfz13_10 := blk_frozen BK346.out 10; have hfz13_11 := blk_frozen BK346.out 11) | ((with_reducible refine gate_callee (f := 9) rfl ?_); refine goesL_ (some 14) rfl rfl Try.func9 (by kernel_rfl) rfl #[.agg #[.int .u8 a0_0, .int .u8 a0_1, .int .u8 a0_2, .int .u8 a0_3, .int .u8 a0_4, .int .u8 a0_5, .int .u8 a0_6, .int .u8 a0_7, .int .u8 a0_8, .int .u8 a0_9, .int .u8 a0_10, .int .u8 a0_11]] rfl (by (try simp only [List.map_toArray, List.map_cons, List.map_nil]); first | done | rfl | (simp only [List.length_drop, List.length_take]; rfl)) ?_; (with_reducible refine (thresherlaw19_made.calls k a0_0 a0_1 a0_2 a0_3 a0_4 a0_5 a0_6 a0_7 a0_8 a0_9 a0_10 a0_11 t348 t351 t352 t353 _ A5.out).mono ?_); rintro e w14 ⟨v349, rfl, ho0, hb⟩; refine ⟨_, rfl, ?_⟩; have n0_ := Aside0.mk (Kd.R_lower ho0 (below_size (by repeat (first | (with_reducible first | exact HB.out | apply below_alloc | apply pw_below_drewN | apply below_drew1 | refine below_set ?_ GE346.out) | exact HB.out)))); have n1_ := Aside0.mk (blk_below (g := gb346) (o := .cells #[.int .u8 a0_0, .int .u8 a0_1, .int .u8 a0_2, .int .u8 a0_3, .int .u8 a0_4, .int .u8 a0_5, .int .u8 a0_6, .int .u8 a0_7, .int .u8 a0_8, .int .u8 a0_9, .int .u8 a0_10, .int .u8 a0_11] 24 (0, 0)) (by (with_reducible repeat (first | refine blk_drewN ?_ _ | refine blk_drew ?_ | refine blk_alloc ?_ _)); exact BK346.out) hb); have n2_ := Aside0.mk (below_step (by repeat (first | (with_reducible first | exact HB.out | apply below_alloc | apply pw_below_drewN | apply below_drew1 | refine below_set ?_ GE346.out) | exact HB.out)) hb); clear BK346; clear HB; have HO350 := n0_; have BK346 := n1_; have HB := n2_; clear n0_ n1_ n2_; (try clear hb); (try clear hb2); (try clear hk); (try clear hi); (try clear ho0)) | ((with_reducible refine gate_dst (N := 8) rfl ?_); refine box_event ?hg (N := 8) ?hd (cs := #[.slice none 0 0, .int .i64 0, .int .i64 0, .int .i64 0]) (t := 32) ?hr ?_; (case hd => rfl); (case hg => rfl); (case hr => first | (go_simp; done) | (go_simp; rfl)); intro gb354 hg w15 hbox hb; have n0_ := Aside0.mk (Kd.R_below (by (with_reducible repeat (first | apply Kd.R_alloc | apply Kd.R_drewN | apply Kd.R_drew)); exact HO350.out) hb); have n1_ := Aside0.mk (blk_below (g := gb346) (o := .cells #[.int .u8 a0_0, .int .u8 a0_1, .int .u8 a0_2, .int .u8 a0_3, .int .u8 a0_4, .int .u8 a0_5, .int .u8 a0_6, .int .u8 a0_7, .int .u8 a0_8, .int .u8 a0_9, .int .u8 a0_10, .int .u8 a0_11] 24 (0, 0)) (by (with_reducible repeat (first | refine blk_drewN ?_ _ | refine blk_drew ?_ | refine blk_alloc ?_ _)); exact BK346.out) hb); have n2_ := Aside0.mk (below_step (by repeat (first | (with_reducible first | exact HB.out | apply below_alloc | apply pw_below_drewN | apply below_drew1 | refine below_set ?_ GE346.out) | exact HB.out)) hb); have n3_ := Aside0.mk (hbox); have n4_ := Aside0.mk ((by rw [hg]; exact (below_size (by repeat (first | (with_reducible first | exact HB.out | apply below_alloc | apply pw_below_drewN | apply below_drew1 | refine below_set ?_ GE346.out) | exact HB.out))) : w.heap.size ≤ gb354)); have n5_ := Aside0.mk ((by rw [hg]; exact (below_size (by repeat (first | (with_reducible first | exact HB.out | apply below_alloc | apply pw_below_drewN | apply below_drew1 | refine below_set ?_ GE346.out) | exact HB.out))) : w.heap.size ≤ gb354)); have n6_ := Aside0.mk ((by rw [hg]; exact Nat.ne_of_lt (blk_lt (g := gb346) (o := .cells #[.int .u8 a0_0, .int .u8 a0_1, .int .u8 a0_2, .int .u8 a0_3, .int .u8 a0_4, .int .u8 a0_5, .int .u8 a0_6, .int .u8 a0_7, .int .u8 a0_8, .int .u8 a0_9, .int .u8 a0_10, .int .u8 a0_11] 24 (0, 0)) (by (with_reducible repeat (first | refine blk_drewN ?_ _ | refine blk_drew ?_ | refine blk_alloc ?_ _)); exact BK346.out)) : gb346 ≠ gb354)); have n7_ := Aside0.mk ((by rw [hg]; exact Nat.ne_of_gt (blk_lt (g := gb346) (o := .cells #[.int .u8 a0_0, .int .u8 a0_1, .int .u8 a0_2, .int .u8 a0_3, .int .u8 a0_4, .int .u8 a0_5, .int .u8 a0_6, .int .u8 a0_7, .int .u8 a0_8, .int .u8 a0_9, .int .u8 a0_10, .int .u8 a0_11] 24 (0, 0)) (by (with_reducible repeat (first | refine blk_drewN ?_ _ | refine blk_drew ?_ | refine blk_alloc ?_ _)); exact BK346.out)) : gb354 ≠ gb346)); clear HO350; clear BK346; clear HB; have HO350 := n0_; have BK346 := n1_; have HB := n2_; have BK354 := n3_; have GW354 := n4_; have GE354 := n5_; have NB346_354 := n6_; have NB354_346 := n7_; clear n0_ n1_ n2_ n3_ n4_ n5_ n6_ n7_; clear hb hbox hg; obtain ⟨Ao16, co16, eo16⟩ := Kd.R_slice HO350.out; subst eo16; have hnb17 := NB354_346.out; have hnc17 := NB346_354.out; have hcz18_0 : w15.cell? ⟨gb354, 0, none⟩ = some (.slice none 0 0) := (blk_cell BK354.out 0).trans rfl; have hcz18_1 : w15.cell? ⟨gb354, 1, none⟩ = some (.int .i64 0) := (blk_cell BK354.out 1).trans rfl; have hcz18_2 : w15.cell? ⟨gb354, 2, none⟩ = some (.int .i64 0) := (blk_cell BK354.out 2).trans rfl; have hcz18_3 : w15.cell? ⟨gb354, 3, none⟩ = some (.int .i64 0) := (blk_cell BK354.out 3).trans rfl; have hfz18_0 := blk_frozen BK354.out 0; have hfz18_1 := blk_frozen BK354.out 1; have hfz18_2 := blk_frozen BK354.out 2; have hfz18_3 := blk_frozen BK354.out 3) | ((with_reducible refine gate_callee (f := 21) rfl ?_); refine goesL_ (some 16) rfl rfl Try.func21 (by kernel_rfl) rfl #[.slice A1 l1.length c1] rfl (by (try simp only [List.map_toArray, List.map_cons, List.map_nil]); first | done | rfl | (simp only [List.length_drop, List.length_take]; rfl)) ?_; (with_reducible refine (thresherlaw19_some.calls k _ _ l1 t355 _ ?side1 ?side2 A6.out).mono ?_); (case side1 => exact Kd.C_below HR1.out (by repeat (first | (with_reducible first | exact HB.out | apply below_alloc | apply pw_below_drewN | apply below_drew1 | refine below_set ?_ GE346.out | refine below_set ?_ GE354.out) | exact HB.out))); (case side2 => exact HC1.out); rintro e w19 ⟨v356, rfl, ho0, hb⟩; refine ⟨_, rfl, ?_⟩; have n0_ := Aside0.mk (Kd.R_below (by (with_reducible repeat (first | apply Kd.R_alloc | apply Kd.R_drewN | apply Kd.R_drew)); exact (Kd.R_mono (Kd.R_far (p := ⟨gb354, 3, none⟩) (Kd.R_far (p := ⟨gb354, 2, none⟩) (Kd.R_far (p := ⟨gb354, 1, none⟩) (Kd.R_far (p := ⟨gb354, 0, none⟩) (Kd.R_types HO350.out BK354.out (by decide)) (fun _ hk => hk.2) (.slice Ao16 t348.length co16)) (fun _ hk => hk.2) (.int .i64 t351)) (fun _ hk => hk.2) (.int .i64 t352)) (fun _ hk => hk.2) (.int .i64 t353)) (fun _ h_ => h_.1))) hb); have n1_ := Aside0.mk (Kd.R_lower ho0 (below_size (by repeat (first | (with_reducible first | exact HB.out | apply below_alloc | apply pw_below_drewN | apply below_drew1 | refine below_set ?_ GE346.out | refine below_set ?_ GE354.out) | exact HB.out)))); have n2_ := Aside0.mk (blk_below (g := gb346) (o := .cells #[.int .u8 a0_0, .int .u8 a0_1, .int .u8 a0_2, .int .u8 a0_3, .int .u8 a0_4, .int .u8 a0_5, .int .u8 a0_6, .int .u8 a0_7, .int .u8 a0_8, .int .u8 a0_9, .int .u8 a0_10, .int .u8 a0_11] 24 (0, 0)) (by (with_reducible repeat (first | refine blk_drewN ?_ _ | refine blk_drew ?_ | refine blk_alloc ?_ _)); refine blk_far ?_ NB346_354.out _; (with_reducible repeat (first | refine blk_drewN ?_ _ | refine blk_drew ?_ | refine blk_alloc ?_ _)); refine blk_far ?_ NB346_354.out _; (with_reducible repeat (first | refine blk_drewN ?_ _ | refine blk_drew ?_ | refine blk_alloc ?_ _)); refine blk_far ?_ NB346_354.out _; (with_reducible repeat (first | refine blk_drewN ?_ _ | refine blk_drew ?_ | refine blk_alloc ?_ _)); refine blk_far ?_ NB346_354.out _; (with_reducible repeat (first | refine blk_drewN ?_ _ | refine blk_drew ?_ | refine blk_alloc ?_ _)); exact BK346.out) hb); have n3_ := Aside0.mk (blk_below (g := gb354) (o := .cells #[.slice Ao16 t348.length co16, .int .i64 t351, .int .i64 t352, .int .i64 t353] 32 (0, 0)) (by (with_reducible repeat (first | refine blk_drewN ?_ _ | refine blk_drew ?_ | refine blk_alloc ?_ _)); refine blk_put (cs := #[.slice Ao16 t348.length co16, .int .i64 t351, .int .i64 t352, .int .i64 0]) ?_ 3 _ rfl; (with_reducible repeat (first | refine blk_drewN ?_ _ | refine blk_drew ?_ | refine blk_alloc ?_ _)); refine blk_put (cs := #[.slice Ao16 t348.length co16, .int .i64 t351, .int .i64 0, .int .i64 0]) ?_ 2 _ rfl; (with_reducible repeat (first | refine blk_drewN ?_ _ | refine blk_drew ?_ | refine blk_alloc ?_ _)); refine blk_put (cs := #[.slice Ao16 t348.length co16, .int .i64 0, .int .i64 0, .int .i64 0]) ?_ 1 _ rfl; (with_reducible repeat (first | refine blk_drewN ?_ _ | refine blk_drew ?_ | refine blk_alloc ?_ _)); refine blk_put (cs := #[.slice none 0 0, .int .i64 0, .int .i64 0, .int .i64 0]) ?_ 0 _ rfl; (with_reducible repeat (first | refine blk_drewN ?_ _ | refine blk_drew ?_ | refine blk_alloc ?_ _)); exact BK354.out) hb); have n4_ := Aside0.mk (below_step (by repeat (first | (with_reducible first | exact HB.out | apply below_alloc | apply pw_below_drewN | apply below_drew1 | refine below_set ?_ GE346.out | refine below_set ?_ GE354.out) | exact HB.out)) hb); clear HO350; clear BK346; clear BK354; clear HB; have HO350 := n0_; have HO357 := n1_; have BK346 := n2_; have BK354 := n3_; have HB := n4_; clear n0_ n1_ n2_ n3_ n4_; (try clear hb); (try clear hb2); (try clear hk); (try clear hi); (try clear ho0); have hcz20_0 : w19.cell? ⟨gb354, 0, none⟩ = some (.slice Ao16 t348.length co16) := (blk_cell BK354.out 0).trans rfl; have hcz20_1 : w19.cell? ⟨gb354, 1, none⟩ = some (.int .i64 t351) := (blk_cell BK354.out 1).trans rfl; have hcz20_2 : w19.cell? ⟨gb354, 2, none⟩ = some (.int .i64 t352) := (blk_cell BK354.out 2).trans rfl; have hcz20_3 : w19.cell? ⟨gb354, 3, none⟩ = some (.int .i64 t353) := (blk_cell BK354.out 3).trans rfl; have hfz20_0 := blk_frozen BK354.out 0; have hfz20_1 := blk_frozen BK354.out 1; have hfz20_2 := blk_frozen BK354.out 2; have hfz20_3 := blk_frozen BK354.out 3) | ((with_reducible refine gate_callee (f := 11) rfl ?_); refine goesL_ (some 19) rfl rfl Try.func11 (by kernel_rfl) rfl #[.agg #[.slice Ao16 t348.length co16, .int .i64 t351, .int .i64 t352, .int .i64 t353], .slice A2 l2.length c2, .int .i64 60] rfl (by (try simp only [List.map_toArray, List.map_cons, List.map_nil]); first | done | rfl | (simp only [List.length_drop, List.length_take]; rfl)) ?_; (with_reducible refine (thresherref04_Fits.calls k _ _ t348 t351 t352 t353 _ _ l2 60 t358 _ ?side1 ?side2 ?side3 ?side4 A7.out).mono ?_); (case side1 => repeat (first | exact (Kd.R_reads' HO350.out).2.2 | (with_reducible refine Kd.C_alloc ?_ _) | (with_reducible refine Kd.C_drewN ?_ _) | (with_reducible refine Kd.C_drew ?_))); (case side2 => exact (Kd.R_reads' HO350.out).2.1); (case side3 => repeat (first | exact (Kd.C_below HR2.out HB.out) | (with_reducible refine Kd.C_alloc ?_ _) | (with_reducible refine Kd.C_drewN ?_ _) | (with_reducible refine Kd.C_drew ?_))); (case side4 => exact HC2.out); rintro e w21 ⟨v359, rfl, ho0, hb⟩; refine ⟨_, rfl, ?_⟩; have n0_ := Aside0.mk (Kd.R_below (by (with_reducible repeat (first | apply Kd.R_alloc | apply Kd.R_drewN | apply Kd.R_drew)); exact HO350.out) hb); have n1_ := Aside0.mk (Kd.R_below (by (with_reducible repeat (first | apply Kd.R_alloc | apply Kd.R_drewN | apply Kd.R_drew)); exact HO357.out) hb); have n2_ := Aside0.mk (Kd.N_lower (Kd.N_mono (ok' := fun k_ => some k_ ≠ (.slice Ao16 t348.length co16 : Value).ownBlock ∧ some k_ ≠ (v356 : Value).ownBlock ∧ k_ ≠ gb346 ∧ k_ ≠ gb354) (Kd.S_N (Kd.S_bound ho0)) (fun k_ hk_ => ⟨(Kd.fresh' (Kd.R_lt (by (with_reducible repeat (first | apply Kd.R_alloc | apply Kd.R_drewN | apply Kd.R_drew)); exact HO350.out)) k_ hk_.2.1), (Kd.fresh' (Kd.R_lt (by (with_reducible repeat (first | apply Kd.R_alloc | apply Kd.R_drewN | apply Kd.R_drew)); exact HO357.out)) k_ hk_.2.1), (Kd.freshB (g := gb346) (o := .cells #[.int .u8 a0_0, .int .u8 a0_1, .int .u8 a0_2, .int .u8 a0_3, .int .u8 a0_4, .int .u8 a0_5, .int .u8 a0_6, .int .u8 a0_7, .int .u8 a0_8, .int .u8 a0_9, .int .u8 a0_10, .int .u8 a0_11] 24 (0, 0)) (by (with_reducible repeat (first | refine blk_drewN ?_ _ | refine blk_drew ?_ | refine blk_alloc ?_ _)); exact BK346.out) k_ hk_.2.1), (Kd.freshB (g := gb354) (o := .cells #[.slice Ao16 t348.length co16, .int .i64 t351, .int .i64 t352, .int .i64 t353] 32 (0, 0)) (by (with_reducible repeat (first | refine blk_drewN ?_ _ | refine blk_drew ?_ | refine blk_alloc ?_ _)); exact BK354.out) k_ hk_.2.1)⟩)) (below_size (by repeat (first | (with_reducible first | exact HB.out | apply below_alloc | apply pw_below_drewN | apply below_drew1 | refine below_set ?_ GE346.out | refine below_set ?_ GE354.out) | exact HB.out)))); have n3_ := Aside0.mk (blk_below (g := gb346) (o := .cells #[.int .u8 a0_0, .int .u8 a0_1, .int .u8 a0_2, .int .u8 a0_3, .int .u8 a0_4, .int .u8 a0_5, .int .u8 a0_6, .int .u8 a0_7, .int .u8 a0_8, .int .u8 a0_9, .int .u8 a0_10, .int .u8 a0_11] 24 (0, 0)) (by (with_reducible repeat (first | refine blk_drewN ?_ _ | refine blk_drew ?_ | refine blk_alloc ?_ _)); exact BK346.out) hb); have n4_ := Aside0.mk (blk_below (g := gb354) (o := .cells #[.slice Ao16 t348.length co16, .int .i64 t351, .int .i64 t352, .int .i64 t353] 32 (0, 0)) (by (with_reducible repeat (first | refine blk_drewN ?_ _ | refine blk_drew ?_ | refine blk_alloc ?_ _)); exact BK354.out) hb); have n5_ := Aside0.mk (below_step (by repeat (first | (with_reducible first | exact HB.out | apply below_alloc | apply pw_below_drewN | apply below_drew1 | refine below_set ?_ GE346.out | refine below_set ?_ GE354.out) | exact HB.out)) hb); clear HO350; clear HO357; clear BK346; clear BK354; clear HB; have HO350 := n0_; have HO357 := n1_; have HO360 := n2_; have BK346 := n3_; have BK354 := n4_; have HB := n5_; clear n0_ n1_ n2_ n3_ n4_ n5_; (try clear hb); (try clear hb2); (try clear hk); (try clear hi); (try clear ho0)))
  have n0_ := Aside0.mk (Kd.R_drew HO350.out)
  have n1_ := Aside0.mk (Kd.R_drew HO357.out)
  have n2_ := Aside0.mk (Kd.N_drew HO360.out)
  have n3_ := Aside0.mk (blk_drew BK346.out)
  have n4_ := Aside0.mk (blk_drew BK354.out)
  have n5_ := Aside0.mk (below_drew1 HB.out)
  clear HO350
  clear HO357
  clear HO360
  clear BK346
  clear BK354
  clear HB
  have HO350 := n0_
  have HO357 := n1_
  have HO360 := n2_
  have BK346 := n3_
  have BK354 := n4_
  have HB := n5_
  clear n0_ n1_ n2_ n3_ n4_ n5_
  obtain ⟨Ao23, co23, eo23⟩ := Kd.R_slice HO357.out
  (first | subst eo23 | (injection eo23 with f1_ f2_ f3_; have f4_ := f1_.symm; have f5_ := f3_.symm; clear f1_ f2_ f3_; subst f4_; subst f5_))
  refine start_ (n := 7) (S := fun w' => w'.cell? ⟨gb354, 0, none⟩ = some (.slice Ao16 t348.length co16) ∧ w'.cell? ⟨gb354, 1, none⟩ = some (.int .i64 t351) ∧ w'.cell? ⟨gb354, 2, none⟩ = some (.int .i64 t352) ∧ w'.cell? ⟨gb354, 3, none⟩ = some (.int .i64 t353)) (ds := []) #[false, false, false, false, false, false, false] (by kernel_rfl) rfl rfl ⟨(blk_cell BK354.out 0).trans rfl, (blk_cell BK354.out 1).trans rfl, (blk_cell BK354.out 2).trans rfl, (blk_cell BK354.out 3).trans rfl⟩ (fun hHeld => ?_)
  generalize w21.drew = w22 at HO350 HO357 HO360 BK346 BK354 HB hHeld ⊢
  refine pure_ (i := 1) (N := some 21) (v := ?_) (a' := ?_) #[false, true, false, false, false, false, false] rfl rfl (by kernel_rfl) (fun _ _ _ h => h) (Or.inl ⟨by rfl, ?_⟩) ?_ ?_
  rotate_left; (intro w'; go_simp; with_reducible rfl); rotate_left; (simp only [Act.put, List.setIfInBounds_toArray, List.set_cons_zero, List.set_cons_succ, i64_w, i32_w]; rfl)
  refine pure_ (i := 4) (N := some 24) (v := ?_) (a' := ?_) #[false, true, false, false, true, false, false] rfl rfl (by kernel_rfl) (fun _ _ _ h => h) (Or.inl ⟨by rfl, ?_⟩) ?_ ?_
  rotate_left; (intro w'; go_simp; with_reducible rfl); rotate_left; (simp only [Act.put, List.setIfInBounds_toArray, List.set_cons_zero, List.set_cons_succ, i64_w, i32_w]; rfl)
  refine take_ (i := 0) (N := some 20) (v := ?_) (a' := ?_) #[true, true, false, false, true, false, false] rfl rfl (by kernel_rfl) (fun _ _ _ h => h) (Or.inl ⟨by rfl, ?_⟩) hHeld ?_ ?_
  rotate_left; (rintro w' ⟨s0, s1, s2, s3⟩; go_simp; with_reducible rfl); rotate_left; (simp only [Act.put, List.setIfInBounds_toArray, List.set_cons_zero, List.set_cons_succ, i64_w, i32_w]; rfl)
  refine take_ (i := 3) (N := some 23) (v := ?_) (a' := ?_) #[true, true, false, true, true, false, false] rfl rfl (by kernel_rfl) (fun _ _ _ h => h) (Or.inl ⟨by rfl, ?_⟩) hHeld ?_ ?_
  rotate_left; (rintro w' ⟨s0, s1, s2, s3⟩; go_simp; with_reducible rfl); rotate_left; (simp only [Act.put, List.setIfInBounds_toArray, List.set_cons_zero, List.set_cons_succ, i64_w, i32_w]; rfl)
  refine one_ (i := 2) (N := some 22) #[true, true, true, true, true, false, false] rfl rfl (by kernel_rfl) (by decide) (fun K hK => ?_)
  refine goes_ Try.func20 (by kernel_rfl) rfl #[.agg #[.slice Ao16 t348.length co16, .int .i64 t351, .int .i64 t352, .int .i64 t353], .slice Ao23 t355.length co23] (by rfl) rfl rfl (by (try simp only [List.map_toArray, List.map_cons, List.map_nil]); first | done | rfl | (simp only [List.length_drop, List.length_take]; rfl)) ?_
  with_reducible refine (filter_May.calls k _ _ t348 t351 t352 t353 _ _ t355 t361 _ ?side1 ?side2 ?side3 ?side4 A8.out).mono ?_
  (case side1 => repeat (first | exact (Kd.R_reads' HO350.out).2.2 | (with_reducible refine Kd.C_alloc ?_ _) | (with_reducible refine Kd.C_drewN ?_ _) | (with_reducible refine Kd.C_drew ?_)))
  (case side2 => exact (Kd.R_reads' HO350.out).2.1)
  (case side3 => repeat (first | exact (Kd.R_reads' HO357.out).2.2 | (with_reducible refine Kd.C_alloc ?_ _) | (with_reducible refine Kd.C_drewN ?_ _) | (with_reducible refine Kd.C_drew ?_)))
  (case side4 => exact (Kd.R_reads' HO357.out).2.1)
  rintro e w24 ⟨rfl, hb⟩
  refine ⟨_, rfl, ?_⟩
  have n0_ := Aside0.mk (Kd.R_below (by (with_reducible repeat (first | apply Kd.R_alloc | apply Kd.R_drewN | apply Kd.R_drew)); exact HO350.out) hb)
  have n1_ := Aside0.mk (Kd.R_below (by (with_reducible repeat (first | apply Kd.R_alloc | apply Kd.R_drewN | apply Kd.R_drew)); exact HO357.out) hb)
  have n2_ := Aside0.mk (Kd.N_below (by (with_reducible repeat (first | apply Kd.N_alloc | apply Kd.N_drewN | apply Kd.N_drew)); exact HO360.out) hb)
  have n3_ := Aside0.mk (blk_below (g := gb346) (o := .cells #[.int .u8 a0_0, .int .u8 a0_1, .int .u8 a0_2, .int .u8 a0_3, .int .u8 a0_4, .int .u8 a0_5, .int .u8 a0_6, .int .u8 a0_7, .int .u8 a0_8, .int .u8 a0_9, .int .u8 a0_10, .int .u8 a0_11] 24 (0, 0)) (by (with_reducible repeat (first | refine blk_drewN ?_ _ | refine blk_drew ?_ | refine blk_alloc ?_ _)); exact BK346.out) hb)
  have n4_ := Aside0.mk (blk_below (g := gb354) (o := .cells #[.slice Ao16 t348.length co16, .int .i64 t351, .int .i64 t352, .int .i64 t353] 32 (0, 0)) (by (with_reducible repeat (first | refine blk_drewN ?_ _ | refine blk_drew ?_ | refine blk_alloc ?_ _)); exact BK354.out) hb)
  have n5_ := Aside0.mk (below_step (by repeat (first | (with_reducible first | exact HB.out | apply below_alloc | apply pw_below_drewN | apply below_drew1 | refine below_set ?_ GE346.out | refine below_set ?_ GE354.out) | exact HB.out)) hb)
  clear HO350
  clear HO357
  clear HO360
  clear BK346
  clear BK354
  clear HB
  have HO350 := n0_
  have HO357 := n1_
  have HO360 := n2_
  have BK346 := n3_
  have BK354 := n4_
  have HB := n5_
  clear n0_ n1_ n2_ n3_ n4_ n5_
  (try clear hb)
  (try clear hb2)
  (try clear hk)
  (try clear hi)
  refine hK.out _ _ ⟨(blk_cell BK354.out 0).trans rfl, (blk_cell BK354.out 1).trans rfl, (blk_cell BK354.out 2).trans rfl, (blk_cell BK354.out 3).trans rfl⟩ (fun hHeld => ?_)
  clear hK K
  refine norm_ (a' := ?_) ?_ ?_
  rotate_left
  ·show Act.put _ (some 22) _ = _
   simp only [Act.put, List.setIfInBounds_toArray, List.set_cons_zero, List.set_cons_succ, i64_w, i32_w]
   rfl
  refine one_ (i := 5) (N := some 25) #[true, true, true, true, true, true, false] rfl rfl (by kernel_rfl) (by decide) (fun K hK => ?_)
  refine goes_ Try.func22 (by kernel_rfl) rfl #[.agg #[.slice Ao16 t348.length co16, .int .i64 t351, .int .i64 t352, .int .i64 t353], .slice Ao23 t355.length co23] (by rfl) rfl rfl (by (try simp only [List.map_toArray, List.map_cons, List.map_nil]); first | done | rfl | (simp only [List.length_drop, List.length_take]; rfl)) ?_
  with_reducible refine (thresherref19_May.calls k _ _ t348 t351 t352 t353 _ _ t355 t362 _ ?side1 ?side2 ?side3 ?side4 A9.out).mono ?_
  (case side1 => repeat (first | exact (Kd.R_reads' HO350.out).2.2 | (with_reducible refine Kd.C_alloc ?_ _) | (with_reducible refine Kd.C_drewN ?_ _) | (with_reducible refine Kd.C_drew ?_)))
  (case side2 => exact (Kd.R_reads' HO350.out).2.1)
  (case side3 => repeat (first | exact (Kd.R_reads' HO357.out).2.2 | (with_reducible refine Kd.C_alloc ?_ _) | (with_reducible refine Kd.C_drewN ?_ _) | (with_reducible refine Kd.C_drew ?_)))
  (case side4 => exact (Kd.R_reads' HO357.out).2.1)
  rintro e w25 ⟨rfl, hb⟩
  refine ⟨_, rfl, ?_⟩
  have n0_ := Aside0.mk (Kd.R_below (by (with_reducible repeat (first | apply Kd.R_alloc | apply Kd.R_drewN | apply Kd.R_drew)); exact HO350.out) hb)
  have n1_ := Aside0.mk (Kd.R_below (by (with_reducible repeat (first | apply Kd.R_alloc | apply Kd.R_drewN | apply Kd.R_drew)); exact HO357.out) hb)
  have n2_ := Aside0.mk (Kd.N_below (by (with_reducible repeat (first | apply Kd.N_alloc | apply Kd.N_drewN | apply Kd.N_drew)); exact HO360.out) hb)
  have n3_ := Aside0.mk (blk_below (g := gb346) (o := .cells #[.int .u8 a0_0, .int .u8 a0_1, .int .u8 a0_2, .int .u8 a0_3, .int .u8 a0_4, .int .u8 a0_5, .int .u8 a0_6, .int .u8 a0_7, .int .u8 a0_8, .int .u8 a0_9, .int .u8 a0_10, .int .u8 a0_11] 24 (0, 0)) (by (with_reducible repeat (first | refine blk_drewN ?_ _ | refine blk_drew ?_ | refine blk_alloc ?_ _)); exact BK346.out) hb)
  have n4_ := Aside0.mk (blk_below (g := gb354) (o := .cells #[.slice Ao16 t348.length co16, .int .i64 t351, .int .i64 t352, .int .i64 t353] 32 (0, 0)) (by (with_reducible repeat (first | refine blk_drewN ?_ _ | refine blk_drew ?_ | refine blk_alloc ?_ _)); exact BK354.out) hb)
  have n5_ := Aside0.mk (below_step (by repeat (first | (with_reducible first | exact HB.out | apply below_alloc | apply pw_below_drewN | apply below_drew1 | refine below_set ?_ GE346.out | refine below_set ?_ GE354.out) | exact HB.out)) hb)
  clear HO350
  clear HO357
  clear HO360
  clear BK346
  clear BK354
  clear HB
  have HO350 := n0_
  have HO357 := n1_
  have HO360 := n2_
  have BK346 := n3_
  have BK354 := n4_
  have HB := n5_
  clear n0_ n1_ n2_ n3_ n4_ n5_
  (try clear hb)
  (try clear hb2)
  (try clear hk)
  (try clear hi)
  refine hK.out _ _ ⟨(blk_cell BK354.out 0).trans rfl, (blk_cell BK354.out 1).trans rfl, (blk_cell BK354.out 2).trans rfl, (blk_cell BK354.out 3).trans rfl⟩ (fun hHeld => ?_)
  clear hK K
  refine norm_ (a' := ?_) ?_ ?_
  rotate_left
  ·show Act.put _ (some 25) _ = _
   simp only [Act.put, List.setIfInBounds_toArray, List.set_cons_zero, List.set_cons_succ, i64_w, i32_w]
   rfl
  refine pure_ (i := 6) (N := some 26) (v := ?_) (a' := ?_) #[true, true, true, true, true, true, true] rfl rfl (by kernel_rfl) (fun _ _ _ h => h) (Or.inl ⟨by rfl, ?_⟩) ?_ ?_
  rotate_left; (intro w'; go_simp; with_reducible rfl); rotate_left; (simp only [Act.put, List.setIfInBounds_toArray, List.set_cons_zero, List.set_cons_succ, i64_w, i32_w]; rfl)
  refine done_ (by kernel_rfl) ?_
  try go_wp2
  go_ret
  exact ⟨by first | rfl | (simp [errW_none, errW_some] <;> rfl) | (simp [*, errW_none, errW_some] <;> rfl), by repeat (first | (with_reducible first | exact HB.out | apply below_alloc | apply pw_below_drewN | apply below_drew1 | refine below_set ?_ GE346.out | refine below_set ?_ GE354.out) | exact HB.out)⟩
 ·rw [if_neg c10] at H
  have c10b0 : (t361 != t362) = false := by simpa using c10
  (try (have c10b1 : decide (t361 = t362) = true := by simpa using c10))
  (try (have c10b2 : (t361 == t362) = true := by simpa using c10))
  clear c10
  replace H := Option.bind_eq_some_iff.mp H
  obtain ⟨t363, A260, H⟩ := H
  replace H : ((filter_Keep.f k t348 t351 t352 t353 t363 t358).bind fun t366 => ((thresherref19_Keep.f k t348 t351 t352 t353 t363 t358).bind fun t369 => ((thresherref04_Rows.f k t366 t369).bind fun t372 => (if t347 = true then (if t372 = true then ((filter_May.f k t348 t351 t352 t353 t363).bind fun t373 => (thresherlaw19_FilterAll.j0 k t373)) else (thresherlaw19_FilterAll.j0 k false)) else (thresherlaw19_FilterAll.j0 k false))))) = some r := H
  have A26 := Aside0.mk A260
  clear A260
  replace H := Option.bind_eq_some_iff.mp H
  obtain ⟨t366, A270, H⟩ := H
  replace H : ((thresherref19_Keep.f k t348 t351 t352 t353 t363 t358).bind fun t369 => ((thresherref04_Rows.f k t366 t369).bind fun t372 => (if t347 = true then (if t372 = true then ((filter_May.f k t348 t351 t352 t353 t363).bind fun t373 => (thresherlaw19_FilterAll.j0 k t373)) else (thresherlaw19_FilterAll.j0 k false)) else (thresherlaw19_FilterAll.j0 k false)))) = some r := H
  have A27 := Aside0.mk A270
  clear A270
  replace H := Option.bind_eq_some_iff.mp H
  obtain ⟨t369, A280, H⟩ := H
  replace H : ((thresherref04_Rows.f k t366 t369).bind fun t372 => (if t347 = true then (if t372 = true then ((filter_May.f k t348 t351 t352 t353 t363).bind fun t373 => (thresherlaw19_FilterAll.j0 k t373)) else (thresherlaw19_FilterAll.j0 k false)) else (thresherlaw19_FilterAll.j0 k false))) = some r := H
  have A28 := Aside0.mk A280
  clear A280
  replace H := Option.bind_eq_some_iff.mp H
  obtain ⟨t372, A290, H⟩ := H
  replace H : (if t347 = true then (if t372 = true then ((filter_May.f k t348 t351 t352 t353 t363).bind fun t373 => (thresherlaw19_FilterAll.j0 k t373)) else (thresherlaw19_FilterAll.j0 k false)) else (thresherlaw19_FilterAll.j0 k false)) = some r := H
  have A29 := Aside0.mk A290
  clear A290
  have HC30 := Aside0.mk H
  clear H
  go_enter Try.func6, Try.ntmps6
  try go_wp2_with (first | ((with_reducible refine gate_dst (N := 3) rfl ?_); refine box_event ?hg (N := 3) ?hd (cs := #[.int .u8 a0_0, .int .u8 a0_1, .int .u8 a0_2, .int .u8 a0_3, .int .u8 a0_4, .int .u8 a0_5, .int .u8 a0_6, .int .u8 a0_7, .int .u8 a0_8, .int .u8 a0_9, .int .u8 a0_10, .int .u8 a0_11]) (t := 24) ?hr ?_; (case hd => rfl); (case hg => rfl); (case hr => first | (go_simp; done) | (go_simp; rfl)); intro gb346 hg w31 hbox hb; have n0_ := Aside0.mk (below_step (by repeat (first | (with_reducible first | exact HB.out | apply below_alloc | apply pw_below_drewN | apply below_drew1) | exact HB.out)) hb); have n1_ := Aside0.mk (hbox); have n2_ := Aside0.mk ((by rw [hg]; exact (below_size (by repeat (first | (with_reducible first | exact HB.out | apply below_alloc | apply pw_below_drewN | apply below_drew1) | exact HB.out))) : w.heap.size ≤ gb346)); have n3_ := Aside0.mk ((by rw [hg]; exact (below_size (by repeat (first | (with_reducible first | exact HB.out | apply below_alloc | apply pw_below_drewN | apply below_drew1) | exact HB.out))) : w.heap.size ≤ gb346)); clear HB; have HB := n0_; have BK346 := n1_; have GW346 := n2_; have GE346 := n3_; clear n0_ n1_ n2_ n3_; clear hb hbox hg) | ((with_reducible refine gate_callee (f := 8) rfl ?_); refine goesL_ (some 12) rfl rfl Try.func8 (by kernel_rfl) rfl #[] rfl (by (try simp only [List.map_toArray, List.map_cons, List.map_nil]); first | done | rfl | (simp only [List.length_drop, List.length_take]; rfl)) ?_; (with_reducible refine (thresherlaw19_shown.calls k  t347 _ A4.out).mono ?_); rintro e w32 ⟨rfl, hb⟩; refine ⟨_, rfl, ?_⟩; have n0_ := Aside0.mk (blk_below (g := gb346) (o := .cells #[.int .u8 a0_0, .int .u8 a0_1, .int .u8 a0_2, .int .u8 a0_3, .int .u8 a0_4, .int .u8 a0_5, .int .u8 a0_6, .int .u8 a0_7, .int .u8 a0_8, .int .u8 a0_9, .int .u8 a0_10, .int .u8 a0_11] 24 (0, 0)) (by (with_reducible repeat (first | refine blk_drewN ?_ _ | refine blk_drew ?_ | refine blk_alloc ?_ _)); exact BK346.out) hb); have n1_ := Aside0.mk (below_step (by repeat (first | (with_reducible first | exact HB.out | apply below_alloc | apply pw_below_drewN | apply below_drew1 | refine below_set ?_ GE346.out) | exact HB.out)) hb); clear BK346; clear HB; have BK346 := n0_; have HB := n1_; clear n0_ n1_; (try clear hb); (try clear hb2); (try clear hk); (try clear hi); have hcz33_0 : w32.cell? ⟨gb346, 0, none⟩ = some (.int .u8 a0_0) := (blk_cell BK346.out 0).trans rfl; have hcz33_1 : w32.cell? ⟨gb346, 1, none⟩ = some (.int .u8 a0_1) := (blk_cell BK346.out 1).trans rfl; have hcz33_2 : w32.cell? ⟨gb346, 2, none⟩ = some (.int .u8 a0_2) := (blk_cell BK346.out 2).trans rfl; have hcz33_3 : w32.cell? ⟨gb346, 3, none⟩ = some (.int .u8 a0_3) := (blk_cell BK346.out 3).trans rfl; have hcz33_4 : w32.cell? ⟨gb346, 4, none⟩ = some (.int .u8 a0_4) := (blk_cell BK346.out 4).trans rfl; have hcz33_5 : w32.cell? ⟨gb346, 5, none⟩ = some (.int .u8 a0_5) := (blk_cell BK346.out 5).trans rfl; have hcz33_6 : w32.cell? ⟨gb346, 6, none⟩ = some (.int .u8 a0_6) := (blk_cell BK346.out 6).trans rfl; have hcz33_7 : w32.cell? ⟨gb346, 7, none⟩ = some (.int .u8 a0_7) := (blk_cell BK346.out 7).trans rfl; have hcz33_8 : w32.cell? ⟨gb346, 8, none⟩ = some (.int .u8 a0_8) := (blk_cell BK346.out 8).trans rfl; have hcz33_9 : w32.cell? ⟨gb346, 9, none⟩ = some (.int .u8 a0_9) := (blk_cell BK346.out 9).trans rfl; have hcz33_10 : w32.cell? ⟨gb346, 10, none⟩ = some (.int .u8 a0_10) := (blk_cell BK346.out 10).trans rfl; have hcz33_11 : w32.cell? ⟨gb346, 11, none⟩ = some (.int .u8 a0_11) := (blk_cell BK346.out 11).trans rfl; have hfz33_0 := blk_frozen BK346.out 0; have hfz33_1 := blk_frozen BK346.out 1; have hfz33_2 := blk_frozen BK346.out 2; have hfz33_3 := blk_frozen BK346.out 3; have hfz33_4 := blk_frozen BK346.out 4; have hfz33_5 := blk_frozen BK346.out 5; have hfz33_6 := blk_frozen BK346.out 6; have hfz33_7 := blk_frozen BK346.out 7; have hfz33_8 := blk_frozen BK346.out 8; have hfz33_9 := blk_frozen BK346.out 9; have hfz33_10 := blk_frozen BK346.out 10; have hfz33_11 := blk_frozen BK346.out 11) | ((with_reducible refine gate_callee (f := 9) rfl ?_); refine goesL_ (some 14) rfl rfl Try.func9 (by kernel_rfl) rfl #[.agg #[.int .u8 a0_0, .int .u8 a0_1, .int .u8 a0_2, .int .u8 a0_3, .int .u8 a0_4, .int .u8 a0_5, .int .u8 a0_6, .int .u8 a0_7, .int .u8 a0_8, .int .u8 a0_9, .int .u8 a0_10, .int .u8 a0_11]] rfl (by (try simp only [List.map_toArray, List.map_cons, List.map_nil]); first | done | rfl | (simp only [List.length_drop, List.length_take]; rfl)) ?_; (with_reducible refine (thresherlaw19_made.calls k a0_0 a0_1 a0_2 a0_3 a0_4 a0_5 a0_6 a0_7 a0_8 a0_9 a0_10 a0_11 t348 t351 t352 t353 _ A5.out).mono ?_); rintro e w34 ⟨v349, rfl, ho0, hb⟩; refine ⟨_, rfl, ?_⟩; have n0_ := Aside0.mk (Kd.R_lower ho0 (below_size (by repeat (first | (with_reducible first | exact HB.out | apply below_alloc | apply pw_below_drewN | apply below_drew1 | refine below_set ?_ GE346.out) | exact HB.out)))); have n1_ := Aside0.mk (blk_below (g := gb346) (o := .cells #[.int .u8 a0_0, .int .u8 a0_1, .int .u8 a0_2, .int .u8 a0_3, .int .u8 a0_4, .int .u8 a0_5, .int .u8 a0_6, .int .u8 a0_7, .int .u8 a0_8, .int .u8 a0_9, .int .u8 a0_10, .int .u8 a0_11] 24 (0, 0)) (by (with_reducible repeat (first | refine blk_drewN ?_ _ | refine blk_drew ?_ | refine blk_alloc ?_ _)); exact BK346.out) hb); have n2_ := Aside0.mk (below_step (by repeat (first | (with_reducible first | exact HB.out | apply below_alloc | apply pw_below_drewN | apply below_drew1 | refine below_set ?_ GE346.out) | exact HB.out)) hb); clear BK346; clear HB; have HO350 := n0_; have BK346 := n1_; have HB := n2_; clear n0_ n1_ n2_; (try clear hb); (try clear hb2); (try clear hk); (try clear hi); (try clear ho0)) | ((with_reducible refine gate_dst (N := 8) rfl ?_); refine box_event ?hg (N := 8) ?hd (cs := #[.slice none 0 0, .int .i64 0, .int .i64 0, .int .i64 0]) (t := 32) ?hr ?_; (case hd => rfl); (case hg => rfl); (case hr => first | (go_simp; done) | (go_simp; rfl)); intro gb354 hg w35 hbox hb; have n0_ := Aside0.mk (Kd.R_below (by (with_reducible repeat (first | apply Kd.R_alloc | apply Kd.R_drewN | apply Kd.R_drew)); exact HO350.out) hb); have n1_ := Aside0.mk (blk_below (g := gb346) (o := .cells #[.int .u8 a0_0, .int .u8 a0_1, .int .u8 a0_2, .int .u8 a0_3, .int .u8 a0_4, .int .u8 a0_5, .int .u8 a0_6, .int .u8 a0_7, .int .u8 a0_8, .int .u8 a0_9, .int .u8 a0_10, .int .u8 a0_11] 24 (0, 0)) (by (with_reducible repeat (first | refine blk_drewN ?_ _ | refine blk_drew ?_ | refine blk_alloc ?_ _)); exact BK346.out) hb); have n2_ := Aside0.mk (below_step (by repeat (first | (with_reducible first | exact HB.out | apply below_alloc | apply pw_below_drewN | apply below_drew1 | refine below_set ?_ GE346.out) | exact HB.out)) hb); have n3_ := Aside0.mk (hbox); have n4_ := Aside0.mk ((by rw [hg]; exact (below_size (by repeat (first | (with_reducible first | exact HB.out | apply below_alloc | apply pw_below_drewN | apply below_drew1 | refine below_set ?_ GE346.out) | exact HB.out))) : w.heap.size ≤ gb354)); have n5_ := Aside0.mk ((by rw [hg]; exact (below_size (by repeat (first | (with_reducible first | exact HB.out | apply below_alloc | apply pw_below_drewN | apply below_drew1 | refine below_set ?_ GE346.out) | exact HB.out))) : w.heap.size ≤ gb354)); have n6_ := Aside0.mk ((by rw [hg]; exact Nat.ne_of_lt (blk_lt (g := gb346) (o := .cells #[.int .u8 a0_0, .int .u8 a0_1, .int .u8 a0_2, .int .u8 a0_3, .int .u8 a0_4, .int .u8 a0_5, .int .u8 a0_6, .int .u8 a0_7, .int .u8 a0_8, .int .u8 a0_9, .int .u8 a0_10, .int .u8 a0_11] 24 (0, 0)) (by (with_reducible repeat (first | refine blk_drewN ?_ _ | refine blk_drew ?_ | refine blk_alloc ?_ _)); exact BK346.out)) : gb346 ≠ gb354)); have n7_ := Aside0.mk ((by rw [hg]; exact Nat.ne_of_gt (blk_lt (g := gb346) (o := .cells #[.int .u8 a0_0, .int .u8 a0_1, .int .u8 a0_2, .int .u8 a0_3, .int .u8 a0_4, .int .u8 a0_5, .int .u8 a0_6, .int .u8 a0_7, .int .u8 a0_8, .int .u8 a0_9, .int .u8 a0_10, .int .u8 a0_11] 24 (0, 0)) (by (with_reducible repeat (first | refine blk_drewN ?_ _ | refine blk_drew ?_ | refine blk_alloc ?_ _)); exact BK346.out)) : gb354 ≠ gb346)); clear HO350; clear BK346; clear HB; have HO350 := n0_; have BK346 := n1_; have HB := n2_; have BK354 := n3_; have GW354 := n4_; have GE354 := n5_; have NB346_354 := n6_; have NB354_346 := n7_; clear n0_ n1_ n2_ n3_ n4_ n5_ n6_ n7_; clear hb hbox hg; obtain ⟨Ao36, co36, eo36⟩ := Kd.R_slice HO350.out; subst eo36; have hnb37 := NB354_346.out; have hnc37 := NB346_354.out; have hcz38_0 : w35.cell? ⟨gb354, 0, none⟩ = some (.slice none 0 0) := (blk_cell BK354.out 0).trans rfl; have hcz38_1 : w35.cell? ⟨gb354, 1, none⟩ = some (.int .i64 0) := (blk_cell BK354.out 1).trans rfl; have hcz38_2 : w35.cell? ⟨gb354, 2, none⟩ = some (.int .i64 0) := (blk_cell BK354.out 2).trans rfl; have hcz38_3 : w35.cell? ⟨gb354, 3, none⟩ = some (.int .i64 0) := (blk_cell BK354.out 3).trans rfl; have hfz38_0 := blk_frozen BK354.out 0; have hfz38_1 := blk_frozen BK354.out 1; have hfz38_2 := blk_frozen BK354.out 2; have hfz38_3 := blk_frozen BK354.out 3) | ((with_reducible refine gate_callee (f := 21) rfl ?_); refine goesL_ (some 16) rfl rfl Try.func21 (by kernel_rfl) rfl #[.slice A1 l1.length c1] rfl (by (try simp only [List.map_toArray, List.map_cons, List.map_nil]); first | done | rfl | (simp only [List.length_drop, List.length_take]; rfl)) ?_; (with_reducible refine (thresherlaw19_some.calls k _ _ l1 t355 _ ?side1 ?side2 A6.out).mono ?_); (case side1 => exact Kd.C_below HR1.out (by repeat (first | (with_reducible first | exact HB.out | apply below_alloc | apply pw_below_drewN | apply below_drew1 | refine below_set ?_ GE346.out | refine below_set ?_ GE354.out) | exact HB.out))); (case side2 => exact HC1.out); rintro e w39 ⟨v356, rfl, ho0, hb⟩; refine ⟨_, rfl, ?_⟩; have n0_ := Aside0.mk (Kd.R_below (by (with_reducible repeat (first | apply Kd.R_alloc | apply Kd.R_drewN | apply Kd.R_drew)); exact (Kd.R_mono (Kd.R_far (p := ⟨gb354, 3, none⟩) (Kd.R_far (p := ⟨gb354, 2, none⟩) (Kd.R_far (p := ⟨gb354, 1, none⟩) (Kd.R_far (p := ⟨gb354, 0, none⟩) (Kd.R_types HO350.out BK354.out (by decide)) (fun _ hk => hk.2) (.slice Ao36 t348.length co36)) (fun _ hk => hk.2) (.int .i64 t351)) (fun _ hk => hk.2) (.int .i64 t352)) (fun _ hk => hk.2) (.int .i64 t353)) (fun _ h_ => h_.1))) hb); have n1_ := Aside0.mk (Kd.R_lower ho0 (below_size (by repeat (first | (with_reducible first | exact HB.out | apply below_alloc | apply pw_below_drewN | apply below_drew1 | refine below_set ?_ GE346.out | refine below_set ?_ GE354.out) | exact HB.out)))); have n2_ := Aside0.mk (blk_below (g := gb346) (o := .cells #[.int .u8 a0_0, .int .u8 a0_1, .int .u8 a0_2, .int .u8 a0_3, .int .u8 a0_4, .int .u8 a0_5, .int .u8 a0_6, .int .u8 a0_7, .int .u8 a0_8, .int .u8 a0_9, .int .u8 a0_10, .int .u8 a0_11] 24 (0, 0)) (by (with_reducible repeat (first | refine blk_drewN ?_ _ | refine blk_drew ?_ | refine blk_alloc ?_ _)); refine blk_far ?_ NB346_354.out _; (with_reducible repeat (first | refine blk_drewN ?_ _ | refine blk_drew ?_ | refine blk_alloc ?_ _)); refine blk_far ?_ NB346_354.out _; (with_reducible repeat (first | refine blk_drewN ?_ _ | refine blk_drew ?_ | refine blk_alloc ?_ _)); refine blk_far ?_ NB346_354.out _; (with_reducible repeat (first | refine blk_drewN ?_ _ | refine blk_drew ?_ | refine blk_alloc ?_ _)); refine blk_far ?_ NB346_354.out _; (with_reducible repeat (first | refine blk_drewN ?_ _ | refine blk_drew ?_ | refine blk_alloc ?_ _)); exact BK346.out) hb); have n3_ := Aside0.mk (blk_below (g := gb354) (o := .cells #[.slice Ao36 t348.length co36, .int .i64 t351, .int .i64 t352, .int .i64 t353] 32 (0, 0)) (by (with_reducible repeat (first | refine blk_drewN ?_ _ | refine blk_drew ?_ | refine blk_alloc ?_ _)); refine blk_put (cs := #[.slice Ao36 t348.length co36, .int .i64 t351, .int .i64 t352, .int .i64 0]) ?_ 3 _ rfl; (with_reducible repeat (first | refine blk_drewN ?_ _ | refine blk_drew ?_ | refine blk_alloc ?_ _)); refine blk_put (cs := #[.slice Ao36 t348.length co36, .int .i64 t351, .int .i64 0, .int .i64 0]) ?_ 2 _ rfl; (with_reducible repeat (first | refine blk_drewN ?_ _ | refine blk_drew ?_ | refine blk_alloc ?_ _)); refine blk_put (cs := #[.slice Ao36 t348.length co36, .int .i64 0, .int .i64 0, .int .i64 0]) ?_ 1 _ rfl; (with_reducible repeat (first | refine blk_drewN ?_ _ | refine blk_drew ?_ | refine blk_alloc ?_ _)); refine blk_put (cs := #[.slice none 0 0, .int .i64 0, .int .i64 0, .int .i64 0]) ?_ 0 _ rfl; (with_reducible repeat (first | refine blk_drewN ?_ _ | refine blk_drew ?_ | refine blk_alloc ?_ _)); exact BK354.out) hb); have n4_ := Aside0.mk (below_step (by repeat (first | (with_reducible first | exact HB.out | apply below_alloc | apply pw_below_drewN | apply below_drew1 | refine below_set ?_ GE346.out | refine below_set ?_ GE354.out) | exact HB.out)) hb); clear HO350; clear BK346; clear BK354; clear HB; have HO350 := n0_; have HO357 := n1_; have BK346 := n2_; have BK354 := n3_; have HB := n4_; clear n0_ n1_ n2_ n3_ n4_; (try clear hb); (try clear hb2); (try clear hk); (try clear hi); (try clear ho0); have hcz40_0 : w39.cell? ⟨gb354, 0, none⟩ = some (.slice Ao36 t348.length co36) := (blk_cell BK354.out 0).trans rfl; have hcz40_1 : w39.cell? ⟨gb354, 1, none⟩ = some (.int .i64 t351) := (blk_cell BK354.out 1).trans rfl; have hcz40_2 : w39.cell? ⟨gb354, 2, none⟩ = some (.int .i64 t352) := (blk_cell BK354.out 2).trans rfl; have hcz40_3 : w39.cell? ⟨gb354, 3, none⟩ = some (.int .i64 t353) := (blk_cell BK354.out 3).trans rfl; have hfz40_0 := blk_frozen BK354.out 0; have hfz40_1 := blk_frozen BK354.out 1; have hfz40_2 := blk_frozen BK354.out 2; have hfz40_3 := blk_frozen BK354.out 3) | ((with_reducible refine gate_callee (f := 11) rfl ?_); refine goesL_ (some 19) rfl rfl Try.func11 (by kernel_rfl) rfl #[.agg #[.slice Ao36 t348.length co36, .int .i64 t351, .int .i64 t352, .int .i64 t353], .slice A2 l2.length c2, .int .i64 60] rfl (by (try simp only [List.map_toArray, List.map_cons, List.map_nil]); first | done | rfl | (simp only [List.length_drop, List.length_take]; rfl)) ?_; (with_reducible refine (thresherref04_Fits.calls k _ _ t348 t351 t352 t353 _ _ l2 60 t358 _ ?side1 ?side2 ?side3 ?side4 A7.out).mono ?_); (case side1 => repeat (first | exact (Kd.R_reads' HO350.out).2.2 | (with_reducible refine Kd.C_alloc ?_ _) | (with_reducible refine Kd.C_drewN ?_ _) | (with_reducible refine Kd.C_drew ?_))); (case side2 => exact (Kd.R_reads' HO350.out).2.1); (case side3 => repeat (first | exact (Kd.C_below HR2.out HB.out) | (with_reducible refine Kd.C_alloc ?_ _) | (with_reducible refine Kd.C_drewN ?_ _) | (with_reducible refine Kd.C_drew ?_))); (case side4 => exact HC2.out); rintro e w41 ⟨v359, rfl, ho0, hb⟩; refine ⟨_, rfl, ?_⟩; have n0_ := Aside0.mk (Kd.R_below (by (with_reducible repeat (first | apply Kd.R_alloc | apply Kd.R_drewN | apply Kd.R_drew)); exact HO350.out) hb); have n1_ := Aside0.mk (Kd.R_below (by (with_reducible repeat (first | apply Kd.R_alloc | apply Kd.R_drewN | apply Kd.R_drew)); exact HO357.out) hb); have n2_ := Aside0.mk (Kd.N_lower (Kd.N_mono (ok' := fun k_ => some k_ ≠ (.slice Ao36 t348.length co36 : Value).ownBlock ∧ some k_ ≠ (v356 : Value).ownBlock ∧ k_ ≠ gb346 ∧ k_ ≠ gb354) (Kd.S_N (Kd.S_bound ho0)) (fun k_ hk_ => ⟨(Kd.fresh' (Kd.R_lt (by (with_reducible repeat (first | apply Kd.R_alloc | apply Kd.R_drewN | apply Kd.R_drew)); exact HO350.out)) k_ hk_.2.1), (Kd.fresh' (Kd.R_lt (by (with_reducible repeat (first | apply Kd.R_alloc | apply Kd.R_drewN | apply Kd.R_drew)); exact HO357.out)) k_ hk_.2.1), (Kd.freshB (g := gb346) (o := .cells #[.int .u8 a0_0, .int .u8 a0_1, .int .u8 a0_2, .int .u8 a0_3, .int .u8 a0_4, .int .u8 a0_5, .int .u8 a0_6, .int .u8 a0_7, .int .u8 a0_8, .int .u8 a0_9, .int .u8 a0_10, .int .u8 a0_11] 24 (0, 0)) (by (with_reducible repeat (first | refine blk_drewN ?_ _ | refine blk_drew ?_ | refine blk_alloc ?_ _)); exact BK346.out) k_ hk_.2.1), (Kd.freshB (g := gb354) (o := .cells #[.slice Ao36 t348.length co36, .int .i64 t351, .int .i64 t352, .int .i64 t353] 32 (0, 0)) (by (with_reducible repeat (first | refine blk_drewN ?_ _ | refine blk_drew ?_ | refine blk_alloc ?_ _)); exact BK354.out) k_ hk_.2.1)⟩)) (below_size (by repeat (first | (with_reducible first | exact HB.out | apply below_alloc | apply pw_below_drewN | apply below_drew1 | refine below_set ?_ GE346.out | refine below_set ?_ GE354.out) | exact HB.out)))); have n3_ := Aside0.mk (blk_below (g := gb346) (o := .cells #[.int .u8 a0_0, .int .u8 a0_1, .int .u8 a0_2, .int .u8 a0_3, .int .u8 a0_4, .int .u8 a0_5, .int .u8 a0_6, .int .u8 a0_7, .int .u8 a0_8, .int .u8 a0_9, .int .u8 a0_10, .int .u8 a0_11] 24 (0, 0)) (by (with_reducible repeat (first | refine blk_drewN ?_ _ | refine blk_drew ?_ | refine blk_alloc ?_ _)); exact BK346.out) hb); have n4_ := Aside0.mk (blk_below (g := gb354) (o := .cells #[.slice Ao36 t348.length co36, .int .i64 t351, .int .i64 t352, .int .i64 t353] 32 (0, 0)) (by (with_reducible repeat (first | refine blk_drewN ?_ _ | refine blk_drew ?_ | refine blk_alloc ?_ _)); exact BK354.out) hb); have n5_ := Aside0.mk (below_step (by repeat (first | (with_reducible first | exact HB.out | apply below_alloc | apply pw_below_drewN | apply below_drew1 | refine below_set ?_ GE346.out | refine below_set ?_ GE354.out) | exact HB.out)) hb); clear HO350; clear HO357; clear BK346; clear BK354; clear HB; have HO350 := n0_; have HO357 := n1_; have HO360 := n2_; have BK346 := n3_; have BK354 := n4_; have HB := n5_; clear n0_ n1_ n2_ n3_ n4_ n5_; (try clear hb); (try clear hb2); (try clear hk); (try clear hi); (try clear ho0)))
  have n0_ := Aside0.mk (Kd.R_drew HO350.out)
  have n1_ := Aside0.mk (Kd.R_drew HO357.out)
  have n2_ := Aside0.mk (Kd.N_drew HO360.out)
  have n3_ := Aside0.mk (blk_drew BK346.out)
  have n4_ := Aside0.mk (blk_drew BK354.out)
  have n5_ := Aside0.mk (below_drew1 HB.out)
  clear HO350
  clear HO357
  clear HO360
  clear BK346
  clear BK354
  clear HB
  have HO350 := n0_
  have HO357 := n1_
  have HO360 := n2_
  have BK346 := n3_
  have BK354 := n4_
  have HB := n5_
  clear n0_ n1_ n2_ n3_ n4_ n5_
  obtain ⟨Ao43, co43, eo43⟩ := Kd.R_slice HO357.out
  (first | subst eo43 | (injection eo43 with f1_ f2_ f3_; have f4_ := f1_.symm; have f5_ := f3_.symm; clear f1_ f2_ f3_; subst f4_; subst f5_))
  refine start_ (n := 7) (S := fun w' => w'.cell? ⟨gb354, 0, none⟩ = some (.slice Ao36 t348.length co36) ∧ w'.cell? ⟨gb354, 1, none⟩ = some (.int .i64 t351) ∧ w'.cell? ⟨gb354, 2, none⟩ = some (.int .i64 t352) ∧ w'.cell? ⟨gb354, 3, none⟩ = some (.int .i64 t353)) (ds := []) #[false, false, false, false, false, false, false] (by kernel_rfl) rfl rfl ⟨(blk_cell BK354.out 0).trans rfl, (blk_cell BK354.out 1).trans rfl, (blk_cell BK354.out 2).trans rfl, (blk_cell BK354.out 3).trans rfl⟩ (fun hHeld => ?_)
  generalize w41.drew = w42 at HO350 HO357 HO360 BK346 BK354 HB hHeld ⊢
  refine pure_ (i := 1) (N := some 21) (v := ?_) (a' := ?_) #[false, true, false, false, false, false, false] rfl rfl (by kernel_rfl) (fun _ _ _ h => h) (Or.inl ⟨by rfl, ?_⟩) ?_ ?_
  rotate_left; (intro w'; go_simp; with_reducible rfl); rotate_left; (simp only [Act.put, List.setIfInBounds_toArray, List.set_cons_zero, List.set_cons_succ, i64_w, i32_w]; rfl)
  refine pure_ (i := 4) (N := some 24) (v := ?_) (a' := ?_) #[false, true, false, false, true, false, false] rfl rfl (by kernel_rfl) (fun _ _ _ h => h) (Or.inl ⟨by rfl, ?_⟩) ?_ ?_
  rotate_left; (intro w'; go_simp; with_reducible rfl); rotate_left; (simp only [Act.put, List.setIfInBounds_toArray, List.set_cons_zero, List.set_cons_succ, i64_w, i32_w]; rfl)
  refine take_ (i := 0) (N := some 20) (v := ?_) (a' := ?_) #[true, true, false, false, true, false, false] rfl rfl (by kernel_rfl) (fun _ _ _ h => h) (Or.inl ⟨by rfl, ?_⟩) hHeld ?_ ?_
  rotate_left; (rintro w' ⟨s0, s1, s2, s3⟩; go_simp; with_reducible rfl); rotate_left; (simp only [Act.put, List.setIfInBounds_toArray, List.set_cons_zero, List.set_cons_succ, i64_w, i32_w]; rfl)
  refine take_ (i := 3) (N := some 23) (v := ?_) (a' := ?_) #[true, true, false, true, true, false, false] rfl rfl (by kernel_rfl) (fun _ _ _ h => h) (Or.inl ⟨by rfl, ?_⟩) hHeld ?_ ?_
  rotate_left; (rintro w' ⟨s0, s1, s2, s3⟩; go_simp; with_reducible rfl); rotate_left; (simp only [Act.put, List.setIfInBounds_toArray, List.set_cons_zero, List.set_cons_succ, i64_w, i32_w]; rfl)
  refine one_ (i := 2) (N := some 22) #[true, true, true, true, true, false, false] rfl rfl (by kernel_rfl) (by decide) (fun K hK => ?_)
  refine goes_ Try.func20 (by kernel_rfl) rfl #[.agg #[.slice Ao36 t348.length co36, .int .i64 t351, .int .i64 t352, .int .i64 t353], .slice Ao43 t355.length co43] (by rfl) rfl rfl (by (try simp only [List.map_toArray, List.map_cons, List.map_nil]); first | done | rfl | (simp only [List.length_drop, List.length_take]; rfl)) ?_
  with_reducible refine (filter_May.calls k _ _ t348 t351 t352 t353 _ _ t355 t361 _ ?side1 ?side2 ?side3 ?side4 A8.out).mono ?_
  (case side1 => repeat (first | exact (Kd.R_reads' HO350.out).2.2 | (with_reducible refine Kd.C_alloc ?_ _) | (with_reducible refine Kd.C_drewN ?_ _) | (with_reducible refine Kd.C_drew ?_)))
  (case side2 => exact (Kd.R_reads' HO350.out).2.1)
  (case side3 => repeat (first | exact (Kd.R_reads' HO357.out).2.2 | (with_reducible refine Kd.C_alloc ?_ _) | (with_reducible refine Kd.C_drewN ?_ _) | (with_reducible refine Kd.C_drew ?_)))
  (case side4 => exact (Kd.R_reads' HO357.out).2.1)
  rintro e w44 ⟨rfl, hb⟩
  refine ⟨_, rfl, ?_⟩
  have n0_ := Aside0.mk (Kd.R_below (by (with_reducible repeat (first | apply Kd.R_alloc | apply Kd.R_drewN | apply Kd.R_drew)); exact HO350.out) hb)
  have n1_ := Aside0.mk (Kd.R_below (by (with_reducible repeat (first | apply Kd.R_alloc | apply Kd.R_drewN | apply Kd.R_drew)); exact HO357.out) hb)
  have n2_ := Aside0.mk (Kd.N_below (by (with_reducible repeat (first | apply Kd.N_alloc | apply Kd.N_drewN | apply Kd.N_drew)); exact HO360.out) hb)
  have n3_ := Aside0.mk (blk_below (g := gb346) (o := .cells #[.int .u8 a0_0, .int .u8 a0_1, .int .u8 a0_2, .int .u8 a0_3, .int .u8 a0_4, .int .u8 a0_5, .int .u8 a0_6, .int .u8 a0_7, .int .u8 a0_8, .int .u8 a0_9, .int .u8 a0_10, .int .u8 a0_11] 24 (0, 0)) (by (with_reducible repeat (first | refine blk_drewN ?_ _ | refine blk_drew ?_ | refine blk_alloc ?_ _)); exact BK346.out) hb)
  have n4_ := Aside0.mk (blk_below (g := gb354) (o := .cells #[.slice Ao36 t348.length co36, .int .i64 t351, .int .i64 t352, .int .i64 t353] 32 (0, 0)) (by (with_reducible repeat (first | refine blk_drewN ?_ _ | refine blk_drew ?_ | refine blk_alloc ?_ _)); exact BK354.out) hb)
  have n5_ := Aside0.mk (below_step (by repeat (first | (with_reducible first | exact HB.out | apply below_alloc | apply pw_below_drewN | apply below_drew1 | refine below_set ?_ GE346.out | refine below_set ?_ GE354.out) | exact HB.out)) hb)
  clear HO350
  clear HO357
  clear HO360
  clear BK346
  clear BK354
  clear HB
  have HO350 := n0_
  have HO357 := n1_
  have HO360 := n2_
  have BK346 := n3_
  have BK354 := n4_
  have HB := n5_
  clear n0_ n1_ n2_ n3_ n4_ n5_
  (try clear hb)
  (try clear hb2)
  (try clear hk)
  (try clear hi)
  refine hK.out _ _ ⟨(blk_cell BK354.out 0).trans rfl, (blk_cell BK354.out 1).trans rfl, (blk_cell BK354.out 2).trans rfl, (blk_cell BK354.out 3).trans rfl⟩ (fun hHeld => ?_)
  clear hK K
  refine norm_ (a' := ?_) ?_ ?_
  rotate_left
  ·show Act.put _ (some 22) _ = _
   simp only [Act.put, List.setIfInBounds_toArray, List.set_cons_zero, List.set_cons_succ, i64_w, i32_w]
   rfl
  refine one_ (i := 5) (N := some 25) #[true, true, true, true, true, true, false] rfl rfl (by kernel_rfl) (by decide) (fun K hK => ?_)
  refine goes_ Try.func22 (by kernel_rfl) rfl #[.agg #[.slice Ao36 t348.length co36, .int .i64 t351, .int .i64 t352, .int .i64 t353], .slice Ao43 t355.length co43] (by rfl) rfl rfl (by (try simp only [List.map_toArray, List.map_cons, List.map_nil]); first | done | rfl | (simp only [List.length_drop, List.length_take]; rfl)) ?_
  with_reducible refine (thresherref19_May.calls k _ _ t348 t351 t352 t353 _ _ t355 t362 _ ?side1 ?side2 ?side3 ?side4 A9.out).mono ?_
  (case side1 => repeat (first | exact (Kd.R_reads' HO350.out).2.2 | (with_reducible refine Kd.C_alloc ?_ _) | (with_reducible refine Kd.C_drewN ?_ _) | (with_reducible refine Kd.C_drew ?_)))
  (case side2 => exact (Kd.R_reads' HO350.out).2.1)
  (case side3 => repeat (first | exact (Kd.R_reads' HO357.out).2.2 | (with_reducible refine Kd.C_alloc ?_ _) | (with_reducible refine Kd.C_drewN ?_ _) | (with_reducible refine Kd.C_drew ?_)))
  (case side4 => exact (Kd.R_reads' HO357.out).2.1)
  rintro e w45 ⟨rfl, hb⟩
  refine ⟨_, rfl, ?_⟩
  have n0_ := Aside0.mk (Kd.R_below (by (with_reducible repeat (first | apply Kd.R_alloc | apply Kd.R_drewN | apply Kd.R_drew)); exact HO350.out) hb)
  have n1_ := Aside0.mk (Kd.R_below (by (with_reducible repeat (first | apply Kd.R_alloc | apply Kd.R_drewN | apply Kd.R_drew)); exact HO357.out) hb)
  have n2_ := Aside0.mk (Kd.N_below (by (with_reducible repeat (first | apply Kd.N_alloc | apply Kd.N_drewN | apply Kd.N_drew)); exact HO360.out) hb)
  have n3_ := Aside0.mk (blk_below (g := gb346) (o := .cells #[.int .u8 a0_0, .int .u8 a0_1, .int .u8 a0_2, .int .u8 a0_3, .int .u8 a0_4, .int .u8 a0_5, .int .u8 a0_6, .int .u8 a0_7, .int .u8 a0_8, .int .u8 a0_9, .int .u8 a0_10, .int .u8 a0_11] 24 (0, 0)) (by (with_reducible repeat (first | refine blk_drewN ?_ _ | refine blk_drew ?_ | refine blk_alloc ?_ _)); exact BK346.out) hb)
  have n4_ := Aside0.mk (blk_below (g := gb354) (o := .cells #[.slice Ao36 t348.length co36, .int .i64 t351, .int .i64 t352, .int .i64 t353] 32 (0, 0)) (by (with_reducible repeat (first | refine blk_drewN ?_ _ | refine blk_drew ?_ | refine blk_alloc ?_ _)); exact BK354.out) hb)
  have n5_ := Aside0.mk (below_step (by repeat (first | (with_reducible first | exact HB.out | apply below_alloc | apply pw_below_drewN | apply below_drew1 | refine below_set ?_ GE346.out | refine below_set ?_ GE354.out) | exact HB.out)) hb)
  clear HO350
  clear HO357
  clear HO360
  clear BK346
  clear BK354
  clear HB
  have HO350 := n0_
  have HO357 := n1_
  have HO360 := n2_
  have BK346 := n3_
  have BK354 := n4_
  have HB := n5_
  clear n0_ n1_ n2_ n3_ n4_ n5_
  (try clear hb)
  (try clear hb2)
  (try clear hk)
  (try clear hi)
  refine hK.out _ _ ⟨(blk_cell BK354.out 0).trans rfl, (blk_cell BK354.out 1).trans rfl, (blk_cell BK354.out 2).trans rfl, (blk_cell BK354.out 3).trans rfl⟩ (fun hHeld => ?_)
  clear hK K
  refine norm_ (a' := ?_) ?_ ?_
  rotate_left
  ·show Act.put _ (some 25) _ = _
   simp only [Act.put, List.setIfInBounds_toArray, List.set_cons_zero, List.set_cons_succ, i64_w, i32_w]
   rfl
  refine pure_ (i := 6) (N := some 26) (v := ?_) (a' := ?_) #[true, true, true, true, true, true, true] rfl rfl (by kernel_rfl) (fun _ _ _ h => h) (Or.inl ⟨by rfl, ?_⟩) ?_ ?_
  rotate_left; (intro w'; go_simp; with_reducible rfl); rotate_left; (simp only [Act.put, List.setIfInBounds_toArray, List.set_cons_zero, List.set_cons_succ, i64_w, i32_w]; rfl)
  refine done_ (by kernel_rfl) ?_
  have hcz46_0 : w45.cell? ⟨gb354, 0, none⟩ = some (.slice Ao36 t348.length co36) := (blk_cell BK354.out 0).trans rfl
  have hcz46_1 : w45.cell? ⟨gb354, 1, none⟩ = some (.int .i64 t351) := (blk_cell BK354.out 1).trans rfl
  have hcz46_2 : w45.cell? ⟨gb354, 2, none⟩ = some (.int .i64 t352) := (blk_cell BK354.out 2).trans rfl
  have hcz46_3 : w45.cell? ⟨gb354, 3, none⟩ = some (.int .i64 t353) := (blk_cell BK354.out 3).trans rfl
  have hfz46_0 := blk_frozen BK354.out 0
  have hfz46_1 := blk_frozen BK354.out 1
  have hfz46_2 := blk_frozen BK354.out 2
  have hfz46_3 := blk_frozen BK354.out 3
  try go_wp2_with (first | ((with_reducible refine gate_callee (f := 10) rfl ?_); refine goesL_ (some 29) rfl rfl Try.func10 (by kernel_rfl) rfl #[.agg #[.slice Ao36 t348.length co36, .int .i64 t351, .int .i64 t352, .int .i64 t353], .slice Ao43 t355.length co43, .int .i64 16] rfl (by (try simp only [List.map_toArray, List.map_cons, List.map_nil]); first | done | rfl | (simp only [List.length_drop, List.length_take]; rfl)) ?_; (with_reducible refine (thresherref19_Fit.calls k _ _ t348 t351 t352 t353 _ _ t355 16 t363 _ ?side1 ?side2 ?side3 ?side4 A26.out).mono ?_); (case side1 => repeat (first | exact (Kd.R_reads' HO350.out).2.2 | (with_reducible refine Kd.C_alloc ?_ _) | (with_reducible refine Kd.C_drewN ?_ _) | (with_reducible refine Kd.C_drew ?_))); (case side2 => exact (Kd.R_reads' HO350.out).2.1); (case side3 => repeat (first | exact (Kd.R_reads' HO357.out).2.2 | (with_reducible refine Kd.C_alloc ?_ _) | (with_reducible refine Kd.C_drewN ?_ _) | (with_reducible refine Kd.C_drew ?_))); (case side4 => exact (Kd.R_reads' HO357.out).2.1); rintro e w47 ⟨v364, rfl, ho0, hb⟩; refine ⟨_, rfl, ?_⟩; have n0_ := Aside0.mk (Kd.R_below (by (with_reducible repeat (first | apply Kd.R_alloc | apply Kd.R_drewN | apply Kd.R_drew)); exact HO350.out) hb); have n1_ := Aside0.mk (Kd.R_elder' (by (with_reducible repeat (first | apply Kd.R_alloc | apply Kd.R_drewN | apply Kd.R_drew)); exact HO357.out) (Kd.R_base ho0) hb); have n2_ := Aside0.mk (Kd.N_elder' (by (with_reducible repeat (first | apply Kd.N_alloc | apply Kd.N_drewN | apply Kd.N_drew)); exact HO360.out) (Kd.R_base ho0) hb); have n3_ := Aside0.mk (Kd.R_lower (Kd.R_new' ho0 (Kd.R_lt (by (with_reducible repeat (first | apply Kd.R_alloc | apply Kd.R_drewN | apply Kd.R_drew)); exact HO357.out))) (below_size (by repeat (first | (with_reducible first | exact HB.out | apply below_alloc | apply pw_below_drewN | apply below_drew1 | refine below_set ?_ GE346.out | refine below_set ?_ GE354.out) | exact HB.out)))); have n4_ := Aside0.mk (blk_below (g := gb346) (o := .cells #[.int .u8 a0_0, .int .u8 a0_1, .int .u8 a0_2, .int .u8 a0_3, .int .u8 a0_4, .int .u8 a0_5, .int .u8 a0_6, .int .u8 a0_7, .int .u8 a0_8, .int .u8 a0_9, .int .u8 a0_10, .int .u8 a0_11] 24 (0, 0)) (by (with_reducible repeat (first | refine blk_drewN ?_ _ | refine blk_drew ?_ | refine blk_alloc ?_ _)); exact BK346.out) hb); have n5_ := Aside0.mk (blk_below (g := gb354) (o := .cells #[.slice Ao36 t348.length co36, .int .i64 t351, .int .i64 t352, .int .i64 t353] 32 (0, 0)) (by (with_reducible repeat (first | refine blk_drewN ?_ _ | refine blk_drew ?_ | refine blk_alloc ?_ _)); exact BK354.out) hb); have n6_ := Aside0.mk (below_step (by repeat (first | (with_reducible first | exact HB.out | apply below_alloc | apply pw_below_drewN | apply below_drew1 | refine below_set ?_ GE346.out | refine below_set ?_ GE354.out) | exact HB.out)) hb); clear HO350; clear HO357; clear HO360; clear BK346; clear BK354; clear HB; have HO350 := n0_; have HO357 := n1_; have HO360 := n2_; have HO365 := n3_; have BK346 := n4_; have BK354 := n5_; have HB := n6_; clear n0_ n1_ n2_ n3_ n4_ n5_ n6_; (try clear hb); (try clear hb2); (try clear hk); (try clear hi); (try clear ho0)))
  have n0_ := Aside0.mk (Kd.R_drew HO350.out)
  have n1_ := Aside0.mk (Kd.R_drew HO357.out)
  have n2_ := Aside0.mk (Kd.N_drew HO360.out)
  have n3_ := Aside0.mk (Kd.R_drew HO365.out)
  have n4_ := Aside0.mk (blk_drew BK346.out)
  have n5_ := Aside0.mk (blk_drew BK354.out)
  have n6_ := Aside0.mk (below_drew1 HB.out)
  clear HO350
  clear HO357
  clear HO360
  clear HO365
  clear BK346
  clear BK354
  clear HB
  have HO350 := n0_
  have HO357 := n1_
  have HO360 := n2_
  have HO365 := n3_
  have BK346 := n4_
  have BK354 := n5_
  have HB := n6_
  clear n0_ n1_ n2_ n3_ n4_ n5_ n6_
  obtain ⟨Ao49, co49, eo49⟩ := Kd.R_slice HO365.out
  (first | subst eo49 | (injection eo49 with f1_ f2_ f3_; have f4_ := f1_.symm; have f5_ := f3_.symm; clear f1_ f2_ f3_; subst f4_; subst f5_))
  obtain ⟨Ao50, co50, eo50⟩ := Kd.N_slice HO360.out
  (first | subst eo50 | (injection eo50 with f1_ f2_ f3_; have f4_ := f1_.symm; have f5_ := f3_.symm; clear f1_ f2_ f3_; subst f4_; subst f5_))
  refine start_ (n := 10) (S := fun w' => w'.cell? ⟨gb354, 0, none⟩ = some (.slice Ao36 t348.length co36) ∧ w'.cell? ⟨gb354, 1, none⟩ = some (.int .i64 t351) ∧ w'.cell? ⟨gb354, 2, none⟩ = some (.int .i64 t352) ∧ w'.cell? ⟨gb354, 3, none⟩ = some (.int .i64 t353)) (ds := []) #[false, false, false, false, false, false, false, false, false, false] (by kernel_rfl) rfl rfl ⟨(blk_cell BK354.out 0).trans rfl, (blk_cell BK354.out 1).trans rfl, (blk_cell BK354.out 2).trans rfl, (blk_cell BK354.out 3).trans rfl⟩ (fun hHeld => ?_); refine with_tabW thresherlaw19_FilterAll.tab8 thresherlaw19_FilterAll.bits8 (fun HT_ HW_ => ?_)
  generalize w47.drew = w48 at HO350 HO357 HO360 HO365 BK346 BK354 HB hHeld ⊢
  refine pure_ (i := 1) (N := some 31) (v := ?_) (a' := ?_) #[false, true, false, false, false, false, false, false, false, false] rfl rfl (any_of HT_.out (by kernel_rfl)) (fun _ _ _ h => h) (Or.inl ⟨by rfl, ?_⟩) ?_ ?_
  rotate_left; (intro w'; go_simp; with_reducible rfl); rotate_left; (simp only [Act.put, List.setIfInBounds_toArray, List.set_cons_zero, List.set_cons_succ, i64_w, i32_w]; rfl)
  refine pure_ (i := 2) (N := some 32) (v := ?_) (a' := ?_) #[false, true, true, false, false, false, false, false, false, false] rfl rfl (any_of HT_.out (by kernel_rfl)) (fun _ _ _ h => h) (Or.inl ⟨by rfl, ?_⟩) ?_ ?_
  rotate_left; (intro w'; go_simp; with_reducible rfl); rotate_left; (simp only [Act.put, List.setIfInBounds_toArray, List.set_cons_zero, List.set_cons_succ, i64_w, i32_w]; rfl)
  refine pure_ (i := 5) (N := some 35) (v := ?_) (a' := ?_) #[false, true, true, false, false, true, false, false, false, false] rfl rfl (any_of HT_.out (by kernel_rfl)) (fun _ _ _ h => h) (Or.inl ⟨by rfl, ?_⟩) ?_ ?_
  rotate_left; (intro w'; go_simp; with_reducible rfl); rotate_left; (simp only [Act.put, List.setIfInBounds_toArray, List.set_cons_zero, List.set_cons_succ, i64_w, i32_w]; rfl)
  refine pure_ (i := 6) (N := some 36) (v := ?_) (a' := ?_) #[false, true, true, false, false, true, true, false, false, false] rfl rfl (any_of HT_.out (by kernel_rfl)) (fun _ _ _ h => h) (Or.inl ⟨by rfl, ?_⟩) ?_ ?_
  rotate_left; (intro w'; go_simp; with_reducible rfl); rotate_left; (simp only [Act.put, List.setIfInBounds_toArray, List.set_cons_zero, List.set_cons_succ, i64_w, i32_w]; rfl)
  refine take_ (i := 0) (N := some 30) (v := ?_) (a' := ?_) #[true, true, true, false, false, true, true, false, false, false] rfl rfl (take_ofW HT_.out HW_.out (by kernel_rfl)) (fun _ _ _ h => h) (Or.inl ⟨by rfl, ?_⟩) hHeld ?_ ?_
  rotate_left; (rintro w' ⟨s0, s1, s2, s3⟩; go_simp; with_reducible rfl); rotate_left; (simp only [Act.put, List.setIfInBounds_toArray, List.set_cons_zero, List.set_cons_succ, i64_w, i32_w]; rfl)
  refine take_ (i := 4) (N := some 34) (v := ?_) (a' := ?_) #[true, true, true, false, true, true, true, false, false, false] rfl rfl (take_ofW HT_.out HW_.out (by kernel_rfl)) (fun _ _ _ h => h) (Or.inl ⟨by rfl, ?_⟩) hHeld ?_ ?_
  rotate_left; (rintro w' ⟨s0, s1, s2, s3⟩; go_simp; with_reducible rfl); rotate_left; (simp only [Act.put, List.setIfInBounds_toArray, List.set_cons_zero, List.set_cons_succ, i64_w, i32_w]; rfl)
  refine one_ (i := 3) (N := some 33) #[true, true, true, true, true, true, true, false, false, false] rfl rfl (one_of HT_.out (by kernel_rfl)) (by decide) (fun K hK => ?_)
  refine goes_ Try.func15 (by kernel_rfl) rfl #[.agg #[.slice Ao36 t348.length co36, .int .i64 t351, .int .i64 t352, .int .i64 t353], .slice Ao49 t363.length co49, .slice Ao50 t358.length co50] (by rfl) rfl rfl (by (try simp only [List.map_toArray, List.map_cons, List.map_nil]); first | done | rfl | (simp only [List.length_drop, List.length_take]; rfl)) ?_
  with_reducible refine (filter_Keep.calls k _ _ t348 t351 t352 t353 _ _ t363 (fun k_ => ((some k_ ≠ (.slice Ao36 t348.length co36 : Value).ownBlock ∧ (some k_ ≠ (.slice Ao43 t355.length co43 : Value).ownBlock ∧ (k_ ≠ gb346 ∧ k_ ≠ gb354))) ∧ some k_ ≠ (.slice Ao49 t363.length co49 : Value).ownBlock)) _ _ t358 t366 _ ?side1 ?side2 ?side3 ?side4 ?side5 A27.out).mono ?_
  (case side1 => repeat (first | exact (Kd.R_reads' HO350.out).2.2 | (with_reducible refine Kd.C_alloc ?_ _) | (with_reducible refine Kd.C_drewN ?_ _) | (with_reducible refine Kd.C_drew ?_)))
  (case side2 => exact (Kd.R_reads' HO350.out).2.1)
  (case side3 => repeat (first | exact (Kd.R_reads' HO365.out).2.2 | (with_reducible refine Kd.C_alloc ?_ _) | (with_reducible refine Kd.C_drewN ?_ _) | (with_reducible refine Kd.C_drew ?_)))
  (case side4 => exact (Kd.R_reads' HO365.out).2.1)
  (case side5 => exact Kd.N_V (HO360.out))
  rintro e w51 ⟨v367, rfl, ho0, hb⟩
  refine ⟨_, rfl, ?_⟩
  have n0_ := Aside0.mk (Kd.R_below (by (with_reducible repeat (first | apply Kd.R_alloc | apply Kd.R_drewN | apply Kd.R_drew)); exact HO350.out) hb)
  have n1_ := Aside0.mk (Kd.R_below (by (with_reducible repeat (first | apply Kd.R_alloc | apply Kd.R_drewN | apply Kd.R_drew)); exact HO357.out) hb)
  have n2_ := Aside0.mk (Kd.N_elder' (by (with_reducible repeat (first | apply Kd.N_alloc | apply Kd.N_drewN | apply Kd.N_drew)); exact HO360.out) (by first | exact Kd.N_base ho0 | exact Kd.S_base ho0) hb)
  have n3_ := Aside0.mk (Kd.R_below (by (with_reducible repeat (first | apply Kd.R_alloc | apply Kd.R_drewN | apply Kd.R_drew)); exact HO365.out) hb)
  have n4_ := Aside0.mk (Kd.N_lower (Kd.N_mono (ok' := fun k_ => some k_ ≠ (.slice Ao36 t348.length co36 : Value).ownBlock ∧ some k_ ≠ (.slice Ao43 t355.length co43 : Value).ownBlock ∧ some k_ ≠ (.slice Ao49 t363.length co49 : Value).ownBlock ∧ k_ ≠ gb346 ∧ k_ ≠ gb354) ho0 (fun k_ hk_ => ⟨Or.elim hk_ (fun hs_ => hs_.1.1) (fun hn_ => (Kd.fresh' (Kd.R_lt (by (with_reducible repeat (first | apply Kd.R_alloc | apply Kd.R_drewN | apply Kd.R_drew)); exact HO350.out)) k_ hn_)), Or.elim hk_ (fun hs_ => hs_.1.2.1) (fun hn_ => (Kd.fresh' (Kd.R_lt (by (with_reducible repeat (first | apply Kd.R_alloc | apply Kd.R_drewN | apply Kd.R_drew)); exact HO357.out)) k_ hn_)), Or.elim hk_ (fun hs_ => hs_.2) (fun hn_ => (Kd.fresh' (Kd.R_lt (by (with_reducible repeat (first | apply Kd.R_alloc | apply Kd.R_drewN | apply Kd.R_drew)); exact HO365.out)) k_ hn_)), Or.elim hk_ (fun hs_ => hs_.1.2.2.1) (fun hn_ => (Kd.freshB (g := gb346) (o := .cells #[.int .u8 a0_0, .int .u8 a0_1, .int .u8 a0_2, .int .u8 a0_3, .int .u8 a0_4, .int .u8 a0_5, .int .u8 a0_6, .int .u8 a0_7, .int .u8 a0_8, .int .u8 a0_9, .int .u8 a0_10, .int .u8 a0_11] 24 (0, 0)) (by (with_reducible repeat (first | refine blk_drewN ?_ _ | refine blk_drew ?_ | refine blk_alloc ?_ _)); exact BK346.out) k_ hn_)), Or.elim hk_ (fun hs_ => hs_.1.2.2.2) (fun hn_ => (Kd.freshB (g := gb354) (o := .cells #[.slice Ao36 t348.length co36, .int .i64 t351, .int .i64 t352, .int .i64 t353] 32 (0, 0)) (by (with_reducible repeat (first | refine blk_drewN ?_ _ | refine blk_drew ?_ | refine blk_alloc ?_ _)); exact BK354.out) k_ hn_))⟩)) (below_size (by repeat (first | (with_reducible first | exact HB.out | apply below_alloc | apply pw_below_drewN | apply below_drew1 | refine below_set ?_ GE346.out | refine below_set ?_ GE354.out) | exact HB.out))))
  have n5_ := Aside0.mk (blk_below (g := gb346) (o := .cells #[.int .u8 a0_0, .int .u8 a0_1, .int .u8 a0_2, .int .u8 a0_3, .int .u8 a0_4, .int .u8 a0_5, .int .u8 a0_6, .int .u8 a0_7, .int .u8 a0_8, .int .u8 a0_9, .int .u8 a0_10, .int .u8 a0_11] 24 (0, 0)) (by (with_reducible repeat (first | refine blk_drewN ?_ _ | refine blk_drew ?_ | refine blk_alloc ?_ _)); exact BK346.out) hb)
  have n6_ := Aside0.mk (blk_below (g := gb354) (o := .cells #[.slice Ao36 t348.length co36, .int .i64 t351, .int .i64 t352, .int .i64 t353] 32 (0, 0)) (by (with_reducible repeat (first | refine blk_drewN ?_ _ | refine blk_drew ?_ | refine blk_alloc ?_ _)); exact BK354.out) hb)
  have n7_ := Aside0.mk (below_step (by repeat (first | (with_reducible first | exact HB.out | apply below_alloc | apply pw_below_drewN | apply below_drew1 | refine below_set ?_ GE346.out | refine below_set ?_ GE354.out) | exact HB.out)) hb)
  clear HO350
  clear HO357
  clear HO360
  clear HO365
  clear BK346
  clear BK354
  clear HB
  have HO350 := n0_
  have HO357 := n1_
  have HO360 := n2_
  have HO365 := n3_
  have HO368 := n4_
  have BK346 := n5_
  have BK354 := n6_
  have HB := n7_
  clear n0_ n1_ n2_ n3_ n4_ n5_ n6_ n7_
  (try clear hb)
  (try clear hb2)
  (try clear hk)
  (try clear hi)
  (try clear ho0)
  refine hK.out _ _ ⟨(blk_cell BK354.out 0).trans rfl, (blk_cell BK354.out 1).trans rfl, (blk_cell BK354.out 2).trans rfl, (blk_cell BK354.out 3).trans rfl⟩ (fun hHeld => ?_)
  clear hK K
  refine norm_ (a' := ?_) ?_ ?_
  rotate_left
  ·show Act.put _ (some 33) _ = _
   simp only [Act.put, List.setIfInBounds_toArray, List.set_cons_zero, List.set_cons_succ, i64_w, i32_w]
   rfl
  refine one_ (i := 7) (N := some 37) #[true, true, true, true, true, true, true, true, false, false] rfl rfl (one_of HT_.out (by kernel_rfl)) (by decide) (fun K hK => ?_)
  refine goes_ Try.func23 (by kernel_rfl) rfl #[.agg #[.slice Ao36 t348.length co36, .int .i64 t351, .int .i64 t352, .int .i64 t353], .slice Ao49 t363.length co49, .slice Ao50 t358.length co50] (by rfl) rfl rfl (by (try simp only [List.map_toArray, List.map_cons, List.map_nil]); first | done | rfl | (simp only [List.length_drop, List.length_take]; rfl)) ?_
  with_reducible refine (thresherref19_Keep.calls k _ _ t348 t351 t352 t353 _ _ t363 (fun k_ => (((some k_ ≠ (.slice Ao36 t348.length co36 : Value).ownBlock ∧ (some k_ ≠ (.slice Ao43 t355.length co43 : Value).ownBlock ∧ (k_ ≠ gb346 ∧ k_ ≠ gb354))) ∧ some k_ ≠ (.slice Ao49 t363.length co49 : Value).ownBlock) ∧ some k_ ≠ (v367 : Value).ownBlock)) _ _ t358 t369 _ ?side1 ?side2 ?side3 ?side4 ?side5 A28.out).mono ?_
  (case side1 => repeat (first | exact (Kd.R_reads' HO350.out).2.2 | (with_reducible refine Kd.C_alloc ?_ _) | (with_reducible refine Kd.C_drewN ?_ _) | (with_reducible refine Kd.C_drew ?_)))
  (case side2 => exact (Kd.R_reads' HO350.out).2.1)
  (case side3 => repeat (first | exact (Kd.R_reads' HO365.out).2.2 | (with_reducible refine Kd.C_alloc ?_ _) | (with_reducible refine Kd.C_drewN ?_ _) | (with_reducible refine Kd.C_drew ?_)))
  (case side4 => exact (Kd.R_reads' HO365.out).2.1)
  (case side5 => exact Kd.N_V (HO360.out))
  rintro e w52 ⟨v370, rfl, ho0, hb⟩
  refine ⟨_, rfl, ?_⟩
  have n0_ := Aside0.mk (Kd.R_below (by (with_reducible repeat (first | apply Kd.R_alloc | apply Kd.R_drewN | apply Kd.R_drew)); exact HO350.out) hb)
  have n1_ := Aside0.mk (Kd.R_below (by (with_reducible repeat (first | apply Kd.R_alloc | apply Kd.R_drewN | apply Kd.R_drew)); exact HO357.out) hb)
  have n2_ := Aside0.mk (Kd.N_elder' (by (with_reducible repeat (first | apply Kd.N_alloc | apply Kd.N_drewN | apply Kd.N_drew)); exact HO360.out) (by first | exact Kd.N_base ho0 | exact Kd.S_base ho0) hb)
  have n3_ := Aside0.mk (Kd.R_below (by (with_reducible repeat (first | apply Kd.R_alloc | apply Kd.R_drewN | apply Kd.R_drew)); exact HO365.out) hb)
  have n4_ := Aside0.mk (Kd.N_elder' (by (with_reducible repeat (first | apply Kd.N_alloc | apply Kd.N_drewN | apply Kd.N_drew)); exact HO368.out) (by first | exact Kd.N_base ho0 | exact Kd.S_base ho0) hb)
  have n5_ := Aside0.mk (Kd.N_lower (Kd.N_mono (ok' := fun k_ => some k_ ≠ (.slice Ao36 t348.length co36 : Value).ownBlock ∧ some k_ ≠ (.slice Ao43 t355.length co43 : Value).ownBlock ∧ some k_ ≠ (.slice Ao49 t363.length co49 : Value).ownBlock ∧ some k_ ≠ (v367 : Value).ownBlock ∧ k_ ≠ gb346 ∧ k_ ≠ gb354) ho0 (fun k_ hk_ => ⟨Or.elim hk_ (fun hs_ => hs_.1.1.1) (fun hn_ => (Kd.fresh' (Kd.R_lt (by (with_reducible repeat (first | apply Kd.R_alloc | apply Kd.R_drewN | apply Kd.R_drew)); exact HO350.out)) k_ hn_)), Or.elim hk_ (fun hs_ => hs_.1.1.2.1) (fun hn_ => (Kd.fresh' (Kd.R_lt (by (with_reducible repeat (first | apply Kd.R_alloc | apply Kd.R_drewN | apply Kd.R_drew)); exact HO357.out)) k_ hn_)), Or.elim hk_ (fun hs_ => hs_.1.2) (fun hn_ => (Kd.fresh' (Kd.R_lt (by (with_reducible repeat (first | apply Kd.R_alloc | apply Kd.R_drewN | apply Kd.R_drew)); exact HO365.out)) k_ hn_)), Or.elim hk_ (fun hs_ => hs_.2) (fun hn_ => (Kd.fresh' (Kd.N_lt (by (with_reducible repeat (first | apply Kd.N_alloc | apply Kd.N_drewN | apply Kd.N_drew)); exact HO368.out)) k_ hn_)), Or.elim hk_ (fun hs_ => hs_.1.1.2.2.1) (fun hn_ => (Kd.freshB (g := gb346) (o := .cells #[.int .u8 a0_0, .int .u8 a0_1, .int .u8 a0_2, .int .u8 a0_3, .int .u8 a0_4, .int .u8 a0_5, .int .u8 a0_6, .int .u8 a0_7, .int .u8 a0_8, .int .u8 a0_9, .int .u8 a0_10, .int .u8 a0_11] 24 (0, 0)) (by (with_reducible repeat (first | refine blk_drewN ?_ _ | refine blk_drew ?_ | refine blk_alloc ?_ _)); exact BK346.out) k_ hn_)), Or.elim hk_ (fun hs_ => hs_.1.1.2.2.2) (fun hn_ => (Kd.freshB (g := gb354) (o := .cells #[.slice Ao36 t348.length co36, .int .i64 t351, .int .i64 t352, .int .i64 t353] 32 (0, 0)) (by (with_reducible repeat (first | refine blk_drewN ?_ _ | refine blk_drew ?_ | refine blk_alloc ?_ _)); exact BK354.out) k_ hn_))⟩)) (below_size (by repeat (first | (with_reducible first | exact HB.out | apply below_alloc | apply pw_below_drewN | apply below_drew1 | refine below_set ?_ GE346.out | refine below_set ?_ GE354.out) | exact HB.out))))
  have n6_ := Aside0.mk (blk_below (g := gb346) (o := .cells #[.int .u8 a0_0, .int .u8 a0_1, .int .u8 a0_2, .int .u8 a0_3, .int .u8 a0_4, .int .u8 a0_5, .int .u8 a0_6, .int .u8 a0_7, .int .u8 a0_8, .int .u8 a0_9, .int .u8 a0_10, .int .u8 a0_11] 24 (0, 0)) (by (with_reducible repeat (first | refine blk_drewN ?_ _ | refine blk_drew ?_ | refine blk_alloc ?_ _)); exact BK346.out) hb)
  have n7_ := Aside0.mk (blk_below (g := gb354) (o := .cells #[.slice Ao36 t348.length co36, .int .i64 t351, .int .i64 t352, .int .i64 t353] 32 (0, 0)) (by (with_reducible repeat (first | refine blk_drewN ?_ _ | refine blk_drew ?_ | refine blk_alloc ?_ _)); exact BK354.out) hb)
  have n8_ := Aside0.mk (below_step (by repeat (first | (with_reducible first | exact HB.out | apply below_alloc | apply pw_below_drewN | apply below_drew1 | refine below_set ?_ GE346.out | refine below_set ?_ GE354.out) | exact HB.out)) hb)
  clear HO350
  clear HO357
  clear HO360
  clear HO365
  clear HO368
  clear BK346
  clear BK354
  clear HB
  have HO350 := n0_
  have HO357 := n1_
  have HO360 := n2_
  have HO365 := n3_
  have HO368 := n4_
  have HO371 := n5_
  have BK346 := n6_
  have BK354 := n7_
  have HB := n8_
  clear n0_ n1_ n2_ n3_ n4_ n5_ n6_ n7_ n8_
  (try clear hb)
  (try clear hb2)
  (try clear hk)
  (try clear hi)
  (try clear ho0)
  obtain ⟨Ao53, co53, eo53⟩ := Kd.N_slice HO368.out
  (first | subst eo53 | (injection eo53 with f1_ f2_ f3_; have f4_ := f1_.symm; have f5_ := f3_.symm; clear f1_ f2_ f3_; subst f4_; subst f5_))
  obtain ⟨Ao54, co54, eo54⟩ := Kd.N_slice HO371.out
  (first | subst eo54 | (injection eo54 with f1_ f2_ f3_; have f4_ := f1_.symm; have f5_ := f3_.symm; clear f1_ f2_ f3_; subst f4_; subst f5_))
  refine hK.out _ _ ⟨(blk_cell BK354.out 0).trans rfl, (blk_cell BK354.out 1).trans rfl, (blk_cell BK354.out 2).trans rfl, (blk_cell BK354.out 3).trans rfl⟩ (fun hHeld => ?_)
  clear hK K
  refine norm_ (a' := ?_) ?_ ?_
  rotate_left
  ·show Act.put _ (some 37) _ = _
   simp only [Act.put, List.setIfInBounds_toArray, List.set_cons_zero, List.set_cons_succ, i64_w, i32_w]
   rfl
  refine one_ (i := 8) (N := some 38) #[true, true, true, true, true, true, true, true, true, false] rfl rfl (one_of HT_.out (by kernel_rfl)) (by decide) (fun K hK => ?_)
  refine goes_ Try.func17 (by kernel_rfl) rfl #[.slice Ao53 t366.length co53, .slice Ao54 t369.length co54] (by rfl) rfl rfl (by (try simp only [List.map_toArray, List.map_cons, List.map_nil]); first | done | rfl | (simp only [List.length_drop, List.length_take]; rfl)) ?_
  with_reducible refine (thresherref04_Rows.calls k _ _ t366 _ _ t369 t372 _ ?side1 ?side2 ?side3 ?side4 A29.out).mono ?_
  (case side1 => repeat (first | exact (Kd.N_reads' HO368.out).2.2 | (with_reducible refine Kd.C_alloc ?_ _) | (with_reducible refine Kd.C_drewN ?_ _) | (with_reducible refine Kd.C_drew ?_)))
  (case side2 => exact (Kd.N_reads' HO368.out).2.1)
  (case side3 => repeat (first | exact (Kd.N_reads' HO371.out).2.2 | (with_reducible refine Kd.C_alloc ?_ _) | (with_reducible refine Kd.C_drewN ?_ _) | (with_reducible refine Kd.C_drew ?_)))
  (case side4 => exact (Kd.N_reads' HO371.out).2.1)
  rintro e w' ⟨rfl, ⟨nd, rfl⟩⟩
  refine ⟨_, rfl, ?_⟩
  refine hK.out _ _ ⟨(blk_cell BK354.out 0).trans rfl, (blk_cell BK354.out 1).trans rfl, (blk_cell BK354.out 2).trans rfl, (blk_cell BK354.out 3).trans rfl⟩ (fun hHeld => ?_)
  clear hK K
  refine norm_ (a' := ?_) ?_ ?_
  rotate_left
  ·show Act.put _ (some 38) _ = _
   simp only [Act.put, List.setIfInBounds_toArray, List.set_cons_zero, List.set_cons_succ, i64_w, i32_w]
   rfl
  refine pure_ (i := 9) (N := some 11) (v := ?_) (a' := ?_) #[true, true, true, true, true, true, true, true, true, true] rfl rfl (any_of HT_.out (by kernel_rfl)) (fun _ _ _ h => h) (Or.inl ⟨by rfl, ?_⟩) ?_ ?_
  rotate_left; (intro w'; go_simp; with_reducible rfl); rotate_left; (simp only [Act.put, List.setIfInBounds_toArray, List.set_cons_zero, List.set_cons_succ, i64_w, i32_w]; rfl)
  refine done_ (done_of HT_.out (by kernel_rfl)) ?_
  (try clear hHeld)
  go_upto_region 9 with (fail)
  go_cut [6] (fun v6 wc => ∃ (kq : Nat) (x6_29 : Bool), v6 = .bool x6_29 ∧ Aside0 (thresherlaw19_FilterAll.j0 kq x6_29 = some r) ∧ Aside0 (kq ≤ k) ∧ Aside0 (Kd.R (Kd.int .i64) 3 wc w.heap.size (fun _ => True) (.slice Ao36 t348.length co36) t348) ∧ Aside0 (wc.heap[gb346]? = some (.cells #[.int .u8 a0_0, .int .u8 a0_1, .int .u8 a0_2, .int .u8 a0_3, .int .u8 a0_4, .int .u8 a0_5, .int .u8 a0_6, .int .u8 a0_7, .int .u8 a0_8, .int .u8 a0_9, .int .u8 a0_10, .int .u8 a0_11] 24 (0, 0))) ∧ Aside0 (wc.heap[gb354]? = some (.cells #[(.slice Ao36 t348.length co36), .int .i64 t351, .int .i64 t352, .int .i64 t353] 32 (0, 0))) ∧ Aside0 (Below w.heap.size w wc))
  case first =>
   have H := HC30.out
   clear HC30
   by_cases c55 : t347 = true
   ·subst c55
    have H1 : (if t372 = true then ((filter_May.f k t348 t351 t352 t353 t363).bind fun t373 => (thresherlaw19_FilterAll.j0 k t373)) else (thresherlaw19_FilterAll.j0 k false)) = some r := by rw [if_pos rfl] at H; exact H
    clear H
    have H := H1
    clear H1
    by_cases c56 : t372 = true
    ·subst c56
     have H1 : ((filter_May.f k t348 t351 t352 t353 t363).bind fun t373 => (thresherlaw19_FilterAll.j0 k t373)) = some r := by rw [if_pos rfl] at H; exact H
     clear H
     have H := H1
     clear H1
     replace H := Option.bind_eq_some_iff.mp H
     obtain ⟨t373, A570, H⟩ := H
     replace H : (thresherlaw19_FilterAll.j0 k t373) = some r := H
     have A57 := Aside0.mk A570
     clear A570
     have H' := Aside0.mk H
     clear H
     have hnb58 := NB354_346.out
     have hnc58 := NB346_354.out
     have hcz59_0 : w52.cell? ⟨gb354, 0, none⟩ = some (.slice Ao36 t348.length co36) := (blk_cell BK354.out 0).trans rfl
     have hcz59_1 : w52.cell? ⟨gb354, 1, none⟩ = some (.int .i64 t351) := (blk_cell BK354.out 1).trans rfl
     have hcz59_2 : w52.cell? ⟨gb354, 2, none⟩ = some (.int .i64 t352) := (blk_cell BK354.out 2).trans rfl
     have hcz59_3 : w52.cell? ⟨gb354, 3, none⟩ = some (.int .i64 t353) := (blk_cell BK354.out 3).trans rfl
     have hfz59_0 := blk_frozen BK354.out 0
     have hfz59_1 := blk_frozen BK354.out 1
     have hfz59_2 := blk_frozen BK354.out 2
     have hfz59_3 := blk_frozen BK354.out 3
     go_wp2_with (first | (go_at_call 20; (with_reducible refine (filter_May.calls k _ _ t348 t351 t352 t353 _ _ t363 t373 _ ?side1 ?side2 ?side3 ?side4 A57.out).mono ?_); (case side1 => repeat (first | exact (Kd.R_reads' HO350.out).2.2 | (with_reducible refine Kd.C_alloc ?_ _) | (with_reducible refine Kd.C_drewN ?_ _) | (with_reducible refine Kd.C_drew ?_))); (case side2 => exact (Kd.R_reads' HO350.out).2.1); (case side3 => repeat (first | exact (Kd.R_reads' HO365.out).2.2 | (with_reducible refine Kd.C_alloc ?_ _) | (with_reducible refine Kd.C_drewN ?_ _) | (with_reducible refine Kd.C_drew ?_))); (case side4 => exact (Kd.R_reads' HO365.out).2.1); rintro e w60 ⟨rfl, hb⟩; have n0_ := Aside0.mk (Kd.R_below (by (with_reducible repeat (first | apply Kd.R_alloc | apply Kd.R_drewN | apply Kd.R_drew)); exact HO350.out) hb); have n1_ := Aside0.mk (Kd.R_below (by (with_reducible repeat (first | apply Kd.R_alloc | apply Kd.R_drewN | apply Kd.R_drew)); exact HO357.out) hb); have n2_ := Aside0.mk (Kd.N_below (by (with_reducible repeat (first | apply Kd.N_alloc | apply Kd.N_drewN | apply Kd.N_drew)); exact HO360.out) hb); have n3_ := Aside0.mk (Kd.R_below (by (with_reducible repeat (first | apply Kd.R_alloc | apply Kd.R_drewN | apply Kd.R_drew)); exact HO365.out) hb); have n4_ := Aside0.mk (Kd.N_below (by (with_reducible repeat (first | apply Kd.N_alloc | apply Kd.N_drewN | apply Kd.N_drew)); exact HO368.out) hb); have n5_ := Aside0.mk (Kd.N_below (by (with_reducible repeat (first | apply Kd.N_alloc | apply Kd.N_drewN | apply Kd.N_drew)); exact HO371.out) hb); have n6_ := Aside0.mk (blk_below (g := gb346) (o := .cells #[.int .u8 a0_0, .int .u8 a0_1, .int .u8 a0_2, .int .u8 a0_3, .int .u8 a0_4, .int .u8 a0_5, .int .u8 a0_6, .int .u8 a0_7, .int .u8 a0_8, .int .u8 a0_9, .int .u8 a0_10, .int .u8 a0_11] 24 (0, 0)) (by (with_reducible repeat (first | refine blk_drewN ?_ _ | refine blk_drew ?_ | refine blk_alloc ?_ _)); exact BK346.out) hb); have n7_ := Aside0.mk (blk_below (g := gb354) (o := .cells #[.slice Ao36 t348.length co36, .int .i64 t351, .int .i64 t352, .int .i64 t353] 32 (0, 0)) (by (with_reducible repeat (first | refine blk_drewN ?_ _ | refine blk_drew ?_ | refine blk_alloc ?_ _)); exact BK354.out) hb); have n8_ := Aside0.mk (below_step (by repeat (first | (with_reducible first | exact HB.out | apply below_alloc | apply pw_below_drewN | apply below_drew1 | refine below_set ?_ GE346.out | refine below_set ?_ GE354.out) | exact HB.out)) hb); clear HO350; clear HO357; clear HO360; clear HO365; clear HO368; clear HO371; clear BK346; clear BK354; clear HB; have HO350 := n0_; have HO357 := n1_; have HO360 := n2_; have HO365 := n3_; have HO368 := n4_; have HO371 := n5_; have BK346 := n6_; have BK354 := n7_; have HB := n8_; clear n0_ n1_ n2_ n3_ n4_ n5_ n6_ n7_ n8_; (try clear hb); (try clear hb2); (try clear hk); (try clear hi)))
     go_meet
     case rel => exact ⟨_, (t373), (by first | rfl | (simp; done) | (simp [*]; done)), (by first | exact H' | (subst_vars; exact H')), ⟨by first | omega | exact Nat.le_refl _⟩, ⟨by (with_reducible repeat (first | apply Kd.R_alloc | apply Kd.R_drewN | apply Kd.R_drew)); exact HO350.out⟩, ⟨by (with_reducible repeat (first | refine blk_drewN ?_ _ | refine blk_drew ?_ | refine blk_alloc ?_ _)); exact BK346.out⟩, ⟨by (with_reducible repeat (first | refine blk_drewN ?_ _ | refine blk_drew ?_ | refine blk_alloc ?_ _)); exact BK354.out⟩, ⟨by repeat (first | (with_reducible first | exact HB.out | apply below_alloc | apply pw_below_drewN | apply below_drew1 | refine below_set ?_ GE346.out | refine below_set ?_ GE354.out) | exact HB.out)⟩⟩
    ·replace c56 := Bool.eq_false_iff.mpr c56
     subst c56
     have H1 : (thresherlaw19_FilterAll.j0 k false) = some r := by rw [if_neg (show ¬ (false = true) by decide)] at H; exact H
     clear H
     have H := H1
     clear H1
     have H' := Aside0.mk H
     clear H
     go_wp2
     go_meet
     case rel => exact ⟨_, (false), (by first | rfl | (simp; done) | (simp [*]; done)), (by first | exact H' | (subst_vars; exact H')), ⟨by first | omega | exact Nat.le_refl _⟩, ⟨by (with_reducible repeat (first | apply Kd.R_alloc | apply Kd.R_drewN | apply Kd.R_drew)); exact HO350.out⟩, ⟨by (with_reducible repeat (first | refine blk_drewN ?_ _ | refine blk_drew ?_ | refine blk_alloc ?_ _)); exact BK346.out⟩, ⟨by (with_reducible repeat (first | refine blk_drewN ?_ _ | refine blk_drew ?_ | refine blk_alloc ?_ _)); exact BK354.out⟩, ⟨by repeat (first | (with_reducible first | exact HB.out | apply below_alloc | apply pw_below_drewN | apply below_drew1 | refine below_set ?_ GE346.out | refine below_set ?_ GE354.out) | exact HB.out)⟩⟩
   ·replace c55 := Bool.eq_false_iff.mpr c55
    subst c55
    have H1 : (thresherlaw19_FilterAll.j0 k false) = some r := by rw [if_neg (show ¬ (false = true) by decide)] at H; exact H
    clear H
    have H := H1
    clear H1
    have H' := Aside0.mk H
    clear H
    go_wp2
    go_meet
    case rel => exact ⟨_, (false), (by first | rfl | (simp; done) | (simp [*]; done)), (by first | exact H' | (subst_vars; exact H')), ⟨by first | omega | exact Nat.le_refl _⟩, ⟨by (with_reducible repeat (first | apply Kd.R_alloc | apply Kd.R_drewN | apply Kd.R_drew)); exact HO350.out⟩, ⟨by (with_reducible repeat (first | refine blk_drewN ?_ _ | refine blk_drew ?_ | refine blk_alloc ?_ _)); exact BK346.out⟩, ⟨by (with_reducible repeat (first | refine blk_drewN ?_ _ | refine blk_drew ?_ | refine blk_alloc ?_ _)); exact BK354.out⟩, ⟨by repeat (first | (with_reducible first | exact HB.out | apply below_alloc | apply pw_below_drewN | apply below_drew1 | refine below_set ?_ GE346.out | refine below_set ?_ GE354.out) | exact HB.out)⟩⟩
  case rest =>
   clear HC30
   try clear c1
   try clear c2
   try clear p2
   try clear c3
   try clear c5
   try clear c6
   try clear c8
   try clear c9
   try clear c10
   try clear c10b0
   try clear c10b1
   try clear c10b2
   try clear c11
   try clear c15
   try clear c17
   try clear c20
   try clear c21
   try clear c22
   try clear c23
   try clear c37
   try clear c55
   try clear c56
   try clear c58
   try clear hcz13_0
   try clear hcz13_1
   try clear hcz13_10
   try clear hcz13_11
   try clear hcz13_2
   try clear hcz13_3
   try clear hcz13_4
   try clear hcz13_5
   try clear hcz13_6
   try clear hcz13_7
   try clear hcz13_8
   try clear hcz13_9
   try clear hcz18_0
   try clear hcz18_1
   try clear hcz18_2
   try clear hcz18_3
   try clear hcz20_0
   try clear hcz20_1
   try clear hcz20_2
   try clear hcz20_3
   try clear hcz33_0
   try clear hcz33_1
   try clear hcz33_10
   try clear hcz33_11
   try clear hcz33_2
   try clear hcz33_3
   try clear hcz33_4
   try clear hcz33_5
   try clear hcz33_6
   try clear hcz33_7
   try clear hcz33_8
   try clear hcz33_9
   try clear hcz38_0
   try clear hcz38_1
   try clear hcz38_2
   try clear hcz38_3
   try clear hcz40_0
   try clear hcz40_1
   try clear hcz40_2
   try clear hcz40_3
   try clear hcz46_0
   try clear hcz46_1
   try clear hcz46_2
   try clear hcz46_3
   try clear hcz59_0
   try clear hcz59_1
   try clear hcz59_2
   try clear hcz59_3
   try clear hfz13_0
   try clear hfz13_1
   try clear hfz13_10
   try clear hfz13_11
   try clear hfz13_2
   try clear hfz13_3
   try clear hfz13_4
   try clear hfz13_5
   try clear hfz13_6
   try clear hfz13_7
   try clear hfz13_8
   try clear hfz13_9
   try clear hfz18_0
   try clear hfz18_1
   try clear hfz18_2
   try clear hfz18_3
   try clear hfz20_0
   try clear hfz20_1
   try clear hfz20_2
   try clear hfz20_3
   try clear hfz33_0
   try clear hfz33_1
   try clear hfz33_10
   try clear hfz33_11
   try clear hfz33_2
   try clear hfz33_3
   try clear hfz33_4
   try clear hfz33_5
   try clear hfz33_6
   try clear hfz33_7
   try clear hfz33_8
   try clear hfz33_9
   try clear hfz38_0
   try clear hfz38_1
   try clear hfz38_2
   try clear hfz38_3
   try clear hfz40_0
   try clear hfz40_1
   try clear hfz40_2
   try clear hfz40_3
   try clear hfz46_0
   try clear hfz46_1
   try clear hfz46_2
   try clear hfz46_3
   try clear hfz59_0
   try clear hfz59_1
   try clear hfz59_2
   try clear hfz59_3
   obtain ⟨kq, x6_29, rfl, HA, HJ29, HO_355000, BK346, BK354, HB⟩ := hcut
   cases kq with
   | zero => exact absurd HA.out (by simp [thresherlaw19_FilterAll.j0])
   | succ kj29 =>
    have H := HA.out
    clear HA
    simp only [thresherlaw19_FilterAll.j0] at H
    obtain rfl := Option.some.inj H
    go_wp2
    go_ret
    exact ⟨by first | rfl | (simp [errW_none, errW_some] <;> rfl) | (simp [*, errW_none, errW_some] <;> rfl), by repeat (first | (with_reducible first | exact HB.out | apply below_alloc | apply pw_below_drewN | apply below_drew1 | refine below_set ?_ GE346.out | refine below_set ?_ GE354.out) | exact HB.out)⟩

end Go.Proofs.Ytbkpifcjgedjaaa.P

