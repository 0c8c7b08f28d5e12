/- Texts of AggParts. Merged: Px14. -/
import Derived.Test.YtapaldcdoahfeaaQAggPartsPx0
import Derived.Test.YtapaldcdoahfeaaQAggPartsPx5
import Derived.Test.YtapaldcdoahfeaaQAggPartsPx6
import Derived.Test.YtapaldcdoahfeaaQAggPartsPx10
import Derived.Test.YtapaldcdoahfeaaQAggPartsPx12
import Derived.Test.YtapaldcdoahfeaaQAggPartsHAggD
import Derived.Test.YtapaldcdoahfeaaQAggPartsHAggE
-- Written by wip/tools/myprint.py over the kit's print (a program's print; Lean checks it).
namespace Go.Proofs.Ytapaldcdoahfeaa.P
open Go.RowKit Go.Proofs.YtapaldcdoahfeaaW.PrintWords Go.Proofs.YtapaldcdoahfeaaW.PrintLast Go.Proofs.YtapaldcdoahfeaaW.PrintMore
attribute [local go_sem] max2_int min2_int max_two min_two max_three min_three max_four min_four   -- for this text's walks alone
set_option linter.unusedVariables false
set_option linter.unusedSimpArgs false

/-! ### thresherlaw20_AggParts: function 5 -/
def thresherlaw20_AggParts.j0 : Nat → Bool → Option (Bool)
 | 0, _ => none
 | k + 1, x6 => some x6
def thresherlaw20_AggParts.f (k : Nat) (a0_0 : Int) (a0_1 : Int) (a0_2 : Int) (a0_3 : Int) (a0_4 : Int) (a0_5 : Int) (a0_6 : Int) (a0_7 : Int) (a0_8 : Int) (a0_9 : Int) (a0_10 : Int) (a0_11 : Int) (l1 : List (S33)) (l2_0 : List (List (S40))) (a2_1 : Int) : Option (Bool) := (thresherlaw20_shown.f k).bind fun t330 => ((thresherlaw20_made.f k a0_0 a0_1 a0_2 a0_3 a0_4 a0_5 a0_6 a0_7 a0_8 a0_9 a0_10 a0_11).bind fun bt331 => ((thresherref20_Fit.f k bt331.1 bt331.2.1 bt331.2.2.1 bt331.2.2.2 l1 16).bind fun t338 => ((thresherref04_Fits.f k bt331.1 bt331.2.1 bt331.2.2.1 bt331.2.2.2 l2_0 60).bind fun t341 => (if (wrap64 ((t341.length : Int) + 1)) = 0 then (none) else (if 0 ≤ (Int.tmod (wrap64 (a2_1)) (wrap64 ((t341.length : Int) + 1))) then (if (Int.tmod (wrap64 (a2_1)) (wrap64 ((t341.length : Int) + 1))) ≤ (t341.length : Int) then ((agg_Rows.f k bt331.1 bt331.2.1 bt331.2.2.1 bt331.2.2.2 t338 (t341.take ((Int.tmod (wrap64 (a2_1)) (wrap64 ((t341.length : Int) + 1))) : Int).toNat)).bind fun t348 => ((agg_Rows.f k bt331.1 bt331.2.1 bt331.2.2.1 bt331.2.2.2 t338 (t341.drop ((Int.tmod (wrap64 (a2_1)) (wrap64 ((t341.length : Int) + 1))) : Int).toNat)).bind fun t355 => ((agg_Rows.f k bt331.1 bt331.2.1 bt331.2.2.1 bt331.2.2.2 t338 t341).bind fun t358 => ((agg_Join.f k bt331.1 bt331.2.1 bt331.2.2.1 bt331.2.2.2 t338 t348 t355).bind fun t361 => ((thresherref20_Same.f k t361 t358).bind fun t364 => ((agg_Join.f k bt331.1 bt331.2.1 bt331.2.2.1 bt331.2.2.2 t338 t355 t348).bind fun t365 => ((thresherref20_Same.f k t365 t358).bind fun t368 => ((agg_Rows.f k bt331.1 bt331.2.1 bt331.2.2.1 bt331.2.2.2 t338 ([] : List (List (S40)))).bind fun t369 => ((agg_Join.f k bt331.1 bt331.2.1 bt331.2.2.1 bt331.2.2.2 t338 t369 t358).bind fun t372 => ((thresherref20_Same.f k t372 t358).bind fun t375 => (if t330 = true then (if t364 = true then (if t368 = true then (if t375 = true then (thresherlaw20_AggParts.j0 k ((t358.length : Int) == (t338.length : Int))) else (thresherlaw20_AggParts.j0 k false)) else (thresherlaw20_AggParts.j0 k false)) else (thresherlaw20_AggParts.j0 k false)) else (thresherlaw20_AggParts.j0 k false)))))))))))) else (none)) else (none))))))
theorem thresherlaw20_AggParts.mono_l : ∀ k, (∀ y0, LeO (thresherlaw20_AggParts.j0 k y0) (thresherlaw20_AggParts.j0 (k + 1) y0))
 | 0 => fun _ r h => by simp [thresherlaw20_AggParts.j0] at h
 | k + 1 => by
  have ih0 := thresherlaw20_AggParts.mono_l k
  ·intro y0
   unfold thresherlaw20_AggParts.j0
   repeat' first
   | (with_reducible exact ih0 _)
   | (with_reducible exact agg_Join.mono _ _ _ _ _ _ _ _)
   | (with_reducible exact agg_Rows.mono _ _ _ _ _ _ _)
   | (with_reducible exact thresherlaw20_made.mono _ _ _ _ _ _ _ _ _ _ _ _ _)
   | (with_reducible exact thresherlaw20_shown.mono _)
   | (with_reducible exact thresherref04_Fits.mono _ _ _ _ _ _ _)
   | (with_reducible exact thresherref20_Fit.mono _ _ _ _ _ _ _)
   | (with_reducible exact thresherref20_Same.mono _ _ _)
   | (with_reducible exact LeO.refl _)
   | (with_reducible exact LeO.none _)
   | (with_reducible refine LeO.ite ?_ ?_)
   | (with_reducible refine LeO.bind ?_ (fun _ => ?_))
   | exact ih0 _
   | exact agg_Join.mono _ _ _ _ _ _ _ _
   | exact agg_Rows.mono _ _ _ _ _ _ _
   | exact thresherlaw20_made.mono _ _ _ _ _ _ _ _ _ _ _ _ _
   | exact thresherlaw20_shown.mono _
   | exact thresherref04_Fits.mono _ _ _ _ _ _ _
   | exact thresherref20_Fit.mono _ _ _ _ _ _ _
   | exact thresherref20_Same.mono _ _ _
   | exact LeO.none _
   | refine LeO.ite ?_ ?_
   | refine LeO.bind ?_ (fun _ => ?_)
theorem thresherlaw20_AggParts.mono : ∀ a0 a1 a2 a3 a4 a5 a6 a7 a8 a9 a10 a11 a12 a13 a14 k, LeO (thresherlaw20_AggParts.f k a0 a1 a2 a3 a4 a5 a6 a7 a8 a9 a10 a11 a12 a13 a14) (thresherlaw20_AggParts.f (k + 1) a0 a1 a2 a3 a4 a5 a6 a7 a8 a9 a10 a11 a12 a13 a14) := by
 intro a0 a1 a2 a3 a4 a5 a6 a7 a8 a9 a10 a11 a12 a13 a14 k
 have ih0 := thresherlaw20_AggParts.mono_l k
 unfold thresherlaw20_AggParts.f
 repeat' first
   | (with_reducible exact ih0 _)
   | (with_reducible exact agg_Join.mono _ _ _ _ _ _ _ _)
   | (with_reducible exact agg_Rows.mono _ _ _ _ _ _ _)
   | (with_reducible exact thresherlaw20_made.mono _ _ _ _ _ _ _ _ _ _ _ _ _)
   | (with_reducible exact thresherlaw20_shown.mono _)
   | (with_reducible exact thresherref04_Fits.mono _ _ _ _ _ _ _)
   | (with_reducible exact thresherref20_Fit.mono _ _ _ _ _ _ _)
   | (with_reducible exact thresherref20_Same.mono _ _ _)
   | (with_reducible exact LeO.refl _)
   | (with_reducible exact LeO.none _)
   | (with_reducible refine LeO.ite ?_ ?_)
   | (with_reducible refine LeO.bind ?_ (fun _ => ?_))
   | exact ih0 _
   | exact agg_Join.mono _ _ _ _ _ _ _ _
   | exact agg_Rows.mono _ _ _ _ _ _ _
   | exact thresherlaw20_made.mono _ _ _ _ _ _ _ _ _ _ _ _ _
   | exact thresherlaw20_shown.mono _
   | exact thresherref04_Fits.mono _ _ _ _ _ _ _
   | exact thresherref20_Fit.mono _ _ _ _ _ _ _
   | exact thresherref20_Same.mono _ _ _
   | exact LeO.none _
   | refine LeO.ite ?_ ?_
   | refine LeO.bind ?_ (fun _ => ?_)
def thresherlaw20_AggParts.T11 : Bool × List (List Nat × List Nat) := (true, [([], []), ([], []), ([], []), ([], []), ([2, 3], [2, 3]), ([], []), ([0, 1, 4, 5, 4], [0, 1, 4, 5]), ([], []), ([6, 7, 6], [6, 7]), ([8, 8, 0, 1, 2, 3, 4, 5, 6, 7, 8], [8])])
def thresherlaw20_AggParts.B11 : List Nat := [0, 0, 0, 0, 12, 0, 63, 0, 255, 511]
theorem thresherlaw20_AggParts.tab11 : rtab .any (opsOf Try.f5 11) = thresherlaw20_AggParts.T11 := by kernel_rfl
theorem thresherlaw20_AggParts.bits11 : waitsOk thresherlaw20_AggParts.T11.2 thresherlaw20_AggParts.B11 = true := by kernel_rfl
set_option maxHeartbeats 8000000 in
set_option maxRecDepth 100000 in
theorem thresherlaw20_AggParts.calls (k : Nat) (a0_0 : Int) (a0_1 : Int) (a0_2 : Int) (a0_3 : Int) (a0_4 : Int) (a0_5 : Int) (a0_6 : Int) (a0_7 : Int) (a0_8 : Int) (a0_9 : Int) (a0_10 : Int) (a0_11 : Int) (A1 : Option Addr) (c1 : Nat) (l1 : List (S33)) (A2_0 : Option Addr) (c2_0 : Nat) (l2_0 : List (List (S40))) (a2_1 : Int) (r : Bool) (w : World) (hr1 : Kd.C k33 w A1 l1.length l1) (hc1 : l1.length ≤ c1) (hr2_0 : Kd.C (Kd.slice 40 k40) w A2_0 l2_0.length l2_0) (hc2_0 : l2_0.length ≤ c2_0) (h : thresherlaw20_AggParts.f k a0_0 a0_1 a0_2 a0_3 a0_4 a0_5 a0_6 a0_7 a0_8 a0_9 a0_10 a0_11 l1 l2_0 a2_1 = some r) :
  Calls Try.prog 5 #[.agg #[.int .u8 a0_0, .int .u8 a0_1, .int .u8 a0_2, .int .u8 a0_3, .int .u8 a0_4, .int .u8 a0_5, .int .u8 a0_6, .int .u8 a0_7, .int .u8 a0_8, .int .u8 a0_9, .int .u8 a0_10, .int .u8 a0_11], .slice A1 l1.length c1, .agg #[.slice A2_0 l2_0.length c2_0, .int .u8 a2_1]] w fun e w' => e = .returned (.bool r) ∧ Below w.heap.size w w' := by
 have hu24 := Try.underlying24
 have hu49 := Try.underlying49
 have hu29 := Try.underlying29
 have HR1 := Aside0.mk hr1
 have HC1 := Aside0.mk hc1
 clear hr1 hc1
 have HR2_0 := Aside0.mk hr2_0
 have HC2_0 := Aside0.mk hc2_0
 clear hr2_0 hc2_0
 have HB := Aside0.mk (Below.refl w.heap.size w)
 have H : ((thresherlaw20_shown.f k).bind fun t330 => ((thresherlaw20_made.f k a0_0 a0_1 a0_2 a0_3 a0_4 a0_5 a0_6 a0_7 a0_8 a0_9 a0_10 a0_11).bind fun bt331 => ((thresherref20_Fit.f k bt331.1 bt331.2.1 bt331.2.2.1 bt331.2.2.2 l1 16).bind fun t338 => ((thresherref04_Fits.f k bt331.1 bt331.2.1 bt331.2.2.1 bt331.2.2.2 l2_0 60).bind fun t341 => (if (wrap64 ((t341.length : Int) + 1)) = 0 then (none) else (if 0 ≤ (Int.tmod (wrap64 (a2_1)) (wrap64 ((t341.length : Int) + 1))) then (if (Int.tmod (wrap64 (a2_1)) (wrap64 ((t341.length : Int) + 1))) ≤ (t341.length : Int) then ((agg_Rows.f k bt331.1 bt331.2.1 bt331.2.2.1 bt331.2.2.2 t338 (t341.take ((Int.tmod (wrap64 (a2_1)) (wrap64 ((t341.length : Int) + 1))) : Int).toNat)).bind fun t348 => ((agg_Rows.f k bt331.1 bt331.2.1 bt331.2.2.1 bt331.2.2.2 t338 (t341.drop ((Int.tmod (wrap64 (a2_1)) (wrap64 ((t341.length : Int) + 1))) : Int).toNat)).bind fun t355 => ((agg_Rows.f k bt331.1 bt331.2.1 bt331.2.2.1 bt331.2.2.2 t338 t341).bind fun t358 => ((agg_Join.f k bt331.1 bt331.2.1 bt331.2.2.1 bt331.2.2.2 t338 t348 t355).bind fun t361 => ((thresherref20_Same.f k t361 t358).bind fun t364 => ((agg_Join.f k bt331.1 bt331.2.1 bt331.2.2.1 bt331.2.2.2 t338 t355 t348).bind fun t365 => ((thresherref20_Same.f k t365 t358).bind fun t368 => ((agg_Rows.f k bt331.1 bt331.2.1 bt331.2.2.1 bt331.2.2.2 t338 ([] : List (List (S40)))).bind fun t369 => ((agg_Join.f k bt331.1 bt331.2.1 bt331.2.2.1 bt331.2.2.2 t338 t369 t358).bind fun t372 => ((thresherref20_Same.f k t372 t358).bind fun t375 => (if t330 = true then (if t364 = true then (if t368 = true then (if t375 = true then (thresherlaw20_AggParts.j0 k ((t358.length : Int) == (t338.length : Int))) else (thresherlaw20_AggParts.j0 k false)) else (thresherlaw20_AggParts.j0 k false)) else (thresherlaw20_AggParts.j0 k false)) else (thresherlaw20_AggParts.j0 k false)))))))))))) else (none)) else (none))))))) = some r := h
 clear h
 replace H := Option.bind_eq_some_iff.mp H
 obtain ⟨t330, A40, H⟩ := H
 replace H : ((thresherlaw20_made.f k a0_0 a0_1 a0_2 a0_3 a0_4 a0_5 a0_6 a0_7 a0_8 a0_9 a0_10 a0_11).bind fun bt331 => ((thresherref20_Fit.f k bt331.1 bt331.2.1 bt331.2.2.1 bt331.2.2.2 l1 16).bind fun t338 => ((thresherref04_Fits.f k bt331.1 bt331.2.1 bt331.2.2.1 bt331.2.2.2 l2_0 60).bind fun t341 => (if (wrap64 ((t341.length : Int) + 1)) = 0 then (none) else (if 0 ≤ (Int.tmod (wrap64 (a2_1)) (wrap64 ((t341.length : Int) + 1))) then (if (Int.tmod (wrap64 (a2_1)) (wrap64 ((t341.length : Int) + 1))) ≤ (t341.length : Int) then ((agg_Rows.f k bt331.1 bt331.2.1 bt331.2.2.1 bt331.2.2.2 t338 (t341.take ((Int.tmod (wrap64 (a2_1)) (wrap64 ((t341.length : Int) + 1))) : Int).toNat)).bind fun t348 => ((agg_Rows.f k bt331.1 bt331.2.1 bt331.2.2.1 bt331.2.2.2 t338 (t341.drop ((Int.tmod (wrap64 (a2_1)) (wrap64 ((t341.length : Int) + 1))) : Int).toNat)).bind fun t355 => ((agg_Rows.f k bt331.1 bt331.2.1 bt331.2.2.1 bt331.2.2.2 t338 t341).bind fun t358 => ((agg_Join.f k bt331.1 bt331.2.1 bt331.2.2.1 bt331.2.2.2 t338 t348 t355).bind fun t361 => ((thresherref20_Same.f k t361 t358).bind fun t364 => ((agg_Join.f k bt331.1 bt331.2.1 bt331.2.2.1 bt331.2.2.2 t338 t355 t348).bind fun t365 => ((thresherref20_Same.f k t365 t358).bind fun t368 => ((agg_Rows.f k bt331.1 bt331.2.1 bt331.2.2.1 bt331.2.2.2 t338 ([] : List (List (S40)))).bind fun t369 => ((agg_Join.f k bt331.1 bt331.2.1 bt331.2.2.1 bt331.2.2.2 t338 t369 t358).bind fun t372 => ((thresherref20_Same.f k t372 t358).bind fun t375 => (if t330 = true then (if t364 = true then (if t368 = true then (if t375 = true then (thresherlaw20_AggParts.j0 k ((t358.length : Int) == (t338.length : Int))) else (thresherlaw20_AggParts.j0 k false)) else (thresherlaw20_AggParts.j0 k false)) else (thresherlaw20_AggParts.j0 k false)) else (thresherlaw20_AggParts.j0 k false)))))))))))) else (none)) else (none)))))) = some r := H
 have A4 := Aside0.mk A40
 clear A40
 replace H := Option.bind_eq_some_iff.mp H
 obtain ⟨⟨t331, t334, t335, t336⟩, A50, H⟩ := H
 replace H : ((thresherref20_Fit.f k t331 t334 t335 t336 l1 16).bind fun t338 => ((thresherref04_Fits.f k t331 t334 t335 t336 l2_0 60).bind fun t341 => (if (wrap64 ((t341.length : Int) + 1)) = 0 then (none) else (if 0 ≤ (Int.tmod (wrap64 (a2_1)) (wrap64 ((t341.length : Int) + 1))) then (if (Int.tmod (wrap64 (a2_1)) (wrap64 ((t341.length : Int) + 1))) ≤ (t341.length : Int) then ((agg_Rows.f k t331 t334 t335 t336 t338 (t341.take ((Int.tmod (wrap64 (a2_1)) (wrap64 ((t341.length : Int) + 1))) : Int).toNat)).bind fun t348 => ((agg_Rows.f k t331 t334 t335 t336 t338 (t341.drop ((Int.tmod (wrap64 (a2_1)) (wrap64 ((t341.length : Int) + 1))) : Int).toNat)).bind fun t355 => ((agg_Rows.f k t331 t334 t335 t336 t338 t341).bind fun t358 => ((agg_Join.f k t331 t334 t335 t336 t338 t348 t355).bind fun t361 => ((thresherref20_Same.f k t361 t358).bind fun t364 => ((agg_Join.f k t331 t334 t335 t336 t338 t355 t348).bind fun t365 => ((thresherref20_Same.f k t365 t358).bind fun t368 => ((agg_Rows.f k t331 t334 t335 t336 t338 ([] : List (List (S40)))).bind fun t369 => ((agg_Join.f k t331 t334 t335 t336 t338 t369 t358).bind fun t372 => ((thresherref20_Same.f k t372 t358).bind fun t375 => (if t330 = true then (if t364 = true then (if t368 = true then (if t375 = true then (thresherlaw20_AggParts.j0 k ((t358.length : Int) == (t338.length : Int))) else (thresherlaw20_AggParts.j0 k false)) else (thresherlaw20_AggParts.j0 k false)) else (thresherlaw20_AggParts.j0 k false)) else (thresherlaw20_AggParts.j0 k false)))))))))))) else (none)) else (none))))) = some r := H
 have A5 := Aside0.mk A50
 clear A50
 replace H := Option.bind_eq_some_iff.mp H
 obtain ⟨t338, A60, H⟩ := H
 replace H : ((thresherref04_Fits.f k t331 t334 t335 t336 l2_0 60).bind fun t341 => (if (wrap64 ((t341.length : Int) + 1)) = 0 then (none) else (if 0 ≤ (Int.tmod (wrap64 (a2_1)) (wrap64 ((t341.length : Int) + 1))) then (if (Int.tmod (wrap64 (a2_1)) (wrap64 ((t341.length : Int) + 1))) ≤ (t341.length : Int) then ((agg_Rows.f k t331 t334 t335 t336 t338 (t341.take ((Int.tmod (wrap64 (a2_1)) (wrap64 ((t341.length : Int) + 1))) : Int).toNat)).bind fun t348 => ((agg_Rows.f k t331 t334 t335 t336 t338 (t341.drop ((Int.tmod (wrap64 (a2_1)) (wrap64 ((t341.length : Int) + 1))) : Int).toNat)).bind fun t355 => ((agg_Rows.f k t331 t334 t335 t336 t338 t341).bind fun t358 => ((agg_Join.f k t331 t334 t335 t336 t338 t348 t355).bind fun t361 => ((thresherref20_Same.f k t361 t358).bind fun t364 => ((agg_Join.f k t331 t334 t335 t336 t338 t355 t348).bind fun t365 => ((thresherref20_Same.f k t365 t358).bind fun t368 => ((agg_Rows.f k t331 t334 t335 t336 t338 ([] : List (List (S40)))).bind fun t369 => ((agg_Join.f k t331 t334 t335 t336 t338 t369 t358).bind fun t372 => ((thresherref20_Same.f k t372 t358).bind fun t375 => (if t330 = true then (if t364 = true then (if t368 = true then (if t375 = true then (thresherlaw20_AggParts.j0 k ((t358.length : Int) == (t338.length : Int))) else (thresherlaw20_AggParts.j0 k false)) else (thresherlaw20_AggParts.j0 k false)) else (thresherlaw20_AggParts.j0 k false)) else (thresherlaw20_AggParts.j0 k false)))))))))))) else (none)) else (none)))) = some r := H
 have A6 := Aside0.mk A60
 clear A60
 replace H := Option.bind_eq_some_iff.mp H
 obtain ⟨t341, A70, H⟩ := H
 replace H : (if (wrap64 ((t341.length : Int) + 1)) = 0 then (none) else (if 0 ≤ (Int.tmod (wrap64 (a2_1)) (wrap64 ((t341.length : Int) + 1))) then (if (Int.tmod (wrap64 (a2_1)) (wrap64 ((t341.length : Int) + 1))) ≤ (t341.length : Int) then ((agg_Rows.f k t331 t334 t335 t336 t338 (t341.take ((Int.tmod (wrap64 (a2_1)) (wrap64 ((t341.length : Int) + 1))) : Int).toNat)).bind fun t348 => ((agg_Rows.f k t331 t334 t335 t336 t338 (t341.drop ((Int.tmod (wrap64 (a2_1)) (wrap64 ((t341.length : Int) + 1))) : Int).toNat)).bind fun t355 => ((agg_Rows.f k t331 t334 t335 t336 t338 t341).bind fun t358 => ((agg_Join.f k t331 t334 t335 t336 t338 t348 t355).bind fun t361 => ((thresherref20_Same.f k t361 t358).bind fun t364 => ((agg_Join.f k t331 t334 t335 t336 t338 t355 t348).bind fun t365 => ((thresherref20_Same.f k t365 t358).bind fun t368 => ((agg_Rows.f k t331 t334 t335 t336 t338 ([] : List (List (S40)))).bind fun t369 => ((agg_Join.f k t331 t334 t335 t336 t338 t369 t358).bind fun t372 => ((thresherref20_Same.f k t372 t358).bind fun t375 => (if t330 = true then (if t364 = true then (if t368 = true then (if t375 = true then (thresherlaw20_AggParts.j0 k ((t358.length : Int) == (t338.length : Int))) else (thresherlaw20_AggParts.j0 k false)) else (thresherlaw20_AggParts.j0 k false)) else (thresherlaw20_AggParts.j0 k false)) else (thresherlaw20_AggParts.j0 k false)))))))))))) else (none)) else (none))) = some r := H
 have A7 := Aside0.mk A70
 clear A70
 by_cases c8 : (wrap64 ((t341.length : Int) + 1)) = 0
 ·rw [if_pos c8] at H
  exact absurd H (by simp)
 ·rw [if_neg c8] at H
  have c8b0 : ((wrap64 ((t341.length : Int) + 1)) == 0) = false := beq_eq_false_iff_ne.mpr c8
  have c8b1 : ((wrap64 ((t341.length : Int) + 1)) != 0) = true := bne_iff_ne.mpr c8
  obtain ⟨ji9, hji9⟩ : ∃ j_ : Int, (Int.tmod (wrap64 (a2_1)) (wrap64 ((t341.length : Int) + 1))) = j_ := ⟨_, rfl⟩
  replace H : (if 0 ≤ (ji9) then (if (ji9) ≤ (t341.length : Int) then ((agg_Rows.f k t331 t334 t335 t336 t338 (t341.take ((ji9) : Int).toNat)).bind fun t348 => ((agg_Rows.f k t331 t334 t335 t336 t338 (t341.drop ((ji9) : Int).toNat)).bind fun t355 => ((agg_Rows.f k t331 t334 t335 t336 t338 t341).bind fun t358 => ((agg_Join.f k t331 t334 t335 t336 t338 t348 t355).bind fun t361 => ((thresherref20_Same.f k t361 t358).bind fun t364 => ((agg_Join.f k t331 t334 t335 t336 t338 t355 t348).bind fun t365 => ((thresherref20_Same.f k t365 t358).bind fun t368 => ((agg_Rows.f k t331 t334 t335 t336 t338 ([] : List (List (S40)))).bind fun t369 => ((agg_Join.f k t331 t334 t335 t336 t338 t369 t358).bind fun t372 => ((thresherref20_Same.f k t372 t358).bind fun t375 => (if t330 = true then (if t364 = true then (if t368 = true then (if t375 = true then (thresherlaw20_AggParts.j0 k ((t358.length : Int) == (t338.length : Int))) else (thresherlaw20_AggParts.j0 k false)) else (thresherlaw20_AggParts.j0 k false)) else (thresherlaw20_AggParts.j0 k false)) else (thresherlaw20_AggParts.j0 k false)))))))))))) else (none)) else (none)) = some r := by first | (rw [hji9] at H; exact H) | (simp only [hji9] at H ⊢; exact H)
  (try rw [hji9] at A4)
  (try rw [hji9] at A5)
  (try rw [hji9] at A6)
  (try rw [hji9] at A7)
  by_cases c10 : 0 ≤ (ji9)
  ·rw [if_pos c10] at H
   have c10b0 := eq_true c10
   have c10b1 : decide (0 ≤ (ji9)) = true := decide_eq_true c10
   clear c10
   by_cases c11 : (ji9) ≤ (t341.length : Int)
   ·rw [if_pos c11] at H
    have c11b0 := eq_true c11
    have c11b1 : decide ((ji9) ≤ (t341.length : Int)) = true := decide_eq_true c11
    clear c11
    obtain ⟨y344, hy344⟩ : ∃ y_ : List (List (S40)), y_ = (t341.take ((ji9) : Int).toNat) := ⟨_, rfl⟩
    replace H : ((agg_Rows.f k t331 t334 t335 t336 t338 y344).bind fun t348 => ((agg_Rows.f k t331 t334 t335 t336 t338 (t341.drop ((ji9) : Int).toNat)).bind fun t355 => ((agg_Rows.f k t331 t334 t335 t336 t338 t341).bind fun t358 => ((agg_Join.f k t331 t334 t335 t336 t338 t348 t355).bind fun t361 => ((thresherref20_Same.f k t361 t358).bind fun t364 => ((agg_Join.f k t331 t334 t335 t336 t338 t355 t348).bind fun t365 => ((thresherref20_Same.f k t365 t358).bind fun t368 => ((agg_Rows.f k t331 t334 t335 t336 t338 ([] : List (List (S40)))).bind fun t369 => ((agg_Join.f k t331 t334 t335 t336 t338 t369 t358).bind fun t372 => ((thresherref20_Same.f k t372 t358).bind fun t375 => (if t330 = true then (if t364 = true then (if t368 = true then (if t375 = true then (thresherlaw20_AggParts.j0 k ((t358.length : Int) == (t338.length : Int))) else (thresherlaw20_AggParts.j0 k false)) else (thresherlaw20_AggParts.j0 k false)) else (thresherlaw20_AggParts.j0 k false)) else (thresherlaw20_AggParts.j0 k false)))))))))))) = some r := by first | (rw [hy344]; with_reducible exact H) | (have H2_ := (Option.bind_some _ _).symm.trans H; rw [hy344]; with_reducible exact H2_) | (have H2_ := (Option.bind_some _ _).symm.trans H; with_reducible exact H2_) | with_reducible exact H | (rw [hy344]; exact H) | exact H
    have Ny344 := Aside0.mk hy344
    clear hy344
    replace H := Option.bind_eq_some_iff.mp H
    obtain ⟨t348, A120, H⟩ := H
    replace H : ((agg_Rows.f k t331 t334 t335 t336 t338 (t341.drop ((ji9) : Int).toNat)).bind fun t355 => ((agg_Rows.f k t331 t334 t335 t336 t338 t341).bind fun t358 => ((agg_Join.f k t331 t334 t335 t336 t338 t348 t355).bind fun t361 => ((thresherref20_Same.f k t361 t358).bind fun t364 => ((agg_Join.f k t331 t334 t335 t336 t338 t355 t348).bind fun t365 => ((thresherref20_Same.f k t365 t358).bind fun t368 => ((agg_Rows.f k t331 t334 t335 t336 t338 ([] : List (List (S40)))).bind fun t369 => ((agg_Join.f k t331 t334 t335 t336 t338 t369 t358).bind fun t372 => ((thresherref20_Same.f k t372 t358).bind fun t375 => (if t330 = true then (if t364 = true then (if t368 = true then (if t375 = true then (thresherlaw20_AggParts.j0 k ((t358.length : Int) == (t338.length : Int))) else (thresherlaw20_AggParts.j0 k false)) else (thresherlaw20_AggParts.j0 k false)) else (thresherlaw20_AggParts.j0 k false)) else (thresherlaw20_AggParts.j0 k false))))))))))) = some r := H
    have A12 := Aside0.mk A120
    clear A120
    have c13b0 := eq_true (of_decide_eq_true (by first | (with_reducible assumption) | assumption) : 0 ≤ (ji9))
    have c14b0 := eq_true (of_decide_eq_true (by first | (with_reducible assumption) | assumption) : (ji9) ≤ (t341.length : Int))
    obtain ⟨y351, hy351⟩ : ∃ y_ : List (List (S40)), y_ = (t341.drop ((ji9) : Int).toNat) := ⟨_, rfl⟩
    replace H : ((agg_Rows.f k t331 t334 t335 t336 t338 y351).bind fun t355 => ((agg_Rows.f k t331 t334 t335 t336 t338 t341).bind fun t358 => ((agg_Join.f k t331 t334 t335 t336 t338 t348 t355).bind fun t361 => ((thresherref20_Same.f k t361 t358).bind fun t364 => ((agg_Join.f k t331 t334 t335 t336 t338 t355 t348).bind fun t365 => ((thresherref20_Same.f k t365 t358).bind fun t368 => ((agg_Rows.f k t331 t334 t335 t336 t338 ([] : List (List (S40)))).bind fun t369 => ((agg_Join.f k t331 t334 t335 t336 t338 t369 t358).bind fun t372 => ((thresherref20_Same.f k t372 t358).bind fun t375 => (if t330 = true then (if t364 = true then (if t368 = true then (if t375 = true then (thresherlaw20_AggParts.j0 k ((t358.length : Int) == (t338.length : Int))) else (thresherlaw20_AggParts.j0 k false)) else (thresherlaw20_AggParts.j0 k false)) else (thresherlaw20_AggParts.j0 k false)) else (thresherlaw20_AggParts.j0 k false))))))))))) = some r := by first | (rw [hy351]; with_reducible exact H) | (have H2_ := (Option.bind_some _ _).symm.trans H; rw [hy351]; with_reducible exact H2_) | (have H2_ := (Option.bind_some _ _).symm.trans H; with_reducible exact H2_) | with_reducible exact H | (rw [hy351]; exact H) | exact H
    have Ny351 := Aside0.mk hy351
    clear hy351
    replace H := Option.bind_eq_some_iff.mp H
    obtain ⟨t355, A150, H⟩ := H
    replace H : ((agg_Rows.f k t331 t334 t335 t336 t338 t341).bind fun t358 => ((agg_Join.f k t331 t334 t335 t336 t338 t348 t355).bind fun t361 => ((thresherref20_Same.f k t361 t358).bind fun t364 => ((agg_Join.f k t331 t334 t335 t336 t338 t355 t348).bind fun t365 => ((thresherref20_Same.f k t365 t358).bind fun t368 => ((agg_Rows.f k t331 t334 t335 t336 t338 ([] : List (List (S40)))).bind fun t369 => ((agg_Join.f k t331 t334 t335 t336 t338 t369 t358).bind fun t372 => ((thresherref20_Same.f k t372 t358).bind fun t375 => (if t330 = true then (if t364 = true then (if t368 = true then (if t375 = true then (thresherlaw20_AggParts.j0 k ((t358.length : Int) == (t338.length : Int))) else (thresherlaw20_AggParts.j0 k false)) else (thresherlaw20_AggParts.j0 k false)) else (thresherlaw20_AggParts.j0 k false)) else (thresherlaw20_AggParts.j0 k false)))))))))) = some r := H
    have A15 := Aside0.mk A150
    clear A150
    replace H := Option.bind_eq_some_iff.mp H
    obtain ⟨t358, A160, H⟩ := H
    replace H : ((agg_Join.f k t331 t334 t335 t336 t338 t348 t355).bind fun t361 => ((thresherref20_Same.f k t361 t358).bind fun t364 => ((agg_Join.f k t331 t334 t335 t336 t338 t355 t348).bind fun t365 => ((thresherref20_Same.f k t365 t358).bind fun t368 => ((agg_Rows.f k t331 t334 t335 t336 t338 ([] : List (List (S40)))).bind fun t369 => ((agg_Join.f k t331 t334 t335 t336 t338 t369 t358).bind fun t372 => ((thresherref20_Same.f k t372 t358).bind fun t375 => (if t330 = true then (if t364 = true then (if t368 = true then (if t375 = true then (thresherlaw20_AggParts.j0 k ((t358.length : Int) == (t338.length : Int))) else (thresherlaw20_AggParts.j0 k false)) else (thresherlaw20_AggParts.j0 k false)) else (thresherlaw20_AggParts.j0 k false)) else (thresherlaw20_AggParts.j0 k false))))))))) = some r := H
    have A16 := Aside0.mk A160
    clear A160
    replace H := Option.bind_eq_some_iff.mp H
    obtain ⟨t361, A170, H⟩ := H
    replace H : ((thresherref20_Same.f k t361 t358).bind fun t364 => ((agg_Join.f k t331 t334 t335 t336 t338 t355 t348).bind fun t365 => ((thresherref20_Same.f k t365 t358).bind fun t368 => ((agg_Rows.f k t331 t334 t335 t336 t338 ([] : List (List (S40)))).bind fun t369 => ((agg_Join.f k t331 t334 t335 t336 t338 t369 t358).bind fun t372 => ((thresherref20_Same.f k t372 t358).bind fun t375 => (if t330 = true then (if t364 = true then (if t368 = true then (if t375 = true then (thresherlaw20_AggParts.j0 k ((t358.length : Int) == (t338.length : Int))) else (thresherlaw20_AggParts.j0 k false)) else (thresherlaw20_AggParts.j0 k false)) else (thresherlaw20_AggParts.j0 k false)) else (thresherlaw20_AggParts.j0 k false)))))))) = some r := H
    have A17 := Aside0.mk A170
    clear A170
    replace H := Option.bind_eq_some_iff.mp H
    obtain ⟨t364, A180, H⟩ := H
    replace H : ((agg_Join.f k t331 t334 t335 t336 t338 t355 t348).bind fun t365 => ((thresherref20_Same.f k t365 t358).bind fun t368 => ((agg_Rows.f k t331 t334 t335 t336 t338 ([] : List (List (S40)))).bind fun t369 => ((agg_Join.f k t331 t334 t335 t336 t338 t369 t358).bind fun t372 => ((thresherref20_Same.f k t372 t358).bind fun t375 => (if t330 = true then (if t364 = true then (if t368 = true then (if t375 = true then (thresherlaw20_AggParts.j0 k ((t358.length : Int) == (t338.length : Int))) else (thresherlaw20_AggParts.j0 k false)) else (thresherlaw20_AggParts.j0 k false)) else (thresherlaw20_AggParts.j0 k false)) else (thresherlaw20_AggParts.j0 k false))))))) = some r := H
    have A18 := Aside0.mk A180
    clear A180
    replace H := Option.bind_eq_some_iff.mp H
    obtain ⟨t365, A190, H⟩ := H
    replace H : ((thresherref20_Same.f k t365 t358).bind fun t368 => ((agg_Rows.f k t331 t334 t335 t336 t338 ([] : List (List (S40)))).bind fun t369 => ((agg_Join.f k t331 t334 t335 t336 t338 t369 t358).bind fun t372 => ((thresherref20_Same.f k t372 t358).bind fun t375 => (if t330 = true then (if t364 = true then (if t368 = true then (if t375 = true then (thresherlaw20_AggParts.j0 k ((t358.length : Int) == (t338.length : Int))) else (thresherlaw20_AggParts.j0 k false)) else (thresherlaw20_AggParts.j0 k false)) else (thresherlaw20_AggParts.j0 k false)) else (thresherlaw20_AggParts.j0 k false)))))) = some r := H
    have A19 := Aside0.mk A190
    clear A190
    replace H := Option.bind_eq_some_iff.mp H
    obtain ⟨t368, A200, H⟩ := H
    replace H : ((agg_Rows.f k t331 t334 t335 t336 t338 ([] : List (List (S40)))).bind fun t369 => ((agg_Join.f k t331 t334 t335 t336 t338 t369 t358).bind fun t372 => ((thresherref20_Same.f k t372 t358).bind fun t375 => (if t330 = true then (if t364 = true then (if t368 = true then (if t375 = true then (thresherlaw20_AggParts.j0 k ((t358.length : Int) == (t338.length : Int))) else (thresherlaw20_AggParts.j0 k false)) else (thresherlaw20_AggParts.j0 k false)) else (thresherlaw20_AggParts.j0 k false)) else (thresherlaw20_AggParts.j0 k false))))) = some r := H
    have A20 := Aside0.mk A200
    clear A200
    replace H := Option.bind_eq_some_iff.mp H
    obtain ⟨t369, A210, H⟩ := H
    replace H : ((agg_Join.f k t331 t334 t335 t336 t338 t369 t358).bind fun t372 => ((thresherref20_Same.f k t372 t358).bind fun t375 => (if t330 = true then (if t364 = true then (if t368 = true then (if t375 = true then (thresherlaw20_AggParts.j0 k ((t358.length : Int) == (t338.length : Int))) else (thresherlaw20_AggParts.j0 k false)) else (thresherlaw20_AggParts.j0 k false)) else (thresherlaw20_AggParts.j0 k false)) else (thresherlaw20_AggParts.j0 k false)))) = some r := H
    have A21 := Aside0.mk A210
    clear A210
    replace H := Option.bind_eq_some_iff.mp H
    obtain ⟨t372, A220, H⟩ := H
    replace H : ((thresherref20_Same.f k t372 t358).bind fun t375 => (if t330 = true then (if t364 = true then (if t368 = true then (if t375 = true then (thresherlaw20_AggParts.j0 k ((t358.length : Int) == (t338.length : Int))) else (thresherlaw20_AggParts.j0 k false)) else (thresherlaw20_AggParts.j0 k false)) else (thresherlaw20_AggParts.j0 k false)) else (thresherlaw20_AggParts.j0 k false))) = some r := H
    have A22 := Aside0.mk A220
    clear A220
    replace H := Option.bind_eq_some_iff.mp H
    obtain ⟨t375, A230, H⟩ := H
    replace H : (if t330 = true then (if t364 = true then (if t368 = true then (if t375 = true then (thresherlaw20_AggParts.j0 k ((t358.length : Int) == (t338.length : Int))) else (thresherlaw20_AggParts.j0 k false)) else (thresherlaw20_AggParts.j0 k false)) else (thresherlaw20_AggParts.j0 k false)) else (thresherlaw20_AggParts.j0 k false)) = some r := H
    have A23 := Aside0.mk A230
    clear A230
    have HC24 := Aside0.mk H
    clear H
    go_enter Try.func5, Try.ntmps5
    try go_wp2_with (first | ((with_reducible refine gate_dst (N := 3) rfl ?_); (try (refine gate_guard (by rfl) ?_; dsimp only)); refine box_event ?hg (N := 3) ?hd (cs := #[.int .u8 a0_0, .int .u8 a0_1, .int .u8 a0_2, .int .u8 a0_3, .int .u8 a0_4, .int .u8 a0_5, .int .u8 a0_6, .int .u8 a0_7, .int .u8 a0_8, .int .u8 a0_9, .int .u8 a0_10, .int .u8 a0_11]) (t := 24) ?hr ?_; (case hd => rfl); (case hg => rfl); (case hr => first | (go_simp; done) | (go_simp; rfl)); intro gb328 hg w25 hbox hb; have n0_ := Aside0.mk (below_step (by repeat (first | (with_reducible first | exact HB.out | apply below_alloc | apply pw_below_drewN | apply below_drew1) | exact HB.out)) hb); have n1_ := Aside0.mk (hbox); have n2_ := Aside0.mk ((by rw [hg]; exact (below_size (by repeat (first | (with_reducible first | exact HB.out | apply below_alloc | apply pw_below_drewN | apply below_drew1) | exact HB.out))) : w.heap.size ≤ gb328)); have n3_ := Aside0.mk ((by rw [hg]; exact (below_size (by repeat (first | (with_reducible first | exact HB.out | apply below_alloc | apply pw_below_drewN | apply below_drew1) | exact HB.out))) : w.heap.size ≤ gb328)); clear HB; have HB := n0_; have BK328 := n1_; have GW328 := n2_; have GE328 := n3_; clear n0_ n1_ n2_ n3_; clear hb hbox hg) | ((with_reducible refine gate_dst (N := 5) rfl ?_); (try (refine gate_guard (by rfl) ?_; dsimp only)); refine box_event ?hg (N := 5) ?hd (cs := #[.slice A2_0 l2_0.length c2_0, .int .u8 a2_1]) (t := 49) ?hr ?_; (case hd => rfl); (case hg => rfl); (case hr => first | (go_simp; done) | (go_simp; rfl)); intro gb329 hg w26 hbox hb; have n0_ := Aside0.mk (blk_below (g := gb328) (o := .cells #[.int .u8 a0_0, .int .u8 a0_1, .int .u8 a0_2, .int .u8 a0_3, .int .u8 a0_4, .int .u8 a0_5, .int .u8 a0_6, .int .u8 a0_7, .int .u8 a0_8, .int .u8 a0_9, .int .u8 a0_10, .int .u8 a0_11] 24 (0, 0)) (by (with_reducible repeat (first | refine blk_drewN ?_ _ | refine blk_drew ?_ | refine blk_alloc ?_ _)); exact BK328.out) hb); have n1_ := Aside0.mk (below_step (by repeat (first | (with_reducible first | exact HB.out | apply below_alloc | apply pw_below_drewN | apply below_drew1 | refine below_set ?_ GE328.out) | exact HB.out)) hb); have n2_ := Aside0.mk (hbox); have n3_ := Aside0.mk ((by rw [hg]; exact (below_size (by repeat (first | (with_reducible first | exact HB.out | apply below_alloc | apply pw_below_drewN | apply below_drew1 | refine below_set ?_ GE328.out) | exact HB.out))) : w.heap.size ≤ gb329)); have n4_ := Aside0.mk ((by rw [hg]; exact (below_size (by repeat (first | (with_reducible first | exact HB.out | apply below_alloc | apply pw_below_drewN | apply below_drew1 | refine below_set ?_ GE328.out) | exact HB.out))) : w.heap.size ≤ gb329)); have n5_ := Aside0.mk ((by rw [hg]; exact Nat.ne_of_lt (blk_lt (g := gb328) (o := .cells #[.int .u8 a0_0, .int .u8 a0_1, .int .u8 a0_2, .int .u8 a0_3, .int .u8 a0_4, .int .u8 a0_5, .int .u8 a0_6, .int .u8 a0_7, .int .u8 a0_8, .int .u8 a0_9, .int .u8 a0_10, .int .u8 a0_11] 24 (0, 0)) (by (with_reducible repeat (first | refine blk_drewN ?_ _ | refine blk_drew ?_ | refine blk_alloc ?_ _)); exact BK328.out)) : gb328 ≠ gb329)); have n6_ := Aside0.mk ((by rw [hg]; exact Nat.ne_of_gt (blk_lt (g := gb328) (o := .cells #[.int .u8 a0_0, .int .u8 a0_1, .int .u8 a0_2, .int .u8 a0_3, .int .u8 a0_4, .int .u8 a0_5, .int .u8 a0_6, .int .u8 a0_7, .int .u8 a0_8, .int .u8 a0_9, .int .u8 a0_10, .int .u8 a0_11] 24 (0, 0)) (by (with_reducible repeat (first | refine blk_drewN ?_ _ | refine blk_drew ?_ | refine blk_alloc ?_ _)); exact BK328.out)) : gb329 ≠ gb328)); clear BK328; clear HB; have BK328 := n0_; have HB := n1_; have BK329 := n2_; have GW329 := n3_; have GE329 := n4_; have NB328_329 := n5_; have NB329_328 := n6_; clear n0_ n1_ n2_ n3_ n4_ n5_ n6_; clear hb hbox hg) | ((with_reducible refine gate_callee (f := 8) rfl ?_); refine goesL_ (some 18) rfl rfl Try.func8 (by kernel_rfl) rfl #[] rfl (by (try simp only [List.map_toArray, List.map_cons, List.map_nil]); first | done | rfl | (simp only [List.length_drop, List.length_take]; rfl)) ?_; (with_reducible refine (thresherlaw20_shown.calls k  t330 _ A4.out).mono ?_); rintro e w27 ⟨rfl, hb⟩; refine ⟨_, rfl, ?_⟩; have n0_ := Aside0.mk (blk_below (g := gb328) (o := .cells #[.int .u8 a0_0, .int .u8 a0_1, .int .u8 a0_2, .int .u8 a0_3, .int .u8 a0_4, .int .u8 a0_5, .int .u8 a0_6, .int .u8 a0_7, .int .u8 a0_8, .int .u8 a0_9, .int .u8 a0_10, .int .u8 a0_11] 24 (0, 0)) (by (with_reducible repeat (first | refine blk_drewN ?_ _ | refine blk_drew ?_ | refine blk_alloc ?_ _)); exact BK328.out) hb); have n1_ := Aside0.mk (blk_below (g := gb329) (o := .cells #[.slice A2_0 l2_0.length c2_0, .int .u8 a2_1] 49 (0, 0)) (by (with_reducible repeat (first | refine blk_drewN ?_ _ | refine blk_drew ?_ | refine blk_alloc ?_ _)); exact BK329.out) hb); have n2_ := Aside0.mk (below_step (by repeat (first | (with_reducible first | exact HB.out | apply below_alloc | apply pw_below_drewN | apply below_drew1 | refine below_set ?_ GE328.out | refine below_set ?_ GE329.out) | exact HB.out)) hb); clear BK328; clear BK329; clear HB; have BK328 := n0_; have BK329 := n1_; have HB := n2_; clear n0_ n1_ n2_; (try clear hb); (try clear hb2); (try clear hk); (try clear hi); have hnb28 := NB328_329.out; have hnc28 := NB329_328.out; have hcz29_0 : w27.cell? ⟨gb328, 0, none⟩ = some (.int .u8 a0_0) := (blk_cell BK328.out 0).trans rfl; have hcz29_1 : w27.cell? ⟨gb328, 1, none⟩ = some (.int .u8 a0_1) := (blk_cell BK328.out 1).trans rfl; have hcz29_2 : w27.cell? ⟨gb328, 2, none⟩ = some (.int .u8 a0_2) := (blk_cell BK328.out 2).trans rfl; have hcz29_3 : w27.cell? ⟨gb328, 3, none⟩ = some (.int .u8 a0_3) := (blk_cell BK328.out 3).trans rfl; have hcz29_4 : w27.cell? ⟨gb328, 4, none⟩ = some (.int .u8 a0_4) := (blk_cell BK328.out 4).trans rfl; have hcz29_5 : w27.cell? ⟨gb328, 5, none⟩ = some (.int .u8 a0_5) := (blk_cell BK328.out 5).trans rfl; have hcz29_6 : w27.cell? ⟨gb328, 6, none⟩ = some (.int .u8 a0_6) := (blk_cell BK328.out 6).trans rfl; have hcz29_7 : w27.cell? ⟨gb328, 7, none⟩ = some (.int .u8 a0_7) := (blk_cell BK328.out 7).trans rfl; have hcz29_8 : w27.cell? ⟨gb328, 8, none⟩ = some (.int .u8 a0_8) := (blk_cell BK328.out 8).trans rfl; have hcz29_9 : w27.cell? ⟨gb328, 9, none⟩ = some (.int .u8 a0_9) := (blk_cell BK328.out 9).trans rfl; have hcz29_10 : w27.cell? ⟨gb328, 10, none⟩ = some (.int .u8 a0_10) := (blk_cell BK328.out 10).trans rfl; have hcz29_11 : w27.cell? ⟨gb328, 11, none⟩ = some (.int .u8 a0_11) := (blk_cell BK328.out 11).trans rfl; have hfz29_0 := blk_frozen BK328.out 0; have hfz29_1 := blk_frozen BK328.out 1; have hfz29_2 := blk_frozen BK328.out 2; have hfz29_3 := blk_frozen BK328.out 3; have hfz29_4 := blk_frozen BK328.out 4; have hfz29_5 := blk_frozen BK328.out 5; have hfz29_6 := blk_frozen BK328.out 6; have hfz29_7 := blk_frozen BK328.out 7; have hfz29_8 := blk_frozen BK328.out 8; have hfz29_9 := blk_frozen BK328.out 9; have hfz29_10 := blk_frozen BK328.out 10; have hfz29_11 := blk_frozen BK328.out 11) | ((with_reducible refine gate_callee (f := 9) rfl ?_); refine goesL_ (some 20) rfl rfl Try.func9 (by kernel_rfl) rfl #[.agg #[.int .u8 a0_0, .int .u8 a0_1, .int .u8 a0_2, .int .u8 a0_3, .int .u8 a0_4, .int .u8 a0_5, .int .u8 a0_6, .int .u8 a0_7, .int .u8 a0_8, .int .u8 a0_9, .int .u8 a0_10, .int .u8 a0_11]] rfl (by (try simp only [List.map_toArray, List.map_cons, List.map_nil]); first | done | rfl | (simp only [List.length_drop, List.length_take]; rfl)) ?_; (with_reducible refine (thresherlaw20_made.calls k a0_0 a0_1 a0_2 a0_3 a0_4 a0_5 a0_6 a0_7 a0_8 a0_9 a0_10 a0_11 t331 t334 t335 t336 _ A5.out).mono ?_); rintro e w30 ⟨v332, rfl, ho0, hb⟩; refine ⟨_, rfl, ?_⟩; have n0_ := Aside0.mk (Kd.R_lower ho0 (below_size (by repeat (first | (with_reducible first | exact HB.out | apply below_alloc | apply pw_below_drewN | apply below_drew1 | refine below_set ?_ GE328.out | refine below_set ?_ GE329.out) | exact HB.out)))); have n1_ := Aside0.mk (blk_below (g := gb328) (o := .cells #[.int .u8 a0_0, .int .u8 a0_1, .int .u8 a0_2, .int .u8 a0_3, .int .u8 a0_4, .int .u8 a0_5, .int .u8 a0_6, .int .u8 a0_7, .int .u8 a0_8, .int .u8 a0_9, .int .u8 a0_10, .int .u8 a0_11] 24 (0, 0)) (by (with_reducible repeat (first | refine blk_drewN ?_ _ | refine blk_drew ?_ | refine blk_alloc ?_ _)); exact BK328.out) hb); have n2_ := Aside0.mk (blk_below (g := gb329) (o := .cells #[.slice A2_0 l2_0.length c2_0, .int .u8 a2_1] 49 (0, 0)) (by (with_reducible repeat (first | refine blk_drewN ?_ _ | refine blk_drew ?_ | refine blk_alloc ?_ _)); exact BK329.out) hb); have n3_ := Aside0.mk (below_step (by repeat (first | (with_reducible first | exact HB.out | apply below_alloc | apply pw_below_drewN | apply below_drew1 | refine below_set ?_ GE328.out | refine below_set ?_ GE329.out) | exact HB.out)) hb); clear BK328; clear BK329; clear HB; have HO333 := n0_; have BK328 := n1_; have BK329 := n2_; have HB := n3_; clear n0_ n1_ n2_ n3_; (try clear hb); (try clear hb2); (try clear hk); (try clear hi); (try clear ho0)) | ((with_reducible refine gate_dst (N := 8) rfl ?_); (try (refine gate_guard (by rfl) ?_; dsimp only)); refine box_event ?hg (N := 8) ?hd (cs := #[.slice none 0 0, .int .i64 0, .int .i64 0, .int .i64 0]) (t := 29) ?hr ?_; (case hd => rfl); (case hg => rfl); (case hr => first | (go_simp; done) | (go_simp; rfl)); intro gb337 hg w31 hbox hb; have n0_ := Aside0.mk (Kd.R_below (by (with_reducible repeat (first | apply Kd.R_alloc | apply Kd.R_drewN | apply Kd.R_drew)); exact HO333.out) hb); have n1_ := Aside0.mk (blk_below (g := gb328) (o := .cells #[.int .u8 a0_0, .int .u8 a0_1, .int .u8 a0_2, .int .u8 a0_3, .int .u8 a0_4, .int .u8 a0_5, .int .u8 a0_6, .int .u8 a0_7, .int .u8 a0_8, .int .u8 a0_9, .int .u8 a0_10, .int .u8 a0_11] 24 (0, 0)) (by (with_reducible repeat (first | refine blk_drewN ?_ _ | refine blk_drew ?_ | refine blk_alloc ?_ _)); exact BK328.out) hb); have n2_ := Aside0.mk (blk_below (g := gb329) (o := .cells #[.slice A2_0 l2_0.length c2_0, .int .u8 a2_1] 49 (0, 0)) (by (with_reducible repeat (first | refine blk_drewN ?_ _ | refine blk_drew ?_ | refine blk_alloc ?_ _)); exact BK329.out) hb); have n3_ := Aside0.mk (below_step (by repeat (first | (with_reducible first | exact HB.out | apply below_alloc | apply pw_below_drewN | apply below_drew1 | refine below_set ?_ GE328.out | refine below_set ?_ GE329.out) | exact HB.out)) hb); have n4_ := Aside0.mk (hbox); have n5_ := Aside0.mk ((by rw [hg]; exact (below_size (by repeat (first | (with_reducible first | exact HB.out | apply below_alloc | apply pw_below_drewN | apply below_drew1 | refine below_set ?_ GE328.out | refine below_set ?_ GE329.out) | exact HB.out))) : w.heap.size ≤ gb337)); have n6_ := Aside0.mk ((by rw [hg]; exact (below_size (by repeat (first | (with_reducible first | exact HB.out | apply below_alloc | apply pw_below_drewN | apply below_drew1 | refine below_set ?_ GE328.out | refine below_set ?_ GE329.out) | exact HB.out))) : w.heap.size ≤ gb337)); have n7_ := Aside0.mk ((by rw [hg]; exact Nat.ne_of_lt (blk_lt (g := gb328) (o := .cells #[.int .u8 a0_0, .int .u8 a0_1, .int .u8 a0_2, .int .u8 a0_3, .int .u8 a0_4, .int .u8 a0_5, .int .u8 a0_6, .int .u8 a0_7, .int .u8 a0_8, .int .u8 a0_9, .int .u8 a0_10, .int .u8 a0_11] 24 (0, 0)) (by (with_reducible repeat (first | refine blk_drewN ?_ _ | refine blk_drew ?_ | refine blk_alloc ?_ _)); exact BK328.out)) : gb328 ≠ gb337)); have n8_ := Aside0.mk ((by rw [hg]; exact Nat.ne_of_gt (blk_lt (g := gb328) (o := .cells #[.int .u8 a0_0, .int .u8 a0_1, .int .u8 a0_2, .int .u8 a0_3, .int .u8 a0_4, .int .u8 a0_5, .int .u8 a0_6, .int .u8 a0_7, .int .u8 a0_8, .int .u8 a0_9, .int .u8 a0_10, .int .u8 a0_11] 24 (0, 0)) (by (with_reducible repeat (first | refine blk_drewN ?_ _ | refine blk_drew ?_ | refine blk_alloc ?_ _)); exact BK328.out)) : gb337 ≠ gb328)); have n9_ := Aside0.mk ((by rw [hg]; exact Nat.ne_of_lt (blk_lt (g := gb329) (o := .cells #[.slice A2_0 l2_0.length c2_0, .int .u8 a2_1] 49 (0, 0)) (by (with_reducible repeat (first | refine blk_drewN ?_ _ | refine blk_drew ?_ | refine blk_alloc ?_ _)); exact BK329.out)) : gb329 ≠ gb337)); have n10_ := Aside0.mk ((by rw [hg]; exact Nat.ne_of_gt (blk_lt (g := gb329) (o := .cells #[.slice A2_0 l2_0.length c2_0, .int .u8 a2_1] 49 (0, 0)) (by (with_reducible repeat (first | refine blk_drewN ?_ _ | refine blk_drew ?_ | refine blk_alloc ?_ _)); exact BK329.out)) : gb337 ≠ gb329)); clear HO333; clear BK328; clear BK329; clear HB; have HO333 := n0_; have BK328 := n1_; have BK329 := n2_; have HB := n3_; have BK337 := n4_; have GW337 := n5_; have GE337 := n6_; have NB328_337 := n7_; have NB337_328 := n8_; have NB329_337 := n9_; have NB337_329 := n10_; clear n0_ n1_ n2_ n3_ n4_ n5_ n6_ n7_ n8_ n9_ n10_; clear hb hbox hg; obtain ⟨Ao32, co32, eo32⟩ := Kd.R_slice HO333.out; subst eo32; have hnb33 := NB337_328.out; have hnc33 := NB328_337.out; have hnb34 := NB337_329.out; have hnc34 := NB329_337.out; have hcz35_0 : w31.cell? ⟨gb337, 0, none⟩ = some (.slice none 0 0) := (blk_cell BK337.out 0).trans rfl; have hcz35_1 : w31.cell? ⟨gb337, 1, none⟩ = some (.int .i64 0) := (blk_cell BK337.out 1).trans rfl; have hcz35_2 : w31.cell? ⟨gb337, 2, none⟩ = some (.int .i64 0) := (blk_cell BK337.out 2).trans rfl; have hcz35_3 : w31.cell? ⟨gb337, 3, none⟩ = some (.int .i64 0) := (blk_cell BK337.out 3).trans rfl; have hfz35_0 := blk_frozen BK337.out 0; have hfz35_1 := blk_frozen BK337.out 1; have hfz35_2 := blk_frozen BK337.out 2; have hfz35_3 := blk_frozen BK337.out 3) | ((with_reducible refine gate_callee (f := 14) rfl ?_); refine goesL_ (some 23) rfl rfl Try.func14 (by kernel_rfl) rfl #[.agg #[.slice Ao32 t331.length co32, .int .i64 t334, .int .i64 t335, .int .i64 t336], .slice A1 l1.length c1, .int .i64 16] rfl (by (try simp only [List.map_toArray, List.map_cons, List.map_nil]); first | done | rfl | (simp only [List.length_drop, List.length_take]; rfl)) ?_; (with_reducible refine (thresherref20_Fit.calls k _ _ t331 t334 t335 t336 _ _ l1 16 t338 _ ?side1 ?side2 ?side3 ?side4 A6.out).mono ?_); (case side1 => refine (Kd.R_reads' (e := 3) (base := w.heap.size) (ok := fun k_ => True) (n := t331.length) (c := co32) ?_).2.2; exact (by (with_reducible repeat (first | apply Kd.R_alloc | apply Kd.R_drewN | apply Kd.R_drew)); exact (Kd.R_mono (Kd.R_far (p := ⟨gb337, 3, none⟩) (Kd.R_far (p := ⟨gb337, 2, none⟩) (Kd.R_far (p := ⟨gb337, 1, none⟩) (Kd.R_far (p := ⟨gb337, 0, none⟩) (Kd.R_types HO333.out BK337.out (by decide)) (fun _ hk => hk.2) (.slice Ao32 t331.length co32)) (fun _ hk => hk.2) (.int .i64 t334)) (fun _ hk => hk.2) (.int .i64 t335)) (fun _ hk => hk.2) (.int .i64 t336)) (fun _ h_ => h_.1)))); (case side2 => exact (Kd.R_reads' HO333.out).2.1); (case side3 => exact Kd.C_below HR1.out (by repeat (first | (with_reducible first | exact HB.out | apply below_alloc | apply pw_below_drewN | apply below_drew1 | refine below_set ?_ GE328.out | refine below_set ?_ GE329.out | refine below_set ?_ GE337.out) | exact HB.out))); (case side4 => exact HC1.out); rintro e w36 ⟨v339, rfl, ho0, hb⟩; refine ⟨_, rfl, ?_⟩; have n0_ := Aside0.mk (Kd.R_below (by (with_reducible repeat (first | apply Kd.R_alloc | apply Kd.R_drewN | apply Kd.R_drew)); exact (Kd.R_mono (Kd.R_far (p := ⟨gb337, 3, none⟩) (Kd.R_far (p := ⟨gb337, 2, none⟩) (Kd.R_far (p := ⟨gb337, 1, none⟩) (Kd.R_far (p := ⟨gb337, 0, none⟩) (Kd.R_types HO333.out BK337.out (by decide)) (fun _ hk => hk.2) (.slice Ao32 t331.length co32)) (fun _ hk => hk.2) (.int .i64 t334)) (fun _ hk => hk.2) (.int .i64 t335)) (fun _ hk => hk.2) (.int .i64 t336)) (fun _ h_ => h_.1))) hb); have n1_ := Aside0.mk (Kd.R_lower ho0 (below_size (by repeat (first | (with_reducible first | exact HB.out | apply below_alloc | apply pw_below_drewN | apply below_drew1 | refine below_set ?_ GE328.out | refine below_set ?_ GE329.out | refine below_set ?_ GE337.out) | exact HB.out)))); have n2_ := Aside0.mk (blk_below (g := gb328) (o := .cells #[.int .u8 a0_0, .int .u8 a0_1, .int .u8 a0_2, .int .u8 a0_3, .int .u8 a0_4, .int .u8 a0_5, .int .u8 a0_6, .int .u8 a0_7, .int .u8 a0_8, .int .u8 a0_9, .int .u8 a0_10, .int .u8 a0_11] 24 (0, 0)) (by (with_reducible repeat (first | refine blk_drewN ?_ _ | refine blk_drew ?_ | refine blk_alloc ?_ _)); refine blk_far ?_ NB328_337.out _; (with_reducible repeat (first | refine blk_drewN ?_ _ | refine blk_drew ?_ | refine blk_alloc ?_ _)); refine blk_far ?_ NB328_337.out _; (with_reducible repeat (first | refine blk_drewN ?_ _ | refine blk_drew ?_ | refine blk_alloc ?_ _)); refine blk_far ?_ NB328_337.out _; (with_reducible repeat (first | refine blk_drewN ?_ _ | refine blk_drew ?_ | refine blk_alloc ?_ _)); refine blk_far ?_ NB328_337.out _; (with_reducible repeat (first | refine blk_drewN ?_ _ | refine blk_drew ?_ | refine blk_alloc ?_ _)); exact BK328.out) hb); have n3_ := Aside0.mk (blk_below (g := gb329) (o := .cells #[.slice A2_0 l2_0.length c2_0, .int .u8 a2_1] 49 (0, 0)) (by (with_reducible repeat (first | refine blk_drewN ?_ _ | refine blk_drew ?_ | refine blk_alloc ?_ _)); refine blk_far ?_ NB329_337.out _; (with_reducible repeat (first | refine blk_drewN ?_ _ | refine blk_drew ?_ | refine blk_alloc ?_ _)); refine blk_far ?_ NB329_337.out _; (with_reducible repeat (first | refine blk_drewN ?_ _ | refine blk_drew ?_ | refine blk_alloc ?_ _)); refine blk_far ?_ NB329_337.out _; (with_reducible repeat (first | refine blk_drewN ?_ _ | refine blk_drew ?_ | refine blk_alloc ?_ _)); refine blk_far ?_ NB329_337.out _; (with_reducible repeat (first | refine blk_drewN ?_ _ | refine blk_drew ?_ | refine blk_alloc ?_ _)); exact BK329.out) hb); have n4_ := Aside0.mk (blk_below (g := gb337) (o := .cells #[.slice Ao32 t331.length co32, .int .i64 t334, .int .i64 t335, .int .i64 t336] 29 (0, 0)) (by (with_reducible repeat (first | refine blk_drewN ?_ _ | refine blk_drew ?_ | refine blk_alloc ?_ _)); refine blk_put (cs := #[.slice Ao32 t331.length co32, .int .i64 t334, .int .i64 t335, .int .i64 0]) ?_ 3 _ rfl; (with_reducible repeat (first | refine blk_drewN ?_ _ | refine blk_drew ?_ | refine blk_alloc ?_ _)); refine blk_put (cs := #[.slice Ao32 t331.length co32, .int .i64 t334, .int .i64 0, .int .i64 0]) ?_ 2 _ rfl; (with_reducible repeat (first | refine blk_drewN ?_ _ | refine blk_drew ?_ | refine blk_alloc ?_ _)); refine blk_put (cs := #[.slice Ao32 t331.length co32, .int .i64 0, .int .i64 0, .int .i64 0]) ?_ 1 _ rfl; (with_reducible repeat (first | refine blk_drewN ?_ _ | refine blk_drew ?_ | refine blk_alloc ?_ _)); refine blk_put (cs := #[.slice none 0 0, .int .i64 0, .int .i64 0, .int .i64 0]) ?_ 0 _ rfl; (with_reducible repeat (first | refine blk_drewN ?_ _ | refine blk_drew ?_ | refine blk_alloc ?_ _)); exact BK337.out) hb); have n5_ := Aside0.mk (below_step (by repeat (first | (with_reducible first | exact HB.out | apply below_alloc | apply pw_below_drewN | apply below_drew1 | refine below_set ?_ GE328.out | refine below_set ?_ GE329.out | refine below_set ?_ GE337.out) | exact HB.out)) hb); clear HO333; clear BK328; clear BK329; clear BK337; clear HB; have HO333 := n0_; have HO340 := n1_; have BK328 := n2_; have BK329 := n3_; have BK337 := n4_; have HB := n5_; clear n0_ n1_ n2_ n3_ n4_ n5_; (try clear hb); (try clear hb2); (try clear hk); (try clear hi); (try clear ho0); have hcz37_0 : w36.cell? ⟨gb337, 0, none⟩ = some (.slice Ao32 t331.length co32) := (blk_cell BK337.out 0).trans rfl; have hcz37_1 : w36.cell? ⟨gb337, 1, none⟩ = some (.int .i64 t334) := (blk_cell BK337.out 1).trans rfl; have hcz37_2 : w36.cell? ⟨gb337, 2, none⟩ = some (.int .i64 t335) := (blk_cell BK337.out 2).trans rfl; have hcz37_3 : w36.cell? ⟨gb337, 3, none⟩ = some (.int .i64 t336) := (blk_cell BK337.out 3).trans rfl; have hfz37_0 := blk_frozen BK337.out 0; have hfz37_1 := blk_frozen BK337.out 1; have hfz37_2 := blk_frozen BK337.out 2; have hfz37_3 := blk_frozen BK337.out 3; have hcz38_0 : w36.cell? ⟨gb329, 0, none⟩ = some (.slice A2_0 l2_0.length c2_0) := (blk_cell BK329.out 0).trans rfl; have hcz38_1 : w36.cell? ⟨gb329, 1, none⟩ = some (.int .u8 a2_1) := (blk_cell BK329.out 1).trans rfl; have hfz38_0 := blk_frozen BK329.out 0; have hfz38_1 := blk_frozen BK329.out 1) | ((with_reducible refine gate_callee (f := 10) rfl ?_); refine goesL_ (some 27) rfl rfl Try.func10 (by kernel_rfl) rfl #[.agg #[.slice Ao32 t331.length co32, .int .i64 t334, .int .i64 t335, .int .i64 t336], .slice A2_0 l2_0.length c2_0, .int .i64 60] rfl (by (try simp only [List.map_toArray, List.map_cons, List.map_nil]); first | done | rfl | (simp only [List.length_drop, List.length_take]; rfl)) ?_; (with_reducible refine (thresherref04_Fits.calls k _ _ t331 t334 t335 t336 _ _ l2_0 60 t341 _ ?side1 ?side2 ?side3 ?side4 A7.out).mono ?_); (case side1 => repeat (first | exact (Kd.R_reads' HO333.out).2.2 | (with_reducible refine Kd.C_alloc ?_ _) | (with_reducible refine Kd.C_drewN ?_ _) | (with_reducible refine Kd.C_drew ?_))); (case side2 => exact (Kd.R_reads' HO333.out).2.1); (case side3 => repeat (first | exact (Kd.C_below HR2_0.out HB.out) | (with_reducible refine Kd.C_alloc ?_ _) | (with_reducible refine Kd.C_drewN ?_ _) | (with_reducible refine Kd.C_drew ?_))); (case side4 => exact HC2_0.out); rintro e w39 ⟨v342, rfl, ho0, hb⟩; refine ⟨_, rfl, ?_⟩; have n0_ := Aside0.mk (Kd.R_below (by (with_reducible repeat (first | apply Kd.R_alloc | apply Kd.R_drewN | apply Kd.R_drew)); exact HO333.out) hb); have n1_ := Aside0.mk (Kd.R_below (by (with_reducible repeat (first | apply Kd.R_alloc | apply Kd.R_drewN | apply Kd.R_drew)); exact HO340.out) hb); have n2_ := Aside0.mk (Kd.S_lower ho0 (below_size (by repeat (first | (with_reducible first | exact HB.out | apply below_alloc | apply pw_below_drewN | apply below_drew1 | refine below_set ?_ GE328.out | refine below_set ?_ GE329.out | refine below_set ?_ GE337.out) | exact HB.out)))); have n3_ := Aside0.mk (blk_below (g := gb328) (o := .cells #[.int .u8 a0_0, .int .u8 a0_1, .int .u8 a0_2, .int .u8 a0_3, .int .u8 a0_4, .int .u8 a0_5, .int .u8 a0_6, .int .u8 a0_7, .int .u8 a0_8, .int .u8 a0_9, .int .u8 a0_10, .int .u8 a0_11] 24 (0, 0)) (by (with_reducible repeat (first | refine blk_drewN ?_ _ | refine blk_drew ?_ | refine blk_alloc ?_ _)); exact BK328.out) hb); have n4_ := Aside0.mk (blk_below (g := gb329) (o := .cells #[.slice A2_0 l2_0.length c2_0, .int .u8 a2_1] 49 (0, 0)) (by (with_reducible repeat (first | refine blk_drewN ?_ _ | refine blk_drew ?_ | refine blk_alloc ?_ _)); exact BK329.out) hb); have n5_ := Aside0.mk (blk_below (g := gb337) (o := .cells #[.slice Ao32 t331.length co32, .int .i64 t334, .int .i64 t335, .int .i64 t336] 29 (0, 0)) (by (with_reducible repeat (first | refine blk_drewN ?_ _ | refine blk_drew ?_ | refine blk_alloc ?_ _)); exact BK337.out) hb); have n6_ := Aside0.mk (below_step (by repeat (first | (with_reducible first | exact HB.out | apply below_alloc | apply pw_below_drewN | apply below_drew1 | refine below_set ?_ GE328.out | refine below_set ?_ GE329.out | refine below_set ?_ GE337.out) | exact HB.out)) hb); clear HO333; clear HO340; clear BK328; clear BK329; clear BK337; clear HB; have HO333 := n0_; have HO340 := n1_; have HO343 := n2_; have BK328 := n3_; have BK329 := n4_; have BK337 := n5_; have HB := n6_; clear n0_ n1_ n2_ n3_ n4_ n5_ n6_; (try clear hb); (try clear hb2); (try clear hk); (try clear hi); (try clear ho0); have hcz40_0 : w39.cell? ⟨gb329, 0, none⟩ = some (.slice A2_0 l2_0.length c2_0) := (blk_cell BK329.out 0).trans rfl; have hcz40_1 : w39.cell? ⟨gb329, 1, none⟩ = some (.int .u8 a2_1) := (blk_cell BK329.out 1).trans rfl; have hfz40_0 := blk_frozen BK329.out 0; have hfz40_1 := blk_frozen BK329.out 1; obtain ⟨Ao41, co41, eo41⟩ := Kd.S_slice HO343.out; subst eo41))
    have n0_ := Aside0.mk (Kd.R_drew HO333.out)
    have n1_ := Aside0.mk (Kd.R_drew HO340.out)
    have n2_ := Aside0.mk (Kd.S_drew HO343.out)
    have n3_ := Aside0.mk (blk_drew BK328.out)
    have n4_ := Aside0.mk (blk_drew BK329.out)
    have n5_ := Aside0.mk (blk_drew BK337.out)
    have n6_ := Aside0.mk (below_drew1 HB.out)
    clear HO333
    clear HO340
    clear HO343
    clear BK328
    clear BK329
    clear BK337
    clear HB
    have HO333 := n0_
    have HO340 := n1_
    have HO343 := n2_
    have BK328 := n3_
    have BK329 := n4_
    have BK337 := n5_
    have HB := n6_
    clear n0_ n1_ n2_ n3_ n4_ n5_ n6_
    have q43 : ((ji9) : Int) ≤ ((t341.length : Int) : Int) := of_decide_eq_true (by first | (with_reducible assumption) | assumption)
    obtain ⟨i043, hi043, _, hsz43, _⟩ := info_parts info44
    have hroom43 : t341.length ≤ co41 := (Kd.S_reads' HO343.out).2.1
    have hC43 : Kd.C (Kd.slice 40 k40) _ Ao41 t341.length t341 := (Kd.S_reads' HO343.out).2.2
    have hcut43 := cut_to (P := Try.prog) 25 44 .i64 Try.underlying25 hi043 Ao41 t341.length co41 (ji9) (of_decide_eq_true (by first | (with_reducible assumption) | assumption)) q43 hroom43
    have hr43 := Kd.C_take (m := ((ji9) : Int).toNat) hC43 (by omega)
    have hy43 : y344.length = ((ji9) : Int).toNat := (by rw [Ny344.out, List.length_take]; omega)
    rw [← Ny344.out] at hr43
    rw [← hy43] at hcut43
    have HR347 := Aside0.mk hr43
    have HC347 := Aside0.mk (show y344.length ≤ co41 from by omega)
    clear hr43 hC43 hroom43 hi043 hsz43
    have KY43 := Aside0.mk hy43
    clear hy43
    have KL43 := Aside0.mk (show ((ji9) : Int).toNat ≤ t341.length from by omega)
    replace q43 := eq_true q43
    obtain ⟨Ao44, co44, eo44⟩ := Kd.R_slice HO340.out
    (first | subst eo44 | (injection eo44 with f1_ f2_ f3_; have f4_ := f1_.symm; have f5_ := f3_.symm; clear f1_ f2_ f3_; subst f4_; subst f5_))
    refine start_ (n := 7) (S := fun w' => w'.cell? ⟨gb337, 0, none⟩ = some (.slice Ao32 t331.length co32) ∧ w'.cell? ⟨gb337, 1, none⟩ = some (.int .i64 t334) ∧ w'.cell? ⟨gb337, 2, none⟩ = some (.int .i64 t335) ∧ w'.cell? ⟨gb337, 3, none⟩ = some (.int .i64 t336)) (ds := []) #[false, false, false, false, false, false, false] (by kernel_rfl) rfl rfl ⟨(blk_cell BK337.out 0).trans rfl, (blk_cell BK337.out 1).trans rfl, (blk_cell BK337.out 2).trans rfl, (blk_cell BK337.out 3).trans rfl⟩ (fun hHeld => ?_)
    generalize w39.drew = w42 at HO333 HO340 HO343 BK328 BK329 BK337 HB HR347 hHeld ⊢
    refine pure_ (i := 1) (N := some 36) (v := ?_) (a' := ?_) #[false, true, false, false, false, false, false] rfl rfl (by kernel_rfl) (fun _ _ _ h => h) (Or.inl ⟨by rfl, ?_⟩) ?_ ?_
    rotate_left; (intro w'; go_simp; with_reducible rfl); rotate_left; (simp only [Act.put, List.setIfInBounds_toArray, List.set_cons_zero, List.set_cons_succ, i64_w, i32_w]; rfl)
    refine pure_ (i := 2) (N := some 37) (v := ?_) (a' := ?_) #[false, true, true, false, false, false, false] rfl rfl (by kernel_rfl) (fun _ _ _ h => h) (Or.inl ⟨by rfl, ?_⟩) ?_ ?_
    rotate_left; (intro w'; go_simp; with_reducible rfl); rotate_left; (simp only [Act.put, List.setIfInBounds_toArray, List.set_cons_zero, List.set_cons_succ, i64_w, i32_w]; rfl)
    refine pure_ (i := 3) (N := some 38) (v := ?_) (a' := ?_) #[false, true, true, true, false, false, false] rfl rfl (by kernel_rfl) (fun _ _ _ h => h) (Or.inl ⟨by rfl, ?_⟩) ?_ ?_
    rotate_left; (intro w'; go_simp; with_reducible rfl); rotate_left; (simp only [Act.put, List.setIfInBounds_toArray, List.set_cons_zero, List.set_cons_succ, i64_w, i32_w]; rfl)
    refine pure_ (i := 4) (N := some 39) (v := ?_) (a' := ?_) #[false, true, true, true, true, false, false] rfl rfl (by kernel_rfl) (fun _ _ _ h => h) (Or.inl ⟨by rfl, ?_⟩) ?_ ?_
    rotate_left; (intro w'; go_simp; with_reducible rfl); rotate_left; (simp only [Act.put, List.setIfInBounds_toArray, List.set_cons_zero, List.set_cons_succ, i64_w, i32_w]; rfl)
    refine take_ (i := 0) (N := some 35) (v := ?_) (a' := ?_) #[true, true, true, true, true, false, false] rfl rfl (by kernel_rfl) (fun _ _ _ h => h) (Or.inl ⟨by rfl, ?_⟩) hHeld ?_ ?_
    rotate_left; (rintro w' ⟨s0, s1, s2, s3⟩; go_simp; with_reducible rfl); rotate_left; (simp only [Act.put, List.setIfInBounds_toArray, List.set_cons_zero, List.set_cons_succ, i64_w, i32_w]; rfl)
    refine one_ (i := 5) (N := some 40) #[true, true, true, true, true, true, false] rfl rfl (by kernel_rfl) (by decide) (fun K hK => ?_)
    refine goes_ Try.func11 (by kernel_rfl) rfl #[.agg #[.slice Ao32 t331.length co32, .int .i64 t334, .int .i64 t335, .int .i64 t336], .slice Ao44 t338.length co44, .slice Ao41 y344.length co41] (by rfl) rfl rfl (by (try simp only [List.map_toArray, List.map_cons, List.map_nil]); first | done | rfl | (simp only [List.length_drop, List.length_take]; rfl)) ?_
    with_reducible refine (agg_Rows.calls k _ _ t331 t334 t335 t336 _ _ t338 _ _ y344 t348 _ ?side1 ?side2 ?side3 ?side4 ?side5 ?side6 A12.out).mono ?_
    (case side1 => repeat (first | exact (Kd.R_reads' HO333.out).2.2 | (with_reducible refine Kd.C_alloc ?_ _) | (with_reducible refine Kd.C_drewN ?_ _) | (with_reducible refine Kd.C_drew ?_)))
    (case side2 => exact (Kd.R_reads' HO333.out).2.1)
    (case side3 => repeat (first | exact (Kd.R_reads' HO340.out).2.2 | (with_reducible refine Kd.C_alloc ?_ _) | (with_reducible refine Kd.C_drewN ?_ _) | (with_reducible refine Kd.C_drew ?_)))
    (case side4 => exact (Kd.R_reads' HO340.out).2.1)
    (case side5 => repeat (first | exact (by repeat (first | (with_reducible exact HR347.out) | (with_reducible refine Kd.C_alloc ?_ _) | (with_reducible refine Kd.C_drewN ?_ _) | (with_reducible refine Kd.C_drew ?_) | exact HR347.out)) | (with_reducible refine Kd.C_alloc ?_ _) | (with_reducible refine Kd.C_drewN ?_ _) | (with_reducible refine Kd.C_drew ?_)))
    (case side6 => exact HC347.out)
    rintro e w45 ⟨v349, rfl, ho0, hb⟩
    refine ⟨_, rfl, ?_⟩
    have n0_ := Aside0.mk (Kd.R_below (by (with_reducible repeat (first | apply Kd.R_alloc | apply Kd.R_drewN | apply Kd.R_drew)); exact HO333.out) hb)
    have n1_ := Aside0.mk (Kd.R_below (by (with_reducible repeat (first | apply Kd.R_alloc | apply Kd.R_drewN | apply Kd.R_drew)); exact HO340.out) hb)
    have n2_ := Aside0.mk (Kd.S_below (by (with_reducible repeat (first | apply Kd.S_alloc | apply Kd.S_drewN | apply Kd.S_drew)); exact HO343.out) hb)
    have n3_ := Aside0.mk (Kd.R_lower ho0 (below_size (by repeat (first | (with_reducible first | exact HB.out | apply below_alloc | apply pw_below_drewN | apply below_drew1 | refine below_set ?_ GE328.out | refine below_set ?_ GE329.out | refine below_set ?_ GE337.out) | exact HB.out))))
    have n4_ := Aside0.mk (blk_below (g := gb328) (o := .cells #[.int .u8 a0_0, .int .u8 a0_1, .int .u8 a0_2, .int .u8 a0_3, .int .u8 a0_4, .int .u8 a0_5, .int .u8 a0_6, .int .u8 a0_7, .int .u8 a0_8, .int .u8 a0_9, .int .u8 a0_10, .int .u8 a0_11] 24 (0, 0)) (by (with_reducible repeat (first | refine blk_drewN ?_ _ | refine blk_drew ?_ | refine blk_alloc ?_ _)); exact BK328.out) hb)
    have n5_ := Aside0.mk (blk_below (g := gb329) (o := .cells #[.slice A2_0 l2_0.length c2_0, .int .u8 a2_1] 49 (0, 0)) (by (with_reducible repeat (first | refine blk_drewN ?_ _ | refine blk_drew ?_ | refine blk_alloc ?_ _)); exact BK329.out) hb)
    have n6_ := Aside0.mk (blk_below (g := gb337) (o := .cells #[.slice Ao32 t331.length co32, .int .i64 t334, .int .i64 t335, .int .i64 t336] 29 (0, 0)) (by (with_reducible repeat (first | refine blk_drewN ?_ _ | refine blk_drew ?_ | refine blk_alloc ?_ _)); exact BK337.out) hb)
    have n7_ := Aside0.mk (Kd.C_below (by repeat (first | (with_reducible exact HR347.out) | (with_reducible refine Kd.C_alloc ?_ _) | (with_reducible refine Kd.C_drewN ?_ _) | (with_reducible refine Kd.C_drew ?_) | exact HR347.out)) hb)
    have n8_ := Aside0.mk (below_step (by repeat (first | (with_reducible first | exact HB.out | apply below_alloc | apply pw_below_drewN | apply below_drew1 | refine below_set ?_ GE328.out | refine below_set ?_ GE329.out | refine below_set ?_ GE337.out) | exact HB.out)) hb)
    clear HO333
    clear HO340
    clear HO343
    clear BK328
    clear BK329
    clear BK337
    clear HR347
    clear HB
    have HO333 := n0_
    have HO340 := n1_
    have HO343 := n2_
    have HO350 := n3_
    have BK328 := n4_
    have BK329 := n5_
    have BK337 := n6_
    have HR347 := n7_
    have HB := n8_
    clear n0_ n1_ n2_ n3_ n4_ n5_ n6_ n7_ n8_
    (try clear hb)
    (try clear hb2)
    (try clear hk)
    (try clear hi)
    (try clear ho0)
    refine hK.out _ _ ⟨(blk_cell BK337.out 0).trans rfl, (blk_cell BK337.out 1).trans rfl, (blk_cell BK337.out 2).trans rfl, (blk_cell BK337.out 3).trans rfl⟩ (fun hHeld => ?_)
    clear hK K
    refine norm_ (a' := ?_) ?_ ?_
    rotate_left
    ·show Act.put _ (some 40) _ = _
     simp only [Act.put, List.setIfInBounds_toArray, List.set_cons_zero, List.set_cons_succ, i64_w, i32_w]
     rfl
    refine pure_ (i := 6) (N := some 12) (v := ?_) (a' := ?_) #[true, true, true, true, true, true, true] rfl rfl (by kernel_rfl) (fun _ _ _ h => h) (Or.inl ⟨by rfl, ?_⟩) ?_ ?_
    rotate_left; (intro w'; go_simp; with_reducible rfl); rotate_left; (simp only [Act.put, List.setIfInBounds_toArray, List.set_cons_zero, List.set_cons_succ, i64_w, i32_w]; rfl)
    refine done_ (by kernel_rfl) ?_
    try go_wp2
    have n0_ := Aside0.mk (Kd.R_drew HO333.out)
    have n1_ := Aside0.mk (Kd.R_drew HO340.out)
    have n2_ := Aside0.mk (Kd.S_drew HO343.out)
    have n3_ := Aside0.mk (Kd.R_drew HO350.out)
    have n4_ := Aside0.mk (blk_drew BK328.out)
    have n5_ := Aside0.mk (blk_drew BK329.out)
    have n6_ := Aside0.mk (blk_drew BK337.out)
    have n7_ := Aside0.mk (Kd.C_drew HR347.out)
    have n8_ := Aside0.mk (below_drew1 HB.out)
    clear HO333
    clear HO340
    clear HO343
    clear HO350
    clear BK328
    clear BK329
    clear BK337
    clear HR347
    clear HB
    have HO333 := n0_
    have HO340 := n1_
    have HO343 := n2_
    have HO350 := n3_
    have BK328 := n4_
    have BK329 := n5_
    have BK337 := n6_
    have HR347 := n7_
    have HB := n8_
    clear n0_ n1_ n2_ n3_ n4_ n5_ n6_ n7_ n8_
    have q47 : ((ji9) : Int) ≤ ((t341.length : Int) : Int) := of_decide_eq_true (by first | (with_reducible assumption) | assumption)
    obtain ⟨i047, hi047, _, hsz47, _⟩ := info_parts info44
    have hroom47 : t341.length ≤ co41 := (Kd.S_reads' HO343.out).2.1
    have hC47 : Kd.C (Kd.slice 40 k40) _ Ao41 t341.length t341 := (Kd.S_reads' HO343.out).2.2
    have q047 : (0 : Int) ≤ ((ji9) : Int) := of_decide_eq_true (by first | (with_reducible assumption) | assumption)
    have hcut47 := cut_from (P := Try.prog) 25 44 .i64 Try.underlying25 hi047 1 hsz47 Ao41 t341.length co41 (ji9) q047 q47
    have hr47 := Kd.C_drop (m := ((ji9) : Int).toNat) (c := co41) hC47 (by omega) hroom47
    obtain ⟨A47, hA47⟩ : ∃ Z_, Z_ = (if co41 = ((ji9) : Int).toNat then Ao41 else (Ao41 : Option Addr).map (·.add (((ji9) : Int).toNat * 1))) := ⟨_, rfl⟩
    obtain ⟨c47, hc47⟩ : ∃ z_, z_ = co41 - ((ji9) : Int).toNat := ⟨_, rfl⟩
    have hy47 : y351.length = t341.length - ((ji9) : Int).toNat := (by rw [Ny351.out, List.length_drop] <;> omega)
    rw [show (t341).drop ((ji9) : Int).toNat = y351 from Ny351.out.symm] at hr47
    replace hr47 : Kd.C (Kd.slice 40 k40) _ A47 y351.length y351 := (by rw [hA47]; exact hr47)
    rw [← hy47, ← hA47, ← hc47] at hcut47
    have HR354 := Aside0.mk hr47
    have HC354 := Aside0.mk (show y351.length ≤ c47 from by rw [hy47, hc47]; exact Nat.sub_le_sub_right hroom47 _)
    clear hr47 hC47 hroom47 hi047 hsz47 hc47
    have KY47 := Aside0.mk hy47
    have KA47 := Aside0.mk hA47
    clear hy47 hA47
    have KL47 := Aside0.mk (show ((ji9) : Int).toNat ≤ t341.length from by omega)
    replace q47 := eq_true q47
    refine start_ (n := 7) (S := fun w' => w'.cell? ⟨gb337, 0, none⟩ = some (.slice Ao32 t331.length co32) ∧ w'.cell? ⟨gb337, 1, none⟩ = some (.int .i64 t334) ∧ w'.cell? ⟨gb337, 2, none⟩ = some (.int .i64 t335) ∧ w'.cell? ⟨gb337, 3, none⟩ = some (.int .i64 t336)) (ds := []) #[false, false, false, false, false, false, false] (by kernel_rfl) rfl rfl ⟨(blk_cell BK337.out 0).trans rfl, (blk_cell BK337.out 1).trans rfl, (blk_cell BK337.out 2).trans rfl, (blk_cell BK337.out 3).trans rfl⟩ (fun hHeld => ?_)
    generalize w45.drew = w46 at HO333 HO340 HO343 HO350 BK328 BK329 BK337 HR347 HB HR354 hHeld ⊢
    refine pure_ (i := 1) (N := some 42) (v := ?_) (a' := ?_) #[false, true, false, false, false, false, false] rfl rfl (by kernel_rfl) (fun _ _ _ h => h) (Or.inl ⟨by rfl, ?_⟩) ?_ ?_
    rotate_left; (intro w'; go_simp; with_reducible rfl); rotate_left; (simp only [Act.put, List.setIfInBounds_toArray, List.set_cons_zero, List.set_cons_succ, i64_w, i32_w]; rfl)
    refine pure_ (i := 2) (N := some 43) (v := ?_) (a' := ?_) #[false, true, true, false, false, false, false] rfl rfl (by kernel_rfl) (fun _ _ _ h => h) (Or.inl ⟨by rfl, ?_⟩) ?_ ?_
    rotate_left; (intro w'; go_simp; with_reducible rfl); rotate_left; (simp only [Act.put, List.setIfInBounds_toArray, List.set_cons_zero, List.set_cons_succ, i64_w, i32_w]; rfl)
    refine pure_ (i := 3) (N := some 44) (v := ?_) (a' := ?_) #[false, true, true, true, false, false, false] rfl rfl (by kernel_rfl) (fun _ _ _ h => h) (Or.inl ⟨by rfl, ?_⟩) ?_ ?_
    rotate_left; (intro w'; go_simp; with_reducible rfl); rotate_left; (simp only [Act.put, List.setIfInBounds_toArray, List.set_cons_zero, List.set_cons_succ, i64_w, i32_w]; rfl)
    refine pure_ (i := 4) (N := some 45) (v := ?_) (a' := ?_) #[false, true, true, true, true, false, false] rfl rfl (by kernel_rfl) (fun _ _ _ h => h) (Or.inl ⟨by rfl, ?_⟩) ?_ ?_
    rotate_left; (intro w'; go_simp; with_reducible rfl); rotate_left; (simp only [Act.put, List.setIfInBounds_toArray, List.set_cons_zero, List.set_cons_succ, i64_w, i32_w]; rfl)
    refine take_ (i := 0) (N := some 41) (v := ?_) (a' := ?_) #[true, true, true, true, true, false, false] rfl rfl (by kernel_rfl) (fun _ _ _ h => h) (Or.inl ⟨by rfl, ?_⟩) hHeld ?_ ?_
    rotate_left; (rintro w' ⟨s0, s1, s2, s3⟩; go_simp; with_reducible rfl); rotate_left; (simp only [Act.put, List.setIfInBounds_toArray, List.set_cons_zero, List.set_cons_succ, i64_w, i32_w]; rfl)
    refine one_ (i := 5) (N := some 46) #[true, true, true, true, true, true, false] rfl rfl (by kernel_rfl) (by decide) (fun K hK => ?_)
    refine goes_ Try.func11 (by kernel_rfl) rfl #[.agg #[.slice Ao32 t331.length co32, .int .i64 t334, .int .i64 t335, .int .i64 t336], .slice Ao44 t338.length co44, .slice A47 y351.length c47] (by rfl) rfl rfl (by (try simp only [List.map_toArray, List.map_cons, List.map_nil]); first | done | rfl | (simp only [List.length_drop, List.length_take]; rfl)) ?_
    with_reducible refine (agg_Rows.calls k _ _ t331 t334 t335 t336 _ _ t338 _ _ y351 t355 _ ?side1 ?side2 ?side3 ?side4 ?side5 ?side6 A15.out).mono ?_
    (case side1 => repeat (first | exact (Kd.R_reads' HO333.out).2.2 | (with_reducible refine Kd.C_alloc ?_ _) | (with_reducible refine Kd.C_drewN ?_ _) | (with_reducible refine Kd.C_drew ?_)))
    (case side2 => exact (Kd.R_reads' HO333.out).2.1)
    (case side3 => repeat (first | exact (Kd.R_reads' HO340.out).2.2 | (with_reducible refine Kd.C_alloc ?_ _) | (with_reducible refine Kd.C_drewN ?_ _) | (with_reducible refine Kd.C_drew ?_)))
    (case side4 => exact (Kd.R_reads' HO340.out).2.1)
    (case side5 => repeat (first | exact (by repeat (first | (with_reducible exact HR354.out) | (with_reducible refine Kd.C_alloc ?_ _) | (with_reducible refine Kd.C_drewN ?_ _) | (with_reducible refine Kd.C_drew ?_) | exact HR354.out)) | (with_reducible refine Kd.C_alloc ?_ _) | (with_reducible refine Kd.C_drewN ?_ _) | (with_reducible refine Kd.C_drew ?_)))
    (case side6 => exact HC354.out)
    rintro e w48 ⟨v356, rfl, ho0, hb⟩
    refine ⟨_, rfl, ?_⟩
    have n0_ := Aside0.mk (Kd.R_below (by (with_reducible repeat (first | apply Kd.R_alloc | apply Kd.R_drewN | apply Kd.R_drew)); exact HO333.out) hb)
    have n1_ := Aside0.mk (Kd.R_below (by (with_reducible repeat (first | apply Kd.R_alloc | apply Kd.R_drewN | apply Kd.R_drew)); exact HO340.out) hb)
    have n2_ := Aside0.mk (Kd.S_below (by (with_reducible repeat (first | apply Kd.S_alloc | apply Kd.S_drewN | apply Kd.S_drew)); exact HO343.out) hb)
    have n3_ := Aside0.mk (Kd.R_elder' (by (with_reducible repeat (first | apply Kd.R_alloc | apply Kd.R_drewN | apply Kd.R_drew)); exact HO350.out) (Kd.R_base ho0) hb)
    have n4_ := Aside0.mk (Kd.R_lower (Kd.R_new' ho0 (Kd.R_lt (by (with_reducible repeat (first | apply Kd.R_alloc | apply Kd.R_drewN | apply Kd.R_drew)); exact HO350.out))) (below_size (by repeat (first | (with_reducible first | exact HB.out | apply below_alloc | apply pw_below_drewN | apply below_drew1 | refine below_set ?_ GE328.out | refine below_set ?_ GE329.out | refine below_set ?_ GE337.out) | exact HB.out))))
    have n5_ := Aside0.mk (blk_below (g := gb328) (o := .cells #[.int .u8 a0_0, .int .u8 a0_1, .int .u8 a0_2, .int .u8 a0_3, .int .u8 a0_4, .int .u8 a0_5, .int .u8 a0_6, .int .u8 a0_7, .int .u8 a0_8, .int .u8 a0_9, .int .u8 a0_10, .int .u8 a0_11] 24 (0, 0)) (by (with_reducible repeat (first | refine blk_drewN ?_ _ | refine blk_drew ?_ | refine blk_alloc ?_ _)); exact BK328.out) hb)
    have n6_ := Aside0.mk (blk_below (g := gb329) (o := .cells #[.slice A2_0 l2_0.length c2_0, .int .u8 a2_1] 49 (0, 0)) (by (with_reducible repeat (first | refine blk_drewN ?_ _ | refine blk_drew ?_ | refine blk_alloc ?_ _)); exact BK329.out) hb)
    have n7_ := Aside0.mk (blk_below (g := gb337) (o := .cells #[.slice Ao32 t331.length co32, .int .i64 t334, .int .i64 t335, .int .i64 t336] 29 (0, 0)) (by (with_reducible repeat (first | refine blk_drewN ?_ _ | refine blk_drew ?_ | refine blk_alloc ?_ _)); exact BK337.out) hb)
    have n8_ := Aside0.mk (Kd.C_below (by repeat (first | (with_reducible exact HR347.out) | (with_reducible refine Kd.C_alloc ?_ _) | (with_reducible refine Kd.C_drewN ?_ _) | (with_reducible refine Kd.C_drew ?_) | exact HR347.out)) hb)
    have n9_ := Aside0.mk (Kd.C_below (by repeat (first | (with_reducible exact HR354.out) | (with_reducible refine Kd.C_alloc ?_ _) | (with_reducible refine Kd.C_drewN ?_ _) | (with_reducible refine Kd.C_drew ?_) | exact HR354.out)) hb)
    have n10_ := Aside0.mk (below_step (by repeat (first | (with_reducible first | exact HB.out | apply below_alloc | apply pw_below_drewN | apply below_drew1 | refine below_set ?_ GE328.out | refine below_set ?_ GE329.out | refine below_set ?_ GE337.out) | exact HB.out)) hb)
    clear HO333
    clear HO340
    clear HO343
    clear HO350
    clear BK328
    clear BK329
    clear BK337
    clear HR347
    clear HR354
    clear HB
    have HO333 := n0_
    have HO340 := n1_
    have HO343 := n2_
    have HO350 := n3_
    have HO357 := n4_
    have BK328 := n5_
    have BK329 := n6_
    have BK337 := n7_
    have HR347 := n8_
    have HR354 := n9_
    have HB := n10_
    clear n0_ n1_ n2_ n3_ n4_ n5_ n6_ n7_ n8_ n9_ n10_
    (try clear hb)
    (try clear hb2)
    (try clear hk)
    (try clear hi)
    (try clear ho0)
    refine hK.out _ _ ⟨(blk_cell BK337.out 0).trans rfl, (blk_cell BK337.out 1).trans rfl, (blk_cell BK337.out 2).trans rfl, (blk_cell BK337.out 3).trans rfl⟩ (fun hHeld => ?_)
    clear hK K
    refine norm_ (a' := ?_) ?_ ?_
    rotate_left
    ·show Act.put _ (some 46) _ = _
     simp only [Act.put, List.setIfInBounds_toArray, List.set_cons_zero, List.set_cons_succ, i64_w, i32_w]
     rfl
    refine pure_ (i := 6) (N := some 13) (v := ?_) (a' := ?_) #[true, true, true, true, true, true, true] rfl rfl (by kernel_rfl) (fun _ _ _ h => h) (Or.inl ⟨by rfl, ?_⟩) ?_ ?_
    rotate_left; (intro w'; go_simp; with_reducible rfl); rotate_left; (simp only [Act.put, List.setIfInBounds_toArray, List.set_cons_zero, List.set_cons_succ, i64_w, i32_w]; rfl)
    refine done_ (by kernel_rfl) ?_
    have hcz49_0 : w48.cell? ⟨gb337, 0, none⟩ = some (.slice Ao32 t331.length co32) := (blk_cell BK337.out 0).trans rfl
    have hcz49_1 : w48.cell? ⟨gb337, 1, none⟩ = some (.int .i64 t334) := (blk_cell BK337.out 1).trans rfl
    have hcz49_2 : w48.cell? ⟨gb337, 2, none⟩ = some (.int .i64 t335) := (blk_cell BK337.out 2).trans rfl
    have hcz49_3 : w48.cell? ⟨gb337, 3, none⟩ = some (.int .i64 t336) := (blk_cell BK337.out 3).trans rfl
    have hfz49_0 := blk_frozen BK337.out 0
    have hfz49_1 := blk_frozen BK337.out 1
    have hfz49_2 := blk_frozen BK337.out 2
    have hfz49_3 := blk_frozen BK337.out 3
    try go_wp2_with (first | ((with_reducible refine gate_callee (f := 11) rfl ?_); refine goesL_ (some 50) rfl rfl Try.func11 (by kernel_rfl) rfl #[.agg #[.slice Ao32 t331.length co32, .int .i64 t334, .int .i64 t335, .int .i64 t336], .slice Ao44 t338.length co44, .slice Ao41 t341.length co41] rfl (by (try simp only [List.map_toArray, List.map_cons, List.map_nil]); first | done | rfl | (simp only [List.length_drop, List.length_take]; rfl)) ?_; (with_reducible refine (agg_Rows.calls k _ _ t331 t334 t335 t336 _ _ t338 _ _ t341 t358 _ ?side1 ?side2 ?side3 ?side4 ?side5 ?side6 A16.out).mono ?_); (case side1 => repeat (first | exact (Kd.R_reads' HO333.out).2.2 | (with_reducible refine Kd.C_alloc ?_ _) | (with_reducible refine Kd.C_drewN ?_ _) | (with_reducible refine Kd.C_drew ?_))); (case side2 => exact (Kd.R_reads' HO333.out).2.1); (case side3 => repeat (first | exact (Kd.R_reads' HO340.out).2.2 | (with_reducible refine Kd.C_alloc ?_ _) | (with_reducible refine Kd.C_drewN ?_ _) | (with_reducible refine Kd.C_drew ?_))); (case side4 => exact (Kd.R_reads' HO340.out).2.1); (case side5 => repeat (first | exact (Kd.S_reads' HO343.out).2.2 | (with_reducible refine Kd.C_alloc ?_ _) | (with_reducible refine Kd.C_drewN ?_ _) | (with_reducible refine Kd.C_drew ?_))); (case side6 => exact (Kd.S_reads' HO343.out).2.1); rintro e w50 ⟨v359, rfl, ho0, hb⟩; refine ⟨_, rfl, ?_⟩; have n0_ := Aside0.mk (Kd.R_below (by (with_reducible repeat (first | apply Kd.R_alloc | apply Kd.R_drewN | apply Kd.R_drew)); exact HO333.out) hb); have n1_ := Aside0.mk (Kd.R_below (by (with_reducible repeat (first | apply Kd.R_alloc | apply Kd.R_drewN | apply Kd.R_drew)); exact HO340.out) hb); have n2_ := Aside0.mk (Kd.S_below (by (with_reducible repeat (first | apply Kd.S_alloc | apply Kd.S_drewN | apply Kd.S_drew)); exact HO343.out) hb); have n3_ := Aside0.mk (Kd.R_elder' (by (with_reducible repeat (first | apply Kd.R_alloc | apply Kd.R_drewN | apply Kd.R_drew)); exact HO350.out) (Kd.R_base ho0) hb); have n4_ := Aside0.mk (Kd.R_elder' (by (with_reducible repeat (first | apply Kd.R_alloc | apply Kd.R_drewN | apply Kd.R_drew)); exact HO357.out) (Kd.R_base ho0) hb); have n5_ := Aside0.mk (Kd.R_lower (Kd.R_new' (Kd.R_new' ho0 (Kd.R_lt (by (with_reducible repeat (first | apply Kd.R_alloc | apply Kd.R_drewN | apply Kd.R_drew)); exact HO350.out))) (Kd.R_lt (by (with_reducible repeat (first | apply Kd.R_alloc | apply Kd.R_drewN | apply Kd.R_drew)); exact HO357.out))) (below_size (by repeat (first | (with_reducible first | exact HB.out | apply below_alloc | apply pw_below_drewN | apply below_drew1 | refine below_set ?_ GE328.out | refine below_set ?_ GE329.out | refine below_set ?_ GE337.out) | exact HB.out)))); have n6_ := Aside0.mk (blk_below (g := gb328) (o := .cells #[.int .u8 a0_0, .int .u8 a0_1, .int .u8 a0_2, .int .u8 a0_3, .int .u8 a0_4, .int .u8 a0_5, .int .u8 a0_6, .int .u8 a0_7, .int .u8 a0_8, .int .u8 a0_9, .int .u8 a0_10, .int .u8 a0_11] 24 (0, 0)) (by (with_reducible repeat (first | refine blk_drewN ?_ _ | refine blk_drew ?_ | refine blk_alloc ?_ _)); exact BK328.out) hb); have n7_ := Aside0.mk (blk_below (g := gb329) (o := .cells #[.slice A2_0 l2_0.length c2_0, .int .u8 a2_1] 49 (0, 0)) (by (with_reducible repeat (first | refine blk_drewN ?_ _ | refine blk_drew ?_ | refine blk_alloc ?_ _)); exact BK329.out) hb); have n8_ := Aside0.mk (blk_below (g := gb337) (o := .cells #[.slice Ao32 t331.length co32, .int .i64 t334, .int .i64 t335, .int .i64 t336] 29 (0, 0)) (by (with_reducible repeat (first | refine blk_drewN ?_ _ | refine blk_drew ?_ | refine blk_alloc ?_ _)); exact BK337.out) hb); have n9_ := Aside0.mk (Kd.C_below (by repeat (first | (with_reducible exact HR347.out) | (with_reducible refine Kd.C_alloc ?_ _) | (with_reducible refine Kd.C_drewN ?_ _) | (with_reducible refine Kd.C_drew ?_) | exact HR347.out)) hb); have n10_ := Aside0.mk (Kd.C_below (by repeat (first | (with_reducible exact HR354.out) | (with_reducible refine Kd.C_alloc ?_ _) | (with_reducible refine Kd.C_drewN ?_ _) | (with_reducible refine Kd.C_drew ?_) | exact HR354.out)) hb); have n11_ := Aside0.mk (below_step (by repeat (first | (with_reducible first | exact HB.out | apply below_alloc | apply pw_below_drewN | apply below_drew1 | refine below_set ?_ GE328.out | refine below_set ?_ GE329.out | refine below_set ?_ GE337.out) | exact HB.out)) hb); clear HO333; clear HO340; clear HO343; clear HO350; clear HO357; clear BK328; clear BK329; clear BK337; clear HR347; clear HR354; clear HB; have HO333 := n0_; have HO340 := n1_; have HO343 := n2_; have HO350 := n3_; have HO357 := n4_; have HO360 := n5_; have BK328 := n6_; have BK329 := n7_; have BK337 := n8_; have HR347 := n9_; have HR354 := n10_; have HB := n11_; clear n0_ n1_ n2_ n3_ n4_ n5_ n6_ n7_ n8_ n9_ n10_ n11_; (try clear hb); (try clear hb2); (try clear hk); (try clear hi); (try clear ho0); have hcz51_0 : w50.cell? ⟨gb337, 0, none⟩ = some (.slice Ao32 t331.length co32) := (blk_cell BK337.out 0).trans rfl; have hcz51_1 : w50.cell? ⟨gb337, 1, none⟩ = some (.int .i64 t334) := (blk_cell BK337.out 1).trans rfl; have hcz51_2 : w50.cell? ⟨gb337, 2, none⟩ = some (.int .i64 t335) := (blk_cell BK337.out 2).trans rfl; have hcz51_3 : w50.cell? ⟨gb337, 3, none⟩ = some (.int .i64 t336) := (blk_cell BK337.out 3).trans rfl; have hfz51_0 := blk_frozen BK337.out 0; have hfz51_1 := blk_frozen BK337.out 1; have hfz51_2 := blk_frozen BK337.out 2; have hfz51_3 := blk_frozen BK337.out 3; obtain ⟨Ao52, co52, eo52⟩ := Kd.R_slice HO350.out; subst eo52; obtain ⟨Ao53, co53, eo53⟩ := Kd.R_slice HO357.out; subst eo53) | ((with_reducible refine gate_callee (f := 15) rfl ?_); refine goesL_ (some 55) rfl rfl Try.func15 (by kernel_rfl) rfl #[.agg #[.slice Ao32 t331.length co32, .int .i64 t334, .int .i64 t335, .int .i64 t336], .slice Ao44 t338.length co44, .slice Ao52 t348.length co52, .slice Ao53 t355.length co53] rfl (by (try simp only [List.map_toArray, List.map_cons, List.map_nil]); first | done | rfl | (simp only [List.length_drop, List.length_take]; rfl)) ?_; (with_reducible refine (agg_Join.calls k _ _ t331 t334 t335 t336 _ _ t338 _ _ t348 _ _ t355 t361 _ ?side1 ?side2 ?side3 ?side4 ?side5 ?side6 ?side7 ?side8 A17.out).mono ?_); (case side1 => repeat (first | exact (Kd.R_reads' HO333.out).2.2 | (with_reducible refine Kd.C_alloc ?_ _) | (with_reducible refine Kd.C_drewN ?_ _) | (with_reducible refine Kd.C_drew ?_))); (case side2 => exact (Kd.R_reads' HO333.out).2.1); (case side3 => repeat (first | exact (Kd.R_reads' HO340.out).2.2 | (with_reducible refine Kd.C_alloc ?_ _) | (with_reducible refine Kd.C_drewN ?_ _) | (with_reducible refine Kd.C_drew ?_))); (case side4 => exact (Kd.R_reads' HO340.out).2.1); (case side5 => repeat (first | exact (Kd.R_reads' HO350.out).2.2 | (with_reducible refine Kd.C_alloc ?_ _) | (with_reducible refine Kd.C_drewN ?_ _) | (with_reducible refine Kd.C_drew ?_))); (case side6 => exact (Kd.R_reads' HO350.out).2.1); (case side7 => repeat (first | exact (Kd.R_reads' HO357.out).2.2 | (with_reducible refine Kd.C_alloc ?_ _) | (with_reducible refine Kd.C_drewN ?_ _) | (with_reducible refine Kd.C_drew ?_))); (case side8 => exact (Kd.R_reads' HO357.out).2.1); rintro e w54 ⟨v362, rfl, ho0, hb⟩; refine ⟨_, rfl, ?_⟩; have n0_ := Aside0.mk (Kd.R_below (by (with_reducible repeat (first | apply Kd.R_alloc | apply Kd.R_drewN | apply Kd.R_drew)); exact HO333.out) hb); have n1_ := Aside0.mk (Kd.R_below (by (with_reducible repeat (first | apply Kd.R_alloc | apply Kd.R_drewN | apply Kd.R_drew)); exact HO340.out) hb); have n2_ := Aside0.mk (Kd.S_below (by (with_reducible repeat (first | apply Kd.S_alloc | apply Kd.S_drewN | apply Kd.S_drew)); exact HO343.out) hb); have n3_ := Aside0.mk (Kd.R_elder' (by (with_reducible repeat (first | apply Kd.R_alloc | apply Kd.R_drewN | apply Kd.R_drew)); exact HO350.out) (Kd.R_base ho0) hb); have n4_ := Aside0.mk (Kd.R_elder' (by (with_reducible repeat (first | apply Kd.R_alloc | apply Kd.R_drewN | apply Kd.R_drew)); exact HO357.out) (Kd.R_base ho0) hb); have n5_ := Aside0.mk (Kd.R_elder' (by (with_reducible repeat (first | apply Kd.R_alloc | apply Kd.R_drewN | apply Kd.R_drew)); exact HO360.out) (Kd.R_base ho0) hb); have n6_ := Aside0.mk (Kd.R_lower (Kd.R_new' (Kd.R_new' (Kd.R_new' ho0 (Kd.R_lt (by (with_reducible repeat (first | apply Kd.R_alloc | apply Kd.R_drewN | apply Kd.R_drew)); exact HO350.out))) (Kd.R_lt (by (with_reducible repeat (first | apply Kd.R_alloc | apply Kd.R_drewN | apply Kd.R_drew)); exact HO357.out))) (Kd.R_lt (by (with_reducible repeat (first | apply Kd.R_alloc | apply Kd.R_drewN | apply Kd.R_drew)); exact HO360.out))) (below_size (by repeat (first | (with_reducible first | exact HB.out | apply below_alloc | apply pw_below_drewN | apply below_drew1 | refine below_set ?_ GE328.out | refine below_set ?_ GE329.out | refine below_set ?_ GE337.out) | exact HB.out)))); have n7_ := Aside0.mk (blk_below (g := gb328) (o := .cells #[.int .u8 a0_0, .int .u8 a0_1, .int .u8 a0_2, .int .u8 a0_3, .int .u8 a0_4, .int .u8 a0_5, .int .u8 a0_6, .int .u8 a0_7, .int .u8 a0_8, .int .u8 a0_9, .int .u8 a0_10, .int .u8 a0_11] 24 (0, 0)) (by (with_reducible repeat (first | refine blk_drewN ?_ _ | refine blk_drew ?_ | refine blk_alloc ?_ _)); exact BK328.out) hb); have n8_ := Aside0.mk (blk_below (g := gb329) (o := .cells #[.slice A2_0 l2_0.length c2_0, .int .u8 a2_1] 49 (0, 0)) (by (with_reducible repeat (first | refine blk_drewN ?_ _ | refine blk_drew ?_ | refine blk_alloc ?_ _)); exact BK329.out) hb); have n9_ := Aside0.mk (blk_below (g := gb337) (o := .cells #[.slice Ao32 t331.length co32, .int .i64 t334, .int .i64 t335, .int .i64 t336] 29 (0, 0)) (by (with_reducible repeat (first | refine blk_drewN ?_ _ | refine blk_drew ?_ | refine blk_alloc ?_ _)); exact BK337.out) hb); have n10_ := Aside0.mk (Kd.C_below (by repeat (first | (with_reducible exact HR347.out) | (with_reducible refine Kd.C_alloc ?_ _) | (with_reducible refine Kd.C_drewN ?_ _) | (with_reducible refine Kd.C_drew ?_) | exact HR347.out)) hb); have n11_ := Aside0.mk (Kd.C_below (by repeat (first | (with_reducible exact HR354.out) | (with_reducible refine Kd.C_alloc ?_ _) | (with_reducible refine Kd.C_drewN ?_ _) | (with_reducible refine Kd.C_drew ?_) | exact HR354.out)) hb); have n12_ := Aside0.mk (below_step (by repeat (first | (with_reducible first | exact HB.out | apply below_alloc | apply pw_below_drewN | apply below_drew1 | refine below_set ?_ GE328.out | refine below_set ?_ GE329.out | refine below_set ?_ GE337.out) | exact HB.out)) hb); clear HO333; clear HO340; clear HO343; clear HO350; clear HO357; clear HO360; clear BK328; clear BK329; clear BK337; clear HR347; clear HR354; clear HB; have HO333 := n0_; have HO340 := n1_; have HO343 := n2_; have HO350 := n3_; have HO357 := n4_; have HO360 := n5_; have HO363 := n6_; have BK328 := n7_; have BK329 := n8_; have BK337 := n9_; have HR347 := n10_; have HR354 := n11_; have HB := n12_; clear n0_ n1_ n2_ n3_ n4_ n5_ n6_ n7_ n8_ n9_ n10_ n11_ n12_; (try clear hb); (try clear hb2); (try clear hk); (try clear hi); (try clear ho0); obtain ⟨Ao55, co55, eo55⟩ := Kd.R_slice HO363.out; subst eo55; obtain ⟨Ao56, co56, eo56⟩ := Kd.R_slice HO360.out; subst eo56) | ((with_reducible refine gate_callee (f := 13) rfl ?_); refine goesL_ (some 57) rfl rfl Try.func13 (by kernel_rfl) rfl #[.slice Ao55 t361.length co55, .slice Ao56 t358.length co56] rfl (by (try simp only [List.map_toArray, List.map_cons, List.map_nil]); first | done | rfl | (simp only [List.length_drop, List.length_take]; rfl)) ?_; (with_reducible refine (thresherref20_Same.calls k _ _ t361 _ _ t358 t364 _ ?side1 ?side2 ?side3 ?side4 A18.out).mono ?_); (case side1 => repeat (first | exact (Kd.R_reads' HO363.out).2.2 | (with_reducible refine Kd.C_alloc ?_ _) | (with_reducible refine Kd.C_drewN ?_ _) | (with_reducible refine Kd.C_drew ?_))); (case side2 => exact (Kd.R_reads' HO363.out).2.1); (case side3 => repeat (first | exact (Kd.R_reads' HO360.out).2.2 | (with_reducible refine Kd.C_alloc ?_ _) | (with_reducible refine Kd.C_drewN ?_ _) | (with_reducible refine Kd.C_drew ?_))); (case side4 => exact (Kd.R_reads' HO360.out).2.1); rintro e w' ⟨rfl, ⟨nd, rfl⟩⟩; refine ⟨_, rfl, ?_⟩; have hcz57_0 : w54.cell? ⟨gb337, 0, none⟩ = some (.slice Ao32 t331.length co32) := (blk_cell BK337.out 0).trans rfl; have hcz57_1 : w54.cell? ⟨gb337, 1, none⟩ = some (.int .i64 t334) := (blk_cell BK337.out 1).trans rfl; have hcz57_2 : w54.cell? ⟨gb337, 2, none⟩ = some (.int .i64 t335) := (blk_cell BK337.out 2).trans rfl; have hcz57_3 : w54.cell? ⟨gb337, 3, none⟩ = some (.int .i64 t336) := (blk_cell BK337.out 3).trans rfl; have hfz57_0 := blk_frozen BK337.out 0; have hfz57_1 := blk_frozen BK337.out 1; have hfz57_2 := blk_frozen BK337.out 2; have hfz57_3 := blk_frozen BK337.out 3) | ((with_reducible refine gate_callee (f := 15) rfl ?_); refine goesL_ (some 62) rfl rfl Try.func15 (by kernel_rfl) rfl #[.agg #[.slice Ao32 t331.length co32, .int .i64 t334, .int .i64 t335, .int .i64 t336], .slice Ao44 t338.length co44, .slice Ao53 t355.length co53, .slice Ao52 t348.length co52] rfl (by (try simp only [List.map_toArray, List.map_cons, List.map_nil]); first | done | rfl | (simp only [List.length_drop, List.length_take]; rfl)) ?_; (with_reducible refine (agg_Join.calls k _ _ t331 t334 t335 t336 _ _ t338 _ _ t355 _ _ t348 t365 _ ?side1 ?side2 ?side3 ?side4 ?side5 ?side6 ?side7 ?side8 A19.out).mono ?_); (case side1 => repeat (first | exact (Kd.R_reads' HO333.out).2.2 | (with_reducible refine Kd.C_alloc ?_ _) | (with_reducible refine Kd.C_drewN ?_ _) | (with_reducible refine Kd.C_drew ?_))); (case side2 => exact (Kd.R_reads' HO333.out).2.1); (case side3 => repeat (first | exact (Kd.R_reads' HO340.out).2.2 | (with_reducible refine Kd.C_alloc ?_ _) | (with_reducible refine Kd.C_drewN ?_ _) | (with_reducible refine Kd.C_drew ?_))); (case side4 => exact (Kd.R_reads' HO340.out).2.1); (case side5 => repeat (first | exact (Kd.R_reads' HO357.out).2.2 | (with_reducible refine Kd.C_alloc ?_ _) | (with_reducible refine Kd.C_drewN ?_ _) | (with_reducible refine Kd.C_drew ?_))); (case side6 => exact (Kd.R_reads' HO357.out).2.1); (case side7 => repeat (first | exact (Kd.R_reads' HO350.out).2.2 | (with_reducible refine Kd.C_alloc ?_ _) | (with_reducible refine Kd.C_drewN ?_ _) | (with_reducible refine Kd.C_drew ?_))); (case side8 => exact (Kd.R_reads' HO350.out).2.1); rintro e w58 ⟨v366, rfl, ho0, hb⟩; refine ⟨_, rfl, ?_⟩; have n0_ := Aside0.mk (Kd.R_below (by (with_reducible repeat (first | apply Kd.R_alloc | apply Kd.R_drewN | apply Kd.R_drew)); exact HO333.out) hb); have n1_ := Aside0.mk (Kd.R_below (by (with_reducible repeat (first | apply Kd.R_alloc | apply Kd.R_drewN | apply Kd.R_drew)); exact HO340.out) hb); have n2_ := Aside0.mk (Kd.S_below (by (with_reducible repeat (first | apply Kd.S_alloc | apply Kd.S_drewN | apply Kd.S_drew)); exact HO343.out) hb); have n3_ := Aside0.mk (Kd.R_elder' (by (with_reducible repeat (first | apply Kd.R_alloc | apply Kd.R_drewN | apply Kd.R_drew)); exact HO350.out) (Kd.R_base ho0) hb); have n4_ := Aside0.mk (Kd.R_elder' (by (with_reducible repeat (first | apply Kd.R_alloc | apply Kd.R_drewN | apply Kd.R_drew)); exact HO357.out) (Kd.R_base ho0) hb); have n5_ := Aside0.mk (Kd.R_elder' (by (with_reducible repeat (first | apply Kd.R_alloc | apply Kd.R_drewN | apply Kd.R_drew)); exact HO360.out) (Kd.R_base ho0) hb); have n6_ := Aside0.mk (Kd.R_elder' (by (with_reducible repeat (first | apply Kd.R_alloc | apply Kd.R_drewN | apply Kd.R_drew)); exact HO363.out) (Kd.R_base ho0) hb); have n7_ := Aside0.mk (Kd.R_lower (Kd.R_new' (Kd.R_new' (Kd.R_new' (Kd.R_new' ho0 (Kd.R_lt (by (with_reducible repeat (first | apply Kd.R_alloc | apply Kd.R_drewN | apply Kd.R_drew)); exact HO350.out))) (Kd.R_lt (by (with_reducible repeat (first | apply Kd.R_alloc | apply Kd.R_drewN | apply Kd.R_drew)); exact HO357.out))) (Kd.R_lt (by (with_reducible repeat (first | apply Kd.R_alloc | apply Kd.R_drewN | apply Kd.R_drew)); exact HO360.out))) (Kd.R_lt (by (with_reducible repeat (first | apply Kd.R_alloc | apply Kd.R_drewN | apply Kd.R_drew)); exact HO363.out))) (below_size (by repeat (first | (with_reducible first | exact HB.out | apply below_alloc | apply pw_below_drewN | apply below_drew1 | refine below_set ?_ GE328.out | refine below_set ?_ GE329.out | refine below_set ?_ GE337.out) | exact HB.out)))); have n8_ := Aside0.mk (blk_below (g := gb328) (o := .cells #[.int .u8 a0_0, .int .u8 a0_1, .int .u8 a0_2, .int .u8 a0_3, .int .u8 a0_4, .int .u8 a0_5, .int .u8 a0_6, .int .u8 a0_7, .int .u8 a0_8, .int .u8 a0_9, .int .u8 a0_10, .int .u8 a0_11] 24 (0, 0)) (by (with_reducible repeat (first | refine blk_drewN ?_ _ | refine blk_drew ?_ | refine blk_alloc ?_ _)); exact BK328.out) hb); have n9_ := Aside0.mk (blk_below (g := gb329) (o := .cells #[.slice A2_0 l2_0.length c2_0, .int .u8 a2_1] 49 (0, 0)) (by (with_reducible repeat (first | refine blk_drewN ?_ _ | refine blk_drew ?_ | refine blk_alloc ?_ _)); exact BK329.out) hb); have n10_ := Aside0.mk (blk_below (g := gb337) (o := .cells #[.slice Ao32 t331.length co32, .int .i64 t334, .int .i64 t335, .int .i64 t336] 29 (0, 0)) (by (with_reducible repeat (first | refine blk_drewN ?_ _ | refine blk_drew ?_ | refine blk_alloc ?_ _)); exact BK337.out) hb); have n11_ := Aside0.mk (Kd.C_below (by repeat (first | (with_reducible exact HR347.out) | (with_reducible refine Kd.C_alloc ?_ _) | (with_reducible refine Kd.C_drewN ?_ _) | (with_reducible refine Kd.C_drew ?_) | exact HR347.out)) hb); have n12_ := Aside0.mk (Kd.C_below (by repeat (first | (with_reducible exact HR354.out) | (with_reducible refine Kd.C_alloc ?_ _) | (with_reducible refine Kd.C_drewN ?_ _) | (with_reducible refine Kd.C_drew ?_) | exact HR354.out)) hb); have n13_ := Aside0.mk (below_step (by repeat (first | (with_reducible first | exact HB.out | apply below_alloc | apply pw_below_drewN | apply below_drew1 | refine below_set ?_ GE328.out | refine below_set ?_ GE329.out | refine below_set ?_ GE337.out) | exact HB.out)) hb); clear HO333; clear HO340; clear HO343; clear HO350; clear HO357; clear HO360; clear HO363; clear BK328; clear BK329; clear BK337; clear HR347; clear HR354; clear HB; have HO333 := n0_; have HO340 := n1_; have HO343 := n2_; have HO350 := n3_; have HO357 := n4_; have HO360 := n5_; have HO363 := n6_; have HO367 := n7_; have BK328 := n8_; have BK329 := n9_; have BK337 := n10_; have HR347 := n11_; have HR354 := n12_; have HB := n13_; clear n0_ n1_ n2_ n3_ n4_ n5_ n6_ n7_ n8_ n9_ n10_ n11_ n12_ n13_; (try clear hb); (try clear hb2); (try clear hk); (try clear hi); (try clear ho0); obtain ⟨Ao59, co59, eo59⟩ := Kd.R_slice HO367.out; subst eo59) | ((with_reducible refine gate_callee (f := 13) rfl ?_); refine goesL_ (some 64) rfl rfl Try.func13 (by kernel_rfl) rfl #[.slice Ao59 t365.length co59, .slice Ao56 t358.length co56] rfl (by (try simp only [List.map_toArray, List.map_cons, List.map_nil]); first | done | rfl | (simp only [List.length_drop, List.length_take]; rfl)) ?_; (with_reducible refine (thresherref20_Same.calls k _ _ t365 _ _ t358 t368 _ ?side1 ?side2 ?side3 ?side4 A20.out).mono ?_); (case side1 => repeat (first | exact (Kd.R_reads' HO367.out).2.2 | (with_reducible refine Kd.C_alloc ?_ _) | (with_reducible refine Kd.C_drewN ?_ _) | (with_reducible refine Kd.C_drew ?_))); (case side2 => exact (Kd.R_reads' HO367.out).2.1); (case side3 => repeat (first | exact (Kd.R_reads' HO360.out).2.2 | (with_reducible refine Kd.C_alloc ?_ _) | (with_reducible refine Kd.C_drewN ?_ _) | (with_reducible refine Kd.C_drew ?_))); (case side4 => exact (Kd.R_reads' HO360.out).2.1); rintro e w' ⟨rfl, ⟨nd, rfl⟩⟩; refine ⟨_, rfl, ?_⟩))
    (try (rw [drewN_self w58]; generalize hq_ : World.drewN w58 _ = w58; have n0_ : Aside0 (Kd.R (Kd.int .i64) 3 w58 w.heap.size (fun _ => True) (.slice Ao32 t331.length co32) t331) := ⟨by rw [← hq_]; exact (by (with_reducible repeat (first | apply Kd.R_alloc | apply Kd.R_drewN | apply Kd.R_drew)); exact HO333.out)⟩; have n1_ : Aside0 (Kd.R k33 33 w58 w.heap.size (fun _ => True) (.slice Ao44 t338.length co44) t338) := ⟨by rw [← hq_]; exact (by (with_reducible repeat (first | apply Kd.R_alloc | apply Kd.R_drewN | apply Kd.R_drew)); exact HO340.out)⟩; have n2_ : Aside0 (Kd.S (Kd.slice 40 k40) 44 w58 w.heap.size (fun _ => True) (.slice Ao41 t341.length co41) t341) := ⟨by rw [← hq_]; exact (by (with_reducible repeat (first | apply Kd.S_alloc | apply Kd.S_drewN | apply Kd.S_drew)); exact HO343.out)⟩; have n3_ : Aside0 (Kd.R k42 42 w58 w.heap.size (fun k_ => some k_ ≠ (.slice Ao53 t355.length co53 : Value).ownBlock ∧ some k_ ≠ (.slice Ao56 t358.length co56 : Value).ownBlock ∧ some k_ ≠ (.slice Ao55 t361.length co55 : Value).ownBlock ∧ some k_ ≠ (.slice Ao59 t365.length co59 : Value).ownBlock) (.slice Ao52 t348.length co52) t348) := ⟨by rw [← hq_]; exact (by (with_reducible repeat (first | apply Kd.R_alloc | apply Kd.R_drewN | apply Kd.R_drew)); exact Kd.R_mono HO350.out (fun _ hk => ⟨hk.1.1.1.2, ⟨hk.1.1.2, ⟨hk.1.2, hk.2⟩⟩⟩))⟩; have n4_ : Aside0 (Kd.R k42 42 w58 w.heap.size (fun k_ => some k_ ≠ (.slice Ao52 t348.length co52 : Value).ownBlock ∧ some k_ ≠ (.slice Ao56 t358.length co56 : Value).ownBlock ∧ some k_ ≠ (.slice Ao55 t361.length co55 : Value).ownBlock ∧ some k_ ≠ (.slice Ao59 t365.length co59 : Value).ownBlock) (.slice Ao53 t355.length co53) t355) := ⟨by rw [← hq_]; exact (by (with_reducible repeat (first | apply Kd.R_alloc | apply Kd.R_drewN | apply Kd.R_drew)); exact Kd.R_mono HO357.out (fun _ hk => ⟨hk.1.1.1.2, ⟨hk.1.1.2, ⟨hk.1.2, hk.2⟩⟩⟩))⟩; have n5_ : Aside0 (Kd.R k42 42 w58 w.heap.size (fun k_ => some k_ ≠ (.slice Ao52 t348.length co52 : Value).ownBlock ∧ some k_ ≠ (.slice Ao53 t355.length co53 : Value).ownBlock ∧ some k_ ≠ (.slice Ao55 t361.length co55 : Value).ownBlock ∧ some k_ ≠ (.slice Ao59 t365.length co59 : Value).ownBlock) (.slice Ao56 t358.length co56) t358) := ⟨by rw [← hq_]; exact (by (with_reducible repeat (first | apply Kd.R_alloc | apply Kd.R_drewN | apply Kd.R_drew)); exact Kd.R_mono HO360.out (fun _ hk => ⟨hk.1.1.1.2, ⟨hk.1.1.2, ⟨hk.1.2, hk.2⟩⟩⟩))⟩; have n6_ : Aside0 (Kd.R k42 42 w58 w.heap.size (fun k_ => some k_ ≠ (.slice Ao52 t348.length co52 : Value).ownBlock ∧ some k_ ≠ (.slice Ao53 t355.length co53 : Value).ownBlock ∧ some k_ ≠ (.slice Ao56 t358.length co56 : Value).ownBlock ∧ some k_ ≠ (.slice Ao59 t365.length co59 : Value).ownBlock) (.slice Ao55 t361.length co55) t361) := ⟨by rw [← hq_]; exact (by (with_reducible repeat (first | apply Kd.R_alloc | apply Kd.R_drewN | apply Kd.R_drew)); exact Kd.R_mono HO363.out (fun _ hk => ⟨hk.1.1.1.2, ⟨hk.1.1.2, ⟨hk.1.2, hk.2⟩⟩⟩))⟩; have n7_ : Aside0 (Kd.R k42 42 w58 w.heap.size (fun k_ => some k_ ≠ (.slice Ao52 t348.length co52 : Value).ownBlock ∧ some k_ ≠ (.slice Ao53 t355.length co53 : Value).ownBlock ∧ some k_ ≠ (.slice Ao56 t358.length co56 : Value).ownBlock ∧ some k_ ≠ (.slice Ao55 t361.length co55 : Value).ownBlock) (.slice Ao59 t365.length co59) t365) := ⟨by rw [← hq_]; exact (by (with_reducible repeat (first | apply Kd.R_alloc | apply Kd.R_drewN | apply Kd.R_drew)); exact Kd.R_mono HO367.out (fun _ hk => ⟨hk.1.1.1.2, ⟨hk.1.1.2, ⟨hk.1.2, hk.2⟩⟩⟩))⟩; have n8_ : Aside0 (w58.heap[gb328]? = some (.cells #[.int .u8 a0_0, .int .u8 a0_1, .int .u8 a0_2, .int .u8 a0_3, .int .u8 a0_4, .int .u8 a0_5, .int .u8 a0_6, .int .u8 a0_7, .int .u8 a0_8, .int .u8 a0_9, .int .u8 a0_10, .int .u8 a0_11] 24 (0, 0))) := ⟨by rw [← hq_]; exact (by (with_reducible repeat (first | refine blk_drewN ?_ _ | refine blk_drew ?_ | refine blk_alloc ?_ _)); exact BK328.out)⟩; have n9_ : Aside0 (w58.heap[gb329]? = some (.cells #[.slice A2_0 l2_0.length c2_0, .int .u8 a2_1] 49 (0, 0))) := ⟨by rw [← hq_]; exact (by (with_reducible repeat (first | refine blk_drewN ?_ _ | refine blk_drew ?_ | refine blk_alloc ?_ _)); exact BK329.out)⟩; have n10_ : Aside0 (w58.heap[gb337]? = some (.cells #[.slice Ao32 t331.length co32, .int .i64 t334, .int .i64 t335, .int .i64 t336] 29 (0, 0))) := ⟨by rw [← hq_]; exact (by (with_reducible repeat (first | refine blk_drewN ?_ _ | refine blk_drew ?_ | refine blk_alloc ?_ _)); exact BK337.out)⟩; have n11_ : Aside0 (Below w.heap.size w w58) := ⟨by rw [← hq_]; exact (by repeat (first | (with_reducible first | exact HB.out | apply below_alloc | apply pw_below_drewN | apply below_drew1 | refine below_set ?_ GE328.out | refine below_set ?_ GE329.out | refine below_set ?_ GE337.out) | exact HB.out))⟩; have n12_ : Aside0 (Kd.C (Kd.slice 40 k40) w58 Ao41 y344.length y344) := ⟨by rw [← hq_]; exact (by repeat (first | (with_reducible exact HR347.out) | (with_reducible refine Kd.C_alloc ?_ _) | (with_reducible refine Kd.C_drewN ?_ _) | (with_reducible refine Kd.C_drew ?_) | exact HR347.out))⟩; have n13_ : Aside0 (Kd.C (Kd.slice 40 k40) w58 A47 y351.length y351) := ⟨by rw [← hq_]; exact (by repeat (first | (with_reducible exact HR354.out) | (with_reducible refine Kd.C_alloc ?_ _) | (with_reducible refine Kd.C_drewN ?_ _) | (with_reducible refine Kd.C_drew ?_) | exact HR354.out))⟩; clear HO333 HO340 HO343 HO350 HO357 HO360 HO363 HO367 BK328 BK329 BK337 HB HR347 HR354 hq_; have HO333 := n0_; have HO340 := n1_; have HO343 := n2_; have HO350 := n3_; have HO357 := n4_; have HO360 := n5_; have HO363 := n6_; have HO367 := n7_; have BK328 := n8_; have BK329 := n9_; have BK337 := n10_; have HB := n11_; have HR347 := n12_; have HR354 := n13_; clear n0_ n1_ n2_ n3_ n4_ n5_ n6_ n7_ n8_ n9_ n10_ n11_ n12_ n13_))
    have n0_ := Aside0.mk (Kd.R_drew HO333.out)
    have n1_ := Aside0.mk (Kd.R_drew HO340.out)
    have n2_ := Aside0.mk (Kd.S_drew HO343.out)
    have n3_ := Aside0.mk (Kd.R_drew HO350.out)
    have n4_ := Aside0.mk (Kd.R_drew HO357.out)
    have n5_ := Aside0.mk (Kd.R_drew HO360.out)
    have n6_ := Aside0.mk (Kd.R_drew HO363.out)
    have n7_ := Aside0.mk (Kd.R_drew HO367.out)
    have n8_ := Aside0.mk (blk_drew BK328.out)
    have n9_ := Aside0.mk (blk_drew BK329.out)
    have n10_ := Aside0.mk (blk_drew BK337.out)
    have n11_ := Aside0.mk (Kd.C_drew HR347.out)
    have n12_ := Aside0.mk (Kd.C_drew HR354.out)
    have n13_ := Aside0.mk (below_drew1 HB.out)
    clear HO333
    clear HO340
    clear HO343
    clear HO350
    clear HO357
    clear HO360
    clear HO363
    clear HO367
    clear BK328
    clear BK329
    clear BK337
    clear HR347
    clear HR354
    clear HB
    have HO333 := n0_
    have HO340 := n1_
    have HO343 := n2_
    have HO350 := n3_
    have HO357 := n4_
    have HO360 := n5_
    have HO363 := n6_
    have HO367 := n7_
    have BK328 := n8_
    have BK329 := n9_
    have BK337 := n10_
    have HR347 := n11_
    have HR354 := n12_
    have HB := n13_
    clear n0_ n1_ n2_ n3_ n4_ n5_ n6_ n7_ n8_ n9_ n10_ n11_ n12_ n13_
    refine start_ (n := 10) (S := fun w' => w'.cell? ⟨gb337, 0, none⟩ = some (.slice Ao32 t331.length co32) ∧ w'.cell? ⟨gb337, 1, none⟩ = some (.int .i64 t334) ∧ w'.cell? ⟨gb337, 2, none⟩ = some (.int .i64 t335) ∧ w'.cell? ⟨gb337, 3, none⟩ = some (.int .i64 t336)) (ds := []) #[false, false, false, false, false, false, false, false, false, false] (by kernel_rfl) rfl rfl ⟨(blk_cell BK337.out 0).trans rfl, (blk_cell BK337.out 1).trans rfl, (blk_cell BK337.out 2).trans rfl, (blk_cell BK337.out 3).trans rfl⟩ (fun hHeld => ?_); refine with_tabW thresherlaw20_AggParts.tab11 thresherlaw20_AggParts.bits11 (fun HT_ HW_ => ?_)
    generalize w58.drew = w60 at HO333 HO340 HO343 HO350 HO357 HO360 HO363 HO367 BK328 BK329 BK337 HR347 HR354 HB hHeld ⊢
    refine pure_ (i := 1) (N := some 66) (v := ?_) (a' := ?_) #[false, true, false, false, false, false, false, false, false, false] rfl rfl (any_of HT_.out (by kernel_rfl)) (fun _ _ _ h => h) (Or.inl ⟨by rfl, ?_⟩) ?_ ?_
    rotate_left; (intro w'; go_simp; with_reducible rfl); rotate_left; (simp only [Act.put, List.setIfInBounds_toArray, List.set_cons_zero, List.set_cons_succ, i64_w, i32_w]; rfl)
    refine pure_ (i := 3) (N := some 68) (v := ?_) (a' := ?_) #[false, true, false, true, false, false, false, false, false, false] rfl rfl (any_of HT_.out (by kernel_rfl)) (fun _ _ _ h => h) (Or.inl ⟨by rfl, ?_⟩) ?_ ?_
    rotate_left; (intro w'; go_simp; with_reducible rfl); rotate_left; (simp only [Act.put, List.setIfInBounds_toArray, List.set_cons_zero, List.set_cons_succ, i64_w, i32_w]; rfl)
    refine pure_ (i := 5) (N := some 70) (v := ?_) (a' := ?_) #[false, true, false, true, false, true, false, false, false, false] rfl rfl (any_of HT_.out (by kernel_rfl)) (fun _ _ _ h => h) (Or.inl ⟨by rfl, ?_⟩) ?_ ?_
    rotate_left; (intro w'; go_simp; with_reducible rfl); rotate_left; (simp only [Act.put, List.setIfInBounds_toArray, List.set_cons_zero, List.set_cons_succ, i64_w, i32_w]; rfl)
    refine pure_ (i := 7) (N := some 72) (v := ?_) (a' := ?_) #[false, true, false, true, false, true, false, true, false, false] rfl rfl (any_of HT_.out (by kernel_rfl)) (fun _ _ _ h => h) (Or.inl ⟨by rfl, ?_⟩) ?_ ?_
    rotate_left; (intro w'; go_simp; with_reducible rfl); rotate_left; (simp only [Act.put, List.setIfInBounds_toArray, List.set_cons_zero, List.set_cons_succ, i64_w, i32_w]; rfl)
    refine take_ (i := 0) (N := some 65) (v := ?_) (a' := ?_) #[true, true, false, true, false, true, false, true, false, false] rfl rfl (take_ofW HT_.out HW_.out (by kernel_rfl)) (fun _ _ _ h => h) (Or.inl ⟨by rfl, ?_⟩) hHeld ?_ ?_
    rotate_left; (rintro w' ⟨s0, s1, s2, s3⟩; go_simp; with_reducible rfl); rotate_left; (simp only [Act.put, List.setIfInBounds_toArray, List.set_cons_zero, List.set_cons_succ, i64_w, i32_w]; rfl)
    refine take_ (i := 2) (N := some 67) (v := ?_) (a' := ?_) #[true, true, true, true, false, true, false, true, false, false] rfl rfl (take_ofW HT_.out HW_.out (by kernel_rfl)) (fun _ _ _ h => h) (Or.inl ⟨by rfl, ?_⟩) hHeld ?_ ?_
    rotate_left; (rintro w' ⟨s0, s1, s2, s3⟩; go_simp; with_reducible rfl); rotate_left; (simp only [Act.put, List.setIfInBounds_toArray, List.set_cons_zero, List.set_cons_succ, i64_w, i32_w]; rfl)
    refine one_ (i := 4) (N := some 69) #[true, true, true, true, true, true, false, true, false, false] rfl rfl (one_of HT_.out (by kernel_rfl)) (by decide) (fun K hK => ?_)
    refine goes_ Try.func11 (by kernel_rfl) rfl #[.agg #[.slice Ao32 t331.length co32, .int .i64 t334, .int .i64 t335, .int .i64 t336], .slice Ao44 t338.length co44, .slice none 0 0] (by rfl) rfl rfl (by (try simp only [List.map_toArray, List.map_cons, List.map_nil]); first | done | rfl | (simp only [List.length_drop, List.length_take]; rfl)) ?_
    refine (agg_Rows.calls k _ _ t331 t334 t335 t336 _ _ t338 _ _ ([] : List (List (S40))) t369 _ ?side1 ?side2 ?side3 ?side4 ?side5 ?side6 A21.out).mono ?_
    (case side1 => repeat (first | exact (Kd.R_reads' HO333.out).2.2 | (with_reducible refine Kd.C_alloc ?_ _) | (with_reducible refine Kd.C_drewN ?_ _) | (with_reducible refine Kd.C_drew ?_)))
    (case side2 => exact (Kd.R_reads' HO333.out).2.1)
    (case side3 => repeat (first | exact (Kd.R_reads' HO340.out).2.2 | (with_reducible refine Kd.C_alloc ?_ _) | (with_reducible refine Kd.C_drewN ?_ _) | (with_reducible refine Kd.C_drew ?_)))
    (case side4 => exact (Kd.R_reads' HO340.out).2.1)
    (case side5 => exact Kd.C_nil _ _)
    (case side6 => exact Nat.le_refl _)
    rintro e w61 ⟨v370, rfl, ho0, hb⟩
    refine ⟨_, rfl, ?_⟩
    have n0_ := Aside0.mk (Kd.R_below (by (with_reducible repeat (first | apply Kd.R_alloc | apply Kd.R_drewN | apply Kd.R_drew)); exact HO333.out) hb)
    have n1_ := Aside0.mk (Kd.R_below (by (with_reducible repeat (first | apply Kd.R_alloc | apply Kd.R_drewN | apply Kd.R_drew)); exact HO340.out) hb)
    have n2_ := Aside0.mk (Kd.S_below (by (with_reducible repeat (first | apply Kd.S_alloc | apply Kd.S_drewN | apply Kd.S_drew)); exact HO343.out) hb)
    have n3_ := Aside0.mk (Kd.R_elder' (by (with_reducible repeat (first | apply Kd.R_alloc | apply Kd.R_drewN | apply Kd.R_drew)); exact HO350.out) (Kd.R_base ho0) hb)
    have n4_ := Aside0.mk (Kd.R_elder' (by (with_reducible repeat (first | apply Kd.R_alloc | apply Kd.R_drewN | apply Kd.R_drew)); exact HO357.out) (Kd.R_base ho0) hb)
    have n5_ := Aside0.mk (Kd.R_elder' (by (with_reducible repeat (first | apply Kd.R_alloc | apply Kd.R_drewN | apply Kd.R_drew)); exact HO360.out) (Kd.R_base ho0) hb)
    have n6_ := Aside0.mk (Kd.R_elder' (by (with_reducible repeat (first | apply Kd.R_alloc | apply Kd.R_drewN | apply Kd.R_drew)); exact HO363.out) (Kd.R_base ho0) hb)
    have n7_ := Aside0.mk (Kd.R_elder' (by (with_reducible repeat (first | apply Kd.R_alloc | apply Kd.R_drewN | apply Kd.R_drew)); exact HO367.out) (Kd.R_base ho0) hb)
    have n8_ := Aside0.mk (Kd.R_lower (Kd.R_new' (Kd.R_new' (Kd.R_new' (Kd.R_new' (Kd.R_new' ho0 (Kd.R_lt (by (with_reducible repeat (first | apply Kd.R_alloc | apply Kd.R_drewN | apply Kd.R_drew)); exact HO350.out))) (Kd.R_lt (by (with_reducible repeat (first | apply Kd.R_alloc | apply Kd.R_drewN | apply Kd.R_drew)); exact HO357.out))) (Kd.R_lt (by (with_reducible repeat (first | apply Kd.R_alloc | apply Kd.R_drewN | apply Kd.R_drew)); exact HO360.out))) (Kd.R_lt (by (with_reducible repeat (first | apply Kd.R_alloc | apply Kd.R_drewN | apply Kd.R_drew)); exact HO363.out))) (Kd.R_lt (by (with_reducible repeat (first | apply Kd.R_alloc | apply Kd.R_drewN | apply Kd.R_drew)); exact HO367.out))) (below_size (by repeat (first | (with_reducible first | exact HB.out | apply below_alloc | apply pw_below_drewN | apply below_drew1 | refine below_set ?_ GE328.out | refine below_set ?_ GE329.out | refine below_set ?_ GE337.out) | exact HB.out))))
    have n9_ := Aside0.mk (blk_below (g := gb328) (o := .cells #[.int .u8 a0_0, .int .u8 a0_1, .int .u8 a0_2, .int .u8 a0_3, .int .u8 a0_4, .int .u8 a0_5, .int .u8 a0_6, .int .u8 a0_7, .int .u8 a0_8, .int .u8 a0_9, .int .u8 a0_10, .int .u8 a0_11] 24 (0, 0)) (by (with_reducible repeat (first | refine blk_drewN ?_ _ | refine blk_drew ?_ | refine blk_alloc ?_ _)); exact BK328.out) hb)
    have n10_ := Aside0.mk (blk_below (g := gb329) (o := .cells #[.slice A2_0 l2_0.length c2_0, .int .u8 a2_1] 49 (0, 0)) (by (with_reducible repeat (first | refine blk_drewN ?_ _ | refine blk_drew ?_ | refine blk_alloc ?_ _)); exact BK329.out) hb)
    have n11_ := Aside0.mk (blk_below (g := gb337) (o := .cells #[.slice Ao32 t331.length co32, .int .i64 t334, .int .i64 t335, .int .i64 t336] 29 (0, 0)) (by (with_reducible repeat (first | refine blk_drewN ?_ _ | refine blk_drew ?_ | refine blk_alloc ?_ _)); exact BK337.out) hb)
    have n12_ := Aside0.mk (Kd.C_below (by repeat (first | (with_reducible exact HR347.out) | (with_reducible refine Kd.C_alloc ?_ _) | (with_reducible refine Kd.C_drewN ?_ _) | (with_reducible refine Kd.C_drew ?_) | exact HR347.out)) hb)
    have n13_ := Aside0.mk (Kd.C_below (by repeat (first | (with_reducible exact HR354.out) | (with_reducible refine Kd.C_alloc ?_ _) | (with_reducible refine Kd.C_drewN ?_ _) | (with_reducible refine Kd.C_drew ?_) | exact HR354.out)) hb)
    have n14_ := Aside0.mk (below_step (by repeat (first | (with_reducible first | exact HB.out | apply below_alloc | apply pw_below_drewN | apply below_drew1 | refine below_set ?_ GE328.out | refine below_set ?_ GE329.out | refine below_set ?_ GE337.out) | exact HB.out)) hb)
    clear HO333
    clear HO340
    clear HO343
    clear HO350
    clear HO357
    clear HO360
    clear HO363
    clear HO367
    clear BK328
    clear BK329
    clear BK337
    clear HR347
    clear HR354
    clear HB
    have HO333 := n0_
    have HO340 := n1_
    have HO343 := n2_
    have HO350 := n3_
    have HO357 := n4_
    have HO360 := n5_
    have HO363 := n6_
    have HO367 := n7_
    have HO371 := n8_
    have BK328 := n9_
    have BK329 := n10_
    have BK337 := n11_
    have HR347 := n12_
    have HR354 := n13_
    have HB := n14_
    clear n0_ n1_ n2_ n3_ n4_ n5_ n6_ n7_ n8_ n9_ n10_ n11_ n12_ n13_ n14_
    (try clear hb)
    (try clear hb2)
    (try clear hk)
    (try clear hi)
    (try clear ho0)
    obtain ⟨Ao62, co62, eo62⟩ := Kd.R_slice HO371.out
    (first | subst eo62 | (injection eo62 with f1_ f2_ f3_; have f4_ := f1_.symm; have f5_ := f3_.symm; clear f1_ f2_ f3_; subst f4_; subst f5_))
    refine hK.out _ _ ⟨(blk_cell BK337.out 0).trans rfl, (blk_cell BK337.out 1).trans rfl, (blk_cell BK337.out 2).trans rfl, (blk_cell BK337.out 3).trans rfl⟩ (fun hHeld => ?_)
    clear hK K
    refine norm_ (a' := ?_) ?_ ?_
    rotate_left
    ·show Act.put _ (some 69) _ = _
     simp only [Act.put, List.setIfInBounds_toArray, List.set_cons_zero, List.set_cons_succ, i64_w, i32_w]
     rfl
    refine one_ (i := 6) (N := some 71) #[true, true, true, true, true, true, true, true, false, false] rfl rfl (one_of HT_.out (by kernel_rfl)) (by decide) (fun K hK => ?_)
    refine goes_ Try.func15 (by kernel_rfl) rfl #[.agg #[.slice Ao32 t331.length co32, .int .i64 t334, .int .i64 t335, .int .i64 t336], .slice Ao44 t338.length co44, .slice Ao62 t369.length co62, .slice Ao56 t358.length co56] (by rfl) rfl rfl (by (try simp only [List.map_toArray, List.map_cons, List.map_nil]); first | done | rfl | (simp only [List.length_drop, List.length_take]; rfl)) ?_
    with_reducible refine (agg_Join.calls k _ _ t331 t334 t335 t336 _ _ t338 _ _ t369 _ _ t358 t372 _ ?side1 ?side2 ?side3 ?side4 ?side5 ?side6 ?side7 ?side8 A22.out).mono ?_
    (case side1 => repeat (first | exact (Kd.R_reads' HO333.out).2.2 | (with_reducible refine Kd.C_alloc ?_ _) | (with_reducible refine Kd.C_drewN ?_ _) | (with_reducible refine Kd.C_drew ?_)))
    (case side2 => exact (Kd.R_reads' HO333.out).2.1)
    (case side3 => repeat (first | exact (Kd.R_reads' HO340.out).2.2 | (with_reducible refine Kd.C_alloc ?_ _) | (with_reducible refine Kd.C_drewN ?_ _) | (with_reducible refine Kd.C_drew ?_)))
    (case side4 => exact (Kd.R_reads' HO340.out).2.1)
    (case side5 => repeat (first | exact (Kd.R_reads' HO371.out).2.2 | (with_reducible refine Kd.C_alloc ?_ _) | (with_reducible refine Kd.C_drewN ?_ _) | (with_reducible refine Kd.C_drew ?_)))
    (case side6 => exact (Kd.R_reads' HO371.out).2.1)
    (case side7 => repeat (first | exact (Kd.R_reads' HO360.out).2.2 | (with_reducible refine Kd.C_alloc ?_ _) | (with_reducible refine Kd.C_drewN ?_ _) | (with_reducible refine Kd.C_drew ?_)))
    (case side8 => exact (Kd.R_reads' HO360.out).2.1)
    rintro e w63 ⟨v373, rfl, ho0, hb⟩
    refine ⟨_, rfl, ?_⟩
    have n0_ := Aside0.mk (Kd.R_below (by (with_reducible repeat (first | apply Kd.R_alloc | apply Kd.R_drewN | apply Kd.R_drew)); exact HO333.out) hb)
    have n1_ := Aside0.mk (Kd.R_below (by (with_reducible repeat (first | apply Kd.R_alloc | apply Kd.R_drewN | apply Kd.R_drew)); exact HO340.out) hb)
    have n2_ := Aside0.mk (Kd.S_below (by (with_reducible repeat (first | apply Kd.S_alloc | apply Kd.S_drewN | apply Kd.S_drew)); exact HO343.out) hb)
    have n3_ := Aside0.mk (Kd.R_elder' (by (with_reducible repeat (first | apply Kd.R_alloc | apply Kd.R_drewN | apply Kd.R_drew)); exact HO350.out) (Kd.R_base ho0) hb)
    have n4_ := Aside0.mk (Kd.R_elder' (by (with_reducible repeat (first | apply Kd.R_alloc | apply Kd.R_drewN | apply Kd.R_drew)); exact HO357.out) (Kd.R_base ho0) hb)
    have n5_ := Aside0.mk (Kd.R_elder' (by (with_reducible repeat (first | apply Kd.R_alloc | apply Kd.R_drewN | apply Kd.R_drew)); exact HO360.out) (Kd.R_base ho0) hb)
    have n6_ := Aside0.mk (Kd.R_elder' (by (with_reducible repeat (first | apply Kd.R_alloc | apply Kd.R_drewN | apply Kd.R_drew)); exact HO363.out) (Kd.R_base ho0) hb)
    have n7_ := Aside0.mk (Kd.R_elder' (by (with_reducible repeat (first | apply Kd.R_alloc | apply Kd.R_drewN | apply Kd.R_drew)); exact HO367.out) (Kd.R_base ho0) hb)
    have n8_ := Aside0.mk (Kd.R_elder' (by (with_reducible repeat (first | apply Kd.R_alloc | apply Kd.R_drewN | apply Kd.R_drew)); exact HO371.out) (Kd.R_base ho0) hb)
    have n9_ := Aside0.mk (Kd.R_lower (Kd.R_new' (Kd.R_new' (Kd.R_new' (Kd.R_new' (Kd.R_new' (Kd.R_new' ho0 (Kd.R_lt (by (with_reducible repeat (first | apply Kd.R_alloc | apply Kd.R_drewN | apply Kd.R_drew)); exact HO350.out))) (Kd.R_lt (by (with_reducible repeat (first | apply Kd.R_alloc | apply Kd.R_drewN | apply Kd.R_drew)); exact HO357.out))) (Kd.R_lt (by (with_reducible repeat (first | apply Kd.R_alloc | apply Kd.R_drewN | apply Kd.R_drew)); exact HO360.out))) (Kd.R_lt (by (with_reducible repeat (first | apply Kd.R_alloc | apply Kd.R_drewN | apply Kd.R_drew)); exact HO363.out))) (Kd.R_lt (by (with_reducible repeat (first | apply Kd.R_alloc | apply Kd.R_drewN | apply Kd.R_drew)); exact HO367.out))) (Kd.R_lt (by (with_reducible repeat (first | apply Kd.R_alloc | apply Kd.R_drewN | apply Kd.R_drew)); exact HO371.out))) (below_size (by repeat (first | (with_reducible first | exact HB.out | apply below_alloc | apply pw_below_drewN | apply below_drew1 | refine below_set ?_ GE328.out | refine below_set ?_ GE329.out | refine below_set ?_ GE337.out) | exact HB.out))))
    have n10_ := Aside0.mk (blk_below (g := gb328) (o := .cells #[.int .u8 a0_0, .int .u8 a0_1, .int .u8 a0_2, .int .u8 a0_3, .int .u8 a0_4, .int .u8 a0_5, .int .u8 a0_6, .int .u8 a0_7, .int .u8 a0_8, .int .u8 a0_9, .int .u8 a0_10, .int .u8 a0_11] 24 (0, 0)) (by (with_reducible repeat (first | refine blk_drewN ?_ _ | refine blk_drew ?_ | refine blk_alloc ?_ _)); exact BK328.out) hb)
    have n11_ := Aside0.mk (blk_below (g := gb329) (o := .cells #[.slice A2_0 l2_0.length c2_0, .int .u8 a2_1] 49 (0, 0)) (by (with_reducible repeat (first | refine blk_drewN ?_ _ | refine blk_drew ?_ | refine blk_alloc ?_ _)); exact BK329.out) hb)
    have n12_ := Aside0.mk (blk_below (g := gb337) (o := .cells #[.slice Ao32 t331.length co32, .int .i64 t334, .int .i64 t335, .int .i64 t336] 29 (0, 0)) (by (with_reducible repeat (first | refine blk_drewN ?_ _ | refine blk_drew ?_ | refine blk_alloc ?_ _)); exact BK337.out) hb)
    have n13_ := Aside0.mk (Kd.C_below (by repeat (first | (with_reducible exact HR347.out) | (with_reducible refine Kd.C_alloc ?_ _) | (with_reducible refine Kd.C_drewN ?_ _) | (with_reducible refine Kd.C_drew ?_) | exact HR347.out)) hb)
    have n14_ := Aside0.mk (Kd.C_below (by repeat (first | (with_reducible exact HR354.out) | (with_reducible refine Kd.C_alloc ?_ _) | (with_reducible refine Kd.C_drewN ?_ _) | (with_reducible refine Kd.C_drew ?_) | exact HR354.out)) hb)
    have n15_ := Aside0.mk (below_step (by repeat (first | (with_reducible first | exact HB.out | apply below_alloc | apply pw_below_drewN | apply below_drew1 | refine below_set ?_ GE328.out | refine below_set ?_ GE329.out | refine below_set ?_ GE337.out) | exact HB.out)) hb)
    clear HO333
    clear HO340
    clear HO343
    clear HO350
    clear HO357
    clear HO360
    clear HO363
    clear HO367
    clear HO371
    clear BK328
    clear BK329
    clear BK337
    clear HR347
    clear HR354
    clear HB
    have HO333 := n0_
    have HO340 := n1_
    have HO343 := n2_
    have HO350 := n3_
    have HO357 := n4_
    have HO360 := n5_
    have HO363 := n6_
    have HO367 := n7_
    have HO371 := n8_
    have HO374 := n9_
    have BK328 := n10_
    have BK329 := n11_
    have BK337 := n12_
    have HR347 := n13_
    have HR354 := n14_
    have HB := n15_
    clear n0_ n1_ n2_ n3_ n4_ n5_ n6_ n7_ n8_ n9_ n10_ n11_ n12_ n13_ n14_ n15_
    (try clear hb)
    (try clear hb2)
    (try clear hk)
    (try clear hi)
    (try clear ho0)
    obtain ⟨Ao64, co64, eo64⟩ := Kd.R_slice HO374.out
    (first | subst eo64 | (injection eo64 with f1_ f2_ f3_; have f4_ := f1_.symm; have f5_ := f3_.symm; clear f1_ f2_ f3_; subst f4_; subst f5_))
    refine hK.out _ _ ⟨(blk_cell BK337.out 0).trans rfl, (blk_cell BK337.out 1).trans rfl, (blk_cell BK337.out 2).trans rfl, (blk_cell BK337.out 3).trans rfl⟩ (fun hHeld => ?_)
    clear hK K
    refine norm_ (a' := ?_) ?_ ?_
    rotate_left
    ·show Act.put _ (some 71) _ = _
     simp only [Act.put, List.setIfInBounds_toArray, List.set_cons_zero, List.set_cons_succ, i64_w, i32_w]
     rfl
    refine one_ (i := 8) (N := some 73) #[true, true, true, true, true, true, true, true, true, false] rfl rfl (one_of HT_.out (by kernel_rfl)) (by decide) (fun K hK => ?_)
    refine goes_ Try.func13 (by kernel_rfl) rfl #[.slice Ao64 t372.length co64, .slice Ao56 t358.length co56] (by rfl) rfl rfl (by (try simp only [List.map_toArray, List.map_cons, List.map_nil]); first | done | rfl | (simp only [List.length_drop, List.length_take]; rfl)) ?_
    with_reducible refine (thresherref20_Same.calls k _ _ t372 _ _ t358 t375 _ ?side1 ?side2 ?side3 ?side4 A23.out).mono ?_
    (case side1 => repeat (first | exact (Kd.R_reads' HO374.out).2.2 | (with_reducible refine Kd.C_alloc ?_ _) | (with_reducible refine Kd.C_drewN ?_ _) | (with_reducible refine Kd.C_drew ?_)))
    (case side2 => exact (Kd.R_reads' HO374.out).2.1)
    (case side3 => repeat (first | exact (Kd.R_reads' HO360.out).2.2 | (with_reducible refine Kd.C_alloc ?_ _) | (with_reducible refine Kd.C_drewN ?_ _) | (with_reducible refine Kd.C_drew ?_)))
    (case side4 => exact (Kd.R_reads' HO360.out).2.1)
    rintro e w' ⟨rfl, ⟨nd, rfl⟩⟩
    refine ⟨_, rfl, ?_⟩
    refine hK.out _ _ ⟨(blk_cell BK337.out 0).trans rfl, (blk_cell BK337.out 1).trans rfl, (blk_cell BK337.out 2).trans rfl, (blk_cell BK337.out 3).trans rfl⟩ (fun hHeld => ?_)
    clear hK K
    refine norm_ (a' := ?_) ?_ ?_
    rotate_left
    ·show Act.put _ (some 73) _ = _
     simp only [Act.put, List.setIfInBounds_toArray, List.set_cons_zero, List.set_cons_succ, i64_w, i32_w]
     rfl
    refine pure_ (i := 9) (N := some 17) (v := ?_) (a' := ?_) #[true, true, true, true, true, true, true, true, true, true] rfl rfl (any_of HT_.out (by kernel_rfl)) (fun _ _ _ h => h) (Or.inl ⟨by rfl, ?_⟩) ?_ ?_
    rotate_left; (intro w'; go_simp; with_reducible rfl); rotate_left; (simp only [Act.put, List.setIfInBounds_toArray, List.set_cons_zero, List.set_cons_succ, i64_w, i32_w]; rfl)
    refine done_ (done_of HT_.out (by kernel_rfl)) ?_
    (try clear hHeld)
    go_upto_region 12 with (fail)
    go_cut [6] (fun v6 wc => ∃ (kq : Nat) (x6_23 : Bool), v6 = .bool x6_23 ∧ Aside0 (thresherlaw20_AggParts.j0 kq x6_23 = some r) ∧ Aside0 (kq ≤ k) ∧ Aside0 (Kd.R (Kd.int .i64) 3 wc w.heap.size (fun _ => True) (.slice Ao32 t331.length co32) t331) ∧ Aside0 (wc.heap[gb328]? = some (.cells #[.int .u8 a0_0, .int .u8 a0_1, .int .u8 a0_2, .int .u8 a0_3, .int .u8 a0_4, .int .u8 a0_5, .int .u8 a0_6, .int .u8 a0_7, .int .u8 a0_8, .int .u8 a0_9, .int .u8 a0_10, .int .u8 a0_11] 24 (0, 0))) ∧ Aside0 (wc.heap[gb329]? = some (.cells #[(.slice A2_0 l2_0.length c2_0), .int .u8 a2_1] 49 (0, 0))) ∧ Aside0 (wc.heap[gb337]? = some (.cells #[(.slice Ao32 t331.length co32), .int .i64 t334, .int .i64 t335, .int .i64 t336] 29 (0, 0))) ∧ Aside0 (Kd.C (Kd.slice 40 k40) wc Ao41 y344.length y344) ∧ Aside0 (Kd.C (Kd.slice 40 k40) wc A47 y351.length y351) ∧ Aside0 (Below w.heap.size w wc))
    case first =>
     have H := HC24.out
     clear HC24
     by_cases c65 : t330 = true
     ·subst c65
      have H1 : (if t364 = true then (if t368 = true then (if t375 = true then (thresherlaw20_AggParts.j0 k ((t358.length : Int) == (t338.length : Int))) else (thresherlaw20_AggParts.j0 k false)) else (thresherlaw20_AggParts.j0 k false)) else (thresherlaw20_AggParts.j0 k false)) = some r := by rw [if_pos rfl] at H; exact H
      clear H
      have H := H1
      clear H1
      by_cases c66 : t364 = true
      ·subst c66
       have H1 : (if t368 = true then (if t375 = true then (thresherlaw20_AggParts.j0 k ((t358.length : Int) == (t338.length : Int))) else (thresherlaw20_AggParts.j0 k false)) else (thresherlaw20_AggParts.j0 k false)) = some r := by rw [if_pos rfl] at H; exact H
       clear H
       have H := H1
       clear H1
       by_cases c67 : t368 = true
       ·subst c67
        have H1 : (if t375 = true then (thresherlaw20_AggParts.j0 k ((t358.length : Int) == (t338.length : Int))) else (thresherlaw20_AggParts.j0 k false)) = some r := by rw [if_pos rfl] at H; exact H
        clear H
        have H := H1
        clear H1
        by_cases c68 : t375 = true
        ·subst c68
         have H1 : (thresherlaw20_AggParts.j0 k ((t358.length : Int) == (t338.length : Int))) = some r := by rw [if_pos rfl] at H; exact H
         clear H
         have H := H1
         clear H1
         have H' := Aside0.mk H
         clear H
         go_wp2
         go_meet
         case rel => exact ⟨_, (((t358.length : Int) == (t338.length : Int))), (by first | rfl | (simp; done) | (simp [*]; done)), (by first | exact H' | (subst_vars; exact H')), ⟨by first | omega | exact Nat.le_refl _⟩, ⟨by (with_reducible repeat (first | apply Kd.R_alloc | apply Kd.R_drewN | apply Kd.R_drew)); exact HO333.out⟩, ⟨by (with_reducible repeat (first | refine blk_drewN ?_ _ | refine blk_drew ?_ | refine blk_alloc ?_ _)); exact BK328.out⟩, ⟨by (with_reducible repeat (first | refine blk_drewN ?_ _ | refine blk_drew ?_ | refine blk_alloc ?_ _)); exact BK329.out⟩, ⟨by (with_reducible repeat (first | refine blk_drewN ?_ _ | refine blk_drew ?_ | refine blk_alloc ?_ _)); exact BK337.out⟩, ⟨by repeat (first | (with_reducible exact HR347.out) | (with_reducible refine Kd.C_alloc ?_ _) | (with_reducible refine Kd.C_drewN ?_ _) | (with_reducible refine Kd.C_drew ?_) | exact HR347.out)⟩, ⟨by repeat (first | (with_reducible exact HR354.out) | (with_reducible refine Kd.C_alloc ?_ _) | (with_reducible refine Kd.C_drewN ?_ _) | (with_reducible refine Kd.C_drew ?_) | exact HR354.out)⟩, ⟨by repeat (first | (with_reducible first | exact HB.out | apply below_alloc | apply pw_below_drewN | apply below_drew1 | refine below_set ?_ GE328.out | refine below_set ?_ GE329.out | refine below_set ?_ GE337.out) | exact HB.out)⟩⟩
        ·replace c68 := Bool.eq_false_iff.mpr c68
         subst c68
         have H1 : (thresherlaw20_AggParts.j0 k false) = some r := by rw [if_neg (show ¬ (false = true) by decide)] at H; exact H
         clear H
         have H := H1
         clear H1
         have H' := Aside0.mk H
         clear H
         go_wp2
         go_meet
         case rel => exact ⟨_, (false), (by first | rfl | (simp; done) | (simp [*]; done)), (by first | exact H' | (subst_vars; exact H')), ⟨by first | omega | exact Nat.le_refl _⟩, ⟨by (with_reducible repeat (first | apply Kd.R_alloc | apply Kd.R_drewN | apply Kd.R_drew)); exact HO333.out⟩, ⟨by (with_reducible repeat (first | refine blk_drewN ?_ _ | refine blk_drew ?_ | refine blk_alloc ?_ _)); exact BK328.out⟩, ⟨by (with_reducible repeat (first | refine blk_drewN ?_ _ | refine blk_drew ?_ | refine blk_alloc ?_ _)); exact BK329.out⟩, ⟨by (with_reducible repeat (first | refine blk_drewN ?_ _ | refine blk_drew ?_ | refine blk_alloc ?_ _)); exact BK337.out⟩, ⟨by repeat (first | (with_reducible exact HR347.out) | (with_reducible refine Kd.C_alloc ?_ _) | (with_reducible refine Kd.C_drewN ?_ _) | (with_reducible refine Kd.C_drew ?_) | exact HR347.out)⟩, ⟨by repeat (first | (with_reducible exact HR354.out) | (with_reducible refine Kd.C_alloc ?_ _) | (with_reducible refine Kd.C_drewN ?_ _) | (with_reducible refine Kd.C_drew ?_) | exact HR354.out)⟩, ⟨by repeat (first | (with_reducible first | exact HB.out | apply below_alloc | apply pw_below_drewN | apply below_drew1 | refine below_set ?_ GE328.out | refine below_set ?_ GE329.out | refine below_set ?_ GE337.out) | exact HB.out)⟩⟩
       ·replace c67 := Bool.eq_false_iff.mpr c67
        subst c67
        have H1 : (thresherlaw20_AggParts.j0 k false) = some r := by rw [if_neg (show ¬ (false = true) by decide)] at H; exact H
        clear H
        have H := H1
        clear H1
        have H' := Aside0.mk H
        clear H
        go_wp2
        go_meet
        case rel => exact ⟨_, (false), (by first | rfl | (simp; done) | (simp [*]; done)), (by first | exact H' | (subst_vars; exact H')), ⟨by first | omega | exact Nat.le_refl _⟩, ⟨by (with_reducible repeat (first | apply Kd.R_alloc | apply Kd.R_drewN | apply Kd.R_drew)); exact HO333.out⟩, ⟨by (with_reducible repeat (first | refine blk_drewN ?_ _ | refine blk_drew ?_ | refine blk_alloc ?_ _)); exact BK328.out⟩, ⟨by (with_reducible repeat (first | refine blk_drewN ?_ _ | refine blk_drew ?_ | refine blk_alloc ?_ _)); exact BK329.out⟩, ⟨by (with_reducible repeat (first | refine blk_drewN ?_ _ | refine blk_drew ?_ | refine blk_alloc ?_ _)); exact BK337.out⟩, ⟨by repeat (first | (with_reducible exact HR347.out) | (with_reducible refine Kd.C_alloc ?_ _) | (with_reducible refine Kd.C_drewN ?_ _) | (with_reducible refine Kd.C_drew ?_) | exact HR347.out)⟩, ⟨by repeat (first | (with_reducible exact HR354.out) | (with_reducible refine Kd.C_alloc ?_ _) | (with_reducible refine Kd.C_drewN ?_ _) | (with_reducible refine Kd.C_drew ?_) | exact HR354.out)⟩, ⟨by repeat (first | (with_reducible first | exact HB.out | apply below_alloc | apply pw_below_drewN | apply below_drew1 | refine below_set ?_ GE328.out | refine below_set ?_ GE329.out | refine below_set ?_ GE337.out) | exact HB.out)⟩⟩
      ·replace c66 := Bool.eq_false_iff.mpr c66
       subst c66
       have H1 : (thresherlaw20_AggParts.j0 k false) = some r := by rw [if_neg (show ¬ (false = true) by decide)] at H; exact H
       clear H
       have H := H1
       clear H1
       have H' := Aside0.mk H
       clear H
       go_wp2
       go_meet
       case rel => exact ⟨_, (false), (by first | rfl | (simp; done) | (simp [*]; done)), (by first | exact H' | (subst_vars; exact H')), ⟨by first | omega | exact Nat.le_refl _⟩, ⟨by (with_reducible repeat (first | apply Kd.R_alloc | apply Kd.R_drewN | apply Kd.R_drew)); exact HO333.out⟩, ⟨by (with_reducible repeat (first | refine blk_drewN ?_ _ | refine blk_drew ?_ | refine blk_alloc ?_ _)); exact BK328.out⟩, ⟨by (with_reducible repeat (first | refine blk_drewN ?_ _ | refine blk_drew ?_ | refine blk_alloc ?_ _)); exact BK329.out⟩, ⟨by (with_reducible repeat (first | refine blk_drewN ?_ _ | refine blk_drew ?_ | refine blk_alloc ?_ _)); exact BK337.out⟩, ⟨by repeat (first | (with_reducible exact HR347.out) | (with_reducible refine Kd.C_alloc ?_ _) | (with_reducible refine Kd.C_drewN ?_ _) | (with_reducible refine Kd.C_drew ?_) | exact HR347.out)⟩, ⟨by repeat (first | (with_reducible exact HR354.out) | (with_reducible refine Kd.C_alloc ?_ _) | (with_reducible refine Kd.C_drewN ?_ _) | (with_reducible refine Kd.C_drew ?_) | exact HR354.out)⟩, ⟨by repeat (first | (with_reducible first | exact HB.out | apply below_alloc | apply pw_below_drewN | apply below_drew1 | refine below_set ?_ GE328.out | refine below_set ?_ GE329.out | refine below_set ?_ GE337.out) | exact HB.out)⟩⟩
     ·replace c65 := Bool.eq_false_iff.mpr c65
      subst c65
      have H1 : (thresherlaw20_AggParts.j0 k false) = some r := by rw [if_neg (show ¬ (false = true) by decide)] at H; exact H
      clear H
      have H := H1
      clear H1
      have H' := Aside0.mk H
      clear H
      go_wp2
      go_meet
      case rel => exact ⟨_, (false), (by first | rfl | (simp; done) | (simp [*]; done)), (by first | exact H' | (subst_vars; exact H')), ⟨by first | omega | exact Nat.le_refl _⟩, ⟨by (with_reducible repeat (first | apply Kd.R_alloc | apply Kd.R_drewN | apply Kd.R_drew)); exact HO333.out⟩, ⟨by (with_reducible repeat (first | refine blk_drewN ?_ _ | refine blk_drew ?_ | refine blk_alloc ?_ _)); exact BK328.out⟩, ⟨by (with_reducible repeat (first | refine blk_drewN ?_ _ | refine blk_drew ?_ | refine blk_alloc ?_ _)); exact BK329.out⟩, ⟨by (with_reducible repeat (first | refine blk_drewN ?_ _ | refine blk_drew ?_ | refine blk_alloc ?_ _)); exact BK337.out⟩, ⟨by repeat (first | (with_reducible exact HR347.out) | (with_reducible refine Kd.C_alloc ?_ _) | (with_reducible refine Kd.C_drewN ?_ _) | (with_reducible refine Kd.C_drew ?_) | exact HR347.out)⟩, ⟨by repeat (first | (with_reducible exact HR354.out) | (with_reducible refine Kd.C_alloc ?_ _) | (with_reducible refine Kd.C_drewN ?_ _) | (with_reducible refine Kd.C_drew ?_) | exact HR354.out)⟩, ⟨by repeat (first | (with_reducible first | exact HB.out | apply below_alloc | apply pw_below_drewN | apply below_drew1 | refine below_set ?_ GE328.out | refine below_set ?_ GE329.out | refine below_set ?_ GE337.out) | exact HB.out)⟩⟩
    case rest =>
     clear HC24
     try clear c1
     try clear c2
     try clear p2
     try clear c4
     try clear q4
     try clear c6
     try clear c11
     try clear c13
     try clear c15
     try clear c47
     try clear q47
     try clear c65
     try clear c66
     try clear c67
     try clear c68
     try clear hcz49_0
     try clear hcz49_1
     try clear hcz49_2
     try clear hcz49_3
     try clear hcz51_0
     try clear hcz51_1
     try clear hcz51_2
     try clear hcz51_3
     try clear hcz57_0
     try clear hcz57_1
     try clear hcz57_2
     try clear hcz57_3
     try clear hfz49_0
     try clear hfz49_1
     try clear hfz49_2
     try clear hfz49_3
     try clear hfz51_0
     try clear hfz51_1
     try clear hfz51_2
     try clear hfz51_3
     try clear hfz57_0
     try clear hfz57_1
     try clear hfz57_2
     try clear hfz57_3
     try clear q047
     try clear q47
     obtain ⟨kq, x6_23, rfl, HA, HJ23, HO_338000, BK328, BK329, BK337, HR347, HR354, HB⟩ := hcut
     cases kq with
     | zero => exact absurd HA.out (by simp [thresherlaw20_AggParts.j0])
     | succ kj23 =>
      have H := HA.out
      clear HA
      simp only [thresherlaw20_AggParts.j0] at H
      obtain rfl := Option.some.inj H
      go_wp2
      go_ret
      exact ⟨by first | rfl | (simp [errW_none, errW_some] <;> rfl) | (simp only [← hji9]; first | rfl | (simp [errW_none, errW_some] <;> rfl)) | (simp [*, errW_none, errW_some] <;> rfl), by repeat (first | (with_reducible first | exact HB.out | apply below_alloc | apply pw_below_drewN | apply below_drew1 | refine below_set ?_ GE328.out | refine below_set ?_ GE329.out | refine below_set ?_ GE337.out) | exact HB.out)⟩
   ·rw [if_neg c11] at H
    exact absurd H (by simp)
  ·rw [if_neg c10] at H
   exact absurd H (by simp)

end Go.Proofs.Ytapaldcdoahfeaa.P

