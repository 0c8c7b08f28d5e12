/- Texts of AggOrder. Merged: Px13. -/
import Derived.Test.YtapaldcdoahfeaaQAggOrderPx0
import Derived.Test.YtapaldcdoahfeaaQAggOrderPx2
import Derived.Test.YtapaldcdoahfeaaQAggOrderPx5
import Derived.Test.YtapaldcdoahfeaaQAggOrderPx6
import Derived.Test.YtapaldcdoahfeaaQAggOrderPx10
import Derived.Test.YtapaldcdoahfeaaQAggOrderPx12
import Derived.Test.YtapaldcdoahfeaaQAggOrderHAggD
-- Written by wip/tools/myprint.py over the kit's print (a program's print; Lean checks it).
namespace Go.Proofs.Ytapaldcdoahfeaa.P
open Go.RowKit Go.Proofs.YtapaldcdoahfeaaW.PrintWords Go.Proofs.YtapaldcdoahfeaaW.PrintLast Go.Proofs.YtapaldcdoahfeaaW.PrintMore
attribute [local go_sem] max2_int min2_int max_two min_two max_three min_three max_four min_four   -- for this text's walks alone
set_option linter.unusedVariables false
set_option linter.unusedSimpArgs false

attribute [local go_sem high] eqA42
/-! ### thresherlaw20_AggOrder: function 4 -/
mutual
def thresherlaw20_AggOrder.l0 : Nat → Bool → List (S33) → List (List (S40)) → List (S42) → List (List (S40)) → Int → List Int → Int → Int → Int → Option (Bool)
 | 0, _, _, _, _, _, _, _, _, _, _ => none
 | k + 1, x7, x9, x10, x11, x12, x13, x298000, x298001, x298002, x298003 => if x13 ≥ 0 then (if 0 ≤ x13 then (if x13 < (x10.length : Int) then (if x12.length < 5864062014805 then (thresherlaw20_AggOrder.l0 k x7 x9 x10 x11 (x12 ++ [rd_L7 x10 x13]) (wrap64 (x13 - 1)) x298000 x298001 x298002 x298003) else (none)) else (none)) else (none)) else ((agg_Rows.f k x298000 x298001 x298002 x298003 x9 x12).bind fun t314 => ((thresherref20_Same.f k t314 x11).bind fun t317 => (if t317 = true then (thresherlaw20_AggOrder.j1 k x7 x9 x10 x11 ((x11.length : Int) != (x9.length : Int)) x298000 x298001 x298002 x298003) else (thresherlaw20_AggOrder.j1 k x7 x9 x10 x11 true x298000 x298001 x298002 x298003))))
def thresherlaw20_AggOrder.j1 : Nat → Bool → List (S33) → List (List (S40)) → List (S42) → Bool → List Int → Int → Int → Int → Option (Bool)
 | 0, _, _, _, _, _, _, _, _, _ => none
 | k + 1, x7, x9, x10, x11, x59, x298000, x298001, x298002, x298003 => if x59 = true then (some false) else (thresherlaw20_AggOrder.l1 k x7 x9 x10 x11 0 x298000 x298001 x298002 x298003)
def thresherlaw20_AggOrder.l1 : Nat → Bool → List (S33) → List (List (S40)) → List (S42) → Int → List Int → Int → Int → Int → Option (Bool)
 | 0, _, _, _, _, _, _, _, _, _ => none
 | k + 1, x7, x9, x10, x11, x15, x298000, x298001, x298002, x298003 => if x15 < (x9.length : Int) then (if 0 ≤ x15 then (if x15 ≤ (wrap64 (x15 + 1)) then (if (wrap64 (x15 + 1)) ≤ (x9.length : Int) then ((agg_Rows.f k x298000 x298001 x298002 x298003 ((x9.take ((wrap64 (x15 + 1)) : Int).toNat).drop (x15 : Int).toNat) x10).bind fun t323 => (if (t323.length : Int) = 1 then (if 0 < (t323.length : Int) then (if x15 < (x11.length : Int) then (if (!(((rd_T42 t323 0).f0) == ((rd_T42 x11 x15).f0)) || ((!(((rd_T42 t323 0).f1.f0) == ((rd_T42 x11 x15).f1.f0)) || (!((((rd_T42 t323 0).f1.f1).toList) == (((rd_T42 x11 x15).f1.f1).toList)))))) = true then (some false) else (thresherlaw20_AggOrder.l1 k x7 x9 x10 x11 (wrap64 (x15 + 1)) x298000 x298001 x298002 x298003)) else (none)) else (none)) else (some false))) else (none)) else (none)) else (none)) else (some x7)
end
def thresherlaw20_AggOrder.f (k : Nat) (a0_0 : Int) (a0_1 : Int) (a0_2 : Int) (a0_3 : Int) (a0_4 : Int) (a0_5 : Int) (a0_6 : Int) (a0_7 : Int) (a0_8 : Int) (a0_9 : Int) (a0_10 : Int) (a0_11 : Int) (l1 : List (S33)) (l2 : List (List (S40))) : Option (Bool) := (thresherlaw20_shown.f k).bind fun t290 => ((thresherlaw20_made.f k a0_0 a0_1 a0_2 a0_3 a0_4 a0_5 a0_6 a0_7 a0_8 a0_9 a0_10 a0_11).bind fun bt291 => ((thresherref20_Fit.f k bt291.1 bt291.2.1 bt291.2.2.1 bt291.2.2.2 l1 16).bind fun t298 => ((thresherref04_Fits.f k bt291.1 bt291.2.1 bt291.2.2.1 bt291.2.2.2 l2 60).bind fun t301 => ((agg_Rows.f k bt291.1 bt291.2.1 bt291.2.2.1 bt291.2.2.2 t298 t301).bind fun t304 => (thresherlaw20_AggOrder.l0 k t290 t298 t301 t304 (([] : List (List (S40)))) (wrap64 ((t301.length : Int) - 1)) bt291.1 bt291.2.1 bt291.2.2.1 bt291.2.2.2)))))
theorem thresherlaw20_AggOrder.mono_l : ∀ k, (∀ y0 y1 y2 y3 y4 y5 y6 y7 y8 y9, LeO (thresherlaw20_AggOrder.l0 k y0 y1 y2 y3 y4 y5 y6 y7 y8 y9) (thresherlaw20_AggOrder.l0 (k + 1) y0 y1 y2 y3 y4 y5 y6 y7 y8 y9)) ∧ (∀ y0 y1 y2 y3 y4 y5 y6 y7 y8, LeO (thresherlaw20_AggOrder.j1 k y0 y1 y2 y3 y4 y5 y6 y7 y8) (thresherlaw20_AggOrder.j1 (k + 1) y0 y1 y2 y3 y4 y5 y6 y7 y8)) ∧ (∀ y0 y1 y2 y3 y4 y5 y6 y7 y8, LeO (thresherlaw20_AggOrder.l1 k y0 y1 y2 y3 y4 y5 y6 y7 y8) (thresherlaw20_AggOrder.l1 (k + 1) y0 y1 y2 y3 y4 y5 y6 y7 y8))
 | 0 => ⟨fun _ _ _ _ _ _ _ _ _ _ r h => by simp [thresherlaw20_AggOrder.l0] at h, fun _ _ _ _ _ _ _ _ _ r h => by simp [thresherlaw20_AggOrder.j1] at h, fun _ _ _ _ _ _ _ _ _ r h => by simp [thresherlaw20_AggOrder.l1] at h⟩
 | k + 1 => by
  obtain ⟨ih0, ih1, ih2⟩ := thresherlaw20_AggOrder.mono_l k
  refine ⟨?_, ?_, ?_⟩
  ·intro y0 y1 y2 y3 y4 y5 y6 y7 y8 y9
   unfold thresherlaw20_AggOrder.l0
   repeat' first
   | (with_reducible exact ih0 _ _ _ _ _ _ _ _ _ _)
   | (with_reducible exact ih1 _ _ _ _ _ _ _ _ _)
   | (with_reducible exact ih2 _ _ _ _ _ _ _ _ _)
   | (with_reducible exact agg_Rows.mono _ _ _ _ _ _ _)
   | (with_reducible exact thresherlaw20_made.mono _ _ _ _ _ _ _ _ _ _ _ _ _)
   | (with_reducible exact thresherlaw20_shown.mono _)
   | (with_reducible exact thresherref04_Fits.mono _ _ _ _ _ _ _)
   | (with_reducible exact thresherref20_Fit.mono _ _ _ _ _ _ _)
   | (with_reducible exact thresherref20_Same.mono _ _ _)
   | (with_reducible exact LeO.refl _)
   | (with_reducible exact LeO.none _)
   | (with_reducible refine LeO.ite ?_ ?_)
   | (with_reducible refine LeO.bind ?_ (fun _ => ?_))
   | exact ih0 _ _ _ _ _ _ _ _ _ _
   | exact ih1 _ _ _ _ _ _ _ _ _
   | exact ih2 _ _ _ _ _ _ _ _ _
   | exact agg_Rows.mono _ _ _ _ _ _ _
   | exact thresherlaw20_made.mono _ _ _ _ _ _ _ _ _ _ _ _ _
   | exact thresherlaw20_shown.mono _
   | exact thresherref04_Fits.mono _ _ _ _ _ _ _
   | exact thresherref20_Fit.mono _ _ _ _ _ _ _
   | exact thresherref20_Same.mono _ _ _
   | exact LeO.none _
   | refine LeO.ite ?_ ?_
   | refine LeO.bind ?_ (fun _ => ?_)
  ·intro y0 y1 y2 y3 y4 y5 y6 y7 y8
   unfold thresherlaw20_AggOrder.j1
   repeat' first
   | (with_reducible exact ih0 _ _ _ _ _ _ _ _ _ _)
   | (with_reducible exact ih1 _ _ _ _ _ _ _ _ _)
   | (with_reducible exact ih2 _ _ _ _ _ _ _ _ _)
   | (with_reducible exact agg_Rows.mono _ _ _ _ _ _ _)
   | (with_reducible exact thresherlaw20_made.mono _ _ _ _ _ _ _ _ _ _ _ _ _)
   | (with_reducible exact thresherlaw20_shown.mono _)
   | (with_reducible exact thresherref04_Fits.mono _ _ _ _ _ _ _)
   | (with_reducible exact thresherref20_Fit.mono _ _ _ _ _ _ _)
   | (with_reducible exact thresherref20_Same.mono _ _ _)
   | (with_reducible exact LeO.refl _)
   | (with_reducible exact LeO.none _)
   | (with_reducible refine LeO.ite ?_ ?_)
   | (with_reducible refine LeO.bind ?_ (fun _ => ?_))
   | exact ih0 _ _ _ _ _ _ _ _ _ _
   | exact ih1 _ _ _ _ _ _ _ _ _
   | exact ih2 _ _ _ _ _ _ _ _ _
   | exact agg_Rows.mono _ _ _ _ _ _ _
   | exact thresherlaw20_made.mono _ _ _ _ _ _ _ _ _ _ _ _ _
   | exact thresherlaw20_shown.mono _
   | exact thresherref04_Fits.mono _ _ _ _ _ _ _
   | exact thresherref20_Fit.mono _ _ _ _ _ _ _
   | exact thresherref20_Same.mono _ _ _
   | exact LeO.none _
   | refine LeO.ite ?_ ?_
   | refine LeO.bind ?_ (fun _ => ?_)
  ·intro y0 y1 y2 y3 y4 y5 y6 y7 y8
   unfold thresherlaw20_AggOrder.l1
   repeat' first
   | (with_reducible exact ih0 _ _ _ _ _ _ _ _ _ _)
   | (with_reducible exact ih1 _ _ _ _ _ _ _ _ _)
   | (with_reducible exact ih2 _ _ _ _ _ _ _ _ _)
   | (with_reducible exact agg_Rows.mono _ _ _ _ _ _ _)
   | (with_reducible exact thresherlaw20_made.mono _ _ _ _ _ _ _ _ _ _ _ _ _)
   | (with_reducible exact thresherlaw20_shown.mono _)
   | (with_reducible exact thresherref04_Fits.mono _ _ _ _ _ _ _)
   | (with_reducible exact thresherref20_Fit.mono _ _ _ _ _ _ _)
   | (with_reducible exact thresherref20_Same.mono _ _ _)
   | (with_reducible exact LeO.refl _)
   | (with_reducible exact LeO.none _)
   | (with_reducible refine LeO.ite ?_ ?_)
   | (with_reducible refine LeO.bind ?_ (fun _ => ?_))
   | exact ih0 _ _ _ _ _ _ _ _ _ _
   | exact ih1 _ _ _ _ _ _ _ _ _
   | exact ih2 _ _ _ _ _ _ _ _ _
   | exact agg_Rows.mono _ _ _ _ _ _ _
   | exact thresherlaw20_made.mono _ _ _ _ _ _ _ _ _ _ _ _ _
   | exact thresherlaw20_shown.mono _
   | exact thresherref04_Fits.mono _ _ _ _ _ _ _
   | exact thresherref20_Fit.mono _ _ _ _ _ _ _
   | exact thresherref20_Same.mono _ _ _
   | exact LeO.none _
   | refine LeO.ite ?_ ?_
   | refine LeO.bind ?_ (fun _ => ?_)
theorem thresherlaw20_AggOrder.mono : ∀ a0 a1 a2 a3 a4 a5 a6 a7 a8 a9 a10 a11 a12 a13 k, LeO (thresherlaw20_AggOrder.f k a0 a1 a2 a3 a4 a5 a6 a7 a8 a9 a10 a11 a12 a13) (thresherlaw20_AggOrder.f (k + 1) a0 a1 a2 a3 a4 a5 a6 a7 a8 a9 a10 a11 a12 a13) := by
 intro a0 a1 a2 a3 a4 a5 a6 a7 a8 a9 a10 a11 a12 a13 k
 obtain ⟨ih0, ih1, ih2⟩ := thresherlaw20_AggOrder.mono_l k
 unfold thresherlaw20_AggOrder.f
 repeat' first
   | (with_reducible exact ih0 _ _ _ _ _ _ _ _ _ _)
   | (with_reducible exact ih1 _ _ _ _ _ _ _ _ _)
   | (with_reducible exact ih2 _ _ _ _ _ _ _ _ _)
   | (with_reducible exact agg_Rows.mono _ _ _ _ _ _ _)
   | (with_reducible exact thresherlaw20_made.mono _ _ _ _ _ _ _ _ _ _ _ _ _)
   | (with_reducible exact thresherlaw20_shown.mono _)
   | (with_reducible exact thresherref04_Fits.mono _ _ _ _ _ _ _)
   | (with_reducible exact thresherref20_Fit.mono _ _ _ _ _ _ _)
   | (with_reducible exact thresherref20_Same.mono _ _ _)
   | (with_reducible exact LeO.refl _)
   | (with_reducible exact LeO.none _)
   | (with_reducible refine LeO.ite ?_ ?_)
   | (with_reducible refine LeO.bind ?_ (fun _ => ?_))
   | exact ih0 _ _ _ _ _ _ _ _ _ _
   | exact ih1 _ _ _ _ _ _ _ _ _
   | exact ih2 _ _ _ _ _ _ _ _ _
   | exact agg_Rows.mono _ _ _ _ _ _ _
   | exact thresherlaw20_made.mono _ _ _ _ _ _ _ _ _ _ _ _ _
   | exact thresherlaw20_shown.mono _
   | exact thresherref04_Fits.mono _ _ _ _ _ _ _
   | exact thresherref20_Fit.mono _ _ _ _ _ _ _
   | exact thresherref20_Same.mono _ _ _
   | exact LeO.none _
   | refine LeO.ite ?_ ?_
   | refine LeO.bind ?_ (fun _ => ?_)
def thresherlaw20_AggOrder.T17 : Bool × List (List Nat × List Nat) := (true, [([], []), ([], []), ([], []), ([], []), ([3], [3]), ([1, 2, 4], [1, 2, 4]), ([], []), ([0, 5, 6], [0, 5, 6]), ([7, 7, 0, 1, 2, 3, 4, 5, 6, 7], [7])])
def thresherlaw20_AggOrder.B17 : List Nat := [0, 0, 0, 0, 8, 30, 0, 127, 255]
theorem thresherlaw20_AggOrder.tab17 : rtab .any (opsOf Try.f4 17) = thresherlaw20_AggOrder.T17 := by kernel_rfl
theorem thresherlaw20_AggOrder.bits17 : waitsOk thresherlaw20_AggOrder.T17.2 thresherlaw20_AggOrder.B17 = true := by kernel_rfl
def thresherlaw20_AggOrder.T18 : Bool × List (List Nat × List Nat) := (true, [([], []), ([0], [0]), ([1], [1]), ([2], [2]), ([3], [3]), ([4, 3], [3, 4]), ([5, 3], [3, 5]), ([3], [3]), ([3], [3]), ([7, 8, 3], [3, 7, 8]), ([9, 3], [3, 9]), ([6, 10, 3], [3, 6, 10]), ([3, 11], [3, 11])])
def thresherlaw20_AggOrder.B18 : List Nat := [0, 1, 3, 7, 15, 31, 63, 15, 15, 399, 911, 2047, 4095]
theorem thresherlaw20_AggOrder.tab18 : rtab .any (opsOf Try.f4 18) = thresherlaw20_AggOrder.T18 := by kernel_rfl
theorem thresherlaw20_AggOrder.bits18 : waitsOk thresherlaw20_AggOrder.T18.2 thresherlaw20_AggOrder.B18 = true := by kernel_rfl
set_option maxHeartbeats 8000000 in
set_option maxRecDepth 100000 in
theorem thresherlaw20_AggOrder.calls (k : Nat) (a0_0 : Int) (a0_1 : Int) (a0_2 : Int) (a0_3 : Int) (a0_4 : Int) (a0_5 : Int) (a0_6 : Int) (a0_7 : Int) (a0_8 : Int) (a0_9 : Int) (a0_10 : Int) (a0_11 : Int) (A1 : Option Addr) (c1 : Nat) (l1 : List (S33)) (A2 : Option Addr) (c2 : Nat) (l2 : List (List (S40))) (r : Bool) (w : World) (hr1 : Kd.C k33 w A1 l1.length l1) (hc1 : l1.length ≤ c1) (hr2 : Kd.C (Kd.slice 40 k40) w A2 l2.length l2) (hc2 : l2.length ≤ c2) (h : thresherlaw20_AggOrder.f k a0_0 a0_1 a0_2 a0_3 a0_4 a0_5 a0_6 a0_7 a0_8 a0_9 a0_10 a0_11 l1 l2 = some r) :
  Calls Try.prog 4 #[.agg #[.int .u8 a0_0, .int .u8 a0_1, .int .u8 a0_2, .int .u8 a0_3, .int .u8 a0_4, .int .u8 a0_5, .int .u8 a0_6, .int .u8 a0_7, .int .u8 a0_8, .int .u8 a0_9, .int .u8 a0_10, .int .u8 a0_11], .slice A1 l1.length c1, .slice A2 l2.length c2] w fun e w' => e = .returned (.bool r) ∧ Below w.heap.size w w' := by
 have hu24 := Try.underlying24
 have hu29 := Try.underlying29
 have hu42 := Try.underlying42
 have HR1 := Aside0.mk hr1
 have HC1 := Aside0.mk hc1
 clear hr1 hc1
 have HR2 := Aside0.mk hr2
 have HC2 := Aside0.mk hc2
 clear hr2 hc2
 have HB := Aside0.mk (Below.refl w.heap.size w)
 have H : ((thresherlaw20_shown.f k).bind fun t290 => ((thresherlaw20_made.f k a0_0 a0_1 a0_2 a0_3 a0_4 a0_5 a0_6 a0_7 a0_8 a0_9 a0_10 a0_11).bind fun bt291 => ((thresherref20_Fit.f k bt291.1 bt291.2.1 bt291.2.2.1 bt291.2.2.2 l1 16).bind fun t298 => ((thresherref04_Fits.f k bt291.1 bt291.2.1 bt291.2.2.1 bt291.2.2.2 l2 60).bind fun t301 => ((agg_Rows.f k bt291.1 bt291.2.1 bt291.2.2.1 bt291.2.2.2 t298 t301).bind fun t304 => (thresherlaw20_AggOrder.l0 k t290 t298 t301 t304 (([] : List (List (S40)))) (wrap64 ((t301.length : Int) - 1)) bt291.1 bt291.2.1 bt291.2.2.1 bt291.2.2.2)))))) = some r := h
 clear h
 replace H := Option.bind_eq_some_iff.mp H
 obtain ⟨t290, A40, H⟩ := H
 replace H : ((thresherlaw20_made.f k a0_0 a0_1 a0_2 a0_3 a0_4 a0_5 a0_6 a0_7 a0_8 a0_9 a0_10 a0_11).bind fun bt291 => ((thresherref20_Fit.f k bt291.1 bt291.2.1 bt291.2.2.1 bt291.2.2.2 l1 16).bind fun t298 => ((thresherref04_Fits.f k bt291.1 bt291.2.1 bt291.2.2.1 bt291.2.2.2 l2 60).bind fun t301 => ((agg_Rows.f k bt291.1 bt291.2.1 bt291.2.2.1 bt291.2.2.2 t298 t301).bind fun t304 => (thresherlaw20_AggOrder.l0 k t290 t298 t301 t304 (([] : List (List (S40)))) (wrap64 ((t301.length : Int) - 1)) bt291.1 bt291.2.1 bt291.2.2.1 bt291.2.2.2))))) = some r := H
 have A4 := Aside0.mk A40
 clear A40
 replace H := Option.bind_eq_some_iff.mp H
 obtain ⟨⟨t291, t294, t295, t296⟩, A50, H⟩ := H
 replace H : ((thresherref20_Fit.f k t291 t294 t295 t296 l1 16).bind fun t298 => ((thresherref04_Fits.f k t291 t294 t295 t296 l2 60).bind fun t301 => ((agg_Rows.f k t291 t294 t295 t296 t298 t301).bind fun t304 => (thresherlaw20_AggOrder.l0 k t290 t298 t301 t304 (([] : List (List (S40)))) (wrap64 ((t301.length : Int) - 1)) t291 t294 t295 t296)))) = some r := H
 have A5 := Aside0.mk A50
 clear A50
 replace H := Option.bind_eq_some_iff.mp H
 obtain ⟨t298, A60, H⟩ := H
 replace H : ((thresherref04_Fits.f k t291 t294 t295 t296 l2 60).bind fun t301 => ((agg_Rows.f k t291 t294 t295 t296 t298 t301).bind fun t304 => (thresherlaw20_AggOrder.l0 k t290 t298 t301 t304 (([] : List (List (S40)))) (wrap64 ((t301.length : Int) - 1)) t291 t294 t295 t296))) = some r := H
 have A6 := Aside0.mk A60
 clear A60
 replace H := Option.bind_eq_some_iff.mp H
 obtain ⟨t301, A70, H⟩ := H
 replace H : ((agg_Rows.f k t291 t294 t295 t296 t298 t301).bind fun t304 => (thresherlaw20_AggOrder.l0 k t290 t298 t301 t304 (([] : List (List (S40)))) (wrap64 ((t301.length : Int) - 1)) t291 t294 t295 t296)) = some r := H
 have A7 := Aside0.mk A70
 clear A70
 replace H := Option.bind_eq_some_iff.mp H
 obtain ⟨t304, A80, H⟩ := H
 replace H : (thresherlaw20_AggOrder.l0 k t290 t298 t301 t304 (([] : List (List (S40)))) (wrap64 ((t301.length : Int) - 1)) t291 t294 t295 t296) = some r := H
 have A8 := Aside0.mk A80
 clear A80
 obtain ⟨y307, hy307⟩ : ∃ y_ : List (List (S40)), y_ = (([] : List (List (S40)))) := ⟨_, rfl⟩
 replace H : (thresherlaw20_AggOrder.l0 k t290 t298 t301 t304 y307 (wrap64 ((t301.length : Int) - 1)) t291 t294 t295 t296) = some r := by first | (rw [hy307]; with_reducible exact H) | (have H2_ := (Option.bind_some _ _).symm.trans H; rw [hy307]; with_reducible exact H2_) | (have H2_ := (Option.bind_some _ _).symm.trans H; with_reducible exact H2_) | with_reducible exact H | (rw [hy307]; exact H) | exact H
 have Ny307 := Aside0.mk hy307
 clear hy307
 have H' := Aside0.mk H
 clear H
 go_enter Try.func4, Try.ntmps4
 go_wp2_with (first | ((with_reducible refine gate_dst (N := 3) rfl ?_); (try (refine gate_guard (by rfl) ?_; dsimp only)); refine box_event ?hg (N := 3) ?hd (cs := #[.int .u8 a0_0, .int .u8 a0_1, .int .u8 a0_2, .int .u8 a0_3, .int .u8 a0_4, .int .u8 a0_5, .int .u8 a0_6, .int .u8 a0_7, .int .u8 a0_8, .int .u8 a0_9, .int .u8 a0_10, .int .u8 a0_11]) (t := 24) ?hr ?_; (case hd => rfl); (case hg => rfl); (case hr => first | (go_simp; done) | (go_simp; rfl)); intro gb289 hg w9 hbox hb; have n0_ := Aside0.mk (below_step (by repeat (first | (with_reducible first | exact HB.out | apply below_alloc | apply pw_below_drewN | apply below_drew1) | exact HB.out)) hb); have n1_ := Aside0.mk (hbox); have n2_ := Aside0.mk ((by rw [hg]; exact (below_size (by repeat (first | (with_reducible first | exact HB.out | apply below_alloc | apply pw_below_drewN | apply below_drew1) | exact HB.out))) : w.heap.size ≤ gb289)); have n3_ := Aside0.mk ((by rw [hg]; exact (below_size (by repeat (first | (with_reducible first | exact HB.out | apply below_alloc | apply pw_below_drewN | apply below_drew1) | exact HB.out))) : w.heap.size ≤ gb289)); clear HB; have HB := n0_; have BK289 := n1_; have GW289 := n2_; have GE289 := n3_; clear n0_ n1_ n2_ n3_; clear hb hbox hg) | ((with_reducible refine gate_callee (f := 8) rfl ?_); refine goesL_ (some 17) rfl rfl Try.func8 (by kernel_rfl) rfl #[] rfl (by (try simp only [List.map_toArray, List.map_cons, List.map_nil]); first | done | rfl | (simp only [List.length_drop, List.length_take]; rfl)) ?_; (with_reducible refine (thresherlaw20_shown.calls k  t290 _ A4.out).mono ?_); rintro e w10 ⟨rfl, hb⟩; refine ⟨_, rfl, ?_⟩; have n0_ := Aside0.mk (blk_below (g := gb289) (o := .cells #[.int .u8 a0_0, .int .u8 a0_1, .int .u8 a0_2, .int .u8 a0_3, .int .u8 a0_4, .int .u8 a0_5, .int .u8 a0_6, .int .u8 a0_7, .int .u8 a0_8, .int .u8 a0_9, .int .u8 a0_10, .int .u8 a0_11] 24 (0, 0)) (by (with_reducible repeat (first | refine blk_drewN ?_ _ | refine blk_drew ?_ | refine blk_alloc ?_ _)); exact BK289.out) hb); have n1_ := Aside0.mk (below_step (by repeat (first | (with_reducible first | exact HB.out | apply below_alloc | apply pw_below_drewN | apply below_drew1 | refine below_set ?_ GE289.out) | exact HB.out)) hb); clear BK289; clear HB; have BK289 := n0_; have HB := n1_; clear n0_ n1_; (try clear hb); (try clear hb2); (try clear hk); (try clear hi); have hcz11_0 : w10.cell? ⟨gb289, 0, none⟩ = some (.int .u8 a0_0) := (blk_cell BK289.out 0).trans rfl; have hcz11_1 : w10.cell? ⟨gb289, 1, none⟩ = some (.int .u8 a0_1) := (blk_cell BK289.out 1).trans rfl; have hcz11_2 : w10.cell? ⟨gb289, 2, none⟩ = some (.int .u8 a0_2) := (blk_cell BK289.out 2).trans rfl; have hcz11_3 : w10.cell? ⟨gb289, 3, none⟩ = some (.int .u8 a0_3) := (blk_cell BK289.out 3).trans rfl; have hcz11_4 : w10.cell? ⟨gb289, 4, none⟩ = some (.int .u8 a0_4) := (blk_cell BK289.out 4).trans rfl; have hcz11_5 : w10.cell? ⟨gb289, 5, none⟩ = some (.int .u8 a0_5) := (blk_cell BK289.out 5).trans rfl; have hcz11_6 : w10.cell? ⟨gb289, 6, none⟩ = some (.int .u8 a0_6) := (blk_cell BK289.out 6).trans rfl; have hcz11_7 : w10.cell? ⟨gb289, 7, none⟩ = some (.int .u8 a0_7) := (blk_cell BK289.out 7).trans rfl; have hcz11_8 : w10.cell? ⟨gb289, 8, none⟩ = some (.int .u8 a0_8) := (blk_cell BK289.out 8).trans rfl; have hcz11_9 : w10.cell? ⟨gb289, 9, none⟩ = some (.int .u8 a0_9) := (blk_cell BK289.out 9).trans rfl; have hcz11_10 : w10.cell? ⟨gb289, 10, none⟩ = some (.int .u8 a0_10) := (blk_cell BK289.out 10).trans rfl; have hcz11_11 : w10.cell? ⟨gb289, 11, none⟩ = some (.int .u8 a0_11) := (blk_cell BK289.out 11).trans rfl; have hfz11_0 := blk_frozen BK289.out 0; have hfz11_1 := blk_frozen BK289.out 1; have hfz11_2 := blk_frozen BK289.out 2; have hfz11_3 := blk_frozen BK289.out 3; have hfz11_4 := blk_frozen BK289.out 4; have hfz11_5 := blk_frozen BK289.out 5; have hfz11_6 := blk_frozen BK289.out 6; have hfz11_7 := blk_frozen BK289.out 7; have hfz11_8 := blk_frozen BK289.out 8; have hfz11_9 := blk_frozen BK289.out 9; have hfz11_10 := blk_frozen BK289.out 10; have hfz11_11 := blk_frozen BK289.out 11) | ((with_reducible refine gate_callee (f := 9) rfl ?_); refine goesL_ (some 19) rfl rfl Try.func9 (by kernel_rfl) rfl #[.agg #[.int .u8 a0_0, .int .u8 a0_1, .int .u8 a0_2, .int .u8 a0_3, .int .u8 a0_4, .int .u8 a0_5, .int .u8 a0_6, .int .u8 a0_7, .int .u8 a0_8, .int .u8 a0_9, .int .u8 a0_10, .int .u8 a0_11]] rfl (by (try simp only [List.map_toArray, List.map_cons, List.map_nil]); first | done | rfl | (simp only [List.length_drop, List.length_take]; rfl)) ?_; (with_reducible refine (thresherlaw20_made.calls k a0_0 a0_1 a0_2 a0_3 a0_4 a0_5 a0_6 a0_7 a0_8 a0_9 a0_10 a0_11 t291 t294 t295 t296 _ A5.out).mono ?_); rintro e w12 ⟨v292, rfl, ho0, hb⟩; refine ⟨_, rfl, ?_⟩; have n0_ := Aside0.mk (Kd.R_lower ho0 (below_size (by repeat (first | (with_reducible first | exact HB.out | apply below_alloc | apply pw_below_drewN | apply below_drew1 | refine below_set ?_ GE289.out) | exact HB.out)))); have n1_ := Aside0.mk (blk_below (g := gb289) (o := .cells #[.int .u8 a0_0, .int .u8 a0_1, .int .u8 a0_2, .int .u8 a0_3, .int .u8 a0_4, .int .u8 a0_5, .int .u8 a0_6, .int .u8 a0_7, .int .u8 a0_8, .int .u8 a0_9, .int .u8 a0_10, .int .u8 a0_11] 24 (0, 0)) (by (with_reducible repeat (first | refine blk_drewN ?_ _ | refine blk_drew ?_ | refine blk_alloc ?_ _)); exact BK289.out) hb); have n2_ := Aside0.mk (below_step (by repeat (first | (with_reducible first | exact HB.out | apply below_alloc | apply pw_below_drewN | apply below_drew1 | refine below_set ?_ GE289.out) | exact HB.out)) hb); clear BK289; clear HB; have HO293 := n0_; have BK289 := n1_; have HB := n2_; clear n0_ n1_ n2_; (try clear hb); (try clear hb2); (try clear hk); (try clear hi); (try clear ho0)) | ((with_reducible refine gate_dst (N := 8) rfl ?_); (try (refine gate_guard (by rfl) ?_; dsimp only)); refine box_event ?hg (N := 8) ?hd (cs := #[.slice none 0 0, .int .i64 0, .int .i64 0, .int .i64 0]) (t := 29) ?hr ?_; (case hd => rfl); (case hg => rfl); (case hr => first | (go_simp; done) | (go_simp; rfl)); intro gb297 hg w13 hbox hb; have n0_ := Aside0.mk (Kd.R_below (by (with_reducible repeat (first | apply Kd.R_alloc | apply Kd.R_drewN | apply Kd.R_drew)); exact HO293.out) hb); have n1_ := Aside0.mk (blk_below (g := gb289) (o := .cells #[.int .u8 a0_0, .int .u8 a0_1, .int .u8 a0_2, .int .u8 a0_3, .int .u8 a0_4, .int .u8 a0_5, .int .u8 a0_6, .int .u8 a0_7, .int .u8 a0_8, .int .u8 a0_9, .int .u8 a0_10, .int .u8 a0_11] 24 (0, 0)) (by (with_reducible repeat (first | refine blk_drewN ?_ _ | refine blk_drew ?_ | refine blk_alloc ?_ _)); exact BK289.out) hb); have n2_ := Aside0.mk (below_step (by repeat (first | (with_reducible first | exact HB.out | apply below_alloc | apply pw_below_drewN | apply below_drew1 | refine below_set ?_ GE289.out) | exact HB.out)) hb); have n3_ := Aside0.mk (hbox); have n4_ := Aside0.mk ((by rw [hg]; exact (below_size (by repeat (first | (with_reducible first | exact HB.out | apply below_alloc | apply pw_below_drewN | apply below_drew1 | refine below_set ?_ GE289.out) | exact HB.out))) : w.heap.size ≤ gb297)); have n5_ := Aside0.mk ((by rw [hg]; exact (below_size (by repeat (first | (with_reducible first | exact HB.out | apply below_alloc | apply pw_below_drewN | apply below_drew1 | refine below_set ?_ GE289.out) | exact HB.out))) : w.heap.size ≤ gb297)); have n6_ := Aside0.mk ((by rw [hg]; exact Nat.ne_of_lt (blk_lt (g := gb289) (o := .cells #[.int .u8 a0_0, .int .u8 a0_1, .int .u8 a0_2, .int .u8 a0_3, .int .u8 a0_4, .int .u8 a0_5, .int .u8 a0_6, .int .u8 a0_7, .int .u8 a0_8, .int .u8 a0_9, .int .u8 a0_10, .int .u8 a0_11] 24 (0, 0)) (by (with_reducible repeat (first | refine blk_drewN ?_ _ | refine blk_drew ?_ | refine blk_alloc ?_ _)); exact BK289.out)) : gb289 ≠ gb297)); have n7_ := Aside0.mk ((by rw [hg]; exact Nat.ne_of_gt (blk_lt (g := gb289) (o := .cells #[.int .u8 a0_0, .int .u8 a0_1, .int .u8 a0_2, .int .u8 a0_3, .int .u8 a0_4, .int .u8 a0_5, .int .u8 a0_6, .int .u8 a0_7, .int .u8 a0_8, .int .u8 a0_9, .int .u8 a0_10, .int .u8 a0_11] 24 (0, 0)) (by (with_reducible repeat (first | refine blk_drewN ?_ _ | refine blk_drew ?_ | refine blk_alloc ?_ _)); exact BK289.out)) : gb297 ≠ gb289)); clear HO293; clear BK289; clear HB; have HO293 := n0_; have BK289 := n1_; have HB := n2_; have BK297 := n3_; have GW297 := n4_; have GE297 := n5_; have NB289_297 := n6_; have NB297_289 := n7_; clear n0_ n1_ n2_ n3_ n4_ n5_ n6_ n7_; clear hb hbox hg; obtain ⟨Ao14, co14, eo14⟩ := Kd.R_slice HO293.out; subst eo14; have hnb15 := NB297_289.out; have hnc15 := NB289_297.out; have hcz16_0 : w13.cell? ⟨gb297, 0, none⟩ = some (.slice none 0 0) := (blk_cell BK297.out 0).trans rfl; have hcz16_1 : w13.cell? ⟨gb297, 1, none⟩ = some (.int .i64 0) := (blk_cell BK297.out 1).trans rfl; have hcz16_2 : w13.cell? ⟨gb297, 2, none⟩ = some (.int .i64 0) := (blk_cell BK297.out 2).trans rfl; have hcz16_3 : w13.cell? ⟨gb297, 3, none⟩ = some (.int .i64 0) := (blk_cell BK297.out 3).trans rfl; have hfz16_0 := blk_frozen BK297.out 0; have hfz16_1 := blk_frozen BK297.out 1; have hfz16_2 := blk_frozen BK297.out 2; have hfz16_3 := blk_frozen BK297.out 3) | ((with_reducible refine gate_callee (f := 14) rfl ?_); refine goesL_ (some 22) rfl rfl Try.func14 (by kernel_rfl) rfl #[.agg #[.slice Ao14 t291.length co14, .int .i64 t294, .int .i64 t295, .int .i64 t296], .slice A1 l1.length c1, .int .i64 16] rfl (by (try simp only [List.map_toArray, List.map_cons, List.map_nil]); first | done | rfl | (simp only [List.length_drop, List.length_take]; rfl)) ?_; (with_reducible refine (thresherref20_Fit.calls k _ _ t291 t294 t295 t296 _ _ l1 16 t298 _ ?side1 ?side2 ?side3 ?side4 A6.out).mono ?_); (case side1 => refine (Kd.R_reads' (e := 3) (base := w.heap.size) (ok := fun k_ => True) (n := t291.length) (c := co14) ?_).2.2; exact (by (with_reducible repeat (first | apply Kd.R_alloc | apply Kd.R_drewN | apply Kd.R_drew)); exact (Kd.R_mono (Kd.R_far (p := ⟨gb297, 3, none⟩) (Kd.R_far (p := ⟨gb297, 2, none⟩) (Kd.R_far (p := ⟨gb297, 1, none⟩) (Kd.R_far (p := ⟨gb297, 0, none⟩) (Kd.R_types HO293.out BK297.out (by decide)) (fun _ hk => hk.2) (.slice Ao14 t291.length co14)) (fun _ hk => hk.2) (.int .i64 t294)) (fun _ hk => hk.2) (.int .i64 t295)) (fun _ hk => hk.2) (.int .i64 t296)) (fun _ h_ => h_.1)))); (case side2 => exact (Kd.R_reads' HO293.out).2.1); (case side3 => exact Kd.C_below HR1.out (by repeat (first | (with_reducible first | exact HB.out | apply below_alloc | apply pw_below_drewN | apply below_drew1 | refine below_set ?_ GE289.out | refine below_set ?_ GE297.out) | exact HB.out))); (case side4 => exact HC1.out); rintro e w17 ⟨v299, rfl, ho0, hb⟩; refine ⟨_, rfl, ?_⟩; have n0_ := Aside0.mk (Kd.R_below (by (with_reducible repeat (first | apply Kd.R_alloc | apply Kd.R_drewN | apply Kd.R_drew)); exact (Kd.R_mono (Kd.R_far (p := ⟨gb297, 3, none⟩) (Kd.R_far (p := ⟨gb297, 2, none⟩) (Kd.R_far (p := ⟨gb297, 1, none⟩) (Kd.R_far (p := ⟨gb297, 0, none⟩) (Kd.R_types HO293.out BK297.out (by decide)) (fun _ hk => hk.2) (.slice Ao14 t291.length co14)) (fun _ hk => hk.2) (.int .i64 t294)) (fun _ hk => hk.2) (.int .i64 t295)) (fun _ hk => hk.2) (.int .i64 t296)) (fun _ h_ => h_.1))) hb); have n1_ := Aside0.mk (Kd.R_lower ho0 (below_size (by repeat (first | (with_reducible first | exact HB.out | apply below_alloc | apply pw_below_drewN | apply below_drew1 | refine below_set ?_ GE289.out | refine below_set ?_ GE297.out) | exact HB.out)))); have n2_ := Aside0.mk (blk_below (g := gb289) (o := .cells #[.int .u8 a0_0, .int .u8 a0_1, .int .u8 a0_2, .int .u8 a0_3, .int .u8 a0_4, .int .u8 a0_5, .int .u8 a0_6, .int .u8 a0_7, .int .u8 a0_8, .int .u8 a0_9, .int .u8 a0_10, .int .u8 a0_11] 24 (0, 0)) (by (with_reducible repeat (first | refine blk_drewN ?_ _ | refine blk_drew ?_ | refine blk_alloc ?_ _)); refine blk_far ?_ NB289_297.out _; (with_reducible repeat (first | refine blk_drewN ?_ _ | refine blk_drew ?_ | refine blk_alloc ?_ _)); refine blk_far ?_ NB289_297.out _; (with_reducible repeat (first | refine blk_drewN ?_ _ | refine blk_drew ?_ | refine blk_alloc ?_ _)); refine blk_far ?_ NB289_297.out _; (with_reducible repeat (first | refine blk_drewN ?_ _ | refine blk_drew ?_ | refine blk_alloc ?_ _)); refine blk_far ?_ NB289_297.out _; (with_reducible repeat (first | refine blk_drewN ?_ _ | refine blk_drew ?_ | refine blk_alloc ?_ _)); exact BK289.out) hb); have n3_ := Aside0.mk (blk_below (g := gb297) (o := .cells #[.slice Ao14 t291.length co14, .int .i64 t294, .int .i64 t295, .int .i64 t296] 29 (0, 0)) (by (with_reducible repeat (first | refine blk_drewN ?_ _ | refine blk_drew ?_ | refine blk_alloc ?_ _)); refine blk_put (cs := #[.slice Ao14 t291.length co14, .int .i64 t294, .int .i64 t295, .int .i64 0]) ?_ 3 _ rfl; (with_reducible repeat (first | refine blk_drewN ?_ _ | refine blk_drew ?_ | refine blk_alloc ?_ _)); refine blk_put (cs := #[.slice Ao14 t291.length co14, .int .i64 t294, .int .i64 0, .int .i64 0]) ?_ 2 _ rfl; (with_reducible repeat (first | refine blk_drewN ?_ _ | refine blk_drew ?_ | refine blk_alloc ?_ _)); refine blk_put (cs := #[.slice Ao14 t291.length co14, .int .i64 0, .int .i64 0, .int .i64 0]) ?_ 1 _ rfl; (with_reducible repeat (first | refine blk_drewN ?_ _ | refine blk_drew ?_ | refine blk_alloc ?_ _)); refine blk_put (cs := #[.slice none 0 0, .int .i64 0, .int .i64 0, .int .i64 0]) ?_ 0 _ rfl; (with_reducible repeat (first | refine blk_drewN ?_ _ | refine blk_drew ?_ | refine blk_alloc ?_ _)); exact BK297.out) hb); have n4_ := Aside0.mk (below_step (by repeat (first | (with_reducible first | exact HB.out | apply below_alloc | apply pw_below_drewN | apply below_drew1 | refine below_set ?_ GE289.out | refine below_set ?_ GE297.out) | exact HB.out)) hb); clear HO293; clear BK289; clear BK297; clear HB; have HO293 := n0_; have HO300 := n1_; have BK289 := n2_; have BK297 := n3_; have HB := n4_; clear n0_ n1_ n2_ n3_ n4_; (try clear hb); (try clear hb2); (try clear hk); (try clear hi); (try clear ho0); have hcz18_0 : w17.cell? ⟨gb297, 0, none⟩ = some (.slice Ao14 t291.length co14) := (blk_cell BK297.out 0).trans rfl; have hcz18_1 : w17.cell? ⟨gb297, 1, none⟩ = some (.int .i64 t294) := (blk_cell BK297.out 1).trans rfl; have hcz18_2 : w17.cell? ⟨gb297, 2, none⟩ = some (.int .i64 t295) := (blk_cell BK297.out 2).trans rfl; have hcz18_3 : w17.cell? ⟨gb297, 3, none⟩ = some (.int .i64 t296) := (blk_cell BK297.out 3).trans rfl; have hfz18_0 := blk_frozen BK297.out 0; have hfz18_1 := blk_frozen BK297.out 1; have hfz18_2 := blk_frozen BK297.out 2; have hfz18_3 := blk_frozen BK297.out 3) | ((with_reducible refine gate_callee (f := 10) rfl ?_); refine goesL_ (some 25) rfl rfl Try.func10 (by kernel_rfl) rfl #[.agg #[.slice Ao14 t291.length co14, .int .i64 t294, .int .i64 t295, .int .i64 t296], .slice A2 l2.length c2, .int .i64 60] rfl (by (try simp only [List.map_toArray, List.map_cons, List.map_nil]); first | done | rfl | (simp only [List.length_drop, List.length_take]; rfl)) ?_; (with_reducible refine (thresherref04_Fits.calls k _ _ t291 t294 t295 t296 _ _ l2 60 t301 _ ?side1 ?side2 ?side3 ?side4 A7.out).mono ?_); (case side1 => repeat (first | exact (Kd.R_reads' HO293.out).2.2 | (with_reducible refine Kd.C_alloc ?_ _) | (with_reducible refine Kd.C_drewN ?_ _) | (with_reducible refine Kd.C_drew ?_))); (case side2 => exact (Kd.R_reads' HO293.out).2.1); (case side3 => repeat (first | exact (Kd.C_below HR2.out HB.out) | (with_reducible refine Kd.C_alloc ?_ _) | (with_reducible refine Kd.C_drewN ?_ _) | (with_reducible refine Kd.C_drew ?_))); (case side4 => exact HC2.out); rintro e w19 ⟨v302, rfl, ho0, hb⟩; refine ⟨_, rfl, ?_⟩; have n0_ := Aside0.mk (Kd.R_below (by (with_reducible repeat (first | apply Kd.R_alloc | apply Kd.R_drewN | apply Kd.R_drew)); exact HO293.out) hb); have n1_ := Aside0.mk (Kd.R_below (by (with_reducible repeat (first | apply Kd.R_alloc | apply Kd.R_drewN | apply Kd.R_drew)); exact HO300.out) hb); have n2_ := Aside0.mk (Kd.N_lower (Kd.N_mono (ok' := fun k_ => some k_ ≠ (.slice Ao14 t291.length co14 : Value).ownBlock ∧ some k_ ≠ (v299 : Value).ownBlock ∧ k_ ≠ gb289 ∧ k_ ≠ gb297) (Kd.S_N (Kd.S_bound ho0)) (fun k_ hk_ => ⟨(Kd.fresh' (Kd.R_lt (by (with_reducible repeat (first | apply Kd.R_alloc | apply Kd.R_drewN | apply Kd.R_drew)); exact HO293.out)) k_ hk_.2.1), (Kd.fresh' (Kd.R_lt (by (with_reducible repeat (first | apply Kd.R_alloc | apply Kd.R_drewN | apply Kd.R_drew)); exact HO300.out)) k_ hk_.2.1), (Kd.freshB (g := gb289) (o := .cells #[.int .u8 a0_0, .int .u8 a0_1, .int .u8 a0_2, .int .u8 a0_3, .int .u8 a0_4, .int .u8 a0_5, .int .u8 a0_6, .int .u8 a0_7, .int .u8 a0_8, .int .u8 a0_9, .int .u8 a0_10, .int .u8 a0_11] 24 (0, 0)) (by (with_reducible repeat (first | refine blk_drewN ?_ _ | refine blk_drew ?_ | refine blk_alloc ?_ _)); exact BK289.out) k_ hk_.2.1), (Kd.freshB (g := gb297) (o := .cells #[.slice Ao14 t291.length co14, .int .i64 t294, .int .i64 t295, .int .i64 t296] 29 (0, 0)) (by (with_reducible repeat (first | refine blk_drewN ?_ _ | refine blk_drew ?_ | refine blk_alloc ?_ _)); exact BK297.out) k_ hk_.2.1)⟩)) (below_size (by repeat (first | (with_reducible first | exact HB.out | apply below_alloc | apply pw_below_drewN | apply below_drew1 | refine below_set ?_ GE289.out | refine below_set ?_ GE297.out) | exact HB.out)))); have n3_ := Aside0.mk (blk_below (g := gb289) (o := .cells #[.int .u8 a0_0, .int .u8 a0_1, .int .u8 a0_2, .int .u8 a0_3, .int .u8 a0_4, .int .u8 a0_5, .int .u8 a0_6, .int .u8 a0_7, .int .u8 a0_8, .int .u8 a0_9, .int .u8 a0_10, .int .u8 a0_11] 24 (0, 0)) (by (with_reducible repeat (first | refine blk_drewN ?_ _ | refine blk_drew ?_ | refine blk_alloc ?_ _)); exact BK289.out) hb); have n4_ := Aside0.mk (blk_below (g := gb297) (o := .cells #[.slice Ao14 t291.length co14, .int .i64 t294, .int .i64 t295, .int .i64 t296] 29 (0, 0)) (by (with_reducible repeat (first | refine blk_drewN ?_ _ | refine blk_drew ?_ | refine blk_alloc ?_ _)); exact BK297.out) hb); have n5_ := Aside0.mk (below_step (by repeat (first | (with_reducible first | exact HB.out | apply below_alloc | apply pw_below_drewN | apply below_drew1 | refine below_set ?_ GE289.out | refine below_set ?_ GE297.out) | exact HB.out)) hb); clear HO293; clear HO300; clear BK289; clear BK297; clear HB; have HO293 := n0_; have HO300 := n1_; have HO303 := n2_; have BK289 := n3_; have BK297 := n4_; have HB := n5_; clear n0_ n1_ n2_ n3_ n4_ n5_; (try clear hb); (try clear hb2); (try clear hk); (try clear hi); (try clear ho0); have hcz20_0 : w19.cell? ⟨gb297, 0, none⟩ = some (.slice Ao14 t291.length co14) := (blk_cell BK297.out 0).trans rfl; have hcz20_1 : w19.cell? ⟨gb297, 1, none⟩ = some (.int .i64 t294) := (blk_cell BK297.out 1).trans rfl; have hcz20_2 : w19.cell? ⟨gb297, 2, none⟩ = some (.int .i64 t295) := (blk_cell BK297.out 2).trans rfl; have hcz20_3 : w19.cell? ⟨gb297, 3, none⟩ = some (.int .i64 t296) := (blk_cell BK297.out 3).trans rfl; have hfz20_0 := blk_frozen BK297.out 0; have hfz20_1 := blk_frozen BK297.out 1; have hfz20_2 := blk_frozen BK297.out 2; have hfz20_3 := blk_frozen BK297.out 3; obtain ⟨Ao21, co21, eo21⟩ := Kd.R_slice HO300.out; subst eo21; obtain ⟨Ao22, co22, eo22⟩ := Kd.N_slice HO303.out; subst eo22) | ((with_reducible refine gate_callee (f := 11) rfl ?_); refine goesL_ (some 29) rfl rfl Try.func11 (by kernel_rfl) rfl #[.agg #[.slice Ao14 t291.length co14, .int .i64 t294, .int .i64 t295, .int .i64 t296], .slice Ao21 t298.length co21, .slice Ao22 t301.length co22] rfl (by (try simp only [List.map_toArray, List.map_cons, List.map_nil]); first | done | rfl | (simp only [List.length_drop, List.length_take]; rfl)) ?_; (with_reducible refine (agg_Rows.calls k _ _ t291 t294 t295 t296 _ _ t298 _ _ t301 t304 _ ?side1 ?side2 ?side3 ?side4 ?side5 ?side6 A8.out).mono ?_); (case side1 => repeat (first | exact (Kd.R_reads' HO293.out).2.2 | (with_reducible refine Kd.C_alloc ?_ _) | (with_reducible refine Kd.C_drewN ?_ _) | (with_reducible refine Kd.C_drew ?_))); (case side2 => exact (Kd.R_reads' HO293.out).2.1); (case side3 => repeat (first | exact (Kd.R_reads' HO300.out).2.2 | (with_reducible refine Kd.C_alloc ?_ _) | (with_reducible refine Kd.C_drewN ?_ _) | (with_reducible refine Kd.C_drew ?_))); (case side4 => exact (Kd.R_reads' HO300.out).2.1); (case side5 => repeat (first | exact (Kd.N_reads' HO303.out).2.2 | (with_reducible refine Kd.C_alloc ?_ _) | (with_reducible refine Kd.C_drewN ?_ _) | (with_reducible refine Kd.C_drew ?_))); (case side6 => exact (Kd.N_reads' HO303.out).2.1); rintro e w23 ⟨v305, rfl, ho0, hb⟩; refine ⟨_, rfl, ?_⟩; have n0_ := Aside0.mk (Kd.R_below (by (with_reducible repeat (first | apply Kd.R_alloc | apply Kd.R_drewN | apply Kd.R_drew)); exact HO293.out) hb); have n1_ := Aside0.mk (Kd.R_below (by (with_reducible repeat (first | apply Kd.R_alloc | apply Kd.R_drewN | apply Kd.R_drew)); exact HO300.out) hb); have n2_ := Aside0.mk (Kd.N_elder' (by (with_reducible repeat (first | apply Kd.N_alloc | apply Kd.N_drewN | apply Kd.N_drew)); exact HO303.out) (Kd.R_base ho0) hb); have n3_ := Aside0.mk (Kd.R_lower ho0 (below_size (by repeat (first | (with_reducible first | exact HB.out | apply below_alloc | apply pw_below_drewN | apply below_drew1 | refine below_set ?_ GE289.out | refine below_set ?_ GE297.out) | exact HB.out)))); have n4_ := Aside0.mk (blk_below (g := gb289) (o := .cells #[.int .u8 a0_0, .int .u8 a0_1, .int .u8 a0_2, .int .u8 a0_3, .int .u8 a0_4, .int .u8 a0_5, .int .u8 a0_6, .int .u8 a0_7, .int .u8 a0_8, .int .u8 a0_9, .int .u8 a0_10, .int .u8 a0_11] 24 (0, 0)) (by (with_reducible repeat (first | refine blk_drewN ?_ _ | refine blk_drew ?_ | refine blk_alloc ?_ _)); exact BK289.out) hb); have n5_ := Aside0.mk (blk_below (g := gb297) (o := .cells #[.slice Ao14 t291.length co14, .int .i64 t294, .int .i64 t295, .int .i64 t296] 29 (0, 0)) (by (with_reducible repeat (first | refine blk_drewN ?_ _ | refine blk_drew ?_ | refine blk_alloc ?_ _)); exact BK297.out) hb); have n6_ := Aside0.mk (below_step (by repeat (first | (with_reducible first | exact HB.out | apply below_alloc | apply pw_below_drewN | apply below_drew1 | refine below_set ?_ GE289.out | refine below_set ?_ GE297.out) | exact HB.out)) hb); clear HO293; clear HO300; clear HO303; clear BK289; clear BK297; clear HB; have HO293 := n0_; have HO300 := n1_; have HO303 := n2_; have HO306 := n3_; have BK289 := n4_; have BK297 := n5_; have HB := n6_; clear n0_ n1_ n2_ n3_ n4_ n5_ n6_; (try clear hb); (try clear hb2); (try clear hk); (try clear hi); (try clear ho0)) | ((with_reducible refine gate_dst (N := 30) rfl ?_); (try (refine gate_guard (by rfl) ?_; dsimp only)); refine Kd.N_lit (Kd.slice 40 k40) _ 44 ?hg (N' := 30) ?hd (xs := ([] : List (List (S40)))) (inner := []) (ok := (fun k_ => some k_ ≠ (.slice Ao14 t291.length co14 : Value).ownBlock ∧ some k_ ≠ (.slice Ao21 t298.length co21 : Value).ownBlock ∧ some k_ ≠ (.slice Ao22 t301.length co22 : Value).ownBlock ∧ some k_ ≠ (v305 : Value).ownBlock ∧ k_ ≠ gb289 ∧ k_ ≠ gb297)) (okp := (fun k_ => some k_ ≠ (.slice Ao14 t291.length co14 : Value).ownBlock ∧ some k_ ≠ (.slice Ao21 t298.length co21 : Value).ownBlock ∧ some k_ ≠ (.slice Ao22 t301.length co22 : Value).ownBlock ∧ some k_ ≠ (v305 : Value).ownBlock ∧ k_ ≠ gb289 ∧ k_ ≠ gb297)) ?hr ?hp (fun _ hk => hk) ((show ∀ k_, w23.heap.size ≤ k_ → (fun k_ => some k_ ≠ (.slice Ao14 t291.length co14 : Value).ownBlock ∧ some k_ ≠ (.slice Ao21 t298.length co21 : Value).ownBlock ∧ some k_ ≠ (.slice Ao22 t301.length co22 : Value).ownBlock ∧ some k_ ≠ (v305 : Value).ownBlock ∧ k_ ≠ gb289 ∧ k_ ≠ gb297) k_ from fun k_ hk => ⟨Kd.fresh' (Kd.R_lt (by (with_reducible repeat (first | apply Kd.R_alloc | apply Kd.R_drewN | apply Kd.R_drew)); exact HO293.out)) k_ hk, Kd.fresh' (Kd.R_lt (by (with_reducible repeat (first | apply Kd.R_alloc | apply Kd.R_drewN | apply Kd.R_drew)); exact HO300.out)) k_ hk, Kd.fresh' (Kd.N_lt (by (with_reducible repeat (first | apply Kd.N_alloc | apply Kd.N_drewN | apply Kd.N_drew)); exact HO303.out)) k_ hk, Kd.fresh' (Kd.R_lt (by (with_reducible repeat (first | apply Kd.R_alloc | apply Kd.R_drewN | apply Kd.R_drew)); exact HO306.out)) k_ hk, Kd.freshB (g := gb289) (o := .cells #[.int .u8 a0_0, .int .u8 a0_1, .int .u8 a0_2, .int .u8 a0_3, .int .u8 a0_4, .int .u8 a0_5, .int .u8 a0_6, .int .u8 a0_7, .int .u8 a0_8, .int .u8 a0_9, .int .u8 a0_10, .int .u8 a0_11] 24 (0, 0)) (by (with_reducible repeat (first | refine blk_drewN ?_ _ | refine blk_drew ?_ | refine blk_alloc ?_ _)); exact BK289.out) k_ hk, Kd.freshB (g := gb297) (o := .cells #[.slice Ao14 t291.length co14, .int .i64 t294, .int .i64 t295, .int .i64 t296] 29 (0, 0)) (by (with_reducible repeat (first | refine blk_drewN ?_ _ | refine blk_drew ?_ | refine blk_alloc ?_ _)); exact BK297.out) k_ hk⟩) _ (Nat.le_refl _)) (Below.refl _ _) (Nat.le_refl _) (by simp) ?_; (case hd => rfl); (case hg => rfl); (case hr => first | (go_simp; done) | (go_simp; rfl)); (case hp => exact (Reps.none _ _)); intro v308 w24 ho25 hb hg_ hnew_; clear hg_ hnew_; (first | rw [← Ny307.out] at ho25 | (simp only [Int.reduceToNat] at ho25; rw [← Ny307.out] at ho25)); have n0_ := Aside0.mk (Kd.R_below (by (with_reducible repeat (first | apply Kd.R_alloc | apply Kd.R_drewN | apply Kd.R_drew)); exact HO293.out) hb); have n1_ := Aside0.mk (Kd.R_below (by (with_reducible repeat (first | apply Kd.R_alloc | apply Kd.R_drewN | apply Kd.R_drew)); exact HO300.out) hb); have n2_ := Aside0.mk (Kd.N_elder' (by (with_reducible repeat (first | apply Kd.N_alloc | apply Kd.N_drewN | apply Kd.N_drew)); exact HO303.out) (Kd.N_base ho25) hb); have n3_ := Aside0.mk (Kd.R_below (by (with_reducible repeat (first | apply Kd.R_alloc | apply Kd.R_drewN | apply Kd.R_drew)); exact HO306.out) hb); have n4_ := Aside0.mk (Kd.N_lower ho25 (below_size (by repeat (first | (with_reducible first | exact HB.out | apply below_alloc | apply pw_below_drewN | apply below_drew1 | refine below_set ?_ GE289.out | refine below_set ?_ GE297.out) | exact HB.out)))); have n5_ := Aside0.mk (blk_below (g := gb289) (o := .cells #[.int .u8 a0_0, .int .u8 a0_1, .int .u8 a0_2, .int .u8 a0_3, .int .u8 a0_4, .int .u8 a0_5, .int .u8 a0_6, .int .u8 a0_7, .int .u8 a0_8, .int .u8 a0_9, .int .u8 a0_10, .int .u8 a0_11] 24 (0, 0)) (by (with_reducible repeat (first | refine blk_drewN ?_ _ | refine blk_drew ?_ | refine blk_alloc ?_ _)); exact BK289.out) hb); have n6_ := Aside0.mk (blk_below (g := gb297) (o := .cells #[.slice Ao14 t291.length co14, .int .i64 t294, .int .i64 t295, .int .i64 t296] 29 (0, 0)) (by (with_reducible repeat (first | refine blk_drewN ?_ _ | refine blk_drew ?_ | refine blk_alloc ?_ _)); exact BK297.out) hb); have n7_ := Aside0.mk (below_step (by repeat (first | (with_reducible first | exact HB.out | apply below_alloc | apply pw_below_drewN | apply below_drew1 | refine below_set ?_ GE289.out | refine below_set ?_ GE297.out) | exact HB.out)) hb); clear HO293; clear HO300; clear HO303; clear HO306; clear BK289; clear BK297; clear HB; have HO293 := n0_; have HO300 := n1_; have HO303 := n2_; have HO306 := n3_; have HO309 := n4_; have BK289 := n5_; have BK297 := n6_; have HB := n7_; clear n0_ n1_ n2_ n3_ n4_ n5_ n6_ n7_; clear hb ho25))
 go_loopg [12, 13] k (fun kq v12 v13 w' => ∃ (x12_1 : List (List (S40))) (x13_1 : Int), v13 = .int .i64 x13_1 ∧ Aside0 (thresherlaw20_AggOrder.l0 kq t290 t298 t301 t304 x12_1 x13_1 t291 t294 t295 t296 = some r) ∧ Aside0 (kq ≤ k) ∧ Aside0 (Kd.R k33 33 w' w.heap.size (fun _ => True) (.slice Ao21 t298.length co21) t298) ∧ Aside0 (Kd.N (Kd.slice 40 k40) 44 w' w.heap.size (fun k_ => some k_ ≠ ((.slice Ao21 t298.length co21) : Value).ownBlock ∧ some k_ ≠ (v305 : Value).ownBlock ∧ some k_ ≠ (v12 : Value).ownBlock ∧ some k_ ≠ ((.slice Ao14 t291.length co14) : Value).ownBlock ∧ k_ ≠ gb289 ∧ k_ ≠ gb297) (.slice Ao22 t301.length co22) t301) ∧ Aside0 (Kd.R k42 42 w' w.heap.size (fun _ => True) v305 t304) ∧ Aside0 (Kd.N (Kd.slice 40 k40) 44 w' w.heap.size (fun k_ => some k_ ≠ ((.slice Ao21 t298.length co21) : Value).ownBlock ∧ some k_ ≠ ((.slice Ao22 t301.length co22) : Value).ownBlock ∧ some k_ ≠ (v305 : Value).ownBlock ∧ some k_ ≠ ((.slice Ao14 t291.length co14) : Value).ownBlock ∧ k_ ≠ gb289 ∧ k_ ≠ gb297) v12 x12_1) ∧ Aside0 (Kd.R (Kd.int .i64) 3 w' w.heap.size (fun _ => True) (.slice Ao14 t291.length co14) t291) ∧ Aside0 (w'.heap[gb289]? = some (.cells #[.int .u8 a0_0, .int .u8 a0_1, .int .u8 a0_2, .int .u8 a0_3, .int .u8 a0_4, .int .u8 a0_5, .int .u8 a0_6, .int .u8 a0_7, .int .u8 a0_8, .int .u8 a0_9, .int .u8 a0_10, .int .u8 a0_11] 24 (0, 0))) ∧ Aside0 (w'.heap[gb297]? = some (.cells #[(.slice Ao14 t291.length co14), .int .i64 t294, .int .i64 t295, .int .i64 t296] 29 (0, 0))) ∧ Aside0 (Below w.heap.size w w'))
 case atStart => exact ⟨(y307), (wrap64 ((t301.length : Int) - 1)), (by first | rfl | (simp; done) | (simp [*]; done)), H', ⟨Nat.le_refl _⟩, ⟨by (with_reducible repeat (first | apply Kd.R_alloc | apply Kd.R_drewN | apply Kd.R_drew)); exact HO300.out⟩, ⟨by (with_reducible repeat (first | apply Kd.N_alloc | apply Kd.N_drewN | apply Kd.N_drew)); exact Kd.N_mono HO303.out (fun _ hk => ⟨hk.1.1.2.1, ⟨hk.1.2, ⟨hk.2, ⟨hk.1.1.1, ⟨hk.1.1.2.2.1, hk.1.1.2.2.2⟩⟩⟩⟩⟩)⟩, ⟨by (with_reducible repeat (first | apply Kd.R_alloc | apply Kd.R_drewN | apply Kd.R_drew)); exact HO306.out⟩, ⟨by (with_reducible repeat (first | apply Kd.N_alloc | apply Kd.N_drewN | apply Kd.N_drew)); exact Kd.N_mono HO309.out (fun _ hk => ⟨hk.2.1, ⟨hk.2.2.1, ⟨hk.2.2.2.1, ⟨hk.1, ⟨hk.2.2.2.2.1, hk.2.2.2.2.2⟩⟩⟩⟩⟩)⟩, ⟨by (with_reducible repeat (first | apply Kd.R_alloc | apply Kd.R_drewN | apply Kd.R_drew)); exact HO293.out⟩, ⟨by (with_reducible repeat (first | refine blk_drewN ?_ _ | refine blk_drew ?_ | refine blk_alloc ?_ _)); exact BK289.out⟩, ⟨by (with_reducible repeat (first | refine blk_drewN ?_ _ | refine blk_drew ?_ | refine blk_alloc ?_ _)); exact BK297.out⟩, ⟨by repeat (first | (with_reducible first | exact HB.out | apply below_alloc | apply pw_below_drewN | apply below_drew1 | refine below_set ?_ GE289.out | refine below_set ?_ GE297.out) | exact HB.out)⟩⟩
 case round =>
  clear H'
  try clear c1
  try clear c2
  try clear p2
  try clear c4
  try clear p6
  try clear c8
  try clear c9
  try clear c10
  try clear c11
  try clear c14
  try clear c15
  try clear hcz11_0
  try clear hcz11_1
  try clear hcz11_10
  try clear hcz11_11
  try clear hcz11_2
  try clear hcz11_3
  try clear hcz11_4
  try clear hcz11_5
  try clear hcz11_6
  try clear hcz11_7
  try clear hcz11_8
  try clear hcz11_9
  try clear hcz16_0
  try clear hcz16_1
  try clear hcz16_2
  try clear hcz16_3
  try clear hcz18_0
  try clear hcz18_1
  try clear hcz18_2
  try clear hcz18_3
  try clear hcz20_0
  try clear hcz20_1
  try clear hcz20_2
  try clear hcz20_3
  try clear hfz11_0
  try clear hfz11_1
  try clear hfz11_10
  try clear hfz11_11
  try clear hfz11_2
  try clear hfz11_3
  try clear hfz11_4
  try clear hfz11_5
  try clear hfz11_6
  try clear hfz11_7
  try clear hfz11_8
  try clear hfz11_9
  try clear hfz16_0
  try clear hfz16_1
  try clear hfz16_2
  try clear hfz16_3
  try clear hfz18_0
  try clear hfz18_1
  try clear hfz18_2
  try clear hfz18_3
  try clear hfz20_0
  try clear hfz20_1
  try clear hfz20_2
  try clear hfz20_3
  obtain ⟨x12_1, x13_1, rfl, HA, HK1, HO_9, HO_10, HO_11, HO_12, HO_298000, BK289, BK297, HB⟩ := hrel
  cases gk with
  | zero => exact absurd HA.out (by simp [thresherlaw20_AggOrder.l0])
  | succ k1 =>
   have H := HA.out
   clear HA
   simp only [thresherlaw20_AggOrder.l0] at H
   by_cases c26 : x13_1 ≥ 0
   ·rw [if_pos c26] at H
    have c26b0 : decide (0 ≤ x13_1) = true := decide_eq_true c26
    clear c26
    by_cases c27 : 0 ≤ x13_1
    ·rw [if_pos c27] at H
     have c27b0 : decide (0 ≤ x13_1) = true := decide_eq_true c27
     clear c27
     by_cases c28 : x13_1 < (t301.length : Int)
     ·rw [if_pos c28] at H
      have c28b0 : decide (x13_1 < (t301.length : Int)) = true := decide_eq_true c28
      clear c28
      by_cases c29 : x12_1.length < 5864062014805
      ·rw [if_pos c29] at H
       have LMc29 := Aside0.mk c29
       clear c29
       obtain ⟨y311, hy311⟩ : ∃ y_ : List (List (S40)), y_ = (x12_1 ++ [rd_L7 t301 x13_1]) := ⟨_, rfl⟩
       replace H : (thresherlaw20_AggOrder.l0 k1 t290 t298 t301 t304 y311 (wrap64 (x13_1 - 1)) t291 t294 t295 t296) = some r := by first | (rw [hy311]; with_reducible exact H) | (have H2_ := (Option.bind_some _ _).symm.trans H; rw [hy311]; with_reducible exact H2_) | (have H2_ := (Option.bind_some _ _).symm.trans H; with_reducible exact H2_) | with_reducible exact H | (rw [hy311]; exact H) | exact H
       have Ny311 := Aside0.mk hy311
       clear hy311
       have H' := Aside0.mk H
       clear H
       have p310 : 0 ≤ (x13_1 : Int) := of_decide_eq_true (by first | (with_reducible assumption) | assumption)
       have q310 : x13_1 < (t301.length : Int) := of_decide_eq_true (by first | (with_reducible assumption) | assumption)
       obtain ⟨ad310, A310_0, c310_0, e310, hx310_0, hl310_0, hi310_0⟩ := at_L7 (Kd.N_reads' HO_10.out).2.2 x13_1 p310 q310
       cases e310
       obtain ⟨ce310, hce310, hMe310, hcc310⟩ := Kd.N_get HO_10.out [] x13_1 p310 (by first | exact q310 | exact of_decide_eq_true (by first | (with_reducible assumption) | assumption) | (have e_ := (Kd.N_reads' HO_10.out).1; omega))
       obtain ⟨ua310_0, uc310_0, rfl, ul310_0, ge310_0⟩ := Kd.FK_slice_open hMe310
       have hv310_0 := hcc310 0 _ rfl
       rw [Nat.add_zero, show ((Kd.slice 40 k40)).sz = 1 from rfl, Nat.mul_one] at hv310_0
       replace hv310_0 := Option.some.inj (hv310_0.symm.trans hx310_0)
       injection hv310_0 with hva_ hvn_ hvc_
       rw [hva_] at ge310_0
       rw [hvc_] at ul310_0
       have HL310_0 := Aside0.mk (show Kd.V k40 40 _ w.heap.size _ _ (rd_L7 t301 x13_1) from Kd.V_mk ul310_0 ge310_0)
       clear hva_ hvn_ hvc_ ge310_0 ul310_0
       clear hcc310 hce310
       have HR310_0 := Aside0.mk hi310_0
       have HC310_0 := Aside0.mk hl310_0
       clear hi310_0 hl310_0
       replace p310 := eq_true p310
       replace q310 := eq_true q310
       go_wp2_with (first | ((with_reducible refine gate_builtin (b := .append) (xs := #[.tmp 38, .tmp 43]) rfl ?_); (try (refine gate_guard (by rfl) ?_; dsimp only)); at_builtin; refine Kd.N_append (Kd.slice 40 k40) (w0 := w) w.heap.size rfl (.tmp 38) (.tmp 43) 25 44 (.slice none 0 0) 24 rfl Try.underlying25 info44 rfl (by decide) (by omega) u12 x12_1 (rd_L7 t301 x13_1) [.slice A310_0 (rd_L7 t301 x13_1).length c310_0] (fun k_ => some k_ ≠ (.slice Ao21 t298.length co21 : Value).ownBlock ∧ some k_ ≠ (.slice (some ad310) t301.length co22 : Value).ownBlock ∧ some k_ ≠ (v305 : Value).ownBlock ∧ some k_ ≠ (.slice Ao14 t291.length co14 : Value).ownBlock ∧ k_ ≠ gb289 ∧ k_ ≠ gb297) (fun k_ => ((fun k_ => some k_ ≠ (.slice Ao21 t298.length co21 : Value).ownBlock ∧ some k_ ≠ (.slice (some ad310) t301.length co22 : Value).ownBlock ∧ some k_ ≠ (v305 : Value).ownBlock ∧ some k_ ≠ (.slice Ao14 t291.length co14 : Value).ownBlock ∧ k_ ≠ gb289 ∧ k_ ≠ gb297)) k_ ∧ some k_ ≠ (u12 : Value).ownBlock) rfl rfl ?aP (fun _ hk => hk) ?aF ?aO ?aB ?aS ?aL ?_; (case aP => exact (Kd.FK_slice_mk (Kd.V_reads' (Kd.V_mono (ok' := (fun k_ => ((fun k_ => some k_ ≠ (.slice Ao21 t298.length co21 : Value).ownBlock ∧ some k_ ≠ (.slice (some ad310) t301.length co22 : Value).ownBlock ∧ some k_ ≠ (v305 : Value).ownBlock ∧ some k_ ≠ (.slice Ao14 t291.length co14 : Value).ownBlock ∧ k_ ≠ gb289 ∧ k_ ≠ gb297)) k_ ∧ some k_ ≠ (u12 : Value).ownBlock)) (HL310_0.out) (fun k_ hk => ⟨⟨hk.1.1, ⟨hk.2, ⟨hk.1.2.1, ⟨hk.1.2.2.2.1, ⟨hk.1.2.2.2.2.1, hk.1.2.2.2.2.2⟩⟩⟩⟩⟩, hk.1.2.2.1⟩))).2.1 (Kd.V_F (Kd.V_mono (ok' := (fun k_ => ((fun k_ => some k_ ≠ (.slice Ao21 t298.length co21 : Value).ownBlock ∧ some k_ ≠ (.slice (some ad310) t301.length co22 : Value).ownBlock ∧ some k_ ≠ (v305 : Value).ownBlock ∧ some k_ ≠ (.slice Ao14 t291.length co14 : Value).ownBlock ∧ k_ ≠ gb289 ∧ k_ ≠ gb297)) k_ ∧ some k_ ≠ (u12 : Value).ownBlock)) (HL310_0.out) (fun k_ hk => ⟨⟨hk.1.1, ⟨hk.2, ⟨hk.1.2.1, ⟨hk.1.2.2.2.1, ⟨hk.1.2.2.2.2.1, hk.1.2.2.2.2.2⟩⟩⟩⟩⟩, hk.1.2.2.1⟩))))); (case aB => exact (by repeat (first | (with_reducible first | exact HB.out | apply below_alloc | apply pw_below_drewN | apply below_drew1 | refine below_set ?_ GE289.out | refine below_set ?_ GE297.out) | exact HB.out))); (case aF => exact (fun k_ hk => ⟨Kd.fresh' (Kd.R_lt (by (with_reducible repeat (first | apply Kd.R_alloc | apply Kd.R_drewN | apply Kd.R_drew)); exact HO_9.out)) k_ hk, Kd.fresh' (Kd.N_lt (by (with_reducible repeat (first | apply Kd.N_alloc | apply Kd.N_drewN | apply Kd.N_drew)); exact HO_10.out)) k_ hk, Kd.fresh' (Kd.R_lt (by (with_reducible repeat (first | apply Kd.R_alloc | apply Kd.R_drewN | apply Kd.R_drew)); exact HO_11.out)) k_ hk, Kd.fresh' (Kd.R_lt (by (with_reducible repeat (first | apply Kd.R_alloc | apply Kd.R_drewN | apply Kd.R_drew)); exact HO_298000.out)) k_ hk, Kd.freshB (g := gb289) (o := .cells #[.int .u8 a0_0, .int .u8 a0_1, .int .u8 a0_2, .int .u8 a0_3, .int .u8 a0_4, .int .u8 a0_5, .int .u8 a0_6, .int .u8 a0_7, .int .u8 a0_8, .int .u8 a0_9, .int .u8 a0_10, .int .u8 a0_11] 24 (0, 0)) (by (with_reducible repeat (first | refine blk_drewN ?_ _ | refine blk_drew ?_ | refine blk_alloc ?_ _)); exact BK289.out) k_ hk, Kd.freshB (g := gb297) (o := .cells #[.slice Ao14 t291.length co14, .int .i64 t294, .int .i64 t295, .int .i64 t296] 29 (0, 0)) (by (with_reducible repeat (first | refine blk_drewN ?_ _ | refine blk_drew ?_ | refine blk_alloc ?_ _)); exact BK297.out) k_ hk⟩)); (case aO => exact (by (with_reducible repeat (first | apply Kd.N_alloc | apply Kd.N_drewN | apply Kd.N_drew)); exact HO_12.out)); (case aS => exact (below_size (by repeat (first | (with_reducible first | exact HB.out | apply below_alloc | apply pw_below_drewN | apply below_drew1 | refine below_set ?_ GE289.out | refine below_set ?_ GE297.out) | exact HB.out)))); (case aL => have := LMc29.out; omega); intro v312 w30 ho hb hg hat; rw [← Ny311.out] at ho; have n0_ := Aside0.mk (Kd.R_over' (by (with_reducible repeat (first | apply Kd.R_alloc | apply Kd.R_drewN | apply Kd.R_drew)); exact HO_9.out) (Kd.N_typed (by (with_reducible repeat (first | apply Kd.N_alloc | apply Kd.N_drewN | apply Kd.N_drew)); exact HO_12.out)) (by decide) hg); have n1_ := Aside0.mk (Kd.N_afterv (ok := (fun k_ => some k_ ≠ (.slice Ao21 t298.length co21 : Value).ownBlock ∧ some k_ ≠ (v305 : Value).ownBlock ∧ some k_ ≠ (.slice Ao14 t291.length co14 : Value).ownBlock ∧ k_ ≠ gb289 ∧ k_ ≠ gb297)) (by (with_reducible repeat (first | apply Kd.N_alloc | apply Kd.N_drewN | apply Kd.N_drew)); exact Kd.N_mono HO_10.out (fun _ hk => ⟨⟨hk.1, ⟨hk.2.1, ⟨hk.2.2.2.1, ⟨hk.2.2.2.2.1, hk.2.2.2.2.2⟩⟩⟩⟩, hk.2.2.1⟩)) hg hat); have n2_ := Aside0.mk (Kd.R_over' (by (with_reducible repeat (first | apply Kd.R_alloc | apply Kd.R_drewN | apply Kd.R_drew)); exact HO_11.out) (Kd.N_typed (by (with_reducible repeat (first | apply Kd.N_alloc | apply Kd.N_drewN | apply Kd.N_drew)); exact HO_12.out)) (by decide) hg); have n3_ := Aside0.mk (Kd.R_over' (by (with_reducible repeat (first | apply Kd.R_alloc | apply Kd.R_drewN | apply Kd.R_drew)); exact HO_298000.out) (Kd.N_typed (by (with_reducible repeat (first | apply Kd.N_alloc | apply Kd.N_drewN | apply Kd.N_drew)); exact HO_12.out)) (by decide) hg); have n4_ := Aside0.mk (blk_grown (g := gb289) (o := .cells #[.int .u8 a0_0, .int .u8 a0_1, .int .u8 a0_2, .int .u8 a0_3, .int .u8 a0_4, .int .u8 a0_5, .int .u8 a0_6, .int .u8 a0_7, .int .u8 a0_8, .int .u8 a0_9, .int .u8 a0_10, .int .u8 a0_11] 24 (0, 0)) (by (with_reducible repeat (first | refine blk_drewN ?_ _ | refine blk_drew ?_ | refine blk_alloc ?_ _)); exact BK289.out) hg (Kd.N_ne HO_12.out BK289.out (by decide))); have n5_ := Aside0.mk (blk_grown (g := gb297) (o := .cells #[.slice Ao14 t291.length co14, .int .i64 t294, .int .i64 t295, .int .i64 t296] 29 (0, 0)) (by (with_reducible repeat (first | refine blk_drewN ?_ _ | refine blk_drew ?_ | refine blk_alloc ?_ _)); exact BK297.out) hg (Kd.N_ne HO_12.out BK297.out (by decide))); have n6_ := Aside0.mk (Kd.V_afterv (ok := (fun k_ => some k_ ≠ (.slice Ao21 t298.length co21 : Value).ownBlock ∧ some k_ ≠ (.slice (some ad310) t301.length co22 : Value).ownBlock ∧ some k_ ≠ (v305 : Value).ownBlock ∧ some k_ ≠ (.slice Ao14 t291.length co14 : Value).ownBlock ∧ k_ ≠ gb289 ∧ k_ ≠ gb297)) (by (with_reducible repeat (first | apply Kd.V_alloc | apply Kd.V_drewN | apply Kd.V_drew)); exact Kd.V_mono HL310_0.out (fun _ hk => ⟨⟨hk.1.1, ⟨hk.2, ⟨hk.1.2.1, ⟨hk.1.2.2.2.1, ⟨hk.1.2.2.2.2.1, hk.1.2.2.2.2.2⟩⟩⟩⟩⟩, hk.1.2.2.1⟩)) hg hat); have n7_ := Aside0.mk (hb); have n8_ := Aside0.mk (ho); clear HO_9; clear HO_10; clear HO_11; clear HO_298000; clear BK289; clear BK297; clear HL310_0; clear HB; clear HO_12; have HO_9 := n0_; have HO_10 := n1_; have HO_11 := n2_; have HO_298000 := n3_; have BK289 := n4_; have BK297 := n5_; have HL310_0 := n6_; have HB := n7_; have HO313 := n8_; clear n0_ n1_ n2_ n3_ n4_ n5_ n6_ n7_ n8_; clear ho hb hg hat))
       go_roundg k1
       case measure => have := HK1.out; omega
       case rel => exact ⟨(y311), (wrap64 (x13_1 - 1)), (by first | rfl | (simp; done) | (simp [*]; done)), (by first | exact H' | (subst_vars; exact H')), ⟨by have := HK1.out; omega⟩, ⟨by (with_reducible repeat (first | apply Kd.R_alloc | apply Kd.R_drewN | apply Kd.R_drew)); exact HO_9.out⟩, ⟨by (with_reducible repeat (first | apply Kd.N_alloc | apply Kd.N_drewN | apply Kd.N_drew)); exact Kd.N_mono HO_10.out (fun _ hk => ⟨hk.1.1, ⟨hk.1.2.1, ⟨hk.2, ⟨hk.1.2.2.1, ⟨hk.1.2.2.2.1, hk.1.2.2.2.2⟩⟩⟩⟩⟩)⟩, ⟨by (with_reducible repeat (first | apply Kd.R_alloc | apply Kd.R_drewN | apply Kd.R_drew)); exact HO_11.out⟩, ⟨by (with_reducible repeat (first | apply Kd.N_alloc | apply Kd.N_drewN | apply Kd.N_drew)); exact HO313.out⟩, ⟨by (with_reducible repeat (first | apply Kd.R_alloc | apply Kd.R_drewN | apply Kd.R_drew)); exact HO_298000.out⟩, ⟨by (with_reducible repeat (first | refine blk_drewN ?_ _ | refine blk_drew ?_ | refine blk_alloc ?_ _)); exact BK289.out⟩, ⟨by (with_reducible repeat (first | refine blk_drewN ?_ _ | refine blk_drew ?_ | refine blk_alloc ?_ _)); exact BK297.out⟩, ⟨by repeat (first | (with_reducible first | exact HB.out | apply below_alloc | apply pw_below_drewN | apply below_drew1 | refine below_set ?_ GE289.out | refine below_set ?_ GE297.out) | exact HB.out)⟩⟩
      ·rw [if_neg c29] at H
       exact absurd H (by simp)
     ·rw [if_neg c28] at H
      exact absurd H (by simp)
    ·rw [if_neg c27] at H
     exact absurd H (by simp)
   ·rw [if_neg c26] at H
    have c26b0 : decide (0 ≤ x13_1) = false := decide_eq_false c26
    clear c26
    replace H := Option.bind_eq_some_iff.mp H
    obtain ⟨t314, A310, H⟩ := H
    replace H : ((thresherref20_Same.f k1 t314 t304).bind fun t317 => (if t317 = true then (thresherlaw20_AggOrder.j1 k1 t290 t298 t301 t304 ((t304.length : Int) != (t298.length : Int)) t291 t294 t295 t296) else (thresherlaw20_AggOrder.j1 k1 t290 t298 t301 t304 true t291 t294 t295 t296))) = some r := H
    have A31 := Aside0.mk A310
    clear A310
    replace H := Option.bind_eq_some_iff.mp H
    obtain ⟨t317, A320, H⟩ := H
    replace H : (if t317 = true then (thresherlaw20_AggOrder.j1 k1 t290 t298 t301 t304 ((t304.length : Int) != (t298.length : Int)) t291 t294 t295 t296) else (thresherlaw20_AggOrder.j1 k1 t290 t298 t301 t304 true t291 t294 t295 t296)) = some r := H
    have A32 := Aside0.mk A320
    clear A320
    have HC33 := Aside0.mk H
    clear H
    have hnb34 := NB297_289.out
    have hnc34 := NB289_297.out
    have hcz35_0 : wr.cell? ⟨gb297, 0, none⟩ = some (.slice Ao14 t291.length co14) := (blk_cell BK297.out 0).trans rfl
    have hcz35_1 : wr.cell? ⟨gb297, 1, none⟩ = some (.int .i64 t294) := (blk_cell BK297.out 1).trans rfl
    have hcz35_2 : wr.cell? ⟨gb297, 2, none⟩ = some (.int .i64 t295) := (blk_cell BK297.out 2).trans rfl
    have hcz35_3 : wr.cell? ⟨gb297, 3, none⟩ = some (.int .i64 t296) := (blk_cell BK297.out 3).trans rfl
    have hfz35_0 := blk_frozen BK297.out 0
    have hfz35_1 := blk_frozen BK297.out 1
    have hfz35_2 := blk_frozen BK297.out 2
    have hfz35_3 := blk_frozen BK297.out 3
    obtain ⟨Ao36, co36, eo36⟩ := Kd.N_slice HO_12.out
    subst eo36
    go_upto_region 12 with (first | ((with_reducible refine gate_callee (f := 11) rfl ?_); refine goesL_ (some 48) rfl rfl Try.func11 (by kernel_rfl) rfl #[.agg #[.slice Ao14 t291.length co14, .int .i64 t294, .int .i64 t295, .int .i64 t296], .slice Ao21 t298.length co21, .slice Ao36 x12_1.length co36] rfl (by (try simp only [List.map_toArray, List.map_cons, List.map_nil]); first | done | rfl | (simp only [List.length_drop, List.length_take]; rfl)) ?_; (with_reducible refine (agg_Rows.calls k1 _ _ t291 t294 t295 t296 _ _ t298 _ _ x12_1 t314 _ ?side1 ?side2 ?side3 ?side4 ?side5 ?side6 A31.out).mono ?_); (case side1 => repeat (first | exact (Kd.R_reads' HO_298000.out).2.2 | (with_reducible refine Kd.C_alloc ?_ _) | (with_reducible refine Kd.C_drewN ?_ _) | (with_reducible refine Kd.C_drew ?_))); (case side2 => exact (Kd.R_reads' HO_298000.out).2.1); (case side3 => repeat (first | exact (Kd.R_reads' HO_9.out).2.2 | (with_reducible refine Kd.C_alloc ?_ _) | (with_reducible refine Kd.C_drewN ?_ _) | (with_reducible refine Kd.C_drew ?_))); (case side4 => exact (Kd.R_reads' HO_9.out).2.1); (case side5 => repeat (first | exact (Kd.N_reads' HO_12.out).2.2 | (with_reducible refine Kd.C_alloc ?_ _) | (with_reducible refine Kd.C_drewN ?_ _) | (with_reducible refine Kd.C_drew ?_))); (case side6 => exact (Kd.N_reads' HO_12.out).2.1); rintro e w37 ⟨v315, rfl, ho0, hb⟩; refine ⟨_, rfl, ?_⟩; have n0_ := Aside0.mk (Kd.R_below (by (with_reducible repeat (first | apply Kd.R_alloc | apply Kd.R_drewN | apply Kd.R_drew)); exact HO_9.out) hb); have n1_ := Aside0.mk (Kd.N_elder' (by (with_reducible repeat (first | apply Kd.N_alloc | apply Kd.N_drewN | apply Kd.N_drew)); exact HO_10.out) (Kd.R_base ho0) hb); have n2_ := Aside0.mk (Kd.R_elder' (by (with_reducible repeat (first | apply Kd.R_alloc | apply Kd.R_drewN | apply Kd.R_drew)); exact HO_11.out) (Kd.R_base ho0) hb); have n3_ := Aside0.mk (Kd.N_elder' (by (with_reducible repeat (first | apply Kd.N_alloc | apply Kd.N_drewN | apply Kd.N_drew)); exact HO_12.out) (Kd.R_base ho0) hb); have n4_ := Aside0.mk (Kd.R_below (by (with_reducible repeat (first | apply Kd.R_alloc | apply Kd.R_drewN | apply Kd.R_drew)); exact HO_298000.out) hb); have n5_ := Aside0.mk (Kd.R_lower (Kd.R_new' ho0 (Kd.R_lt (by (with_reducible repeat (first | apply Kd.R_alloc | apply Kd.R_drewN | apply Kd.R_drew)); exact HO_11.out))) (below_size (by repeat (first | (with_reducible first | exact HB.out | apply below_alloc | apply pw_below_drewN | apply below_drew1 | refine below_set ?_ GE289.out | refine below_set ?_ GE297.out) | exact HB.out)))); have n6_ := Aside0.mk (blk_below (g := gb289) (o := .cells #[.int .u8 a0_0, .int .u8 a0_1, .int .u8 a0_2, .int .u8 a0_3, .int .u8 a0_4, .int .u8 a0_5, .int .u8 a0_6, .int .u8 a0_7, .int .u8 a0_8, .int .u8 a0_9, .int .u8 a0_10, .int .u8 a0_11] 24 (0, 0)) (by (with_reducible repeat (first | refine blk_drewN ?_ _ | refine blk_drew ?_ | refine blk_alloc ?_ _)); exact BK289.out) hb); have n7_ := Aside0.mk (blk_below (g := gb297) (o := .cells #[.slice Ao14 t291.length co14, .int .i64 t294, .int .i64 t295, .int .i64 t296] 29 (0, 0)) (by (with_reducible repeat (first | refine blk_drewN ?_ _ | refine blk_drew ?_ | refine blk_alloc ?_ _)); exact BK297.out) hb); have n8_ := Aside0.mk (below_step (by repeat (first | (with_reducible first | exact HB.out | apply below_alloc | apply pw_below_drewN | apply below_drew1 | refine below_set ?_ GE289.out | refine below_set ?_ GE297.out) | exact HB.out)) hb); clear HO_9; clear HO_10; clear HO_11; clear HO_12; clear HO_298000; clear BK289; clear BK297; clear HB; have HO_9 := n0_; have HO_10 := n1_; have HO_11 := n2_; have HO_12 := n3_; have HO_298000 := n4_; have HO316 := n5_; have BK289 := n6_; have BK297 := n7_; have HB := n8_; clear n0_ n1_ n2_ n3_ n4_ n5_ n6_ n7_ n8_; (try clear hb); (try clear hb2); (try clear hk); (try clear hi); (try clear ho0); obtain ⟨Ao38, co38, eo38⟩ := Kd.R_slice HO316.out; subst eo38; obtain ⟨Ao39, co39, eo39⟩ := Kd.R_slice HO_11.out; subst eo39) | ((with_reducible refine gate_callee (f := 13) rfl ?_); refine goesL_ (some 50) rfl rfl Try.func13 (by kernel_rfl) rfl #[.slice Ao38 t314.length co38, .slice Ao39 t304.length co39] rfl (by (try simp only [List.map_toArray, List.map_cons, List.map_nil]); first | done | rfl | (simp only [List.length_drop, List.length_take]; rfl)) ?_; (with_reducible refine (thresherref20_Same.calls k1 _ _ t314 _ _ t304 t317 _ ?side1 ?side2 ?side3 ?side4 A32.out).mono ?_); (case side1 => repeat (first | exact (Kd.R_reads' HO316.out).2.2 | (with_reducible refine Kd.C_alloc ?_ _) | (with_reducible refine Kd.C_drewN ?_ _) | (with_reducible refine Kd.C_drew ?_))); (case side2 => exact (Kd.R_reads' HO316.out).2.1); (case side3 => repeat (first | exact (Kd.R_reads' HO_11.out).2.2 | (with_reducible refine Kd.C_alloc ?_ _) | (with_reducible refine Kd.C_drewN ?_ _) | (with_reducible refine Kd.C_drew ?_))); (case side4 => exact (Kd.R_reads' HO_11.out).2.1); rintro e w' ⟨rfl, ⟨nd, rfl⟩⟩; refine ⟨_, rfl, ?_⟩))
    (try simp only [Act.put, List.setIfInBounds_toArray, List.set_cons_zero, List.set_cons_succ])
    go_cut [59] (fun v59 wc => ∃ (kq : Nat) (x59_32 : Bool), v59 = .bool x59_32 ∧ Aside0 (thresherlaw20_AggOrder.j1 kq t290 t298 t301 t304 x59_32 t291 t294 t295 t296 = some r) ∧ Aside0 (kq ≤ k1) ∧ Aside0 (Kd.R k33 33 wc w.heap.size (fun _ => True) (.slice Ao21 t298.length co21) t298) ∧ Aside0 (Kd.N (Kd.slice 40 k40) 44 wc w.heap.size (fun k_ => some k_ ≠ ((.slice Ao21 t298.length co21) : Value).ownBlock ∧ some k_ ≠ ((.slice Ao39 t304.length co39) : Value).ownBlock ∧ some k_ ≠ ((.slice Ao14 t291.length co14) : Value).ownBlock ∧ k_ ≠ gb289 ∧ k_ ≠ gb297) (.slice Ao22 t301.length co22) t301) ∧ Aside0 (Kd.R k42 42 wc w.heap.size (fun _ => True) (.slice Ao39 t304.length co39) t304) ∧ Aside0 (Kd.R (Kd.int .i64) 3 wc w.heap.size (fun _ => True) (.slice Ao14 t291.length co14) t291) ∧ Aside0 (wc.heap[gb289]? = some (.cells #[.int .u8 a0_0, .int .u8 a0_1, .int .u8 a0_2, .int .u8 a0_3, .int .u8 a0_4, .int .u8 a0_5, .int .u8 a0_6, .int .u8 a0_7, .int .u8 a0_8, .int .u8 a0_9, .int .u8 a0_10, .int .u8 a0_11] 24 (0, 0))) ∧ Aside0 (wc.heap[gb297]? = some (.cells #[(.slice Ao14 t291.length co14), .int .i64 t294, .int .i64 t295, .int .i64 t296] 29 (0, 0))) ∧ Aside0 (Below w.heap.size w wc))
    case first =>
     have H := HC33.out
     clear HC33
     by_cases c40 : t317 = true
     ·subst c40
      have H1 : (thresherlaw20_AggOrder.j1 k1 t290 t298 t301 t304 ((t304.length : Int) != (t298.length : Int)) t291 t294 t295 t296) = some r := by rw [if_pos rfl] at H; exact H
      clear H
      have H := H1
      clear H1
      have H' := Aside0.mk H
      clear H
      go_wp2
      go_meet
      case rel => exact ⟨_, (((t304.length : Int) != (t298.length : Int))), (by first | rfl | (simp; done) | (simp [*]; done)), (by first | exact H' | (subst_vars; exact H')), ⟨by have := HK1.out; first | omega | exact Nat.le_refl _⟩, ⟨by (with_reducible repeat (first | apply Kd.R_alloc | apply Kd.R_drewN | apply Kd.R_drew)); exact HO_9.out⟩, ⟨by (with_reducible repeat (first | apply Kd.N_alloc | apply Kd.N_drewN | apply Kd.N_drew)); exact Kd.N_mono HO_10.out (fun _ hk => ⟨hk.1.1, ⟨hk.1.2.1, ⟨hk.1.2.2.2.1, ⟨hk.1.2.2.2.2.1, hk.1.2.2.2.2.2⟩⟩⟩⟩)⟩, ⟨by (with_reducible repeat (first | apply Kd.R_alloc | apply Kd.R_drewN | apply Kd.R_drew)); exact Kd.R_mono HO_11.out (fun _ hk => trivial)⟩, ⟨by (with_reducible repeat (first | apply Kd.R_alloc | apply Kd.R_drewN | apply Kd.R_drew)); exact HO_298000.out⟩, ⟨by (with_reducible repeat (first | refine blk_drewN ?_ _ | refine blk_drew ?_ | refine blk_alloc ?_ _)); exact BK289.out⟩, ⟨by (with_reducible repeat (first | refine blk_drewN ?_ _ | refine blk_drew ?_ | refine blk_alloc ?_ _)); exact BK297.out⟩, ⟨by repeat (first | (with_reducible first | exact HB.out | apply below_alloc | apply pw_below_drewN | apply below_drew1 | refine below_set ?_ GE289.out | refine below_set ?_ GE297.out) | exact HB.out)⟩⟩
     ·replace c40 := Bool.eq_false_iff.mpr c40
      subst c40
      have H1 : (thresherlaw20_AggOrder.j1 k1 t290 t298 t301 t304 true t291 t294 t295 t296) = some r := by rw [if_neg (show ¬ (false = true) by decide)] at H; exact H
      clear H
      have H := H1
      clear H1
      have H' := Aside0.mk H
      clear H
      go_wp2
      go_meet
      case rel => exact ⟨_, (true), (by first | rfl | (simp; done) | (simp [*]; done)), (by first | exact H' | (subst_vars; exact H')), ⟨by have := HK1.out; first | omega | exact Nat.le_refl _⟩, ⟨by (with_reducible repeat (first | apply Kd.R_alloc | apply Kd.R_drewN | apply Kd.R_drew)); exact HO_9.out⟩, ⟨by (with_reducible repeat (first | apply Kd.N_alloc | apply Kd.N_drewN | apply Kd.N_drew)); exact Kd.N_mono HO_10.out (fun _ hk => ⟨hk.1.1, ⟨hk.1.2.1, ⟨hk.1.2.2.2.1, ⟨hk.1.2.2.2.2.1, hk.1.2.2.2.2.2⟩⟩⟩⟩)⟩, ⟨by (with_reducible repeat (first | apply Kd.R_alloc | apply Kd.R_drewN | apply Kd.R_drew)); exact Kd.R_mono HO_11.out (fun _ hk => trivial)⟩, ⟨by (with_reducible repeat (first | apply Kd.R_alloc | apply Kd.R_drewN | apply Kd.R_drew)); exact HO_298000.out⟩, ⟨by (with_reducible repeat (first | refine blk_drewN ?_ _ | refine blk_drew ?_ | refine blk_alloc ?_ _)); exact BK289.out⟩, ⟨by (with_reducible repeat (first | refine blk_drewN ?_ _ | refine blk_drew ?_ | refine blk_alloc ?_ _)); exact BK297.out⟩, ⟨by repeat (first | (with_reducible first | exact HB.out | apply below_alloc | apply pw_below_drewN | apply below_drew1 | refine below_set ?_ GE289.out | refine below_set ?_ GE297.out) | exact HB.out)⟩⟩
    case rest =>
     clear HC33
     try clear c1
     try clear c2
     try clear p2
     try clear c3
     try clear p3
     try clear q3
     try clear hx3
     try clear c4
     try clear p6
     try clear c8
     try clear c9
     try clear c10
     try clear c11
     try clear c13
     try clear c14
     try clear c15
     try clear c26
     try clear c26b0
     try clear c27
     try clear c27b0
     try clear c28
     try clear c28b0
     try clear c29
     try clear c31
     try clear p31
     try clear q31
     try clear hx31
     try clear c34
     try clear c40
     try clear hcz11_0
     try clear hcz11_1
     try clear hcz11_10
     try clear hcz11_11
     try clear hcz11_2
     try clear hcz11_3
     try clear hcz11_4
     try clear hcz11_5
     try clear hcz11_6
     try clear hcz11_7
     try clear hcz11_8
     try clear hcz11_9
     try clear hcz16_0
     try clear hcz16_1
     try clear hcz16_2
     try clear hcz16_3
     try clear hcz18_0
     try clear hcz18_1
     try clear hcz18_2
     try clear hcz18_3
     try clear hcz20_0
     try clear hcz20_1
     try clear hcz20_2
     try clear hcz20_3
     try clear hcz35_0
     try clear hcz35_1
     try clear hcz35_2
     try clear hcz35_3
     try clear hfz11_0
     try clear hfz11_1
     try clear hfz11_10
     try clear hfz11_11
     try clear hfz11_2
     try clear hfz11_3
     try clear hfz11_4
     try clear hfz11_5
     try clear hfz11_6
     try clear hfz11_7
     try clear hfz11_8
     try clear hfz11_9
     try clear hfz16_0
     try clear hfz16_1
     try clear hfz16_2
     try clear hfz16_3
     try clear hfz18_0
     try clear hfz18_1
     try clear hfz18_2
     try clear hfz18_3
     try clear hfz20_0
     try clear hfz20_1
     try clear hfz20_2
     try clear hfz20_3
     try clear hfz35_0
     try clear hfz35_1
     try clear hfz35_2
     try clear hfz35_3
     try clear hx310_0
     try clear p2
     try clear p310
     try clear p6
     try clear q310
     obtain ⟨kq, x59_32, rfl, HA, HJ32, HO_9, HO_10, HO_11, HO_298000, BK289, BK297, HB⟩ := hcut
     cases kq with
     | zero => exact absurd HA.out (by simp [thresherlaw20_AggOrder.j1])
     | succ kj32 =>
      have H := HA.out
      clear HA
      simp only [thresherlaw20_AggOrder.j1] at H
      by_cases c41 : x59_32 = true
      ·subst c41
       have H1 : (some false) = some r := by rw [if_pos rfl] at H; exact H
       clear H
       have H := H1
       clear H1
       obtain rfl := Option.some.inj H
       go_wp2
       go_ret
       exact ⟨by first | rfl | (simp [errW_none, errW_some] <;> rfl) | (simp [*, errW_none, errW_some] <;> rfl), by repeat (first | (with_reducible first | exact HB.out | apply below_alloc | apply pw_below_drewN | apply below_drew1 | refine below_set ?_ GE289.out | refine below_set ?_ GE297.out) | exact HB.out)⟩
      ·replace c41 := Bool.eq_false_iff.mpr c41
       subst c41
       have H1 : (thresherlaw20_AggOrder.l1 kj32 t290 t298 t301 t304 0 t291 t294 t295 t296) = some r := by rw [if_neg (show ¬ (false = true) by decide)] at H; exact H
       clear H
       have H := H1
       clear H1
       have H' := Aside0.mk H
       clear H
       go_wp2
       go_loopg [15] kj32 (fun kq v15 w' => ∃ (x15_3 : Int), v15 = .int .i64 x15_3 ∧ Aside0 (thresherlaw20_AggOrder.l1 kq t290 t298 t301 t304 x15_3 t291 t294 t295 t296 = some r) ∧ Aside0 (kq ≤ kj32) ∧ Aside0 (Kd.R k33 33 w' w.heap.size (fun _ => True) (.slice Ao21 t298.length co21) t298) ∧ Aside0 (Kd.N (Kd.slice 40 k40) 44 w' w.heap.size (fun k_ => some k_ ≠ ((.slice Ao21 t298.length co21) : Value).ownBlock ∧ some k_ ≠ ((.slice Ao39 t304.length co39) : Value).ownBlock ∧ some k_ ≠ ((.slice Ao14 t291.length co14) : Value).ownBlock ∧ k_ ≠ gb289 ∧ k_ ≠ gb297) (.slice Ao22 t301.length co22) t301) ∧ Aside0 (Kd.R k42 42 w' w.heap.size (fun _ => True) (.slice Ao39 t304.length co39) t304) ∧ Aside0 (Kd.R (Kd.int .i64) 3 w' w.heap.size (fun _ => True) (.slice Ao14 t291.length co14) t291) ∧ Aside0 (w'.heap[gb289]? = some (.cells #[.int .u8 a0_0, .int .u8 a0_1, .int .u8 a0_2, .int .u8 a0_3, .int .u8 a0_4, .int .u8 a0_5, .int .u8 a0_6, .int .u8 a0_7, .int .u8 a0_8, .int .u8 a0_9, .int .u8 a0_10, .int .u8 a0_11] 24 (0, 0))) ∧ Aside0 (w'.heap[gb297]? = some (.cells #[(.slice Ao14 t291.length co14), .int .i64 t294, .int .i64 t295, .int .i64 t296] 29 (0, 0))) ∧ Aside0 (Below w.heap.size w w'))
       case atStart => exact ⟨(0), (by first | rfl | (simp; done) | (simp [*]; done)), H', ⟨Nat.le_refl _⟩, ⟨by (with_reducible repeat (first | apply Kd.R_alloc | apply Kd.R_drewN | apply Kd.R_drew)); exact HO_9.out⟩, ⟨by (with_reducible repeat (first | apply Kd.N_alloc | apply Kd.N_drewN | apply Kd.N_drew)); exact HO_10.out⟩, ⟨by (with_reducible repeat (first | apply Kd.R_alloc | apply Kd.R_drewN | apply Kd.R_drew)); exact HO_11.out⟩, ⟨by (with_reducible repeat (first | apply Kd.R_alloc | apply Kd.R_drewN | apply Kd.R_drew)); exact HO_298000.out⟩, ⟨by (with_reducible repeat (first | refine blk_drewN ?_ _ | refine blk_drew ?_ | refine blk_alloc ?_ _)); exact BK289.out⟩, ⟨by (with_reducible repeat (first | refine blk_drewN ?_ _ | refine blk_drew ?_ | refine blk_alloc ?_ _)); exact BK297.out⟩, ⟨by repeat (first | (with_reducible first | exact HB.out | apply below_alloc | apply pw_below_drewN | apply below_drew1 | refine below_set ?_ GE289.out | refine below_set ?_ GE297.out) | exact HB.out)⟩⟩
       case round =>
        clear H'
        try clear c1
        try clear c2
        try clear p2
        try clear c3
        try clear p3
        try clear q3
        try clear hx3
        try clear c4
        try clear p6
        try clear c8
        try clear c9
        try clear c10
        try clear c11
        try clear c13
        try clear c14
        try clear c15
        try clear c26
        try clear c26b0
        try clear c27
        try clear c27b0
        try clear c28
        try clear c28b0
        try clear c29
        try clear c31
        try clear p31
        try clear q31
        try clear hx31
        try clear c34
        try clear c40
        try clear c41
        try clear hcz11_0
        try clear hcz11_1
        try clear hcz11_10
        try clear hcz11_11
        try clear hcz11_2
        try clear hcz11_3
        try clear hcz11_4
        try clear hcz11_5
        try clear hcz11_6
        try clear hcz11_7
        try clear hcz11_8
        try clear hcz11_9
        try clear hcz16_0
        try clear hcz16_1
        try clear hcz16_2
        try clear hcz16_3
        try clear hcz18_0
        try clear hcz18_1
        try clear hcz18_2
        try clear hcz18_3
        try clear hcz20_0
        try clear hcz20_1
        try clear hcz20_2
        try clear hcz20_3
        try clear hcz35_0
        try clear hcz35_1
        try clear hcz35_2
        try clear hcz35_3
        try clear hfz11_0
        try clear hfz11_1
        try clear hfz11_10
        try clear hfz11_11
        try clear hfz11_2
        try clear hfz11_3
        try clear hfz11_4
        try clear hfz11_5
        try clear hfz11_6
        try clear hfz11_7
        try clear hfz11_8
        try clear hfz11_9
        try clear hfz16_0
        try clear hfz16_1
        try clear hfz16_2
        try clear hfz16_3
        try clear hfz18_0
        try clear hfz18_1
        try clear hfz18_2
        try clear hfz18_3
        try clear hfz20_0
        try clear hfz20_1
        try clear hfz20_2
        try clear hfz20_3
        try clear hfz35_0
        try clear hfz35_1
        try clear hfz35_2
        try clear hfz35_3
        try clear hx310_0
        try clear p2
        try clear p3
        try clear p31
        try clear p310
        try clear p6
        try clear q3
        try clear q31
        try clear q310
        obtain ⟨x15_3, rfl, HA, HK3, HO_9, HO_10, HO_11, HO_298000, BK289, BK297, HB⟩ := hrel
        cases gk with
        | zero => exact absurd HA.out (by simp [thresherlaw20_AggOrder.l1])
        | succ k3 =>
         have H := HA.out
         clear HA
         simp only [thresherlaw20_AggOrder.l1] at H
         by_cases c42 : x15_3 < (t298.length : Int)
         ·rw [if_pos c42] at H
          have c42b0 : decide (x15_3 < (t298.length : Int)) = true := decide_eq_true c42
          clear c42
          by_cases c43 : 0 ≤ x15_3
          ·rw [if_pos c43] at H
           have c43b0 := eq_true c43
           have c43b1 : decide (0 ≤ x15_3) = true := decide_eq_true c43
           clear c43
           by_cases c44 : x15_3 ≤ (wrap64 (x15_3 + 1))
           ·rw [if_pos c44] at H
            have c44b0 := eq_true c44
            have c44b1 : decide (x15_3 ≤ (wrap64 (x15_3 + 1))) = true := decide_eq_true c44
            by_cases c45 : (wrap64 (x15_3 + 1)) ≤ (t298.length : Int)
            ·rw [if_pos c45] at H
             have c45b0 := eq_true c45
             have c45b1 : decide ((wrap64 (x15_3 + 1)) ≤ (t298.length : Int)) = true := decide_eq_true c45
             obtain ⟨y318, hy318⟩ : ∃ y_ : List (S33), y_ = ((t298.take ((wrap64 (x15_3 + 1)) : Int).toNat).drop (x15_3 : Int).toNat) := ⟨_, rfl⟩
             replace H : ((agg_Rows.f k3 t291 t294 t295 t296 y318 t301).bind fun t323 => (if (t323.length : Int) = 1 then (if 0 < (t323.length : Int) then (if x15_3 < (t304.length : Int) then (if (!(((rd_T42 t323 0).f0) == ((rd_T42 t304 x15_3).f0)) || ((!(((rd_T42 t323 0).f1.f0) == ((rd_T42 t304 x15_3).f1.f0)) || (!((((rd_T42 t323 0).f1.f1).toList) == (((rd_T42 t304 x15_3).f1.f1).toList)))))) = true then (some false) else (thresherlaw20_AggOrder.l1 k3 t290 t298 t301 t304 (wrap64 (x15_3 + 1)) t291 t294 t295 t296)) else (none)) else (none)) else (some false))) = some r := by first | (rw [hy318]; with_reducible exact H) | (have H2_ := (Option.bind_some _ _).symm.trans H; rw [hy318]; with_reducible exact H2_) | (have H2_ := (Option.bind_some _ _).symm.trans H; with_reducible exact H2_) | with_reducible exact H | (rw [hy318]; exact H) | exact H
             have Ny318 := Aside0.mk hy318
             clear hy318
             replace H := Option.bind_eq_some_iff.mp H
             obtain ⟨t323, A460, H⟩ := H
             replace H : (if (t323.length : Int) = 1 then (if 0 < (t323.length : Int) then (if x15_3 < (t304.length : Int) then (if (!(((rd_T42 t323 0).f0) == ((rd_T42 t304 x15_3).f0)) || ((!(((rd_T42 t323 0).f1.f0) == ((rd_T42 t304 x15_3).f1.f0)) || (!((((rd_T42 t323 0).f1.f1).toList) == (((rd_T42 t304 x15_3).f1.f1).toList)))))) = true then (some false) else (thresherlaw20_AggOrder.l1 k3 t290 t298 t301 t304 (wrap64 (x15_3 + 1)) t291 t294 t295 t296)) else (none)) else (none)) else (some false)) = some r := H
             have A46 := Aside0.mk A460
             clear A460
             by_cases c47 : (t323.length : Int) = 1
             ·rw [if_pos c47] at H
              have c47b0 : ((t323.length : Int) == 1) = true := beq_iff_eq.mpr c47
              have c47b1 : ((t323.length : Int) != 1) = false := bne_eq_false_iff_eq.mpr c47
              clear c47
              by_cases c48 : 0 < (t323.length : Int)
              ·rw [if_pos c48] at H
               have c48b0 : decide (0 < (t323.length : Int)) = true := decide_eq_true c48
               have c48b1 : decide (0 < t323.length) = true := decide_eq_true (by omega)
               clear c48
               by_cases c49 : x15_3 < (t304.length : Int)
               ·rw [if_pos c49] at H
                have c49b0 : decide (x15_3 < (t304.length : Int)) = true := decide_eq_true c49
                clear c49
                by_cases c50 : (!(((rd_T42 t323 0).f0) == ((rd_T42 t304 x15_3).f0)) || ((!(((rd_T42 t323 0).f1.f0) == ((rd_T42 t304 x15_3).f1.f0)) || (!((((rd_T42 t323 0).f1.f1).toList) == (((rd_T42 t304 x15_3).f1.f1).toList)))))) = true
                ·rw [if_pos c50] at H
                 have c50b0 : (!(((rd_T42 t323 0).f0) == ((rd_T42 t304 x15_3).f0)) || ((!(((rd_T42 t323 0).f1.f0) == ((rd_T42 t304 x15_3).f1.f0)) || (!((((rd_T42 t323 0).f1.f1).toList) == (((rd_T42 t304 x15_3).f1.f1).toList)))))) = true := c50
                 clear c50
                 obtain rfl := Option.some.inj H
                 try go_wp2
                 have n0_ := Aside0.mk (Kd.R_drew HO_9.out)
                 have n1_ := Aside0.mk (Kd.N_drew HO_10.out)
                 have n2_ := Aside0.mk (Kd.R_drew HO_11.out)
                 have n3_ := Aside0.mk (Kd.R_drew HO_298000.out)
                 have n4_ := Aside0.mk (blk_drew BK289.out)
                 have n5_ := Aside0.mk (blk_drew BK297.out)
                 have n6_ := Aside0.mk (below_drew1 HB.out)
                 clear HO_9
                 clear HO_10
                 clear HO_11
                 clear HO_298000
                 clear BK289
                 clear BK297
                 clear HB
                 have HO_9 := n0_
                 have HO_10 := n1_
                 have HO_11 := n2_
                 have HO_298000 := n3_
                 have BK289 := n4_
                 have BK297 := n5_
                 have HB := n6_
                 clear n0_ n1_ n2_ n3_ n4_ n5_ n6_
                 have q52 : ((wrap64 (x15_3 + 1)) : Int) ≤ ((t298.length : Int) : Int) := of_decide_eq_true (by first | (with_reducible assumption) | assumption)
                 obtain ⟨i052, hi052, _, hsz52, _⟩ := info_parts info33
                 have hroom52 : t298.length ≤ co21 := (Kd.R_reads' HO_9.out).2.1
                 have hC52 : Kd.F k33 _ _ Ao21 t298.length t298 := (Kd.V_at (base := w.heap.size) (Kd.R_V (Kd.R_types (Kd.R_types (Kd.R_apart' (Kd.R_apart' (Kd.R_apart' (HO_9.out) (Kd.N_typed HO_10.out) (by decide)) (Kd.R_typed HO_11.out) (by decide)) (Kd.R_typed HO_298000.out) (by decide)) BK289.out (by decide)) BK297.out (by decide)))).2.2
                 have ql52 : (x15_3 : Int) ≤ ((wrap64 (x15_3 + 1)) : Int) := of_decide_eq_true (by first | (with_reducible assumption) | assumption)
                 have q052 : (0 : Int) ≤ (x15_3 : Int) := of_decide_eq_true (by first | (with_reducible assumption) | assumption)
                 have hcut52 := cut_mid (P := Try.prog) 34 33 .i64 .i64 Try.underlying34 hi052 2 hsz52 Ao21 t298.length co21 x15_3 (wrap64 (x15_3 + 1)) q052 ql52 q52 hroom52
                 have hr52 := Kd.F_mid (lo := (x15_3 : Int).toNat) (hi := ((wrap64 (x15_3 + 1)) : Int).toNat) (c := co21) hC52 (by omega) (by omega) hroom52
                 obtain ⟨A52, hA52⟩ : ∃ Z_, Z_ = (if co21 = (x15_3 : Int).toNat then Ao21 else (Ao21 : Option Addr).map (·.add ((x15_3 : Int).toNat * 2))) := ⟨_, rfl⟩
                 obtain ⟨c52, hc52⟩ : ∃ z_, z_ = co21 - (x15_3 : Int).toNat := ⟨_, rfl⟩
                 have hy52 : y318.length = ((wrap64 (x15_3 + 1)) : Int).toNat - (x15_3 : Int).toNat := (by rw [Ny318.out, List.length_drop, List.length_take] <;> omega)
                 rw [show ((t298).take ((wrap64 (x15_3 + 1)) : Int).toNat).drop (x15_3 : Int).toNat = y318 from Ny318.out.symm] at hr52
                 replace hr52 : Kd.F k33 _ _ A52 y318.length y318 := (by rw [hA52]; exact hr52)
                 rw [← hy52, ← hA52, ← hc52] at hcut52
                 have HO322 := Aside0.mk (show Kd.V k33 33 _ w.heap.size _ (.slice A52 y318.length c52) y318 from Kd.V_mk (by rw [hy52, hc52]; exact Nat.sub_le_sub_right (Nat.le_trans (by omega) hroom52) _) hr52)
                 have HC322 := Aside0.mk (show y318.length ≤ c52 from by rw [hy52, hc52]; exact Nat.sub_le_sub_right (Nat.le_trans (by omega) hroom52) _)
                 clear hr52 hC52 hroom52 hi052 hsz52 hc52
                 have KY52 := Aside0.mk hy52
                 have KA52 := Aside0.mk hA52
                 clear hy52 hA52
                 replace q52 := eq_true q52
                 refine start_ (n := 9) (S := fun w' => w'.cell? ⟨gb297, 0, none⟩ = some (.slice Ao14 t291.length co14) ∧ w'.cell? ⟨gb297, 1, none⟩ = some (.int .i64 t294) ∧ w'.cell? ⟨gb297, 2, none⟩ = some (.int .i64 t295) ∧ w'.cell? ⟨gb297, 3, none⟩ = some (.int .i64 t296)) (ds := []) #[false, false, false, false, false, false, false, false, false] (by kernel_rfl) rfl rfl ⟨(blk_cell BK297.out 0).trans rfl, (blk_cell BK297.out 1).trans rfl, (blk_cell BK297.out 2).trans rfl, (blk_cell BK297.out 3).trans rfl⟩ (fun hHeld => ?_); refine with_tabW thresherlaw20_AggOrder.tab17 thresherlaw20_AggOrder.bits17 (fun HT_ HW_ => ?_)
                 generalize wr.drew = w51 at HO_9 HO_10 HO_11 HO_298000 BK289 BK297 HB HO322 hHeld ⊢
                 refine pure_ (i := 1) (N := some 67) (v := ?_) (a' := ?_) #[false, true, false, false, false, false, false, false, false] rfl rfl (any_of HT_.out (by kernel_rfl)) (fun _ _ _ h => h) (Or.inl ⟨by rfl, ?_⟩) ?_ ?_
                 rotate_left; (intro w'; go_simp; with_reducible rfl); rotate_left; (simp only [Act.put, List.setIfInBounds_toArray, List.set_cons_zero, List.set_cons_succ, i64_w, i32_w]; rfl)
                 refine pure_ (i := 2) (N := some 68) (v := ?_) (a' := ?_) #[false, true, true, false, false, false, false, false, false] rfl rfl (any_of HT_.out (by kernel_rfl)) (fun _ _ _ h => h) (Or.inl ⟨by rfl, ?_⟩) ?_ ?_
                 rotate_left; (intro w'; go_simp; with_reducible rfl); rotate_left; (simp only [Act.put, List.setIfInBounds_toArray, List.set_cons_zero, List.set_cons_succ, i64_w, i32_w]; rfl)
                 refine pure_ (i := 3) (N := some 69) (v := ?_) (a' := ?_) #[false, true, true, true, false, false, false, false, false] rfl rfl (any_of HT_.out (by kernel_rfl)) (fun _ _ _ h => h) (Or.inl ⟨by rfl, ?_⟩) ?_ ?_
                 rotate_left; (intro w'; go_simp; with_reducible rfl); rotate_left; (simp only [Act.put, List.setIfInBounds_toArray, List.set_cons_zero, List.set_cons_succ, i64_w, i32_w]; rfl)
                 refine pure_ (i := 4) (N := some 70) (v := ?_) (a' := ?_) #[false, true, true, true, true, false, false, false, false] rfl rfl (any_of HT_.out (by kernel_rfl)) (fun _ _ _ h => h) (Or.inl ⟨by rfl, ?_⟩) ?_ ?_
                 rotate_left; (intro w'; go_simp; with_reducible rfl); rotate_left; (simp only [Act.put, List.setIfInBounds_toArray, List.set_cons_zero, List.set_cons_succ, i64_w, i32_w]; rfl)
                 refine pure_ (i := 5) (N := some 71) (v := ?_) (a' := ?_) #[false, true, true, true, true, true, false, false, false] rfl rfl (any_of HT_.out (by kernel_rfl)) (fun _ _ _ h => h) (Or.inl ⟨by rfl, ?_⟩) ?_ ?_
                 rotate_left; (intro w'; go_simp; with_reducible rfl); rotate_left; (simp only [Act.put, List.setIfInBounds_toArray, List.set_cons_zero, List.set_cons_succ, i64_w, i32_w]; rfl)
                 refine pure_ (i := 6) (N := some 72) (v := ?_) (a' := ?_) #[false, true, true, true, true, true, true, false, false] rfl rfl (any_of HT_.out (by kernel_rfl)) (fun _ _ _ h => h) (Or.inl ⟨by rfl, ?_⟩) ?_ ?_
                 rotate_left; (intro w'; go_simp; with_reducible rfl); rotate_left; (simp only [Act.put, List.setIfInBounds_toArray, List.set_cons_zero, List.set_cons_succ, i64_w, i32_w]; rfl)
                 refine take_ (i := 0) (N := some 66) (v := ?_) (a' := ?_) #[true, true, true, true, true, true, true, false, false] rfl rfl (take_ofW HT_.out HW_.out (by kernel_rfl)) (fun _ _ _ h => h) (Or.inl ⟨by rfl, ?_⟩) hHeld ?_ ?_
                 rotate_left; (rintro w' ⟨s0, s1, s2, s3⟩; go_simp; with_reducible rfl); rotate_left; (simp only [Act.put, List.setIfInBounds_toArray, List.set_cons_zero, List.set_cons_succ, i64_w, i32_w]; rfl)
                 refine one_ (i := 7) (N := some 73) #[true, true, true, true, true, true, true, true, false] rfl rfl (one_of HT_.out (by kernel_rfl)) (by decide) (fun K hK => ?_)
                 refine goes_ Try.func11 (by kernel_rfl) rfl #[.agg #[.slice Ao14 t291.length co14, .int .i64 t294, .int .i64 t295, .int .i64 t296], .slice A52 y318.length c52, .slice Ao22 t301.length co22] (by rfl) rfl rfl (by (try simp only [List.map_toArray, List.map_cons, List.map_nil]); first | done | rfl | (simp only [List.length_drop, List.length_take]; rfl)) ?_
                 with_reducible refine (agg_Rows.calls k3 _ _ t291 t294 t295 t296 _ _ y318 _ _ t301 t323 _ ?side1 ?side2 ?side3 ?side4 ?side5 ?side6 A46.out).mono ?_
                 (case side1 => repeat (first | exact (Kd.R_reads' HO_298000.out).2.2 | (with_reducible refine Kd.C_alloc ?_ _) | (with_reducible refine Kd.C_drewN ?_ _) | (with_reducible refine Kd.C_drew ?_)))
                 (case side2 => exact (Kd.R_reads' HO_298000.out).2.1)
                 (case side3 => repeat (first | exact (Kd.V_reads' HO322.out).2.2 | (with_reducible refine Kd.C_alloc ?_ _) | (with_reducible refine Kd.C_drewN ?_ _) | (with_reducible refine Kd.C_drew ?_)))
                 (case side4 => exact (Kd.V_reads' HO322.out).2.1)
                 (case side5 => repeat (first | exact (Kd.N_reads' HO_10.out).2.2 | (with_reducible refine Kd.C_alloc ?_ _) | (with_reducible refine Kd.C_drewN ?_ _) | (with_reducible refine Kd.C_drew ?_)))
                 (case side6 => exact (Kd.N_reads' HO_10.out).2.1)
                 rintro e w53 ⟨v324, rfl, ho0, hb⟩
                 refine ⟨_, rfl, ?_⟩
                 have n0_ := Aside0.mk (Kd.R_below (by (with_reducible repeat (first | apply Kd.R_alloc | apply Kd.R_drewN | apply Kd.R_drew)); exact HO_9.out) hb)
                 have n1_ := Aside0.mk (Kd.N_elder' (by (with_reducible repeat (first | apply Kd.N_alloc | apply Kd.N_drewN | apply Kd.N_drew)); exact HO_10.out) (Kd.R_base ho0) hb)
                 have n2_ := Aside0.mk (Kd.R_elder' (by (with_reducible repeat (first | apply Kd.R_alloc | apply Kd.R_drewN | apply Kd.R_drew)); exact HO_11.out) (Kd.R_base ho0) hb)
                 have n3_ := Aside0.mk (Kd.R_below (by (with_reducible repeat (first | apply Kd.R_alloc | apply Kd.R_drewN | apply Kd.R_drew)); exact HO_298000.out) hb)
                 have n4_ := Aside0.mk (Kd.V_elder' (by (with_reducible repeat (first | apply Kd.V_alloc | apply Kd.V_drewN | apply Kd.V_drew)); exact HO322.out) (Kd.R_base ho0) hb)
                 have n5_ := Aside0.mk (Kd.R_lower (Kd.R_new' ho0 (Kd.R_lt (by (with_reducible repeat (first | apply Kd.R_alloc | apply Kd.R_drewN | apply Kd.R_drew)); exact HO_11.out))) (below_size (by repeat (first | (with_reducible first | exact HB.out | apply below_alloc | apply pw_below_drewN | apply below_drew1 | refine below_set ?_ GE289.out | refine below_set ?_ GE297.out) | exact HB.out))))
                 have n6_ := Aside0.mk (blk_below (g := gb289) (o := .cells #[.int .u8 a0_0, .int .u8 a0_1, .int .u8 a0_2, .int .u8 a0_3, .int .u8 a0_4, .int .u8 a0_5, .int .u8 a0_6, .int .u8 a0_7, .int .u8 a0_8, .int .u8 a0_9, .int .u8 a0_10, .int .u8 a0_11] 24 (0, 0)) (by (with_reducible repeat (first | refine blk_drewN ?_ _ | refine blk_drew ?_ | refine blk_alloc ?_ _)); exact BK289.out) hb)
                 have n7_ := Aside0.mk (blk_below (g := gb297) (o := .cells #[.slice Ao14 t291.length co14, .int .i64 t294, .int .i64 t295, .int .i64 t296] 29 (0, 0)) (by (with_reducible repeat (first | refine blk_drewN ?_ _ | refine blk_drew ?_ | refine blk_alloc ?_ _)); exact BK297.out) hb)
                 have n8_ := Aside0.mk (below_step (by repeat (first | (with_reducible first | exact HB.out | apply below_alloc | apply pw_below_drewN | apply below_drew1 | refine below_set ?_ GE289.out | refine below_set ?_ GE297.out) | exact HB.out)) hb)
                 clear HO_9
                 clear HO_10
                 clear HO_11
                 clear HO_298000
                 clear HO322
                 clear BK289
                 clear BK297
                 clear HB
                 have HO_9 := n0_
                 have HO_10 := n1_
                 have HO_11 := n2_
                 have HO_298000 := n3_
                 have HO322 := n4_
                 have HO325 := n5_
                 have BK289 := n6_
                 have BK297 := n7_
                 have HB := n8_
                 clear n0_ n1_ n2_ n3_ n4_ n5_ n6_ n7_ n8_
                 (try clear hb)
                 (try clear hb2)
                 (try clear hk)
                 (try clear hi)
                 (try clear ho0)
                 refine hK.out _ _ ⟨(blk_cell BK297.out 0).trans rfl, (blk_cell BK297.out 1).trans rfl, (blk_cell BK297.out 2).trans rfl, (blk_cell BK297.out 3).trans rfl⟩ (fun hHeld => ?_)
                 clear hK K
                 refine norm_ (a' := ?_) ?_ ?_
                 rotate_left
                 ·show Act.put _ (some 73) _ = _
                  simp only [Act.put, List.setIfInBounds_toArray, List.set_cons_zero, List.set_cons_succ, i64_w, i32_w]
                  rfl
                 refine pure_ (i := 8) (N := some 16) (v := ?_) (a' := ?_) #[true, true, true, true, true, true, true, true, true] rfl rfl (any_of HT_.out (by kernel_rfl)) (fun _ _ _ h => h) (Or.inl ⟨by rfl, ?_⟩) ?_ ?_
                 rotate_left; (intro w'; go_simp; with_reducible rfl); rotate_left; (simp only [Act.put, List.setIfInBounds_toArray, List.set_cons_zero, List.set_cons_succ, i64_w, i32_w]; rfl)
                 refine done_ (done_of HT_.out (by kernel_rfl)) ?_
                 (try clear hHeld)
                 try go_wp2
                 have n0_ := Aside0.mk (Kd.R_drew HO_9.out)
                 have n1_ := Aside0.mk (Kd.N_drew HO_10.out)
                 have n2_ := Aside0.mk (Kd.R_drew HO_11.out)
                 have n3_ := Aside0.mk (Kd.R_drew HO_298000.out)
                 have n4_ := Aside0.mk (Kd.V_drew HO322.out)
                 have n5_ := Aside0.mk (Kd.R_drew HO325.out)
                 have n6_ := Aside0.mk (blk_drew BK289.out)
                 have n7_ := Aside0.mk (blk_drew BK297.out)
                 have n8_ := Aside0.mk (below_drew1 HB.out)
                 clear HO_9
                 clear HO_10
                 clear HO_11
                 clear HO_298000
                 clear HO322
                 clear HO325
                 clear BK289
                 clear BK297
                 clear HB
                 have HO_9 := n0_
                 have HO_10 := n1_
                 have HO_11 := n2_
                 have HO_298000 := n3_
                 have HO322 := n4_
                 have HO325 := n5_
                 have BK289 := n6_
                 have BK297 := n7_
                 have HB := n8_
                 clear n0_ n1_ n2_ n3_ n4_ n5_ n6_ n7_ n8_
                 obtain ⟨Ao55, co55, eo55⟩ := Kd.R_slice HO325.out
                 (first | subst eo55 | (injection eo55 with f1_ f2_ f3_; have f4_ := f1_.symm; have f5_ := f3_.symm; clear f1_ f2_ f3_; subst f4_; subst f5_))
                 have p326 : 0 ≤ (0 : Int) := (by omega)
                 have q326 : 0 < (t323.length : Int) := of_decide_eq_true (by first | (with_reducible assumption) | assumption)
                 obtain ⟨ad326, e326, hx326_0, hx326_1, hx326_2⟩ := at_T42 (Kd.R_reads' HO325.out).2.2 0 p326 q326
                 cases e326
                 have qi326 : (0 < t323.length) = True := eq_true (by omega)
                 (try rw [show ((0 : Int)).toNat = 0 from rfl] at hx326_0)
                 (try rw [show 0 * 3 = 0 from rfl] at hx326_0)
                 (try rw [Addr.add_zero'] at hx326_0)
                 (try rw [show ((0 : Int)).toNat = 0 from rfl] at hx326_1)
                 (try rw [show 0 * 3 = 0 from rfl] at hx326_1)
                 (try rw [Addr.add_zero'] at hx326_1)
                 (try rw [show ((0 : Int)).toNat = 0 from rfl] at hx326_2)
                 (try rw [show 0 * 3 = 0 from rfl] at hx326_2)
                 (try rw [Addr.add_zero'] at hx326_2)
                 replace p326 := eq_true p326
                 replace q326 := eq_true q326
                 have p327 : 0 ≤ (x15_3 : Int) := of_decide_eq_true (by first | (with_reducible assumption) | assumption)
                 have q327 : x15_3 < (t304.length : Int) := of_decide_eq_true (by first | (with_reducible assumption) | assumption)
                 obtain ⟨ad327, e327, hx327_0, hx327_1, hx327_2⟩ := at_T42 (Kd.R_reads' HO_11.out).2.2 x15_3 p327 q327
                 cases e327
                 replace p327 := eq_true p327
                 replace q327 := eq_true q327
                 refine start_ (n := 13) (S := fun w' => w'.cell? ad326 = some (.bool ((rd_T42 t323 0).f0)) ∧ w'.cell? ⟨ad326.block, ad326.off + 1, none⟩ = some (.int .i64 ((rd_T42 t323 0).f1.f0)) ∧ w'.cell? ⟨ad326.block, ad326.off + 2, none⟩ = some (.string ((rd_T42 t323 0).f1.f1)) ∧ w'.cell? (ad327.add ((x15_3).toNat * 3)) = some (.bool ((rd_T42 t304 x15_3).f0)) ∧ w'.cell? ⟨(ad327.add ((x15_3).toNat * 3)).block, (ad327.add ((x15_3).toNat * 3)).off + 1, none⟩ = some (.int .i64 ((rd_T42 t304 x15_3).f1.f0)) ∧ w'.cell? ⟨(ad327.add ((x15_3).toNat * 3)).block, (ad327.add ((x15_3).toNat * 3)).off + 2, none⟩ = some (.string ((rd_T42 t304 x15_3).f1.f1))) (ds := []) #[false, false, false, false, false, false, false, false, false, false, false, false, false] (by kernel_rfl) rfl rfl ⟨hx326_0, hx326_1, hx326_2, hx327_0, hx327_1, hx327_2⟩ (fun hHeld => ?_); refine with_tabW thresherlaw20_AggOrder.tab18 thresherlaw20_AggOrder.bits18 (fun HT_ HW_ => ?_)
                 generalize w53.drew = w54 at HO_9 HO_10 HO_11 HO_298000 HO322 HO325 BK289 BK297 HB hx326_0 hx326_1 hx326_2 hx327_0 hx327_1 hx327_2 hHeld ⊢
                 refine pure_ (i := 0) (N := some 74) (v := ?_) (a' := ?_) #[true, false, false, false, false, false, false, false, false, false, false, false, false] rfl rfl (any_of HT_.out (by kernel_rfl)) (fun _ _ _ h => h) (Or.inl ⟨by rfl, ?_⟩) ?_ ?_
                 rotate_left; (intro w'; go_simp; with_reducible rfl); rotate_left; (simp only [Act.put, List.setIfInBounds_toArray, List.set_cons_zero, List.set_cons_succ, i64_w, i32_w]; rfl)
                 refine pure_ (i := 1) (N := some 75) (v := ?_) (a' := ?_) #[true, true, false, false, false, false, false, false, false, false, false, false, false] rfl rfl (any_of HT_.out (by kernel_rfl)) (fun _ _ _ h => h) (Or.inl ⟨by rfl, ?_⟩) ?_ ?_
                 rotate_left; (intro w'; go_simp; with_reducible rfl); rotate_left; (simp only [Act.put, List.setIfInBounds_toArray, List.set_cons_zero, List.set_cons_succ, i64_w, i32_w]; rfl)
                 refine pure_ (i := 2) (N := some 76) (v := ?_) (a' := ?_) #[true, true, true, false, false, false, false, false, false, false, false, false, false] rfl rfl (any_of HT_.out (by kernel_rfl)) (fun _ _ _ h => h) (Or.inl ⟨by rfl, ?_⟩) ?_ ?_
                 rotate_left; (intro w'; go_simp; with_reducible rfl); rotate_left; (simp only [Act.put, List.setIfInBounds_toArray, List.set_cons_zero, List.set_cons_succ, i64_w, i32_w]; rfl)
                 refine pure_ (i := 3) (N := some 77) (v := ?_) (a' := ?_) #[true, true, true, true, false, false, false, false, false, false, false, false, false] rfl rfl (any_of HT_.out (by kernel_rfl)) (fun _ _ _ h => h) (Or.inl ⟨by rfl, ?_⟩) ?_ ?_
                 rotate_left; (intro w'; go_simp; with_reducible rfl); rotate_left; (simp only [Act.put, List.setIfInBounds_toArray, List.set_cons_zero, List.set_cons_succ, i64_w, i32_w]; rfl)
                 refine pure_ (i := 4) (N := some 78) (v := ?_) (a' := ?_) #[true, true, true, true, true, false, false, false, false, false, false, false, false] rfl rfl (any_of HT_.out (by kernel_rfl)) (fun _ _ _ h => h) (Or.inl ⟨by rfl, ?_⟩) ?_ ?_
                 rotate_left; (intro w'; go_simp; with_reducible rfl); rotate_left; (simp only [Act.put, List.setIfInBounds_toArray, List.set_cons_zero, List.set_cons_succ, i64_w, i32_w]; rfl)
                 refine pure_ (i := 5) (N := some 79) (v := ?_) (a' := ?_) #[true, true, true, true, true, true, false, false, false, false, false, false, false] rfl rfl (any_of HT_.out (by kernel_rfl)) (fun _ _ _ h => h) (Or.inl ⟨by rfl, ?_⟩) ?_ ?_
                 rotate_left; (intro w'; go_simp; with_reducible rfl); rotate_left; (simp only [Act.put, List.setIfInBounds_toArray, List.set_cons_zero, List.set_cons_succ, i64_w, i32_w]; rfl)
                 refine pure_ (i := 7) (N := some 81) (v := ?_) (a' := ?_) #[true, true, true, true, true, true, false, true, false, false, false, false, false] rfl rfl (any_of HT_.out (by kernel_rfl)) (fun _ _ _ h => h) (Or.inl ⟨by rfl, ?_⟩) ?_ ?_
                 rotate_left; (intro w'; go_simp; with_reducible rfl); rotate_left; (simp only [Act.put, List.setIfInBounds_toArray, List.set_cons_zero, List.set_cons_succ, i64_w, i32_w]; rfl)
                 refine pure_ (i := 8) (N := some 82) (v := ?_) (a' := ?_) #[true, true, true, true, true, true, false, true, true, false, false, false, false] rfl rfl (any_of HT_.out (by kernel_rfl)) (fun _ _ _ h => h) (Or.inl ⟨by rfl, ?_⟩) ?_ ?_
                 rotate_left; (intro w'; go_simp; with_reducible rfl); rotate_left; (simp only [Act.put, List.setIfInBounds_toArray, List.set_cons_zero, List.set_cons_succ, i64_w, i32_w]; rfl)
                 refine pure_ (i := 9) (N := some 83) (v := ?_) (a' := ?_) #[true, true, true, true, true, true, false, true, true, true, false, false, false] rfl rfl (any_of HT_.out (by kernel_rfl)) (fun _ _ _ h => h) (Or.inl ⟨by rfl, ?_⟩) ?_ ?_
                 rotate_left; (intro w'; go_simp; with_reducible rfl); rotate_left; (simp only [Act.put, List.setIfInBounds_toArray, List.set_cons_zero, List.set_cons_succ, i64_w, i32_w]; rfl)
                 refine take_ (i := 6) (N := some 80) (v := ?_) (a' := ?_) #[true, true, true, true, true, true, true, true, true, true, false, false, false] rfl rfl (take_ofW HT_.out HW_.out (by kernel_rfl)) (fun _ _ _ h => h) (Or.inl ⟨by rfl, ?_⟩) hHeld ?_ ?_
                 rotate_left; (rintro w' ⟨s0, s1, s2, s3, s4, s5⟩; go_simp; with_reducible rfl); rotate_left; (simp only [Act.put, List.setIfInBounds_toArray, List.set_cons_zero, List.set_cons_succ, i64_w, i32_w]; rfl)
                 refine take_ (i := 10) (N := some 84) (v := ?_) (a' := ?_) #[true, true, true, true, true, true, true, true, true, true, true, false, false] rfl rfl (take_ofW HT_.out HW_.out (by kernel_rfl)) (fun _ _ _ h => h) (Or.inl ⟨by rfl, ?_⟩) hHeld ?_ ?_
                 rotate_left; (rintro w' ⟨s0, s1, s2, s3, s4, s5⟩; go_simp; with_reducible rfl); rotate_left; (simp only [Act.put, List.setIfInBounds_toArray, List.set_cons_zero, List.set_cons_succ, i64_w, i32_w]; rfl)
                 refine pure_ (i := 11) (N := some 85) (v := ?_) (a' := ?_) #[true, true, true, true, true, true, true, true, true, true, true, true, false] rfl rfl (any_of HT_.out (by kernel_rfl)) (fun _ _ _ h => h) (Or.inl ⟨by rfl, ?_⟩) ?_ ?_
                 rotate_left; (intro w'; go_simp; with_reducible rfl); rotate_left; (simp only [Act.put, List.setIfInBounds_toArray, List.set_cons_zero, List.set_cons_succ, i64_w, i32_w]; rfl)
                 refine pure_ (i := 12) (N := some 86) (v := ?_) (a' := ?_) #[true, true, true, true, true, true, true, true, true, true, true, true, true] rfl rfl (any_of HT_.out (by kernel_rfl)) (fun _ _ _ h => h) (Or.inl ⟨by rfl, ?_⟩) ?_ ?_
                 rotate_left; (intro w'; go_simp; with_reducible rfl); rotate_left; (simp only [Act.put, List.setIfInBounds_toArray, List.set_cons_zero, List.set_cons_succ, i64_w, i32_w]; rfl)
                 refine done_ (done_of HT_.out (by kernel_rfl)) ?_
                 (try clear hHeld)
                 try go_wp2
                 go_ret
                 exact ⟨by first | rfl | (simp [errW_none, errW_some] <;> rfl) | (simp [*, errW_none, errW_some] <;> rfl), by repeat (first | (with_reducible first | exact HB.out | apply below_alloc | apply pw_below_drewN | apply below_drew1 | refine below_set ?_ GE289.out | refine below_set ?_ GE297.out) | exact HB.out)⟩
                ·rw [if_neg c50] at H
                 have c50b0 : (!(((rd_T42 t323 0).f0) == ((rd_T42 t304 x15_3).f0)) || ((!(((rd_T42 t323 0).f1.f0) == ((rd_T42 t304 x15_3).f1.f0)) || (!((((rd_T42 t323 0).f1.f1).toList) == (((rd_T42 t304 x15_3).f1.f1).toList)))))) = false := by simpa using c50
                 clear c50
                 have H' := Aside0.mk H
                 clear H
                 try go_wp2
                 have n0_ := Aside0.mk (Kd.R_drew HO_9.out)
                 have n1_ := Aside0.mk (Kd.N_drew HO_10.out)
                 have n2_ := Aside0.mk (Kd.R_drew HO_11.out)
                 have n3_ := Aside0.mk (Kd.R_drew HO_298000.out)
                 have n4_ := Aside0.mk (blk_drew BK289.out)
                 have n5_ := Aside0.mk (blk_drew BK297.out)
                 have n6_ := Aside0.mk (below_drew1 HB.out)
                 clear HO_9
                 clear HO_10
                 clear HO_11
                 clear HO_298000
                 clear BK289
                 clear BK297
                 clear HB
                 have HO_9 := n0_
                 have HO_10 := n1_
                 have HO_11 := n2_
                 have HO_298000 := n3_
                 have BK289 := n4_
                 have BK297 := n5_
                 have HB := n6_
                 clear n0_ n1_ n2_ n3_ n4_ n5_ n6_
                 have q57 : ((wrap64 (x15_3 + 1)) : Int) ≤ ((t298.length : Int) : Int) := of_decide_eq_true (by first | (with_reducible assumption) | assumption)
                 obtain ⟨i057, hi057, _, hsz57, _⟩ := info_parts info33
                 have hroom57 : t298.length ≤ co21 := (Kd.R_reads' HO_9.out).2.1
                 have hC57 : Kd.F k33 _ _ Ao21 t298.length t298 := (Kd.V_at (base := w.heap.size) (Kd.R_V (Kd.R_types (Kd.R_types (Kd.R_apart' (Kd.R_apart' (Kd.R_apart' (HO_9.out) (Kd.N_typed HO_10.out) (by decide)) (Kd.R_typed HO_11.out) (by decide)) (Kd.R_typed HO_298000.out) (by decide)) BK289.out (by decide)) BK297.out (by decide)))).2.2
                 have ql57 : (x15_3 : Int) ≤ ((wrap64 (x15_3 + 1)) : Int) := of_decide_eq_true (by first | (with_reducible assumption) | assumption)
                 have q057 : (0 : Int) ≤ (x15_3 : Int) := of_decide_eq_true (by first | (with_reducible assumption) | assumption)
                 have hcut57 := cut_mid (P := Try.prog) 34 33 .i64 .i64 Try.underlying34 hi057 2 hsz57 Ao21 t298.length co21 x15_3 (wrap64 (x15_3 + 1)) q057 ql57 q57 hroom57
                 have hr57 := Kd.F_mid (lo := (x15_3 : Int).toNat) (hi := ((wrap64 (x15_3 + 1)) : Int).toNat) (c := co21) hC57 (by omega) (by omega) hroom57
                 obtain ⟨A57, hA57⟩ : ∃ Z_, Z_ = (if co21 = (x15_3 : Int).toNat then Ao21 else (Ao21 : Option Addr).map (·.add ((x15_3 : Int).toNat * 2))) := ⟨_, rfl⟩
                 obtain ⟨c57, hc57⟩ : ∃ z_, z_ = co21 - (x15_3 : Int).toNat := ⟨_, rfl⟩
                 have hy57 : y318.length = ((wrap64 (x15_3 + 1)) : Int).toNat - (x15_3 : Int).toNat := (by rw [Ny318.out, List.length_drop, List.length_take] <;> omega)
                 rw [show ((t298).take ((wrap64 (x15_3 + 1)) : Int).toNat).drop (x15_3 : Int).toNat = y318 from Ny318.out.symm] at hr57
                 replace hr57 : Kd.F k33 _ _ A57 y318.length y318 := (by rw [hA57]; exact hr57)
                 rw [← hy57, ← hA57, ← hc57] at hcut57
                 have HO322 := Aside0.mk (show Kd.V k33 33 _ w.heap.size _ (.slice A57 y318.length c57) y318 from Kd.V_mk (by rw [hy57, hc57]; exact Nat.sub_le_sub_right (Nat.le_trans (by omega) hroom57) _) hr57)
                 have HC322 := Aside0.mk (show y318.length ≤ c57 from by rw [hy57, hc57]; exact Nat.sub_le_sub_right (Nat.le_trans (by omega) hroom57) _)
                 clear hr57 hC57 hroom57 hi057 hsz57 hc57
                 have KY57 := Aside0.mk hy57
                 have KA57 := Aside0.mk hA57
                 clear hy57 hA57
                 replace q57 := eq_true q57
                 refine start_ (n := 9) (S := fun w' => w'.cell? ⟨gb297, 0, none⟩ = some (.slice Ao14 t291.length co14) ∧ w'.cell? ⟨gb297, 1, none⟩ = some (.int .i64 t294) ∧ w'.cell? ⟨gb297, 2, none⟩ = some (.int .i64 t295) ∧ w'.cell? ⟨gb297, 3, none⟩ = some (.int .i64 t296)) (ds := []) #[false, false, false, false, false, false, false, false, false] (by kernel_rfl) rfl rfl ⟨(blk_cell BK297.out 0).trans rfl, (blk_cell BK297.out 1).trans rfl, (blk_cell BK297.out 2).trans rfl, (blk_cell BK297.out 3).trans rfl⟩ (fun hHeld => ?_); refine with_tabW thresherlaw20_AggOrder.tab17 thresherlaw20_AggOrder.bits17 (fun HT_ HW_ => ?_)
                 generalize wr.drew = w56 at HO_9 HO_10 HO_11 HO_298000 BK289 BK297 HB HO322 hHeld ⊢
                 refine pure_ (i := 1) (N := some 67) (v := ?_) (a' := ?_) #[false, true, false, false, false, false, false, false, false] rfl rfl (any_of HT_.out (by kernel_rfl)) (fun _ _ _ h => h) (Or.inl ⟨by rfl, ?_⟩) ?_ ?_
                 rotate_left; (intro w'; go_simp; with_reducible rfl); rotate_left; (simp only [Act.put, List.setIfInBounds_toArray, List.set_cons_zero, List.set_cons_succ, i64_w, i32_w]; rfl)
                 refine pure_ (i := 2) (N := some 68) (v := ?_) (a' := ?_) #[false, true, true, false, false, false, false, false, false] rfl rfl (any_of HT_.out (by kernel_rfl)) (fun _ _ _ h => h) (Or.inl ⟨by rfl, ?_⟩) ?_ ?_
                 rotate_left; (intro w'; go_simp; with_reducible rfl); rotate_left; (simp only [Act.put, List.setIfInBounds_toArray, List.set_cons_zero, List.set_cons_succ, i64_w, i32_w]; rfl)
                 refine pure_ (i := 3) (N := some 69) (v := ?_) (a' := ?_) #[false, true, true, true, false, false, false, false, false] rfl rfl (any_of HT_.out (by kernel_rfl)) (fun _ _ _ h => h) (Or.inl ⟨by rfl, ?_⟩) ?_ ?_
                 rotate_left; (intro w'; go_simp; with_reducible rfl); rotate_left; (simp only [Act.put, List.setIfInBounds_toArray, List.set_cons_zero, List.set_cons_succ, i64_w, i32_w]; rfl)
                 refine pure_ (i := 4) (N := some 70) (v := ?_) (a' := ?_) #[false, true, true, true, true, false, false, false, false] rfl rfl (any_of HT_.out (by kernel_rfl)) (fun _ _ _ h => h) (Or.inl ⟨by rfl, ?_⟩) ?_ ?_
                 rotate_left; (intro w'; go_simp; with_reducible rfl); rotate_left; (simp only [Act.put, List.setIfInBounds_toArray, List.set_cons_zero, List.set_cons_succ, i64_w, i32_w]; rfl)
                 refine pure_ (i := 5) (N := some 71) (v := ?_) (a' := ?_) #[false, true, true, true, true, true, false, false, false] rfl rfl (any_of HT_.out (by kernel_rfl)) (fun _ _ _ h => h) (Or.inl ⟨by rfl, ?_⟩) ?_ ?_
                 rotate_left; (intro w'; go_simp; with_reducible rfl); rotate_left; (simp only [Act.put, List.setIfInBounds_toArray, List.set_cons_zero, List.set_cons_succ, i64_w, i32_w]; rfl)
                 refine pure_ (i := 6) (N := some 72) (v := ?_) (a' := ?_) #[false, true, true, true, true, true, true, false, false] rfl rfl (any_of HT_.out (by kernel_rfl)) (fun _ _ _ h => h) (Or.inl ⟨by rfl, ?_⟩) ?_ ?_
                 rotate_left; (intro w'; go_simp; with_reducible rfl); rotate_left; (simp only [Act.put, List.setIfInBounds_toArray, List.set_cons_zero, List.set_cons_succ, i64_w, i32_w]; rfl)
                 refine take_ (i := 0) (N := some 66) (v := ?_) (a' := ?_) #[true, true, true, true, true, true, true, false, false] rfl rfl (take_ofW HT_.out HW_.out (by kernel_rfl)) (fun _ _ _ h => h) (Or.inl ⟨by rfl, ?_⟩) hHeld ?_ ?_
                 rotate_left; (rintro w' ⟨s0, s1, s2, s3⟩; go_simp; with_reducible rfl); rotate_left; (simp only [Act.put, List.setIfInBounds_toArray, List.set_cons_zero, List.set_cons_succ, i64_w, i32_w]; rfl)
                 refine one_ (i := 7) (N := some 73) #[true, true, true, true, true, true, true, true, false] rfl rfl (one_of HT_.out (by kernel_rfl)) (by decide) (fun K hK => ?_)
                 refine goes_ Try.func11 (by kernel_rfl) rfl #[.agg #[.slice Ao14 t291.length co14, .int .i64 t294, .int .i64 t295, .int .i64 t296], .slice A57 y318.length c57, .slice Ao22 t301.length co22] (by rfl) rfl rfl (by (try simp only [List.map_toArray, List.map_cons, List.map_nil]); first | done | rfl | (simp only [List.length_drop, List.length_take]; rfl)) ?_
                 with_reducible refine (agg_Rows.calls k3 _ _ t291 t294 t295 t296 _ _ y318 _ _ t301 t323 _ ?side1 ?side2 ?side3 ?side4 ?side5 ?side6 A46.out).mono ?_
                 (case side1 => repeat (first | exact (Kd.R_reads' HO_298000.out).2.2 | (with_reducible refine Kd.C_alloc ?_ _) | (with_reducible refine Kd.C_drewN ?_ _) | (with_reducible refine Kd.C_drew ?_)))
                 (case side2 => exact (Kd.R_reads' HO_298000.out).2.1)
                 (case side3 => repeat (first | exact (Kd.V_reads' HO322.out).2.2 | (with_reducible refine Kd.C_alloc ?_ _) | (with_reducible refine Kd.C_drewN ?_ _) | (with_reducible refine Kd.C_drew ?_)))
                 (case side4 => exact (Kd.V_reads' HO322.out).2.1)
                 (case side5 => repeat (first | exact (Kd.N_reads' HO_10.out).2.2 | (with_reducible refine Kd.C_alloc ?_ _) | (with_reducible refine Kd.C_drewN ?_ _) | (with_reducible refine Kd.C_drew ?_)))
                 (case side6 => exact (Kd.N_reads' HO_10.out).2.1)
                 rintro e w58 ⟨v324, rfl, ho0, hb⟩
                 refine ⟨_, rfl, ?_⟩
                 have n0_ := Aside0.mk (Kd.R_below (by (with_reducible repeat (first | apply Kd.R_alloc | apply Kd.R_drewN | apply Kd.R_drew)); exact HO_9.out) hb)
                 have n1_ := Aside0.mk (Kd.N_elder' (by (with_reducible repeat (first | apply Kd.N_alloc | apply Kd.N_drewN | apply Kd.N_drew)); exact HO_10.out) (Kd.R_base ho0) hb)
                 have n2_ := Aside0.mk (Kd.R_elder' (by (with_reducible repeat (first | apply Kd.R_alloc | apply Kd.R_drewN | apply Kd.R_drew)); exact HO_11.out) (Kd.R_base ho0) hb)
                 have n3_ := Aside0.mk (Kd.R_below (by (with_reducible repeat (first | apply Kd.R_alloc | apply Kd.R_drewN | apply Kd.R_drew)); exact HO_298000.out) hb)
                 have n4_ := Aside0.mk (Kd.V_elder' (by (with_reducible repeat (first | apply Kd.V_alloc | apply Kd.V_drewN | apply Kd.V_drew)); exact HO322.out) (Kd.R_base ho0) hb)
                 have n5_ := Aside0.mk (Kd.R_lower (Kd.R_new' ho0 (Kd.R_lt (by (with_reducible repeat (first | apply Kd.R_alloc | apply Kd.R_drewN | apply Kd.R_drew)); exact HO_11.out))) (below_size (by repeat (first | (with_reducible first | exact HB.out | apply below_alloc | apply pw_below_drewN | apply below_drew1 | refine below_set ?_ GE289.out | refine below_set ?_ GE297.out) | exact HB.out))))
                 have n6_ := Aside0.mk (blk_below (g := gb289) (o := .cells #[.int .u8 a0_0, .int .u8 a0_1, .int .u8 a0_2, .int .u8 a0_3, .int .u8 a0_4, .int .u8 a0_5, .int .u8 a0_6, .int .u8 a0_7, .int .u8 a0_8, .int .u8 a0_9, .int .u8 a0_10, .int .u8 a0_11] 24 (0, 0)) (by (with_reducible repeat (first | refine blk_drewN ?_ _ | refine blk_drew ?_ | refine blk_alloc ?_ _)); exact BK289.out) hb)
                 have n7_ := Aside0.mk (blk_below (g := gb297) (o := .cells #[.slice Ao14 t291.length co14, .int .i64 t294, .int .i64 t295, .int .i64 t296] 29 (0, 0)) (by (with_reducible repeat (first | refine blk_drewN ?_ _ | refine blk_drew ?_ | refine blk_alloc ?_ _)); exact BK297.out) hb)
                 have n8_ := Aside0.mk (below_step (by repeat (first | (with_reducible first | exact HB.out | apply below_alloc | apply pw_below_drewN | apply below_drew1 | refine below_set ?_ GE289.out | refine below_set ?_ GE297.out) | exact HB.out)) hb)
                 clear HO_9
                 clear HO_10
                 clear HO_11
                 clear HO_298000
                 clear HO322
                 clear BK289
                 clear BK297
                 clear HB
                 have HO_9 := n0_
                 have HO_10 := n1_
                 have HO_11 := n2_
                 have HO_298000 := n3_
                 have HO322 := n4_
                 have HO325 := n5_
                 have BK289 := n6_
                 have BK297 := n7_
                 have HB := n8_
                 clear n0_ n1_ n2_ n3_ n4_ n5_ n6_ n7_ n8_
                 (try clear hb)
                 (try clear hb2)
                 (try clear hk)
                 (try clear hi)
                 (try clear ho0)
                 refine hK.out _ _ ⟨(blk_cell BK297.out 0).trans rfl, (blk_cell BK297.out 1).trans rfl, (blk_cell BK297.out 2).trans rfl, (blk_cell BK297.out 3).trans rfl⟩ (fun hHeld => ?_)
                 clear hK K
                 refine norm_ (a' := ?_) ?_ ?_
                 rotate_left
                 ·show Act.put _ (some 73) _ = _
                  simp only [Act.put, List.setIfInBounds_toArray, List.set_cons_zero, List.set_cons_succ, i64_w, i32_w]
                  rfl
                 refine pure_ (i := 8) (N := some 16) (v := ?_) (a' := ?_) #[true, true, true, true, true, true, true, true, true] rfl rfl (any_of HT_.out (by kernel_rfl)) (fun _ _ _ h => h) (Or.inl ⟨by rfl, ?_⟩) ?_ ?_
                 rotate_left; (intro w'; go_simp; with_reducible rfl); rotate_left; (simp only [Act.put, List.setIfInBounds_toArray, List.set_cons_zero, List.set_cons_succ, i64_w, i32_w]; rfl)
                 refine done_ (done_of HT_.out (by kernel_rfl)) ?_
                 (try clear hHeld)
                 try go_wp2
                 have n0_ := Aside0.mk (Kd.R_drew HO_9.out)
                 have n1_ := Aside0.mk (Kd.N_drew HO_10.out)
                 have n2_ := Aside0.mk (Kd.R_drew HO_11.out)
                 have n3_ := Aside0.mk (Kd.R_drew HO_298000.out)
                 have n4_ := Aside0.mk (Kd.V_drew HO322.out)
                 have n5_ := Aside0.mk (Kd.R_drew HO325.out)
                 have n6_ := Aside0.mk (blk_drew BK289.out)
                 have n7_ := Aside0.mk (blk_drew BK297.out)
                 have n8_ := Aside0.mk (below_drew1 HB.out)
                 clear HO_9
                 clear HO_10
                 clear HO_11
                 clear HO_298000
                 clear HO322
                 clear HO325
                 clear BK289
                 clear BK297
                 clear HB
                 have HO_9 := n0_
                 have HO_10 := n1_
                 have HO_11 := n2_
                 have HO_298000 := n3_
                 have HO322 := n4_
                 have HO325 := n5_
                 have BK289 := n6_
                 have BK297 := n7_
                 have HB := n8_
                 clear n0_ n1_ n2_ n3_ n4_ n5_ n6_ n7_ n8_
                 obtain ⟨Ao60, co60, eo60⟩ := Kd.R_slice HO325.out
                 (first | subst eo60 | (injection eo60 with f1_ f2_ f3_; have f4_ := f1_.symm; have f5_ := f3_.symm; clear f1_ f2_ f3_; subst f4_; subst f5_))
                 have p326 : 0 ≤ (0 : Int) := (by omega)
                 have q326 : 0 < (t323.length : Int) := of_decide_eq_true (by first | (with_reducible assumption) | assumption)
                 obtain ⟨ad326, e326, hx326_0, hx326_1, hx326_2⟩ := at_T42 (Kd.R_reads' HO325.out).2.2 0 p326 q326
                 cases e326
                 have qi326 : (0 < t323.length) = True := eq_true (by omega)
                 (try rw [show ((0 : Int)).toNat = 0 from rfl] at hx326_0)
                 (try rw [show 0 * 3 = 0 from rfl] at hx326_0)
                 (try rw [Addr.add_zero'] at hx326_0)
                 (try rw [show ((0 : Int)).toNat = 0 from rfl] at hx326_1)
                 (try rw [show 0 * 3 = 0 from rfl] at hx326_1)
                 (try rw [Addr.add_zero'] at hx326_1)
                 (try rw [show ((0 : Int)).toNat = 0 from rfl] at hx326_2)
                 (try rw [show 0 * 3 = 0 from rfl] at hx326_2)
                 (try rw [Addr.add_zero'] at hx326_2)
                 replace p326 := eq_true p326
                 replace q326 := eq_true q326
                 have p327 : 0 ≤ (x15_3 : Int) := of_decide_eq_true (by first | (with_reducible assumption) | assumption)
                 have q327 : x15_3 < (t304.length : Int) := of_decide_eq_true (by first | (with_reducible assumption) | assumption)
                 obtain ⟨ad327, e327, hx327_0, hx327_1, hx327_2⟩ := at_T42 (Kd.R_reads' HO_11.out).2.2 x15_3 p327 q327
                 cases e327
                 replace p327 := eq_true p327
                 replace q327 := eq_true q327
                 refine start_ (n := 13) (S := fun w' => w'.cell? ad326 = some (.bool ((rd_T42 t323 0).f0)) ∧ w'.cell? ⟨ad326.block, ad326.off + 1, none⟩ = some (.int .i64 ((rd_T42 t323 0).f1.f0)) ∧ w'.cell? ⟨ad326.block, ad326.off + 2, none⟩ = some (.string ((rd_T42 t323 0).f1.f1)) ∧ w'.cell? (ad327.add ((x15_3).toNat * 3)) = some (.bool ((rd_T42 t304 x15_3).f0)) ∧ w'.cell? ⟨(ad327.add ((x15_3).toNat * 3)).block, (ad327.add ((x15_3).toNat * 3)).off + 1, none⟩ = some (.int .i64 ((rd_T42 t304 x15_3).f1.f0)) ∧ w'.cell? ⟨(ad327.add ((x15_3).toNat * 3)).block, (ad327.add ((x15_3).toNat * 3)).off + 2, none⟩ = some (.string ((rd_T42 t304 x15_3).f1.f1))) (ds := []) #[false, false, false, false, false, false, false, false, false, false, false, false, false] (by kernel_rfl) rfl rfl ⟨hx326_0, hx326_1, hx326_2, hx327_0, hx327_1, hx327_2⟩ (fun hHeld => ?_); refine with_tabW thresherlaw20_AggOrder.tab18 thresherlaw20_AggOrder.bits18 (fun HT_ HW_ => ?_)
                 generalize w58.drew = w59 at HO_9 HO_10 HO_11 HO_298000 HO322 HO325 BK289 BK297 HB hx326_0 hx326_1 hx326_2 hx327_0 hx327_1 hx327_2 hHeld ⊢
                 refine pure_ (i := 0) (N := some 74) (v := ?_) (a' := ?_) #[true, false, false, false, false, false, false, false, false, false, false, false, false] rfl rfl (any_of HT_.out (by kernel_rfl)) (fun _ _ _ h => h) (Or.inl ⟨by rfl, ?_⟩) ?_ ?_
                 rotate_left; (intro w'; go_simp; with_reducible rfl); rotate_left; (simp only [Act.put, List.setIfInBounds_toArray, List.set_cons_zero, List.set_cons_succ, i64_w, i32_w]; rfl)
                 refine pure_ (i := 1) (N := some 75) (v := ?_) (a' := ?_) #[true, true, false, false, false, false, false, false, false, false, false, false, false] rfl rfl (any_of HT_.out (by kernel_rfl)) (fun _ _ _ h => h) (Or.inl ⟨by rfl, ?_⟩) ?_ ?_
                 rotate_left; (intro w'; go_simp; with_reducible rfl); rotate_left; (simp only [Act.put, List.setIfInBounds_toArray, List.set_cons_zero, List.set_cons_succ, i64_w, i32_w]; rfl)
                 refine pure_ (i := 2) (N := some 76) (v := ?_) (a' := ?_) #[true, true, true, false, false, false, false, false, false, false, false, false, false] rfl rfl (any_of HT_.out (by kernel_rfl)) (fun _ _ _ h => h) (Or.inl ⟨by rfl, ?_⟩) ?_ ?_
                 rotate_left; (intro w'; go_simp; with_reducible rfl); rotate_left; (simp only [Act.put, List.setIfInBounds_toArray, List.set_cons_zero, List.set_cons_succ, i64_w, i32_w]; rfl)
                 refine pure_ (i := 3) (N := some 77) (v := ?_) (a' := ?_) #[true, true, true, true, false, false, false, false, false, false, false, false, false] rfl rfl (any_of HT_.out (by kernel_rfl)) (fun _ _ _ h => h) (Or.inl ⟨by rfl, ?_⟩) ?_ ?_
                 rotate_left; (intro w'; go_simp; with_reducible rfl); rotate_left; (simp only [Act.put, List.setIfInBounds_toArray, List.set_cons_zero, List.set_cons_succ, i64_w, i32_w]; rfl)
                 refine pure_ (i := 4) (N := some 78) (v := ?_) (a' := ?_) #[true, true, true, true, true, false, false, false, false, false, false, false, false] rfl rfl (any_of HT_.out (by kernel_rfl)) (fun _ _ _ h => h) (Or.inl ⟨by rfl, ?_⟩) ?_ ?_
                 rotate_left; (intro w'; go_simp; with_reducible rfl); rotate_left; (simp only [Act.put, List.setIfInBounds_toArray, List.set_cons_zero, List.set_cons_succ, i64_w, i32_w]; rfl)
                 refine pure_ (i := 5) (N := some 79) (v := ?_) (a' := ?_) #[true, true, true, true, true, true, false, false, false, false, false, false, false] rfl rfl (any_of HT_.out (by kernel_rfl)) (fun _ _ _ h => h) (Or.inl ⟨by rfl, ?_⟩) ?_ ?_
                 rotate_left; (intro w'; go_simp; with_reducible rfl); rotate_left; (simp only [Act.put, List.setIfInBounds_toArray, List.set_cons_zero, List.set_cons_succ, i64_w, i32_w]; rfl)
                 refine pure_ (i := 7) (N := some 81) (v := ?_) (a' := ?_) #[true, true, true, true, true, true, false, true, false, false, false, false, false] rfl rfl (any_of HT_.out (by kernel_rfl)) (fun _ _ _ h => h) (Or.inl ⟨by rfl, ?_⟩) ?_ ?_
                 rotate_left; (intro w'; go_simp; with_reducible rfl); rotate_left; (simp only [Act.put, List.setIfInBounds_toArray, List.set_cons_zero, List.set_cons_succ, i64_w, i32_w]; rfl)
                 refine pure_ (i := 8) (N := some 82) (v := ?_) (a' := ?_) #[true, true, true, true, true, true, false, true, true, false, false, false, false] rfl rfl (any_of HT_.out (by kernel_rfl)) (fun _ _ _ h => h) (Or.inl ⟨by rfl, ?_⟩) ?_ ?_
                 rotate_left; (intro w'; go_simp; with_reducible rfl); rotate_left; (simp only [Act.put, List.setIfInBounds_toArray, List.set_cons_zero, List.set_cons_succ, i64_w, i32_w]; rfl)
                 refine pure_ (i := 9) (N := some 83) (v := ?_) (a' := ?_) #[true, true, true, true, true, true, false, true, true, true, false, false, false] rfl rfl (any_of HT_.out (by kernel_rfl)) (fun _ _ _ h => h) (Or.inl ⟨by rfl, ?_⟩) ?_ ?_
                 rotate_left; (intro w'; go_simp; with_reducible rfl); rotate_left; (simp only [Act.put, List.setIfInBounds_toArray, List.set_cons_zero, List.set_cons_succ, i64_w, i32_w]; rfl)
                 refine take_ (i := 6) (N := some 80) (v := ?_) (a' := ?_) #[true, true, true, true, true, true, true, true, true, true, false, false, false] rfl rfl (take_ofW HT_.out HW_.out (by kernel_rfl)) (fun _ _ _ h => h) (Or.inl ⟨by rfl, ?_⟩) hHeld ?_ ?_
                 rotate_left; (rintro w' ⟨s0, s1, s2, s3, s4, s5⟩; go_simp; with_reducible rfl); rotate_left; (simp only [Act.put, List.setIfInBounds_toArray, List.set_cons_zero, List.set_cons_succ, i64_w, i32_w]; rfl)
                 refine take_ (i := 10) (N := some 84) (v := ?_) (a' := ?_) #[true, true, true, true, true, true, true, true, true, true, true, false, false] rfl rfl (take_ofW HT_.out HW_.out (by kernel_rfl)) (fun _ _ _ h => h) (Or.inl ⟨by rfl, ?_⟩) hHeld ?_ ?_
                 rotate_left; (rintro w' ⟨s0, s1, s2, s3, s4, s5⟩; go_simp; with_reducible rfl); rotate_left; (simp only [Act.put, List.setIfInBounds_toArray, List.set_cons_zero, List.set_cons_succ, i64_w, i32_w]; rfl)
                 refine pure_ (i := 11) (N := some 85) (v := ?_) (a' := ?_) #[true, true, true, true, true, true, true, true, true, true, true, true, false] rfl rfl (any_of HT_.out (by kernel_rfl)) (fun _ _ _ h => h) (Or.inl ⟨by rfl, ?_⟩) ?_ ?_
                 rotate_left; (intro w'; go_simp; with_reducible rfl); rotate_left; (simp only [Act.put, List.setIfInBounds_toArray, List.set_cons_zero, List.set_cons_succ, i64_w, i32_w]; rfl)
                 refine pure_ (i := 12) (N := some 86) (v := ?_) (a' := ?_) #[true, true, true, true, true, true, true, true, true, true, true, true, true] rfl rfl (any_of HT_.out (by kernel_rfl)) (fun _ _ _ h => h) (Or.inl ⟨by rfl, ?_⟩) ?_ ?_
                 rotate_left; (intro w'; go_simp; with_reducible rfl); rotate_left; (simp only [Act.put, List.setIfInBounds_toArray, List.set_cons_zero, List.set_cons_succ, i64_w, i32_w]; rfl)
                 refine done_ (done_of HT_.out (by kernel_rfl)) ?_
                 (try clear hHeld)
                 try go_wp2
                 go_roundg k3
                 case measure => have := HK1.out; have := HJ32.out; have := HK3.out; omega
                 case rel => exact ⟨(wrap64 (x15_3 + 1)), (by first | rfl | (simp; done) | (simp [*]; done)), (by first | exact H' | (subst_vars; exact H')), ⟨by have := HK1.out; have := HJ32.out; have := HK3.out; omega⟩, ⟨by (with_reducible repeat (first | apply Kd.R_alloc | apply Kd.R_drewN | apply Kd.R_drew)); exact HO_9.out⟩, ⟨by (with_reducible repeat (first | apply Kd.N_alloc | apply Kd.N_drewN | apply Kd.N_drew)); exact Kd.N_mono HO_10.out (fun _ hk => ⟨hk.1.1, ⟨hk.1.2.1, ⟨hk.1.2.2.1, ⟨hk.1.2.2.2.1, hk.1.2.2.2.2⟩⟩⟩⟩)⟩, ⟨by (with_reducible repeat (first | apply Kd.R_alloc | apply Kd.R_drewN | apply Kd.R_drew)); exact Kd.R_mono HO_11.out (fun _ hk => trivial)⟩, ⟨by (with_reducible repeat (first | apply Kd.R_alloc | apply Kd.R_drewN | apply Kd.R_drew)); exact HO_298000.out⟩, ⟨by (with_reducible repeat (first | refine blk_drewN ?_ _ | refine blk_drew ?_ | refine blk_alloc ?_ _)); exact BK289.out⟩, ⟨by (with_reducible repeat (first | refine blk_drewN ?_ _ | refine blk_drew ?_ | refine blk_alloc ?_ _)); exact BK297.out⟩, ⟨by repeat (first | (with_reducible first | exact HB.out | apply below_alloc | apply pw_below_drewN | apply below_drew1 | refine below_set ?_ GE289.out | refine below_set ?_ GE297.out) | exact HB.out)⟩⟩
               ·rw [if_neg c49] at H
                exact absurd H (by simp)
              ·rw [if_neg c48] at H
               exact absurd H (by simp)
             ·rw [if_neg c47] at H
              have c47b0 : ((t323.length : Int) == 1) = false := beq_eq_false_iff_ne.mpr c47
              have c47b1 : ((t323.length : Int) != 1) = true := bne_iff_ne.mpr c47
              obtain rfl := Option.some.inj H
              try go_wp2
              have n0_ := Aside0.mk (Kd.R_drew HO_9.out)
              have n1_ := Aside0.mk (Kd.N_drew HO_10.out)
              have n2_ := Aside0.mk (Kd.R_drew HO_11.out)
              have n3_ := Aside0.mk (Kd.R_drew HO_298000.out)
              have n4_ := Aside0.mk (blk_drew BK289.out)
              have n5_ := Aside0.mk (blk_drew BK297.out)
              have n6_ := Aside0.mk (below_drew1 HB.out)
              clear HO_9
              clear HO_10
              clear HO_11
              clear HO_298000
              clear BK289
              clear BK297
              clear HB
              have HO_9 := n0_
              have HO_10 := n1_
              have HO_11 := n2_
              have HO_298000 := n3_
              have BK289 := n4_
              have BK297 := n5_
              have HB := n6_
              clear n0_ n1_ n2_ n3_ n4_ n5_ n6_
              have q62 : ((wrap64 (x15_3 + 1)) : Int) ≤ ((t298.length : Int) : Int) := of_decide_eq_true (by first | (with_reducible assumption) | assumption)
              obtain ⟨i062, hi062, _, hsz62, _⟩ := info_parts info33
              have hroom62 : t298.length ≤ co21 := (Kd.R_reads' HO_9.out).2.1
              have hC62 : Kd.F k33 _ _ Ao21 t298.length t298 := (Kd.V_at (base := w.heap.size) (Kd.R_V (Kd.R_types (Kd.R_types (Kd.R_apart' (Kd.R_apart' (Kd.R_apart' (HO_9.out) (Kd.N_typed HO_10.out) (by decide)) (Kd.R_typed HO_11.out) (by decide)) (Kd.R_typed HO_298000.out) (by decide)) BK289.out (by decide)) BK297.out (by decide)))).2.2
              have ql62 : (x15_3 : Int) ≤ ((wrap64 (x15_3 + 1)) : Int) := of_decide_eq_true (by first | (with_reducible assumption) | assumption)
              have q062 : (0 : Int) ≤ (x15_3 : Int) := of_decide_eq_true (by first | (with_reducible assumption) | assumption)
              have hcut62 := cut_mid (P := Try.prog) 34 33 .i64 .i64 Try.underlying34 hi062 2 hsz62 Ao21 t298.length co21 x15_3 (wrap64 (x15_3 + 1)) q062 ql62 q62 hroom62
              have hr62 := Kd.F_mid (lo := (x15_3 : Int).toNat) (hi := ((wrap64 (x15_3 + 1)) : Int).toNat) (c := co21) hC62 (by omega) (by omega) hroom62
              obtain ⟨A62, hA62⟩ : ∃ Z_, Z_ = (if co21 = (x15_3 : Int).toNat then Ao21 else (Ao21 : Option Addr).map (·.add ((x15_3 : Int).toNat * 2))) := ⟨_, rfl⟩
              obtain ⟨c62, hc62⟩ : ∃ z_, z_ = co21 - (x15_3 : Int).toNat := ⟨_, rfl⟩
              have hy62 : y318.length = ((wrap64 (x15_3 + 1)) : Int).toNat - (x15_3 : Int).toNat := (by rw [Ny318.out, List.length_drop, List.length_take] <;> omega)
              rw [show ((t298).take ((wrap64 (x15_3 + 1)) : Int).toNat).drop (x15_3 : Int).toNat = y318 from Ny318.out.symm] at hr62
              replace hr62 : Kd.F k33 _ _ A62 y318.length y318 := (by rw [hA62]; exact hr62)
              rw [← hy62, ← hA62, ← hc62] at hcut62
              have HO322 := Aside0.mk (show Kd.V k33 33 _ w.heap.size _ (.slice A62 y318.length c62) y318 from Kd.V_mk (by rw [hy62, hc62]; exact Nat.sub_le_sub_right (Nat.le_trans (by omega) hroom62) _) hr62)
              have HC322 := Aside0.mk (show y318.length ≤ c62 from by rw [hy62, hc62]; exact Nat.sub_le_sub_right (Nat.le_trans (by omega) hroom62) _)
              clear hr62 hC62 hroom62 hi062 hsz62 hc62
              have KY62 := Aside0.mk hy62
              have KA62 := Aside0.mk hA62
              clear hy62 hA62
              replace q62 := eq_true q62
              refine start_ (n := 9) (S := fun w' => w'.cell? ⟨gb297, 0, none⟩ = some (.slice Ao14 t291.length co14) ∧ w'.cell? ⟨gb297, 1, none⟩ = some (.int .i64 t294) ∧ w'.cell? ⟨gb297, 2, none⟩ = some (.int .i64 t295) ∧ w'.cell? ⟨gb297, 3, none⟩ = some (.int .i64 t296)) (ds := []) #[false, false, false, false, false, false, false, false, false] (by kernel_rfl) rfl rfl ⟨(blk_cell BK297.out 0).trans rfl, (blk_cell BK297.out 1).trans rfl, (blk_cell BK297.out 2).trans rfl, (blk_cell BK297.out 3).trans rfl⟩ (fun hHeld => ?_); refine with_tabW thresherlaw20_AggOrder.tab17 thresherlaw20_AggOrder.bits17 (fun HT_ HW_ => ?_)
              generalize wr.drew = w61 at HO_9 HO_10 HO_11 HO_298000 BK289 BK297 HB HO322 hHeld ⊢
              refine pure_ (i := 1) (N := some 67) (v := ?_) (a' := ?_) #[false, true, false, false, false, false, false, false, false] rfl rfl (any_of HT_.out (by kernel_rfl)) (fun _ _ _ h => h) (Or.inl ⟨by rfl, ?_⟩) ?_ ?_
              rotate_left; (intro w'; go_simp; with_reducible rfl); rotate_left; (simp only [Act.put, List.setIfInBounds_toArray, List.set_cons_zero, List.set_cons_succ, i64_w, i32_w]; rfl)
              refine pure_ (i := 2) (N := some 68) (v := ?_) (a' := ?_) #[false, true, true, false, false, false, false, false, false] rfl rfl (any_of HT_.out (by kernel_rfl)) (fun _ _ _ h => h) (Or.inl ⟨by rfl, ?_⟩) ?_ ?_
              rotate_left; (intro w'; go_simp; with_reducible rfl); rotate_left; (simp only [Act.put, List.setIfInBounds_toArray, List.set_cons_zero, List.set_cons_succ, i64_w, i32_w]; rfl)
              refine pure_ (i := 3) (N := some 69) (v := ?_) (a' := ?_) #[false, true, true, true, false, false, false, false, false] rfl rfl (any_of HT_.out (by kernel_rfl)) (fun _ _ _ h => h) (Or.inl ⟨by rfl, ?_⟩) ?_ ?_
              rotate_left; (intro w'; go_simp; with_reducible rfl); rotate_left; (simp only [Act.put, List.setIfInBounds_toArray, List.set_cons_zero, List.set_cons_succ, i64_w, i32_w]; rfl)
              refine pure_ (i := 4) (N := some 70) (v := ?_) (a' := ?_) #[false, true, true, true, true, false, false, false, false] rfl rfl (any_of HT_.out (by kernel_rfl)) (fun _ _ _ h => h) (Or.inl ⟨by rfl, ?_⟩) ?_ ?_
              rotate_left; (intro w'; go_simp; with_reducible rfl); rotate_left; (simp only [Act.put, List.setIfInBounds_toArray, List.set_cons_zero, List.set_cons_succ, i64_w, i32_w]; rfl)
              refine pure_ (i := 5) (N := some 71) (v := ?_) (a' := ?_) #[false, true, true, true, true, true, false, false, false] rfl rfl (any_of HT_.out (by kernel_rfl)) (fun _ _ _ h => h) (Or.inl ⟨by rfl, ?_⟩) ?_ ?_
              rotate_left; (intro w'; go_simp; with_reducible rfl); rotate_left; (simp only [Act.put, List.setIfInBounds_toArray, List.set_cons_zero, List.set_cons_succ, i64_w, i32_w]; rfl)
              refine pure_ (i := 6) (N := some 72) (v := ?_) (a' := ?_) #[false, true, true, true, true, true, true, false, false] rfl rfl (any_of HT_.out (by kernel_rfl)) (fun _ _ _ h => h) (Or.inl ⟨by rfl, ?_⟩) ?_ ?_
              rotate_left; (intro w'; go_simp; with_reducible rfl); rotate_left; (simp only [Act.put, List.setIfInBounds_toArray, List.set_cons_zero, List.set_cons_succ, i64_w, i32_w]; rfl)
              refine take_ (i := 0) (N := some 66) (v := ?_) (a' := ?_) #[true, true, true, true, true, true, true, false, false] rfl rfl (take_ofW HT_.out HW_.out (by kernel_rfl)) (fun _ _ _ h => h) (Or.inl ⟨by rfl, ?_⟩) hHeld ?_ ?_
              rotate_left; (rintro w' ⟨s0, s1, s2, s3⟩; go_simp; with_reducible rfl); rotate_left; (simp only [Act.put, List.setIfInBounds_toArray, List.set_cons_zero, List.set_cons_succ, i64_w, i32_w]; rfl)
              refine one_ (i := 7) (N := some 73) #[true, true, true, true, true, true, true, true, false] rfl rfl (one_of HT_.out (by kernel_rfl)) (by decide) (fun K hK => ?_)
              refine goes_ Try.func11 (by kernel_rfl) rfl #[.agg #[.slice Ao14 t291.length co14, .int .i64 t294, .int .i64 t295, .int .i64 t296], .slice A62 y318.length c62, .slice Ao22 t301.length co22] (by rfl) rfl rfl (by (try simp only [List.map_toArray, List.map_cons, List.map_nil]); first | done | rfl | (simp only [List.length_drop, List.length_take]; rfl)) ?_
              with_reducible refine (agg_Rows.calls k3 _ _ t291 t294 t295 t296 _ _ y318 _ _ t301 t323 _ ?side1 ?side2 ?side3 ?side4 ?side5 ?side6 A46.out).mono ?_
              (case side1 => repeat (first | exact (Kd.R_reads' HO_298000.out).2.2 | (with_reducible refine Kd.C_alloc ?_ _) | (with_reducible refine Kd.C_drewN ?_ _) | (with_reducible refine Kd.C_drew ?_)))
              (case side2 => exact (Kd.R_reads' HO_298000.out).2.1)
              (case side3 => repeat (first | exact (Kd.V_reads' HO322.out).2.2 | (with_reducible refine Kd.C_alloc ?_ _) | (with_reducible refine Kd.C_drewN ?_ _) | (with_reducible refine Kd.C_drew ?_)))
              (case side4 => exact (Kd.V_reads' HO322.out).2.1)
              (case side5 => repeat (first | exact (Kd.N_reads' HO_10.out).2.2 | (with_reducible refine Kd.C_alloc ?_ _) | (with_reducible refine Kd.C_drewN ?_ _) | (with_reducible refine Kd.C_drew ?_)))
              (case side6 => exact (Kd.N_reads' HO_10.out).2.1)
              rintro e w63 ⟨v324, rfl, ho0, hb⟩
              refine ⟨_, rfl, ?_⟩
              have n0_ := Aside0.mk (Kd.R_below (by (with_reducible repeat (first | apply Kd.R_alloc | apply Kd.R_drewN | apply Kd.R_drew)); exact HO_9.out) hb)
              have n1_ := Aside0.mk (Kd.N_elder' (by (with_reducible repeat (first | apply Kd.N_alloc | apply Kd.N_drewN | apply Kd.N_drew)); exact HO_10.out) (Kd.R_base ho0) hb)
              have n2_ := Aside0.mk (Kd.R_elder' (by (with_reducible repeat (first | apply Kd.R_alloc | apply Kd.R_drewN | apply Kd.R_drew)); exact HO_11.out) (Kd.R_base ho0) hb)
              have n3_ := Aside0.mk (Kd.R_below (by (with_reducible repeat (first | apply Kd.R_alloc | apply Kd.R_drewN | apply Kd.R_drew)); exact HO_298000.out) hb)
              have n4_ := Aside0.mk (Kd.V_elder' (by (with_reducible repeat (first | apply Kd.V_alloc | apply Kd.V_drewN | apply Kd.V_drew)); exact HO322.out) (Kd.R_base ho0) hb)
              have n5_ := Aside0.mk (Kd.R_lower (Kd.R_new' ho0 (Kd.R_lt (by (with_reducible repeat (first | apply Kd.R_alloc | apply Kd.R_drewN | apply Kd.R_drew)); exact HO_11.out))) (below_size (by repeat (first | (with_reducible first | exact HB.out | apply below_alloc | apply pw_below_drewN | apply below_drew1 | refine below_set ?_ GE289.out | refine below_set ?_ GE297.out) | exact HB.out))))
              have n6_ := Aside0.mk (blk_below (g := gb289) (o := .cells #[.int .u8 a0_0, .int .u8 a0_1, .int .u8 a0_2, .int .u8 a0_3, .int .u8 a0_4, .int .u8 a0_5, .int .u8 a0_6, .int .u8 a0_7, .int .u8 a0_8, .int .u8 a0_9, .int .u8 a0_10, .int .u8 a0_11] 24 (0, 0)) (by (with_reducible repeat (first | refine blk_drewN ?_ _ | refine blk_drew ?_ | refine blk_alloc ?_ _)); exact BK289.out) hb)
              have n7_ := Aside0.mk (blk_below (g := gb297) (o := .cells #[.slice Ao14 t291.length co14, .int .i64 t294, .int .i64 t295, .int .i64 t296] 29 (0, 0)) (by (with_reducible repeat (first | refine blk_drewN ?_ _ | refine blk_drew ?_ | refine blk_alloc ?_ _)); exact BK297.out) hb)
              have n8_ := Aside0.mk (below_step (by repeat (first | (with_reducible first | exact HB.out | apply below_alloc | apply pw_below_drewN | apply below_drew1 | refine below_set ?_ GE289.out | refine below_set ?_ GE297.out) | exact HB.out)) hb)
              clear HO_9
              clear HO_10
              clear HO_11
              clear HO_298000
              clear HO322
              clear BK289
              clear BK297
              clear HB
              have HO_9 := n0_
              have HO_10 := n1_
              have HO_11 := n2_
              have HO_298000 := n3_
              have HO322 := n4_
              have HO325 := n5_
              have BK289 := n6_
              have BK297 := n7_
              have HB := n8_
              clear n0_ n1_ n2_ n3_ n4_ n5_ n6_ n7_ n8_
              (try clear hb)
              (try clear hb2)
              (try clear hk)
              (try clear hi)
              (try clear ho0)
              refine hK.out _ _ ⟨(blk_cell BK297.out 0).trans rfl, (blk_cell BK297.out 1).trans rfl, (blk_cell BK297.out 2).trans rfl, (blk_cell BK297.out 3).trans rfl⟩ (fun hHeld => ?_)
              clear hK K
              refine norm_ (a' := ?_) ?_ ?_
              rotate_left
              ·show Act.put _ (some 73) _ = _
               simp only [Act.put, List.setIfInBounds_toArray, List.set_cons_zero, List.set_cons_succ, i64_w, i32_w]
               rfl
              refine pure_ (i := 8) (N := some 16) (v := ?_) (a' := ?_) #[true, true, true, true, true, true, true, true, true] rfl rfl (any_of HT_.out (by kernel_rfl)) (fun _ _ _ h => h) (Or.inl ⟨by rfl, ?_⟩) ?_ ?_
              rotate_left; (intro w'; go_simp; with_reducible rfl); rotate_left; (simp only [Act.put, List.setIfInBounds_toArray, List.set_cons_zero, List.set_cons_succ, i64_w, i32_w]; rfl)
              refine done_ (done_of HT_.out (by kernel_rfl)) ?_
              (try clear hHeld)
              try go_wp2
              have n0_ := Aside0.mk (Kd.R_drew HO_9.out)
              have n1_ := Aside0.mk (Kd.N_drew HO_10.out)
              have n2_ := Aside0.mk (Kd.R_drew HO_11.out)
              have n3_ := Aside0.mk (Kd.R_drew HO_298000.out)
              have n4_ := Aside0.mk (Kd.V_drew HO322.out)
              have n5_ := Aside0.mk (Kd.R_drew HO325.out)
              have n6_ := Aside0.mk (blk_drew BK289.out)
              have n7_ := Aside0.mk (blk_drew BK297.out)
              have n8_ := Aside0.mk (below_drew1 HB.out)
              clear HO_9
              clear HO_10
              clear HO_11
              clear HO_298000
              clear HO322
              clear HO325
              clear BK289
              clear BK297
              clear HB
              have HO_9 := n0_
              have HO_10 := n1_
              have HO_11 := n2_
              have HO_298000 := n3_
              have HO322 := n4_
              have HO325 := n5_
              have BK289 := n6_
              have BK297 := n7_
              have HB := n8_
              clear n0_ n1_ n2_ n3_ n4_ n5_ n6_ n7_ n8_
              obtain ⟨Ao65, co65, eo65⟩ := Kd.R_slice HO325.out
              (first | subst eo65 | (injection eo65 with f1_ f2_ f3_; have f4_ := f1_.symm; have f5_ := f3_.symm; clear f1_ f2_ f3_; subst f4_; subst f5_))
              refine start_ (n := 13) (S := fun w' => True) (ds := []) #[false, false, false, false, false, false, false, false, false, false, false, false, false] (by kernel_rfl) rfl rfl trivial (fun hHeld => ?_); refine with_tabW thresherlaw20_AggOrder.tab18 thresherlaw20_AggOrder.bits18 (fun HT_ HW_ => ?_)
              generalize w63.drew = w64 at HO_9 HO_10 HO_11 HO_298000 HO322 HO325 BK289 BK297 HB hHeld ⊢
              refine pure_ (i := 0) (N := some 74) (v := ?_) (a' := ?_) #[true, false, false, false, false, false, false, false, false, false, false, false, false] rfl rfl (any_of HT_.out (by kernel_rfl)) (fun _ _ _ h => h) (Or.inl ⟨by rfl, ?_⟩) ?_ ?_
              rotate_left; (intro w'; go_simp; with_reducible rfl); rotate_left; (simp only [Act.put, List.setIfInBounds_toArray, List.set_cons_zero, List.set_cons_succ, i64_w, i32_w]; rfl)
              refine pure_ (i := 1) (N := some 75) (v := ?_) (a' := ?_) #[true, true, false, false, false, false, false, false, false, false, false, false, false] rfl rfl (any_of HT_.out (by kernel_rfl)) (fun _ _ _ h => h) (Or.inl ⟨by rfl, ?_⟩) ?_ ?_
              rotate_left; (intro w'; go_simp; with_reducible rfl); rotate_left; (simp only [Act.put, List.setIfInBounds_toArray, List.set_cons_zero, List.set_cons_succ, i64_w, i32_w]; rfl)
              refine pure_ (i := 2) (N := some 76) (v := ?_) (a' := ?_) #[true, true, true, false, false, false, false, false, false, false, false, false, false] rfl rfl (any_of HT_.out (by kernel_rfl)) (fun _ _ _ h => h) (Or.inl ⟨by rfl, ?_⟩) ?_ ?_
              rotate_left; (intro w'; go_simp; with_reducible rfl); rotate_left; (simp only [Act.put, List.setIfInBounds_toArray, List.set_cons_zero, List.set_cons_succ, i64_w, i32_w]; rfl)
              refine pure_ (i := 3) (N := some 77) (v := ?_) (a' := ?_) #[true, true, true, true, false, false, false, false, false, false, false, false, false] rfl rfl (any_of HT_.out (by kernel_rfl)) (fun _ _ _ h => h) (Or.inl ⟨by rfl, ?_⟩) ?_ ?_
              rotate_left; (intro w'; go_simp; with_reducible rfl); rotate_left; (simp only [Act.put, List.setIfInBounds_toArray, List.set_cons_zero, List.set_cons_succ, i64_w, i32_w]; rfl)
              refine pure_ (i := 4) (N := some 78) (v := undef) (a' := ?_) #[true, true, true, true, true, false, false, false, false, false, false, false, false] rfl rfl (any_of HT_.out (by kernel_rfl)) (fun _ _ _ h => h) (Or.inr ⟨by rfl, rfl⟩) ?_ ?_
              rotate_left
              ·simp only [Act.put, List.setIfInBounds_toArray, List.set_cons_zero, List.set_cons_succ, i64_w, i32_w]
               rfl
              refine pure_ (i := 5) (N := some 79) (v := undef) (a' := ?_) #[true, true, true, true, true, true, false, false, false, false, false, false, false] rfl rfl (any_of HT_.out (by kernel_rfl)) (fun _ _ _ h => h) (Or.inr ⟨by rfl, rfl⟩) ?_ ?_
              rotate_left
              ·simp only [Act.put, List.setIfInBounds_toArray, List.set_cons_zero, List.set_cons_succ, i64_w, i32_w]
               rfl
              refine pure_ (i := 6) (N := some 80) (v := undef) (a' := ?_) #[true, true, true, true, true, true, true, false, false, false, false, false, false] rfl rfl (any_of HT_.out (by kernel_rfl)) (fun _ _ _ h => h) (Or.inr ⟨by rfl, rfl⟩) ?_ ?_
              rotate_left
              ·simp only [Act.put, List.setIfInBounds_toArray, List.set_cons_zero, List.set_cons_succ, i64_w, i32_w]
               rfl
              refine pure_ (i := 7) (N := some 81) (v := undef) (a' := ?_) #[true, true, true, true, true, true, true, true, false, false, false, false, false] rfl rfl (any_of HT_.out (by kernel_rfl)) (fun _ _ _ h => h) (Or.inr ⟨by rfl, rfl⟩) ?_ ?_
              rotate_left
              ·simp only [Act.put, List.setIfInBounds_toArray, List.set_cons_zero, List.set_cons_succ, i64_w, i32_w]
               rfl
              refine pure_ (i := 8) (N := some 82) (v := undef) (a' := ?_) #[true, true, true, true, true, true, true, true, true, false, false, false, false] rfl rfl (any_of HT_.out (by kernel_rfl)) (fun _ _ _ h => h) (Or.inr ⟨by rfl, rfl⟩) ?_ ?_
              rotate_left
              ·simp only [Act.put, List.setIfInBounds_toArray, List.set_cons_zero, List.set_cons_succ, i64_w, i32_w]
               rfl
              refine pure_ (i := 9) (N := some 83) (v := undef) (a' := ?_) #[true, true, true, true, true, true, true, true, true, true, false, false, false] rfl rfl (any_of HT_.out (by kernel_rfl)) (fun _ _ _ h => h) (Or.inr ⟨by rfl, rfl⟩) ?_ ?_
              rotate_left
              ·simp only [Act.put, List.setIfInBounds_toArray, List.set_cons_zero, List.set_cons_succ, i64_w, i32_w]
               rfl
              refine pure_ (i := 10) (N := some 84) (v := undef) (a' := ?_) #[true, true, true, true, true, true, true, true, true, true, true, false, false] rfl rfl (any_of HT_.out (by kernel_rfl)) (fun _ _ _ h => h) (Or.inr ⟨by rfl, rfl⟩) ?_ ?_
              rotate_left
              ·simp only [Act.put, List.setIfInBounds_toArray, List.set_cons_zero, List.set_cons_succ, i64_w, i32_w]
               rfl
              refine pure_ (i := 11) (N := some 85) (v := undef) (a' := ?_) #[true, true, true, true, true, true, true, true, true, true, true, true, false] rfl rfl (any_of HT_.out (by kernel_rfl)) (fun _ _ _ h => h) (Or.inr ⟨by rfl, rfl⟩) ?_ ?_
              rotate_left
              ·simp only [Act.put, List.setIfInBounds_toArray, List.set_cons_zero, List.set_cons_succ, i64_w, i32_w]
               rfl
              refine pure_ (i := 12) (N := some 86) (v := ?_) (a' := ?_) #[true, true, true, true, true, true, true, true, true, true, true, true, true] rfl rfl (any_of HT_.out (by kernel_rfl)) (fun _ _ _ h => h) (Or.inl ⟨by rfl, ?_⟩) ?_ ?_
              rotate_left; (intro w'; go_simp; with_reducible rfl); rotate_left; (simp only [Act.put, List.setIfInBounds_toArray, List.set_cons_zero, List.set_cons_succ, i64_w, i32_w]; rfl)
              refine done_ (done_of HT_.out (by kernel_rfl)) ?_
              (try clear hHeld)
              try go_wp2
              go_ret
              exact ⟨by first | rfl | (simp [errW_none, errW_some] <;> rfl) | (simp [*, errW_none, errW_some] <;> rfl), by repeat (first | (with_reducible first | exact HB.out | apply below_alloc | apply pw_below_drewN | apply below_drew1 | refine below_set ?_ GE289.out | refine below_set ?_ GE297.out) | exact HB.out)⟩
            ·rw [if_neg c45] at H
             exact absurd H (by simp)
           ·rw [if_neg c44] at H
            exact absurd H (by simp)
          ·rw [if_neg c43] at H
           exact absurd H (by simp)
         ·rw [if_neg c42] at H
          have c42b0 : decide (x15_3 < (t298.length : Int)) = false := decide_eq_false c42
          clear c42
          obtain rfl := Option.some.inj H
          go_wp2
          go_ret
          exact ⟨by first | rfl | (simp [errW_none, errW_some] <;> rfl) | (simp [*, errW_none, errW_some] <;> rfl), by repeat (first | (with_reducible first | exact HB.out | apply below_alloc | apply pw_below_drewN | apply below_drew1 | refine below_set ?_ GE289.out | refine below_set ?_ GE297.out) | exact HB.out)⟩

end Go.Proofs.Ytapaldcdoahfeaa.P

