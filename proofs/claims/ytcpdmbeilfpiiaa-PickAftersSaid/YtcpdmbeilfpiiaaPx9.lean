-- Written by wip/tools/myprint.py over the kit's print (a program's print; Lean checks it).
import Derived.Test.YtcpdmbeilfpiiaaPx0
import Derived.Test.YtcpdmbeilfpiiaaPx1
import Derived.Test.YtcpdmbeilfpiiaaPx5
namespace Go.Proofs.Ytcpdmbeilfpiiaa.P
open Go.RowKit Go.Proofs.YtcpdmbeilfpiiaaW.PrintWords Go.Proofs.YtcpdmbeilfpiiaaW.PrintLast Go.Proofs.YtcpdmbeilfpiiaaW.PrintMore
attribute [local go_sem] max2_int min2_int max_two min_two max_three min_three max_four min_four   -- for this text's walks alone
set_option linter.unusedVariables false
set_option linter.unusedSimpArgs false

/-! ### thresherlaw15_PickAfters: function 7 -/
def thresherlaw15_PickAfters.j0 : Nat → List Int → Bool → List Int → Int → Int → List Int → Bool → Option (Bool)
  | 0, _, _, _, _, _, _, _ => none
  | k + 1, x0, x7, x8, x10, x11, x12, x75 => if x75 = true then (some false) else (if 0 ≤ x10 then (if x10 ≤ (x12.length : Int) then (if x10 ≤ (x0.length : Int) then ((thresherref15_Same.f k (x12.take (x10 : Int).toNat) (x0.take (x10 : Int).toNat)).bind fun t274 => (if 0 ≤ (wrap64 (x10 + 1)) then (if (wrap64 (x10 + 1)) ≤ (x12.length : Int) then (if 0 ≤ x11 then (if x11 ≤ (x0.length : Int) then ((thresherref15_Same.f k (x12.drop ((wrap64 (x10 + 1)) : Int).toNat) (x0.drop (x11 : Int).toNat)).bind fun t284 => (if x10 < (x12.length : Int) then ((thresherref15_Same.f k x0 x8).bind fun t286 => (if x7 = true then (if t274 = true then (if t284 = true then (some t286) else (some false)) else (some false)) else (some false))) else (none))) else (none)) else (none)) else (none)) else (none))) else (none)) else (none)) else (none))
def thresherlaw15_PickAfters.f (k : Nat) (l0 : List Int) (a1_0 : Int) (a1_1 : Int) (a2 : Int) : Option (Bool) := (thresherlaw15_shown.f).bind fun t247 => ((thresherlaw15_few.f l0).bind fun t248 => ((some (([] : List Int) : List Int)).bind fun y251 => (if y251.length + t248.length < 17592186044416 then ((some (y251 ++ t248 : List Int)).bind fun y254 => (if (t248.length : Int) < 2 then ((pick_After.f k t248 0 2 a2).bind fun t257 => ((thresherref15_Same.f k t257 t248).bind fun t260 => (if t247 = true then (some t260) else (some false)))) else (if (wrap64 ((t248.length : Int) - 1)) = 0 then (none) else (if (wrap64 ((wrap64 ((t248.length : Int) - (Int.tmod (wrap64 (a1_0)) (wrap64 ((t248.length : Int) - 1))))) - 1)) = 0 then (none) else ((pick_After.f k t248 (Int.tmod (wrap64 (a1_0)) (wrap64 ((t248.length : Int) - 1))) (wrap64 ((wrap64 ((Int.tmod (wrap64 (a1_0)) (wrap64 ((t248.length : Int) - 1))) + 2)) + (Int.tmod (wrap64 (a1_1)) (wrap64 ((wrap64 ((t248.length : Int) - (Int.tmod (wrap64 (a1_0)) (wrap64 ((t248.length : Int) - 1))))) - 1))))) a2).bind fun t261 => (if (t261.length : Int) = (wrap64 ((wrap64 ((t248.length : Int) - (wrap64 ((wrap64 ((wrap64 ((Int.tmod (wrap64 (a1_0)) (wrap64 ((t248.length : Int) - 1))) + 2)) + (Int.tmod (wrap64 (a1_1)) (wrap64 ((wrap64 ((t248.length : Int) - (Int.tmod (wrap64 (a1_0)) (wrap64 ((t248.length : Int) - 1))))) - 1))))) - (Int.tmod (wrap64 (a1_0)) (wrap64 ((t248.length : Int) - 1))))))) + 1)) then (if 0 ≤ (Int.tmod (wrap64 (a1_0)) (wrap64 ((t248.length : Int) - 1))) then (if (Int.tmod (wrap64 (a1_0)) (wrap64 ((t248.length : Int) - 1))) < (t261.length : Int) then (thresherlaw15_PickAfters.j0 k t248 t247 y254 (Int.tmod (wrap64 (a1_0)) (wrap64 ((t248.length : Int) - 1))) (wrap64 ((wrap64 ((Int.tmod (wrap64 (a1_0)) (wrap64 ((t248.length : Int) - 1))) + 2)) + (Int.tmod (wrap64 (a1_1)) (wrap64 ((wrap64 ((t248.length : Int) - (Int.tmod (wrap64 (a1_0)) (wrap64 ((t248.length : Int) - 1))))) - 1))))) t261 ((rd t261 (Int.tmod (wrap64 (a1_0)) (wrap64 ((t248.length : Int) - 1)))) != a2)) else (none)) else (none)) else (thresherlaw15_PickAfters.j0 k t248 t247 y254 (Int.tmod (wrap64 (a1_0)) (wrap64 ((t248.length : Int) - 1))) (wrap64 ((wrap64 ((Int.tmod (wrap64 (a1_0)) (wrap64 ((t248.length : Int) - 1))) + 2)) + (Int.tmod (wrap64 (a1_1)) (wrap64 ((wrap64 ((t248.length : Int) - (Int.tmod (wrap64 (a1_0)) (wrap64 ((t248.length : Int) - 1))))) - 1))))) t261 true))))))) else (none))))
theorem thresherlaw15_PickAfters.mono_l : ∀ k, (∀ y0 y1 y2 y3 y4 y5 y6, LeO (thresherlaw15_PickAfters.j0 k y0 y1 y2 y3 y4 y5 y6) (thresherlaw15_PickAfters.j0 (k + 1) y0 y1 y2 y3 y4 y5 y6))
  | 0 => fun _ _ _ _ _ _ _ r h => by simp [thresherlaw15_PickAfters.j0] at h
  | k + 1 => by
    have ih0 := thresherlaw15_PickAfters.mono_l k
    · intro y0 y1 y2 y3 y4 y5 y6
      unfold thresherlaw15_PickAfters.j0
      repeat' first
      | (with_reducible exact ih0 _ _ _ _ _ _ _)
      | (with_reducible exact pick_After.mono _ _ _ _ _)
      | (with_reducible exact thresherref15_Same.mono _ _ _)
      | (with_reducible exact LeO.refl _)
      | (with_reducible exact LeO.none _)
      | (with_reducible refine LeO.ite ?_ ?_)
      | (with_reducible refine LeO.bind ?_ (fun _ => ?_))
      | exact ih0 _ _ _ _ _ _ _
      | exact pick_After.mono _ _ _ _ _
      | exact thresherref15_Same.mono _ _ _
      | exact LeO.none _
      | refine LeO.ite ?_ ?_
      | refine LeO.bind ?_ (fun _ => ?_)
theorem thresherlaw15_PickAfters.mono : ∀ a0 a1 a2 a3 k, LeO (thresherlaw15_PickAfters.f k a0 a1 a2 a3) (thresherlaw15_PickAfters.f (k + 1) a0 a1 a2 a3) := by
  intro a0 a1 a2 a3 k
  have ih0 := thresherlaw15_PickAfters.mono_l k
  unfold thresherlaw15_PickAfters.f
  repeat' first
      | (with_reducible exact ih0 _ _ _ _ _ _ _)
      | (with_reducible exact pick_After.mono _ _ _ _ _)
      | (with_reducible exact thresherref15_Same.mono _ _ _)
      | (with_reducible exact LeO.refl _)
      | (with_reducible exact LeO.none _)
      | (with_reducible refine LeO.ite ?_ ?_)
      | (with_reducible refine LeO.bind ?_ (fun _ => ?_))
      | exact ih0 _ _ _ _ _ _ _
      | exact pick_After.mono _ _ _ _ _
      | exact thresherref15_Same.mono _ _ _
      | exact LeO.none _
      | refine LeO.ite ?_ ?_
      | refine LeO.bind ?_ (fun _ => ?_)
def thresherlaw15_PickAfters.T12 : Bool × List (List Nat × List Nat) := (true, [([], []), ([], []), ([0, 1], [0, 1]), ([], []), ([], []), ([3, 4], [3, 4]), ([2, 5], [2, 5]), ([6, 6, 0, 1, 2, 3, 4, 5, 6], [6])])
def thresherlaw15_PickAfters.B12 : List Nat := [0, 0, 3, 0, 0, 24, 63, 127]
theorem thresherlaw15_PickAfters.tab12 : rtab .any (opsOf Try.f7 12) = thresherlaw15_PickAfters.T12 := by kernel_rfl
theorem thresherlaw15_PickAfters.bits12 : waitsOk thresherlaw15_PickAfters.T12.2 thresherlaw15_PickAfters.B12 = true := by kernel_rfl
def thresherlaw15_PickAfters.T13 : Bool × List (List Nat × List Nat) := (true, [([], []), ([], []), ([1], [1]), ([0, 2], [0, 2]), ([], []), ([], []), ([4, 5], [4, 5]), ([3, 6], [3, 6]), ([7, 7, 0, 1, 2, 3, 4, 5, 6, 7], [7])])
def thresherlaw15_PickAfters.B13 : List Nat := [0, 0, 2, 7, 0, 0, 48, 127, 255]
theorem thresherlaw15_PickAfters.tab13 : rtab .any (opsOf Try.f7 13) = thresherlaw15_PickAfters.T13 := by kernel_rfl
theorem thresherlaw15_PickAfters.bits13 : waitsOk thresherlaw15_PickAfters.T13.2 thresherlaw15_PickAfters.B13 = true := by kernel_rfl
set_option maxHeartbeats 8000000 in
set_option maxRecDepth 100000 in
theorem thresherlaw15_PickAfters.calls (k : Nat) (A0 : Option Addr) (c0 : Nat) (l0 : List Int) (a1_0 : Int) (a1_1 : Int) (a2 : Int) (r : Bool) (w : World) (hr0 : Kd.C (Kd.int .i64) w A0 l0.length l0) (hc0 : l0.length ≤ c0) (h : thresherlaw15_PickAfters.f k l0 a1_0 a1_1 a2 = some r) :
    Calls Try.prog 7 #[.slice A0 l0.length c0, .agg #[.int .u8 a1_0, .int .u8 a1_1], .int .i64 a2] w fun e w' => e = .returned (.bool r) ∧ Below w.heap.size w w' := by
  have hu34 := Try.underlying34
  have HR0 := Aside0.mk hr0
  have HC0 := Aside0.mk hc0
  clear hr0 hc0
  have HB := Aside0.mk (Below.refl w.heap.size w)
  have H : ((thresherlaw15_shown.f).bind fun t247 => ((thresherlaw15_few.f l0).bind fun t248 => ((some (([] : List Int) : List Int)).bind fun y251 => (if y251.length + t248.length < 17592186044416 then ((some (y251 ++ t248 : List Int)).bind fun y254 => (if (t248.length : Int) < 2 then ((pick_After.f k t248 0 2 a2).bind fun t257 => ((thresherref15_Same.f k t257 t248).bind fun t260 => (if t247 = true then (some t260) else (some false)))) else (if (wrap64 ((t248.length : Int) - 1)) = 0 then (none) else (if (wrap64 ((wrap64 ((t248.length : Int) - (Int.tmod (wrap64 (a1_0)) (wrap64 ((t248.length : Int) - 1))))) - 1)) = 0 then (none) else ((pick_After.f k t248 (Int.tmod (wrap64 (a1_0)) (wrap64 ((t248.length : Int) - 1))) (wrap64 ((wrap64 ((Int.tmod (wrap64 (a1_0)) (wrap64 ((t248.length : Int) - 1))) + 2)) + (Int.tmod (wrap64 (a1_1)) (wrap64 ((wrap64 ((t248.length : Int) - (Int.tmod (wrap64 (a1_0)) (wrap64 ((t248.length : Int) - 1))))) - 1))))) a2).bind fun t261 => (if (t261.length : Int) = (wrap64 ((wrap64 ((t248.length : Int) - (wrap64 ((wrap64 ((wrap64 ((Int.tmod (wrap64 (a1_0)) (wrap64 ((t248.length : Int) - 1))) + 2)) + (Int.tmod (wrap64 (a1_1)) (wrap64 ((wrap64 ((t248.length : Int) - (Int.tmod (wrap64 (a1_0)) (wrap64 ((t248.length : Int) - 1))))) - 1))))) - (Int.tmod (wrap64 (a1_0)) (wrap64 ((t248.length : Int) - 1))))))) + 1)) then (if 0 ≤ (Int.tmod (wrap64 (a1_0)) (wrap64 ((t248.length : Int) - 1))) then (if (Int.tmod (wrap64 (a1_0)) (wrap64 ((t248.length : Int) - 1))) < (t261.length : Int) then (thresherlaw15_PickAfters.j0 k t248 t247 y254 (Int.tmod (wrap64 (a1_0)) (wrap64 ((t248.length : Int) - 1))) (wrap64 ((wrap64 ((Int.tmod (wrap64 (a1_0)) (wrap64 ((t248.length : Int) - 1))) + 2)) + (Int.tmod (wrap64 (a1_1)) (wrap64 ((wrap64 ((t248.length : Int) - (Int.tmod (wrap64 (a1_0)) (wrap64 ((t248.length : Int) - 1))))) - 1))))) t261 ((rd t261 (Int.tmod (wrap64 (a1_0)) (wrap64 ((t248.length : Int) - 1)))) != a2)) else (none)) else (none)) else (thresherlaw15_PickAfters.j0 k t248 t247 y254 (Int.tmod (wrap64 (a1_0)) (wrap64 ((t248.length : Int) - 1))) (wrap64 ((wrap64 ((Int.tmod (wrap64 (a1_0)) (wrap64 ((t248.length : Int) - 1))) + 2)) + (Int.tmod (wrap64 (a1_1)) (wrap64 ((wrap64 ((t248.length : Int) - (Int.tmod (wrap64 (a1_0)) (wrap64 ((t248.length : Int) - 1))))) - 1))))) t261 true))))))) else (none))))) = some r := h
  clear h
  replace H := Option.bind_eq_some_iff.mp H
  obtain ⟨t247, A40, H⟩ := H
  replace H : ((thresherlaw15_few.f l0).bind fun t248 => ((some (([] : List Int) : List Int)).bind fun y251 => (if y251.length + t248.length < 17592186044416 then ((some (y251 ++ t248 : List Int)).bind fun y254 => (if (t248.length : Int) < 2 then ((pick_After.f k t248 0 2 a2).bind fun t257 => ((thresherref15_Same.f k t257 t248).bind fun t260 => (if t247 = true then (some t260) else (some false)))) else (if (wrap64 ((t248.length : Int) - 1)) = 0 then (none) else (if (wrap64 ((wrap64 ((t248.length : Int) - (Int.tmod (wrap64 (a1_0)) (wrap64 ((t248.length : Int) - 1))))) - 1)) = 0 then (none) else ((pick_After.f k t248 (Int.tmod (wrap64 (a1_0)) (wrap64 ((t248.length : Int) - 1))) (wrap64 ((wrap64 ((Int.tmod (wrap64 (a1_0)) (wrap64 ((t248.length : Int) - 1))) + 2)) + (Int.tmod (wrap64 (a1_1)) (wrap64 ((wrap64 ((t248.length : Int) - (Int.tmod (wrap64 (a1_0)) (wrap64 ((t248.length : Int) - 1))))) - 1))))) a2).bind fun t261 => (if (t261.length : Int) = (wrap64 ((wrap64 ((t248.length : Int) - (wrap64 ((wrap64 ((wrap64 ((Int.tmod (wrap64 (a1_0)) (wrap64 ((t248.length : Int) - 1))) + 2)) + (Int.tmod (wrap64 (a1_1)) (wrap64 ((wrap64 ((t248.length : Int) - (Int.tmod (wrap64 (a1_0)) (wrap64 ((t248.length : Int) - 1))))) - 1))))) - (Int.tmod (wrap64 (a1_0)) (wrap64 ((t248.length : Int) - 1))))))) + 1)) then (if 0 ≤ (Int.tmod (wrap64 (a1_0)) (wrap64 ((t248.length : Int) - 1))) then (if (Int.tmod (wrap64 (a1_0)) (wrap64 ((t248.length : Int) - 1))) < (t261.length : Int) then (thresherlaw15_PickAfters.j0 k t248 t247 y254 (Int.tmod (wrap64 (a1_0)) (wrap64 ((t248.length : Int) - 1))) (wrap64 ((wrap64 ((Int.tmod (wrap64 (a1_0)) (wrap64 ((t248.length : Int) - 1))) + 2)) + (Int.tmod (wrap64 (a1_1)) (wrap64 ((wrap64 ((t248.length : Int) - (Int.tmod (wrap64 (a1_0)) (wrap64 ((t248.length : Int) - 1))))) - 1))))) t261 ((rd t261 (Int.tmod (wrap64 (a1_0)) (wrap64 ((t248.length : Int) - 1)))) != a2)) else (none)) else (none)) else (thresherlaw15_PickAfters.j0 k t248 t247 y254 (Int.tmod (wrap64 (a1_0)) (wrap64 ((t248.length : Int) - 1))) (wrap64 ((wrap64 ((Int.tmod (wrap64 (a1_0)) (wrap64 ((t248.length : Int) - 1))) + 2)) + (Int.tmod (wrap64 (a1_1)) (wrap64 ((wrap64 ((t248.length : Int) - (Int.tmod (wrap64 (a1_0)) (wrap64 ((t248.length : Int) - 1))))) - 1))))) t261 true))))))) else (none)))) = some r := H
  have A4 := Aside0.mk A40
  clear A40
  replace H := Option.bind_eq_some_iff.mp H
  obtain ⟨t248, A50, H⟩ := H
  replace H : ((some (([] : List Int) : List Int)).bind fun y251 => (if y251.length + t248.length < 17592186044416 then ((some (y251 ++ t248 : List Int)).bind fun y254 => (if (t248.length : Int) < 2 then ((pick_After.f k t248 0 2 a2).bind fun t257 => ((thresherref15_Same.f k t257 t248).bind fun t260 => (if t247 = true then (some t260) else (some false)))) else (if (wrap64 ((t248.length : Int) - 1)) = 0 then (none) else (if (wrap64 ((wrap64 ((t248.length : Int) - (Int.tmod (wrap64 (a1_0)) (wrap64 ((t248.length : Int) - 1))))) - 1)) = 0 then (none) else ((pick_After.f k t248 (Int.tmod (wrap64 (a1_0)) (wrap64 ((t248.length : Int) - 1))) (wrap64 ((wrap64 ((Int.tmod (wrap64 (a1_0)) (wrap64 ((t248.length : Int) - 1))) + 2)) + (Int.tmod (wrap64 (a1_1)) (wrap64 ((wrap64 ((t248.length : Int) - (Int.tmod (wrap64 (a1_0)) (wrap64 ((t248.length : Int) - 1))))) - 1))))) a2).bind fun t261 => (if (t261.length : Int) = (wrap64 ((wrap64 ((t248.length : Int) - (wrap64 ((wrap64 ((wrap64 ((Int.tmod (wrap64 (a1_0)) (wrap64 ((t248.length : Int) - 1))) + 2)) + (Int.tmod (wrap64 (a1_1)) (wrap64 ((wrap64 ((t248.length : Int) - (Int.tmod (wrap64 (a1_0)) (wrap64 ((t248.length : Int) - 1))))) - 1))))) - (Int.tmod (wrap64 (a1_0)) (wrap64 ((t248.length : Int) - 1))))))) + 1)) then (if 0 ≤ (Int.tmod (wrap64 (a1_0)) (wrap64 ((t248.length : Int) - 1))) then (if (Int.tmod (wrap64 (a1_0)) (wrap64 ((t248.length : Int) - 1))) < (t261.length : Int) then (thresherlaw15_PickAfters.j0 k t248 t247 y254 (Int.tmod (wrap64 (a1_0)) (wrap64 ((t248.length : Int) - 1))) (wrap64 ((wrap64 ((Int.tmod (wrap64 (a1_0)) (wrap64 ((t248.length : Int) - 1))) + 2)) + (Int.tmod (wrap64 (a1_1)) (wrap64 ((wrap64 ((t248.length : Int) - (Int.tmod (wrap64 (a1_0)) (wrap64 ((t248.length : Int) - 1))))) - 1))))) t261 ((rd t261 (Int.tmod (wrap64 (a1_0)) (wrap64 ((t248.length : Int) - 1)))) != a2)) else (none)) else (none)) else (thresherlaw15_PickAfters.j0 k t248 t247 y254 (Int.tmod (wrap64 (a1_0)) (wrap64 ((t248.length : Int) - 1))) (wrap64 ((wrap64 ((Int.tmod (wrap64 (a1_0)) (wrap64 ((t248.length : Int) - 1))) + 2)) + (Int.tmod (wrap64 (a1_1)) (wrap64 ((wrap64 ((t248.length : Int) - (Int.tmod (wrap64 (a1_0)) (wrap64 ((t248.length : Int) - 1))))) - 1))))) t261 true))))))) else (none))) = some r := H
  have A5 := Aside0.mk A50
  clear A50
  obtain ⟨y251, hy251⟩ : ∃ y_ : List Int, y_ = (([] : List Int)) := ⟨_, rfl⟩
  replace H : (if y251.length + t248.length < 17592186044416 then ((some (y251 ++ t248 : List Int)).bind fun y254 => (if (t248.length : Int) < 2 then ((pick_After.f k t248 0 2 a2).bind fun t257 => ((thresherref15_Same.f k t257 t248).bind fun t260 => (if t247 = true then (some t260) else (some false)))) else (if (wrap64 ((t248.length : Int) - 1)) = 0 then (none) else (if (wrap64 ((wrap64 ((t248.length : Int) - (Int.tmod (wrap64 (a1_0)) (wrap64 ((t248.length : Int) - 1))))) - 1)) = 0 then (none) else ((pick_After.f k t248 (Int.tmod (wrap64 (a1_0)) (wrap64 ((t248.length : Int) - 1))) (wrap64 ((wrap64 ((Int.tmod (wrap64 (a1_0)) (wrap64 ((t248.length : Int) - 1))) + 2)) + (Int.tmod (wrap64 (a1_1)) (wrap64 ((wrap64 ((t248.length : Int) - (Int.tmod (wrap64 (a1_0)) (wrap64 ((t248.length : Int) - 1))))) - 1))))) a2).bind fun t261 => (if (t261.length : Int) = (wrap64 ((wrap64 ((t248.length : Int) - (wrap64 ((wrap64 ((wrap64 ((Int.tmod (wrap64 (a1_0)) (wrap64 ((t248.length : Int) - 1))) + 2)) + (Int.tmod (wrap64 (a1_1)) (wrap64 ((wrap64 ((t248.length : Int) - (Int.tmod (wrap64 (a1_0)) (wrap64 ((t248.length : Int) - 1))))) - 1))))) - (Int.tmod (wrap64 (a1_0)) (wrap64 ((t248.length : Int) - 1))))))) + 1)) then (if 0 ≤ (Int.tmod (wrap64 (a1_0)) (wrap64 ((t248.length : Int) - 1))) then (if (Int.tmod (wrap64 (a1_0)) (wrap64 ((t248.length : Int) - 1))) < (t261.length : Int) then (thresherlaw15_PickAfters.j0 k t248 t247 y254 (Int.tmod (wrap64 (a1_0)) (wrap64 ((t248.length : Int) - 1))) (wrap64 ((wrap64 ((Int.tmod (wrap64 (a1_0)) (wrap64 ((t248.length : Int) - 1))) + 2)) + (Int.tmod (wrap64 (a1_1)) (wrap64 ((wrap64 ((t248.length : Int) - (Int.tmod (wrap64 (a1_0)) (wrap64 ((t248.length : Int) - 1))))) - 1))))) t261 ((rd t261 (Int.tmod (wrap64 (a1_0)) (wrap64 ((t248.length : Int) - 1)))) != a2)) else (none)) else (none)) else (thresherlaw15_PickAfters.j0 k t248 t247 y254 (Int.tmod (wrap64 (a1_0)) (wrap64 ((t248.length : Int) - 1))) (wrap64 ((wrap64 ((Int.tmod (wrap64 (a1_0)) (wrap64 ((t248.length : Int) - 1))) + 2)) + (Int.tmod (wrap64 (a1_1)) (wrap64 ((wrap64 ((t248.length : Int) - (Int.tmod (wrap64 (a1_0)) (wrap64 ((t248.length : Int) - 1))))) - 1))))) t261 true))))))) else (none)) = some r := by first | (rw [hy251]; with_reducible exact H) | (have H2_ := (Option.bind_some _ _).symm.trans H; rw [hy251]; with_reducible exact H2_) | (have H2_ := (Option.bind_some _ _).symm.trans H; with_reducible exact H2_) | with_reducible exact H | (rw [hy251]; exact H) | exact H
  have Ny251 := Aside0.mk hy251
  clear hy251
  by_cases c6 : y251.length + t248.length < 17592186044416
  · rw [if_pos c6] at H
    have LMc6 := Aside0.mk c6
    clear c6
    obtain ⟨y254, hy254⟩ : ∃ y_ : List Int, y_ = (y251 ++ t248) := ⟨_, rfl⟩
    replace H : (if (t248.length : Int) < 2 then ((pick_After.f k t248 0 2 a2).bind fun t257 => ((thresherref15_Same.f k t257 t248).bind fun t260 => (if t247 = true then (some t260) else (some false)))) else (if (wrap64 ((t248.length : Int) - 1)) = 0 then (none) else (if (wrap64 ((wrap64 ((t248.length : Int) - (Int.tmod (wrap64 (a1_0)) (wrap64 ((t248.length : Int) - 1))))) - 1)) = 0 then (none) else ((pick_After.f k t248 (Int.tmod (wrap64 (a1_0)) (wrap64 ((t248.length : Int) - 1))) (wrap64 ((wrap64 ((Int.tmod (wrap64 (a1_0)) (wrap64 ((t248.length : Int) - 1))) + 2)) + (Int.tmod (wrap64 (a1_1)) (wrap64 ((wrap64 ((t248.length : Int) - (Int.tmod (wrap64 (a1_0)) (wrap64 ((t248.length : Int) - 1))))) - 1))))) a2).bind fun t261 => (if (t261.length : Int) = (wrap64 ((wrap64 ((t248.length : Int) - (wrap64 ((wrap64 ((wrap64 ((Int.tmod (wrap64 (a1_0)) (wrap64 ((t248.length : Int) - 1))) + 2)) + (Int.tmod (wrap64 (a1_1)) (wrap64 ((wrap64 ((t248.length : Int) - (Int.tmod (wrap64 (a1_0)) (wrap64 ((t248.length : Int) - 1))))) - 1))))) - (Int.tmod (wrap64 (a1_0)) (wrap64 ((t248.length : Int) - 1))))))) + 1)) then (if 0 ≤ (Int.tmod (wrap64 (a1_0)) (wrap64 ((t248.length : Int) - 1))) then (if (Int.tmod (wrap64 (a1_0)) (wrap64 ((t248.length : Int) - 1))) < (t261.length : Int) then (thresherlaw15_PickAfters.j0 k t248 t247 y254 (Int.tmod (wrap64 (a1_0)) (wrap64 ((t248.length : Int) - 1))) (wrap64 ((wrap64 ((Int.tmod (wrap64 (a1_0)) (wrap64 ((t248.length : Int) - 1))) + 2)) + (Int.tmod (wrap64 (a1_1)) (wrap64 ((wrap64 ((t248.length : Int) - (Int.tmod (wrap64 (a1_0)) (wrap64 ((t248.length : Int) - 1))))) - 1))))) t261 ((rd t261 (Int.tmod (wrap64 (a1_0)) (wrap64 ((t248.length : Int) - 1)))) != a2)) else (none)) else (none)) else (thresherlaw15_PickAfters.j0 k t248 t247 y254 (Int.tmod (wrap64 (a1_0)) (wrap64 ((t248.length : Int) - 1))) (wrap64 ((wrap64 ((Int.tmod (wrap64 (a1_0)) (wrap64 ((t248.length : Int) - 1))) + 2)) + (Int.tmod (wrap64 (a1_1)) (wrap64 ((wrap64 ((t248.length : Int) - (Int.tmod (wrap64 (a1_0)) (wrap64 ((t248.length : Int) - 1))))) - 1))))) t261 true)))))) = some r := by first | (rw [hy254]; with_reducible exact H) | (have H2_ := (Option.bind_some _ _).symm.trans H; rw [hy254]; with_reducible exact H2_) | (have H2_ := (Option.bind_some _ _).symm.trans H; with_reducible exact H2_) | with_reducible exact H | (rw [hy254]; exact H) | exact H
    have Ny254 := Aside0.mk hy254
    clear hy254
    by_cases c7 : (t248.length : Int) < 2
    · rw [if_pos c7] at H
      have c7b0 : decide ((t248.length : Int) < 2) = true := decide_eq_true c7
      have c7b1 : decide (t248.length < 2) = true := decide_eq_true (by omega)
      clear c7
      replace H := Option.bind_eq_some_iff.mp H
      obtain ⟨t257, A80, H⟩ := H
      replace H : ((thresherref15_Same.f k t257 t248).bind fun t260 => (if t247 = true then (some t260) else (some false))) = some r := H
      have A8 := Aside0.mk A80
      clear A80
      replace H := Option.bind_eq_some_iff.mp H
      obtain ⟨t260, A90, H⟩ := H
      replace H : (if t247 = true then (some t260) else (some false)) = some r := H
      have A9 := Aside0.mk A90
      clear A90
      by_cases c10 : t247 = true
      · subst c10
        have H1 : (some t260) = some r := by rw [if_pos rfl] at H; exact H
        clear H
        have H := H1
        clear H1
        obtain rfl := Option.some.inj H
        go_enter Try.func7, Try.ntmps7
        go_wp2_with (first | ((with_reducible refine gate_dst (N := 4) rfl ?_); refine box_event ?hg (N := 4) ?hd (cs := #[.int .u8 a1_0, .int .u8 a1_1]) (t := 34) ?hr ?_; (case hd => rfl); (case hg => rfl); (case hr => first | (go_simp; done) | (go_simp; rfl)); intro gb246 hg w11 hbox hb; have n0_ := Aside0.mk (below_step (by repeat (first | (with_reducible first | exact HB.out | apply below_alloc | apply pw_below_drewN | apply below_drew1) | exact HB.out)) hb); have n1_ := Aside0.mk (hbox); have n2_ := Aside0.mk ((by rw [hg]; exact (below_size (by repeat (first | (with_reducible first | exact HB.out | apply below_alloc | apply pw_below_drewN | apply below_drew1) | exact HB.out))) : w.heap.size ≤ gb246)); have n3_ := Aside0.mk ((by rw [hg]; exact (below_size (by repeat (first | (with_reducible first | exact HB.out | apply below_alloc | apply pw_below_drewN | apply below_drew1) | exact HB.out))) : w.heap.size ≤ gb246)); clear HB; have HB := n0_; have BK246 := n1_; have GW246 := n2_; have GE246 := n3_; clear n0_ n1_ n2_ n3_; clear hb hbox hg) | ((with_reducible refine gate_callee (f := 8) rfl ?_); refine goesL_ (some 16) rfl rfl Try.func8 (by kernel_rfl) rfl #[] rfl (by (try simp only [List.map_toArray, List.map_cons, List.map_nil]); first | done | rfl | (simp only [List.length_drop, List.length_take]; rfl)) ?_; (with_reducible refine (thresherlaw15_shown.calls  true _ A4.out).mono ?_); rintro e w12 ⟨rfl, hb⟩; refine ⟨_, rfl, ?_⟩; have n0_ := Aside0.mk (blk_below (g := gb246) (o := .cells #[.int .u8 a1_0, .int .u8 a1_1] 34 (0, 0)) (by (with_reducible repeat (first | refine blk_drewN ?_ _ | refine blk_drew ?_ | refine blk_alloc ?_ _)); exact BK246.out) hb); have n1_ := Aside0.mk (below_step (by repeat (first | (with_reducible first | exact HB.out | apply below_alloc | apply pw_below_drewN | apply below_drew1 | refine below_set ?_ GE246.out) | exact HB.out)) hb); clear BK246; clear HB; have BK246 := n0_; have HB := n1_; clear n0_ n1_; (try clear hb); (try clear hb2); (try clear hk); (try clear hi)) | ((with_reducible refine gate_callee (f := 9) rfl ?_); refine goesL_ (some 18) rfl rfl Try.func9 (by kernel_rfl) rfl #[.slice A0 l0.length c0] rfl (by (try simp only [List.map_toArray, List.map_cons, List.map_nil]); first | done | rfl | (simp only [List.length_drop, List.length_take]; rfl)) ?_; (with_reducible refine (thresherlaw15_few.calls (fun k_ => k_ < w.heap.size) _ _ l0 t248 _ ?side1 A5.out).mono ?_); (case side1 => exact Kd.V_mk HC0.out (Kd.F_below (Kd.C_F (Kd.heap_int .i64) HR0.out) (by repeat (first | (with_reducible first | exact HB.out | apply below_alloc | apply pw_below_drewN | apply below_drew1 | refine below_set ?_ GE246.out) | exact HB.out)))); rintro e w13 ⟨v249, rfl, ho0, hb⟩; refine ⟨_, rfl, ?_⟩; have n0_ := Aside0.mk (Kd.V_lower (Kd.V_mono (ok' := fun k_ => k_ ≠ gb246) ho0 (fun k_ hk_ => Or.elim hk_ (fun hs_ => fun e_ => Nat.not_le.2 hs_ (by rw [e_]; exact GW246.out)) (fun hn_ => (Kd.freshB (g := gb246) (o := .cells #[.int .u8 a1_0, .int .u8 a1_1] 34 (0, 0)) (by (with_reducible repeat (first | refine blk_drewN ?_ _ | refine blk_drew ?_ | refine blk_alloc ?_ _)); exact BK246.out) k_ hn_)))) (below_size (by repeat (first | (with_reducible first | exact HB.out | apply below_alloc | apply pw_below_drewN | apply below_drew1 | refine below_set ?_ GE246.out) | exact HB.out)))); have n1_ := Aside0.mk (blk_below (g := gb246) (o := .cells #[.int .u8 a1_0, .int .u8 a1_1] 34 (0, 0)) (by (with_reducible repeat (first | refine blk_drewN ?_ _ | refine blk_drew ?_ | refine blk_alloc ?_ _)); exact BK246.out) hb); have n2_ := Aside0.mk (below_step (by repeat (first | (with_reducible first | exact HB.out | apply below_alloc | apply pw_below_drewN | apply below_drew1 | refine below_set ?_ GE246.out) | exact HB.out)) hb); clear BK246; clear HB; have HO250 := n0_; have BK246 := n1_; have HB := n2_; clear n0_ n1_ n2_; (try clear hb); (try clear hb2); (try clear hk); (try clear hi); (try clear ho0)) | ((with_reducible refine gate_dst (N := 19) rfl ?_); refine Kd.R_lit (Kd.int .i64) _ 3 ?hg (N := 19) ?hd (xs := ([] : List Int)) (inner := []) (ok := fun _ => True) (okp := fun _ => True) ?hr ?hp (fun _ hk => hk) trivial (Below.refl _ _) (Nat.le_refl _) (by simp) ?_; (case hd => rfl); (case hg => rfl); (case hr => first | (go_simp; done) | (go_simp; rfl)); (case hp => exact (Reps.none _ _)); intro v252 w14 ho15 hb hg_ hnew_; clear hg_ hnew_; (first | rw [← Ny251.out] at ho15 | (simp only [Int.reduceToNat] at ho15; rw [← Ny251.out] at ho15)); have n0_ := Aside0.mk (Kd.V_elder' (by (with_reducible repeat (first | apply Kd.V_alloc | apply Kd.V_drewN | apply Kd.V_drew)); exact HO250.out) (Kd.R_base ho15) hb); have n1_ := Aside0.mk (Kd.R_lower ho15 (below_size (by repeat (first | (with_reducible first | exact HB.out | apply below_alloc | apply pw_below_drewN | apply below_drew1 | refine below_set ?_ GE246.out) | exact HB.out)))); have n2_ := Aside0.mk (blk_below (g := gb246) (o := .cells #[.int .u8 a1_0, .int .u8 a1_1] 34 (0, 0)) (by (with_reducible repeat (first | refine blk_drewN ?_ _ | refine blk_drew ?_ | refine blk_alloc ?_ _)); exact BK246.out) hb); have n3_ := Aside0.mk (below_step (by repeat (first | (with_reducible first | exact HB.out | apply below_alloc | apply pw_below_drewN | apply below_drew1 | refine below_set ?_ GE246.out) | exact HB.out)) hb); clear HO250; clear BK246; clear HB; have HO250 := n0_; have HO253 := n1_; have BK246 := n2_; have HB := n3_; clear n0_ n1_ n2_ n3_; clear hb ho15; obtain ⟨Ao17, co17, eo17⟩ := Kd.V_slice HO250.out; subst eo17) | ((with_reducible refine gate_builtin (b := .append) (xs := #[.tmp 19, .tmp 20]) rfl ?_); at_builtin; refine Kd.R_append_rows (Kd.int .i64) (w0 := w) w.heap.size rfl (.tmp 19) (.tmp 20) 22 3 (.int .i64 0) 8 rfl Try.underlying22 info3 rfl (by decide) (by omega) v252 y251 t248 _ _ _ (fun _ => True) (fun _ => False) rfl rfl ?aO ?aR (fun _ _ h => h) (fun _ h => h.elim) ?aF ?aB ?aS ?aL ?_; (case aR => repeat (first | exact (Kd.V_reads' HO250.out).2.2 | (with_reducible refine Kd.C_alloc ?_ _) | (with_reducible refine Kd.C_drewN ?_ _) | (with_reducible refine Kd.C_drew ?_))); (case aB => exact (by repeat (first | (with_reducible first | exact HB.out | apply below_alloc | apply pw_below_drewN | apply below_drew1 | refine below_set ?_ GE246.out) | exact HB.out))); (case aF => exact (fun _ _ => trivial)); (case aO => exact (by (with_reducible repeat (first | apply Kd.R_alloc | apply Kd.R_drewN | apply Kd.R_drew)); exact HO253.out)); (case aS => exact (below_size (by repeat (first | (with_reducible first | exact HB.out | apply below_alloc | apply pw_below_drewN | apply below_drew1 | refine below_set ?_ GE246.out) | exact HB.out)))); (case aL => have := LMc6.out; omega); intro v255 w16 ho hb hg hat; rw [← Ny254.out] at ho; have n0_ := Aside0.mk (blk_grown (g := gb246) (o := .cells #[.int .u8 a1_0, .int .u8 a1_1] 34 (0, 0)) (by (with_reducible repeat (first | refine blk_drewN ?_ _ | refine blk_drew ?_ | refine blk_alloc ?_ _)); exact BK246.out) hg (Kd.R_ne HO253.out BK246.out (by decide))); have n1_ := Aside0.mk (Kd.V_afterv (ok := (fun k_ => k_ ≠ gb246)) (by (with_reducible repeat (first | apply Kd.V_alloc | apply Kd.V_drewN | apply Kd.V_drew)); exact HO250.out) hg hat); have n2_ := Aside0.mk (hb); have n3_ := Aside0.mk (ho); clear BK246; clear HO250; clear HB; clear HO253; have BK246 := n0_; have HO250 := n1_; have HB := n2_; have HO256 := n3_; clear n0_ n1_ n2_ n3_; clear ho hb hg hat) | ((with_reducible refine gate_callee (f := 14) rfl ?_); refine goesL_ (some 27) rfl rfl Try.func14 (by kernel_rfl) rfl #[.slice Ao17 t248.length co17, .int .i64 0, .int .i64 2, .int .i64 a2] rfl (by (try simp only [List.map_toArray, List.map_cons, List.map_nil]); first | done | rfl | (simp only [List.length_drop, List.length_take]; rfl)) ?_; (with_reducible refine (pick_After.calls k (fun k_ => (k_ ≠ gb246 ∧ some k_ ≠ (v255 : Value).ownBlock)) _ _ t248 0 2 a2 t257 _ ?side1 A8.out).mono ?_); (case side1 => exact HO250.out); rintro e w18 ⟨v258, rfl, ho0, hb⟩; refine ⟨_, rfl, ?_⟩; have n0_ := Aside0.mk (Kd.V_elder' (by (with_reducible repeat (first | apply Kd.V_alloc | apply Kd.V_drewN | apply Kd.V_drew)); exact HO250.out) (Kd.R_base ho0) hb); have n1_ := Aside0.mk (Kd.R_elder' (by (with_reducible repeat (first | apply Kd.R_alloc | apply Kd.R_drewN | apply Kd.R_drew)); exact HO256.out) (Kd.R_base ho0) hb); have n2_ := Aside0.mk (Kd.R_lower (Kd.R_new' (Kd.R_mono (ok' := fun k_ => True) ho0 (fun _ hk_ => trivial)) (Kd.R_lt (by (with_reducible repeat (first | apply Kd.R_alloc | apply Kd.R_drewN | apply Kd.R_drew)); exact HO256.out))) (below_size (by repeat (first | (with_reducible first | exact HB.out | apply below_alloc | apply pw_below_drewN | apply below_drew1 | refine below_set ?_ GE246.out) | exact HB.out)))); have n3_ := Aside0.mk (blk_below (g := gb246) (o := .cells #[.int .u8 a1_0, .int .u8 a1_1] 34 (0, 0)) (by (with_reducible repeat (first | refine blk_drewN ?_ _ | refine blk_drew ?_ | refine blk_alloc ?_ _)); exact BK246.out) hb); have n4_ := Aside0.mk (below_step (by repeat (first | (with_reducible first | exact HB.out | apply below_alloc | apply pw_below_drewN | apply below_drew1 | refine below_set ?_ GE246.out) | exact HB.out)) hb); clear HO250; clear HO256; clear BK246; clear HB; have HO250 := n0_; have HO256 := n1_; have HO259 := n2_; have BK246 := n3_; have HB := n4_; clear n0_ n1_ n2_ n3_ n4_; (try clear hb); (try clear hb2); (try clear hk); (try clear hi); (try clear ho0); obtain ⟨Ao19, co19, eo19⟩ := Kd.R_slice HO259.out; subst eo19) | ((with_reducible refine gate_callee (f := 13) rfl ?_); refine goesL_ (some 29) rfl rfl Try.func13 (by kernel_rfl) rfl #[.slice Ao19 t257.length co19, .slice Ao17 t248.length co17] rfl (by (try simp only [List.map_toArray, List.map_cons, List.map_nil]); first | done | rfl | (simp only [List.length_drop, List.length_take]; rfl)) ?_; (with_reducible refine (thresherref15_Same.calls k _ _ t257 _ _ t248 t260 _ ?side1 ?side2 ?side3 ?side4 A9.out).mono ?_); (case side1 => repeat (first | exact (Kd.R_reads' HO259.out).2.2 | (with_reducible refine Kd.C_alloc ?_ _) | (with_reducible refine Kd.C_drewN ?_ _) | (with_reducible refine Kd.C_drew ?_))); (case side2 => exact (Kd.R_reads' HO259.out).2.1); (case side3 => repeat (first | exact (Kd.V_reads' HO250.out).2.2 | (with_reducible refine Kd.C_alloc ?_ _) | (with_reducible refine Kd.C_drewN ?_ _) | (with_reducible refine Kd.C_drew ?_))); (case side4 => exact (Kd.V_reads' HO250.out).2.1); rintro e w20 ⟨rfl, hb⟩; refine ⟨_, rfl, ?_⟩; have n0_ := Aside0.mk (Kd.V_below (by (with_reducible repeat (first | apply Kd.V_alloc | apply Kd.V_drewN | apply Kd.V_drew)); exact HO250.out) hb); have n1_ := Aside0.mk (Kd.R_below (by (with_reducible repeat (first | apply Kd.R_alloc | apply Kd.R_drewN | apply Kd.R_drew)); exact HO256.out) hb); have n2_ := Aside0.mk (Kd.R_below (by (with_reducible repeat (first | apply Kd.R_alloc | apply Kd.R_drewN | apply Kd.R_drew)); exact HO259.out) hb); have n3_ := Aside0.mk (blk_below (g := gb246) (o := .cells #[.int .u8 a1_0, .int .u8 a1_1] 34 (0, 0)) (by (with_reducible repeat (first | refine blk_drewN ?_ _ | refine blk_drew ?_ | refine blk_alloc ?_ _)); exact BK246.out) hb); have n4_ := Aside0.mk (below_step (by repeat (first | (with_reducible first | exact HB.out | apply below_alloc | apply pw_below_drewN | apply below_drew1 | refine below_set ?_ GE246.out) | exact HB.out)) hb); clear HO250; clear HO256; clear HO259; clear BK246; clear HB; have HO250 := n0_; have HO256 := n1_; have HO259 := n2_; have BK246 := n3_; have HB := n4_; clear n0_ n1_ n2_ n3_ n4_; (try clear hb); (try clear hb2); (try clear hk); (try clear hi)))
        go_ret
        exact ⟨by first | rfl | (simp [errW_none, errW_some] <;> rfl) | (simp [*, errW_none, errW_some] <;> rfl), by repeat (first | (with_reducible first | exact HB.out | apply below_alloc | apply pw_below_drewN | apply below_drew1 | refine below_set ?_ GE246.out) | exact HB.out)⟩
      · replace c10 := Bool.eq_false_iff.mpr c10
        subst c10
        have H1 : (some false) = some r := by rw [if_neg (show ¬ (false = true) by decide)] at H; exact H
        clear H
        have H := H1
        clear H1
        obtain rfl := Option.some.inj H
        go_enter Try.func7, Try.ntmps7
        go_wp2_with (first | ((with_reducible refine gate_dst (N := 4) rfl ?_); refine box_event ?hg (N := 4) ?hd (cs := #[.int .u8 a1_0, .int .u8 a1_1]) (t := 34) ?hr ?_; (case hd => rfl); (case hg => rfl); (case hr => first | (go_simp; done) | (go_simp; rfl)); intro gb246 hg w21 hbox hb; have n0_ := Aside0.mk (below_step (by repeat (first | (with_reducible first | exact HB.out | apply below_alloc | apply pw_below_drewN | apply below_drew1) | exact HB.out)) hb); have n1_ := Aside0.mk (hbox); have n2_ := Aside0.mk ((by rw [hg]; exact (below_size (by repeat (first | (with_reducible first | exact HB.out | apply below_alloc | apply pw_below_drewN | apply below_drew1) | exact HB.out))) : w.heap.size ≤ gb246)); have n3_ := Aside0.mk ((by rw [hg]; exact (below_size (by repeat (first | (with_reducible first | exact HB.out | apply below_alloc | apply pw_below_drewN | apply below_drew1) | exact HB.out))) : w.heap.size ≤ gb246)); clear HB; have HB := n0_; have BK246 := n1_; have GW246 := n2_; have GE246 := n3_; clear n0_ n1_ n2_ n3_; clear hb hbox hg) | ((with_reducible refine gate_callee (f := 8) rfl ?_); refine goesL_ (some 16) rfl rfl Try.func8 (by kernel_rfl) rfl #[] rfl (by (try simp only [List.map_toArray, List.map_cons, List.map_nil]); first | done | rfl | (simp only [List.length_drop, List.length_take]; rfl)) ?_; (with_reducible refine (thresherlaw15_shown.calls  false _ A4.out).mono ?_); rintro e w22 ⟨rfl, hb⟩; refine ⟨_, rfl, ?_⟩; have n0_ := Aside0.mk (blk_below (g := gb246) (o := .cells #[.int .u8 a1_0, .int .u8 a1_1] 34 (0, 0)) (by (with_reducible repeat (first | refine blk_drewN ?_ _ | refine blk_drew ?_ | refine blk_alloc ?_ _)); exact BK246.out) hb); have n1_ := Aside0.mk (below_step (by repeat (first | (with_reducible first | exact HB.out | apply below_alloc | apply pw_below_drewN | apply below_drew1 | refine below_set ?_ GE246.out) | exact HB.out)) hb); clear BK246; clear HB; have BK246 := n0_; have HB := n1_; clear n0_ n1_; (try clear hb); (try clear hb2); (try clear hk); (try clear hi)) | ((with_reducible refine gate_callee (f := 9) rfl ?_); refine goesL_ (some 18) rfl rfl Try.func9 (by kernel_rfl) rfl #[.slice A0 l0.length c0] rfl (by (try simp only [List.map_toArray, List.map_cons, List.map_nil]); first | done | rfl | (simp only [List.length_drop, List.length_take]; rfl)) ?_; (with_reducible refine (thresherlaw15_few.calls (fun k_ => k_ < w.heap.size) _ _ l0 t248 _ ?side1 A5.out).mono ?_); (case side1 => exact Kd.V_mk HC0.out (Kd.F_below (Kd.C_F (Kd.heap_int .i64) HR0.out) (by repeat (first | (with_reducible first | exact HB.out | apply below_alloc | apply pw_below_drewN | apply below_drew1 | refine below_set ?_ GE246.out) | exact HB.out)))); rintro e w23 ⟨v249, rfl, ho0, hb⟩; refine ⟨_, rfl, ?_⟩; have n0_ := Aside0.mk (Kd.V_lower (Kd.V_mono (ok' := fun k_ => k_ ≠ gb246) ho0 (fun k_ hk_ => Or.elim hk_ (fun hs_ => fun e_ => Nat.not_le.2 hs_ (by rw [e_]; exact GW246.out)) (fun hn_ => (Kd.freshB (g := gb246) (o := .cells #[.int .u8 a1_0, .int .u8 a1_1] 34 (0, 0)) (by (with_reducible repeat (first | refine blk_drewN ?_ _ | refine blk_drew ?_ | refine blk_alloc ?_ _)); exact BK246.out) k_ hn_)))) (below_size (by repeat (first | (with_reducible first | exact HB.out | apply below_alloc | apply pw_below_drewN | apply below_drew1 | refine below_set ?_ GE246.out) | exact HB.out)))); have n1_ := Aside0.mk (blk_below (g := gb246) (o := .cells #[.int .u8 a1_0, .int .u8 a1_1] 34 (0, 0)) (by (with_reducible repeat (first | refine blk_drewN ?_ _ | refine blk_drew ?_ | refine blk_alloc ?_ _)); exact BK246.out) hb); have n2_ := Aside0.mk (below_step (by repeat (first | (with_reducible first | exact HB.out | apply below_alloc | apply pw_below_drewN | apply below_drew1 | refine below_set ?_ GE246.out) | exact HB.out)) hb); clear BK246; clear HB; have HO250 := n0_; have BK246 := n1_; have HB := n2_; clear n0_ n1_ n2_; (try clear hb); (try clear hb2); (try clear hk); (try clear hi); (try clear ho0)) | ((with_reducible refine gate_dst (N := 19) rfl ?_); refine Kd.R_lit (Kd.int .i64) _ 3 ?hg (N := 19) ?hd (xs := ([] : List Int)) (inner := []) (ok := fun _ => True) (okp := fun _ => True) ?hr ?hp (fun _ hk => hk) trivial (Below.refl _ _) (Nat.le_refl _) (by simp) ?_; (case hd => rfl); (case hg => rfl); (case hr => first | (go_simp; done) | (go_simp; rfl)); (case hp => exact (Reps.none _ _)); intro v252 w24 ho25 hb hg_ hnew_; clear hg_ hnew_; (first | rw [← Ny251.out] at ho25 | (simp only [Int.reduceToNat] at ho25; rw [← Ny251.out] at ho25)); have n0_ := Aside0.mk (Kd.V_elder' (by (with_reducible repeat (first | apply Kd.V_alloc | apply Kd.V_drewN | apply Kd.V_drew)); exact HO250.out) (Kd.R_base ho25) hb); have n1_ := Aside0.mk (Kd.R_lower ho25 (below_size (by repeat (first | (with_reducible first | exact HB.out | apply below_alloc | apply pw_below_drewN | apply below_drew1 | refine below_set ?_ GE246.out) | exact HB.out)))); have n2_ := Aside0.mk (blk_below (g := gb246) (o := .cells #[.int .u8 a1_0, .int .u8 a1_1] 34 (0, 0)) (by (with_reducible repeat (first | refine blk_drewN ?_ _ | refine blk_drew ?_ | refine blk_alloc ?_ _)); exact BK246.out) hb); have n3_ := Aside0.mk (below_step (by repeat (first | (with_reducible first | exact HB.out | apply below_alloc | apply pw_below_drewN | apply below_drew1 | refine below_set ?_ GE246.out) | exact HB.out)) hb); clear HO250; clear BK246; clear HB; have HO250 := n0_; have HO253 := n1_; have BK246 := n2_; have HB := n3_; clear n0_ n1_ n2_ n3_; clear hb ho25; obtain ⟨Ao27, co27, eo27⟩ := Kd.V_slice HO250.out; subst eo27) | ((with_reducible refine gate_builtin (b := .append) (xs := #[.tmp 19, .tmp 20]) rfl ?_); at_builtin; refine Kd.R_append_rows (Kd.int .i64) (w0 := w) w.heap.size rfl (.tmp 19) (.tmp 20) 22 3 (.int .i64 0) 8 rfl Try.underlying22 info3 rfl (by decide) (by omega) v252 y251 t248 _ _ _ (fun _ => True) (fun _ => False) rfl rfl ?aO ?aR (fun _ _ h => h) (fun _ h => h.elim) ?aF ?aB ?aS ?aL ?_; (case aR => repeat (first | exact (Kd.V_reads' HO250.out).2.2 | (with_reducible refine Kd.C_alloc ?_ _) | (with_reducible refine Kd.C_drewN ?_ _) | (with_reducible refine Kd.C_drew ?_))); (case aB => exact (by repeat (first | (with_reducible first | exact HB.out | apply below_alloc | apply pw_below_drewN | apply below_drew1 | refine below_set ?_ GE246.out) | exact HB.out))); (case aF => exact (fun _ _ => trivial)); (case aO => exact (by (with_reducible repeat (first | apply Kd.R_alloc | apply Kd.R_drewN | apply Kd.R_drew)); exact HO253.out)); (case aS => exact (below_size (by repeat (first | (with_reducible first | exact HB.out | apply below_alloc | apply pw_below_drewN | apply below_drew1 | refine below_set ?_ GE246.out) | exact HB.out)))); (case aL => have := LMc6.out; omega); intro v255 w26 ho hb hg hat; rw [← Ny254.out] at ho; have n0_ := Aside0.mk (blk_grown (g := gb246) (o := .cells #[.int .u8 a1_0, .int .u8 a1_1] 34 (0, 0)) (by (with_reducible repeat (first | refine blk_drewN ?_ _ | refine blk_drew ?_ | refine blk_alloc ?_ _)); exact BK246.out) hg (Kd.R_ne HO253.out BK246.out (by decide))); have n1_ := Aside0.mk (Kd.V_afterv (ok := (fun k_ => k_ ≠ gb246)) (by (with_reducible repeat (first | apply Kd.V_alloc | apply Kd.V_drewN | apply Kd.V_drew)); exact HO250.out) hg hat); have n2_ := Aside0.mk (hb); have n3_ := Aside0.mk (ho); clear BK246; clear HO250; clear HB; clear HO253; have BK246 := n0_; have HO250 := n1_; have HB := n2_; have HO256 := n3_; clear n0_ n1_ n2_ n3_; clear ho hb hg hat) | ((with_reducible refine gate_callee (f := 14) rfl ?_); refine goesL_ (some 27) rfl rfl Try.func14 (by kernel_rfl) rfl #[.slice Ao27 t248.length co27, .int .i64 0, .int .i64 2, .int .i64 a2] rfl (by (try simp only [List.map_toArray, List.map_cons, List.map_nil]); first | done | rfl | (simp only [List.length_drop, List.length_take]; rfl)) ?_; (with_reducible refine (pick_After.calls k (fun k_ => (k_ ≠ gb246 ∧ some k_ ≠ (v255 : Value).ownBlock)) _ _ t248 0 2 a2 t257 _ ?side1 A8.out).mono ?_); (case side1 => exact HO250.out); rintro e w28 ⟨v258, rfl, ho0, hb⟩; refine ⟨_, rfl, ?_⟩; have n0_ := Aside0.mk (Kd.V_elder' (by (with_reducible repeat (first | apply Kd.V_alloc | apply Kd.V_drewN | apply Kd.V_drew)); exact HO250.out) (Kd.R_base ho0) hb); have n1_ := Aside0.mk (Kd.R_elder' (by (with_reducible repeat (first | apply Kd.R_alloc | apply Kd.R_drewN | apply Kd.R_drew)); exact HO256.out) (Kd.R_base ho0) hb); have n2_ := Aside0.mk (Kd.R_lower (Kd.R_new' (Kd.R_mono (ok' := fun k_ => True) ho0 (fun _ hk_ => trivial)) (Kd.R_lt (by (with_reducible repeat (first | apply Kd.R_alloc | apply Kd.R_drewN | apply Kd.R_drew)); exact HO256.out))) (below_size (by repeat (first | (with_reducible first | exact HB.out | apply below_alloc | apply pw_below_drewN | apply below_drew1 | refine below_set ?_ GE246.out) | exact HB.out)))); have n3_ := Aside0.mk (blk_below (g := gb246) (o := .cells #[.int .u8 a1_0, .int .u8 a1_1] 34 (0, 0)) (by (with_reducible repeat (first | refine blk_drewN ?_ _ | refine blk_drew ?_ | refine blk_alloc ?_ _)); exact BK246.out) hb); have n4_ := Aside0.mk (below_step (by repeat (first | (with_reducible first | exact HB.out | apply below_alloc | apply pw_below_drewN | apply below_drew1 | refine below_set ?_ GE246.out) | exact HB.out)) hb); clear HO250; clear HO256; clear BK246; clear HB; have HO250 := n0_; have HO256 := n1_; have HO259 := n2_; have BK246 := n3_; have HB := n4_; clear n0_ n1_ n2_ n3_ n4_; (try clear hb); (try clear hb2); (try clear hk); (try clear hi); (try clear ho0); obtain ⟨Ao29, co29, eo29⟩ := Kd.R_slice HO259.out; subst eo29) | ((with_reducible refine gate_callee (f := 13) rfl ?_); refine goesL_ (some 29) rfl rfl Try.func13 (by kernel_rfl) rfl #[.slice Ao29 t257.length co29, .slice Ao27 t248.length co27] rfl (by (try simp only [List.map_toArray, List.map_cons, List.map_nil]); first | done | rfl | (simp only [List.length_drop, List.length_take]; rfl)) ?_; (with_reducible refine (thresherref15_Same.calls k _ _ t257 _ _ t248 t260 _ ?side1 ?side2 ?side3 ?side4 A9.out).mono ?_); (case side1 => repeat (first | exact (Kd.R_reads' HO259.out).2.2 | (with_reducible refine Kd.C_alloc ?_ _) | (with_reducible refine Kd.C_drewN ?_ _) | (with_reducible refine Kd.C_drew ?_))); (case side2 => exact (Kd.R_reads' HO259.out).2.1); (case side3 => repeat (first | exact (Kd.V_reads' HO250.out).2.2 | (with_reducible refine Kd.C_alloc ?_ _) | (with_reducible refine Kd.C_drewN ?_ _) | (with_reducible refine Kd.C_drew ?_))); (case side4 => exact (Kd.V_reads' HO250.out).2.1); rintro e w30 ⟨rfl, hb⟩; refine ⟨_, rfl, ?_⟩; have n0_ := Aside0.mk (Kd.V_below (by (with_reducible repeat (first | apply Kd.V_alloc | apply Kd.V_drewN | apply Kd.V_drew)); exact HO250.out) hb); have n1_ := Aside0.mk (Kd.R_below (by (with_reducible repeat (first | apply Kd.R_alloc | apply Kd.R_drewN | apply Kd.R_drew)); exact HO256.out) hb); have n2_ := Aside0.mk (Kd.R_below (by (with_reducible repeat (first | apply Kd.R_alloc | apply Kd.R_drewN | apply Kd.R_drew)); exact HO259.out) hb); have n3_ := Aside0.mk (blk_below (g := gb246) (o := .cells #[.int .u8 a1_0, .int .u8 a1_1] 34 (0, 0)) (by (with_reducible repeat (first | refine blk_drewN ?_ _ | refine blk_drew ?_ | refine blk_alloc ?_ _)); exact BK246.out) hb); have n4_ := Aside0.mk (below_step (by repeat (first | (with_reducible first | exact HB.out | apply below_alloc | apply pw_below_drewN | apply below_drew1 | refine below_set ?_ GE246.out) | exact HB.out)) hb); clear HO250; clear HO256; clear HO259; clear BK246; clear HB; have HO250 := n0_; have HO256 := n1_; have HO259 := n2_; have BK246 := n3_; have HB := n4_; clear n0_ n1_ n2_ n3_ n4_; (try clear hb); (try clear hb2); (try clear hk); (try clear hi)))
        go_ret
        exact ⟨by first | rfl | (simp [errW_none, errW_some] <;> rfl) | (simp [*, errW_none, errW_some] <;> rfl), by repeat (first | (with_reducible first | exact HB.out | apply below_alloc | apply pw_below_drewN | apply below_drew1 | refine below_set ?_ GE246.out) | exact HB.out)⟩
    · rw [if_neg c7] at H
      have c7b0 : decide ((t248.length : Int) < 2) = false := decide_eq_false c7
      have c7b1 : decide (t248.length < 2) = false := decide_eq_false (by omega)
      clear c7
      by_cases c31 : (wrap64 ((t248.length : Int) - 1)) = 0
      · rw [if_pos c31] at H
        exact absurd H (by simp)
      · rw [if_neg c31] at H
        have c31b0 : ((wrap64 ((t248.length : Int) - 1)) == 0) = false := beq_eq_false_iff_ne.mpr c31
        have c31b1 : ((wrap64 ((t248.length : Int) - 1)) != 0) = true := bne_iff_ne.mpr c31
        by_cases c32 : (wrap64 ((wrap64 ((t248.length : Int) - (Int.tmod (wrap64 (a1_0)) (wrap64 ((t248.length : Int) - 1))))) - 1)) = 0
        · rw [if_pos c32] at H
          exact absurd H (by simp)
        · rw [if_neg c32] at H
          have c32b0 : ((wrap64 ((wrap64 ((t248.length : Int) - (Int.tmod (wrap64 (a1_0)) (wrap64 ((t248.length : Int) - 1))))) - 1)) == 0) = false := beq_eq_false_iff_ne.mpr c32
          have c32b1 : ((wrap64 ((wrap64 ((t248.length : Int) - (Int.tmod (wrap64 (a1_0)) (wrap64 ((t248.length : Int) - 1))))) - 1)) != 0) = true := bne_iff_ne.mpr c32
          replace H := Option.bind_eq_some_iff.mp H
          obtain ⟨t261, A330, H⟩ := H
          replace H : (if (t261.length : Int) = (wrap64 ((wrap64 ((t248.length : Int) - (wrap64 ((wrap64 ((wrap64 ((Int.tmod (wrap64 (a1_0)) (wrap64 ((t248.length : Int) - 1))) + 2)) + (Int.tmod (wrap64 (a1_1)) (wrap64 ((wrap64 ((t248.length : Int) - (Int.tmod (wrap64 (a1_0)) (wrap64 ((t248.length : Int) - 1))))) - 1))))) - (Int.tmod (wrap64 (a1_0)) (wrap64 ((t248.length : Int) - 1))))))) + 1)) then (if 0 ≤ (Int.tmod (wrap64 (a1_0)) (wrap64 ((t248.length : Int) - 1))) then (if (Int.tmod (wrap64 (a1_0)) (wrap64 ((t248.length : Int) - 1))) < (t261.length : Int) then (thresherlaw15_PickAfters.j0 k t248 t247 y254 (Int.tmod (wrap64 (a1_0)) (wrap64 ((t248.length : Int) - 1))) (wrap64 ((wrap64 ((Int.tmod (wrap64 (a1_0)) (wrap64 ((t248.length : Int) - 1))) + 2)) + (Int.tmod (wrap64 (a1_1)) (wrap64 ((wrap64 ((t248.length : Int) - (Int.tmod (wrap64 (a1_0)) (wrap64 ((t248.length : Int) - 1))))) - 1))))) t261 ((rd t261 (Int.tmod (wrap64 (a1_0)) (wrap64 ((t248.length : Int) - 1)))) != a2)) else (none)) else (none)) else (thresherlaw15_PickAfters.j0 k t248 t247 y254 (Int.tmod (wrap64 (a1_0)) (wrap64 ((t248.length : Int) - 1))) (wrap64 ((wrap64 ((Int.tmod (wrap64 (a1_0)) (wrap64 ((t248.length : Int) - 1))) + 2)) + (Int.tmod (wrap64 (a1_1)) (wrap64 ((wrap64 ((t248.length : Int) - (Int.tmod (wrap64 (a1_0)) (wrap64 ((t248.length : Int) - 1))))) - 1))))) t261 true)) = some r := H
          have A33 := Aside0.mk A330
          clear A330
          have HC34 := Aside0.mk H
          clear H
          go_enter Try.func7, Try.ntmps7
          go_upto_region 10 with (first | ((with_reducible refine gate_dst (N := 4) rfl ?_); refine box_event ?hg (N := 4) ?hd (cs := #[.int .u8 a1_0, .int .u8 a1_1]) (t := 34) ?hr ?_; (case hd => rfl); (case hg => rfl); (case hr => first | (go_simp; done) | (go_simp; rfl)); intro gb246 hg w35 hbox hb; have n0_ := Aside0.mk (below_step (by repeat (first | (with_reducible first | exact HB.out | apply below_alloc | apply pw_below_drewN | apply below_drew1) | exact HB.out)) hb); have n1_ := Aside0.mk (hbox); have n2_ := Aside0.mk ((by rw [hg]; exact (below_size (by repeat (first | (with_reducible first | exact HB.out | apply below_alloc | apply pw_below_drewN | apply below_drew1) | exact HB.out))) : w.heap.size ≤ gb246)); have n3_ := Aside0.mk ((by rw [hg]; exact (below_size (by repeat (first | (with_reducible first | exact HB.out | apply below_alloc | apply pw_below_drewN | apply below_drew1) | exact HB.out))) : w.heap.size ≤ gb246)); clear HB; have HB := n0_; have BK246 := n1_; have GW246 := n2_; have GE246 := n3_; clear n0_ n1_ n2_ n3_; clear hb hbox hg) | ((with_reducible refine gate_callee (f := 8) rfl ?_); refine goesL_ (some 16) rfl rfl Try.func8 (by kernel_rfl) rfl #[] rfl (by (try simp only [List.map_toArray, List.map_cons, List.map_nil]); first | done | rfl | (simp only [List.length_drop, List.length_take]; rfl)) ?_; (with_reducible refine (thresherlaw15_shown.calls  t247 _ A4.out).mono ?_); rintro e w36 ⟨rfl, hb⟩; refine ⟨_, rfl, ?_⟩; have n0_ := Aside0.mk (blk_below (g := gb246) (o := .cells #[.int .u8 a1_0, .int .u8 a1_1] 34 (0, 0)) (by (with_reducible repeat (first | refine blk_drewN ?_ _ | refine blk_drew ?_ | refine blk_alloc ?_ _)); exact BK246.out) hb); have n1_ := Aside0.mk (below_step (by repeat (first | (with_reducible first | exact HB.out | apply below_alloc | apply pw_below_drewN | apply below_drew1 | refine below_set ?_ GE246.out) | exact HB.out)) hb); clear BK246; clear HB; have BK246 := n0_; have HB := n1_; clear n0_ n1_; (try clear hb); (try clear hb2); (try clear hk); (try clear hi)) | ((with_reducible refine gate_callee (f := 9) rfl ?_); refine goesL_ (some 18) rfl rfl Try.func9 (by kernel_rfl) rfl #[.slice A0 l0.length c0] rfl (by (try simp only [List.map_toArray, List.map_cons, List.map_nil]); first | done | rfl | (simp only [List.length_drop, List.length_take]; rfl)) ?_; (with_reducible refine (thresherlaw15_few.calls (fun k_ => k_ < w.heap.size) _ _ l0 t248 _ ?side1 A5.out).mono ?_); (case side1 => exact Kd.V_mk HC0.out (Kd.F_below (Kd.C_F (Kd.heap_int .i64) HR0.out) (by repeat (first | (with_reducible first | exact HB.out | apply below_alloc | apply pw_below_drewN | apply below_drew1 | refine below_set ?_ GE246.out) | exact HB.out)))); rintro e w37 ⟨v249, rfl, ho0, hb⟩; refine ⟨_, rfl, ?_⟩; have n0_ := Aside0.mk (Kd.V_lower (Kd.V_mono (ok' := fun k_ => k_ ≠ gb246) ho0 (fun k_ hk_ => Or.elim hk_ (fun hs_ => fun e_ => Nat.not_le.2 hs_ (by rw [e_]; exact GW246.out)) (fun hn_ => (Kd.freshB (g := gb246) (o := .cells #[.int .u8 a1_0, .int .u8 a1_1] 34 (0, 0)) (by (with_reducible repeat (first | refine blk_drewN ?_ _ | refine blk_drew ?_ | refine blk_alloc ?_ _)); exact BK246.out) k_ hn_)))) (below_size (by repeat (first | (with_reducible first | exact HB.out | apply below_alloc | apply pw_below_drewN | apply below_drew1 | refine below_set ?_ GE246.out) | exact HB.out)))); have n1_ := Aside0.mk (blk_below (g := gb246) (o := .cells #[.int .u8 a1_0, .int .u8 a1_1] 34 (0, 0)) (by (with_reducible repeat (first | refine blk_drewN ?_ _ | refine blk_drew ?_ | refine blk_alloc ?_ _)); exact BK246.out) hb); have n2_ := Aside0.mk (below_step (by repeat (first | (with_reducible first | exact HB.out | apply below_alloc | apply pw_below_drewN | apply below_drew1 | refine below_set ?_ GE246.out) | exact HB.out)) hb); clear BK246; clear HB; have HO250 := n0_; have BK246 := n1_; have HB := n2_; clear n0_ n1_ n2_; (try clear hb); (try clear hb2); (try clear hk); (try clear hi); (try clear ho0)) | ((with_reducible refine gate_dst (N := 19) rfl ?_); refine Kd.R_lit (Kd.int .i64) _ 3 ?hg (N := 19) ?hd (xs := ([] : List Int)) (inner := []) (ok := fun _ => True) (okp := fun _ => True) ?hr ?hp (fun _ hk => hk) trivial (Below.refl _ _) (Nat.le_refl _) (by simp) ?_; (case hd => rfl); (case hg => rfl); (case hr => first | (go_simp; done) | (go_simp; rfl)); (case hp => exact (Reps.none _ _)); intro v252 w38 ho39 hb hg_ hnew_; clear hg_ hnew_; (first | rw [← Ny251.out] at ho39 | (simp only [Int.reduceToNat] at ho39; rw [← Ny251.out] at ho39)); have n0_ := Aside0.mk (Kd.V_elder' (by (with_reducible repeat (first | apply Kd.V_alloc | apply Kd.V_drewN | apply Kd.V_drew)); exact HO250.out) (Kd.R_base ho39) hb); have n1_ := Aside0.mk (Kd.R_lower ho39 (below_size (by repeat (first | (with_reducible first | exact HB.out | apply below_alloc | apply pw_below_drewN | apply below_drew1 | refine below_set ?_ GE246.out) | exact HB.out)))); have n2_ := Aside0.mk (blk_below (g := gb246) (o := .cells #[.int .u8 a1_0, .int .u8 a1_1] 34 (0, 0)) (by (with_reducible repeat (first | refine blk_drewN ?_ _ | refine blk_drew ?_ | refine blk_alloc ?_ _)); exact BK246.out) hb); have n3_ := Aside0.mk (below_step (by repeat (first | (with_reducible first | exact HB.out | apply below_alloc | apply pw_below_drewN | apply below_drew1 | refine below_set ?_ GE246.out) | exact HB.out)) hb); clear HO250; clear BK246; clear HB; have HO250 := n0_; have HO253 := n1_; have BK246 := n2_; have HB := n3_; clear n0_ n1_ n2_ n3_; clear hb ho39; obtain ⟨Ao41, co41, eo41⟩ := Kd.V_slice HO250.out; subst eo41) | ((with_reducible refine gate_builtin (b := .append) (xs := #[.tmp 19, .tmp 20]) rfl ?_); at_builtin; refine Kd.R_append_rows (Kd.int .i64) (w0 := w) w.heap.size rfl (.tmp 19) (.tmp 20) 22 3 (.int .i64 0) 8 rfl Try.underlying22 info3 rfl (by decide) (by omega) v252 y251 t248 _ _ _ (fun _ => True) (fun _ => False) rfl rfl ?aO ?aR (fun _ _ h => h) (fun _ h => h.elim) ?aF ?aB ?aS ?aL ?_; (case aR => repeat (first | exact (Kd.V_reads' HO250.out).2.2 | (with_reducible refine Kd.C_alloc ?_ _) | (with_reducible refine Kd.C_drewN ?_ _) | (with_reducible refine Kd.C_drew ?_))); (case aB => exact (by repeat (first | (with_reducible first | exact HB.out | apply below_alloc | apply pw_below_drewN | apply below_drew1 | refine below_set ?_ GE246.out) | exact HB.out))); (case aF => exact (fun _ _ => trivial)); (case aO => exact (by (with_reducible repeat (first | apply Kd.R_alloc | apply Kd.R_drewN | apply Kd.R_drew)); exact HO253.out)); (case aS => exact (below_size (by repeat (first | (with_reducible first | exact HB.out | apply below_alloc | apply pw_below_drewN | apply below_drew1 | refine below_set ?_ GE246.out) | exact HB.out)))); (case aL => have := LMc6.out; omega); intro v255 w40 ho hb hg hat; rw [← Ny254.out] at ho; have n0_ := Aside0.mk (blk_grown (g := gb246) (o := .cells #[.int .u8 a1_0, .int .u8 a1_1] 34 (0, 0)) (by (with_reducible repeat (first | refine blk_drewN ?_ _ | refine blk_drew ?_ | refine blk_alloc ?_ _)); exact BK246.out) hg (Kd.R_ne HO253.out BK246.out (by decide))); have n1_ := Aside0.mk (Kd.V_afterv (ok := (fun k_ => k_ ≠ gb246)) (by (with_reducible repeat (first | apply Kd.V_alloc | apply Kd.V_drewN | apply Kd.V_drew)); exact HO250.out) hg hat); have n2_ := Aside0.mk (hb); have n3_ := Aside0.mk (ho); clear BK246; clear HO250; clear HB; clear HO253; have BK246 := n0_; have HO250 := n1_; have HB := n2_; have HO256 := n3_; clear n0_ n1_ n2_ n3_; clear ho hb hg hat; have hcz42_0 : w40.cell? ⟨gb246, 0, none⟩ = some (.int .u8 a1_0) := (blk_cell BK246.out 0).trans rfl; have hcz42_1 : w40.cell? ⟨gb246, 1, none⟩ = some (.int .u8 a1_1) := (blk_cell BK246.out 1).trans rfl; have hfz42_0 := blk_frozen BK246.out 0; have hfz42_1 := blk_frozen BK246.out 1) | ((with_reducible refine gate_callee (f := 14) rfl ?_); refine goesL_ (some 57) rfl rfl Try.func14 (by kernel_rfl) rfl #[.slice Ao41 t248.length co41, .int .i64 (Int.tmod (wrap64 (a1_0)) (wrap64 ((t248.length : Int) - 1))), .int .i64 (wrap64 ((wrap64 ((Int.tmod (wrap64 (a1_0)) (wrap64 ((t248.length : Int) - 1))) + 2)) + (Int.tmod (wrap64 (a1_1)) (wrap64 ((wrap64 ((t248.length : Int) - (Int.tmod (wrap64 (a1_0)) (wrap64 ((t248.length : Int) - 1))))) - 1))))), .int .i64 a2] rfl (by (try simp only [List.map_toArray, List.map_cons, List.map_nil]); first | done | rfl | (simp only [List.length_drop, List.length_take]; rfl)) ?_; (with_reducible refine (pick_After.calls k (fun k_ => (k_ ≠ gb246 ∧ some k_ ≠ (v255 : Value).ownBlock)) _ _ t248 (Int.tmod (wrap64 (a1_0)) (wrap64 ((t248.length : Int) - 1))) (wrap64 ((wrap64 ((Int.tmod (wrap64 (a1_0)) (wrap64 ((t248.length : Int) - 1))) + 2)) + (Int.tmod (wrap64 (a1_1)) (wrap64 ((wrap64 ((t248.length : Int) - (Int.tmod (wrap64 (a1_0)) (wrap64 ((t248.length : Int) - 1))))) - 1))))) a2 t261 _ ?side1 A33.out).mono ?_); (case side1 => exact HO250.out); rintro e w43 ⟨v262, rfl, ho0, hb⟩; refine ⟨_, rfl, ?_⟩; have n0_ := Aside0.mk (Kd.V_elder' (by (with_reducible repeat (first | apply Kd.V_alloc | apply Kd.V_drewN | apply Kd.V_drew)); exact HO250.out) (Kd.R_base ho0) hb); have n1_ := Aside0.mk (Kd.R_elder' (by (with_reducible repeat (first | apply Kd.R_alloc | apply Kd.R_drewN | apply Kd.R_drew)); exact HO256.out) (Kd.R_base ho0) hb); have n2_ := Aside0.mk (Kd.R_lower (Kd.R_new' (Kd.R_mono (ok' := fun k_ => True) ho0 (fun _ hk_ => trivial)) (Kd.R_lt (by (with_reducible repeat (first | apply Kd.R_alloc | apply Kd.R_drewN | apply Kd.R_drew)); exact HO256.out))) (below_size (by repeat (first | (with_reducible first | exact HB.out | apply below_alloc | apply pw_below_drewN | apply below_drew1 | refine below_set ?_ GE246.out) | exact HB.out)))); have n3_ := Aside0.mk (blk_below (g := gb246) (o := .cells #[.int .u8 a1_0, .int .u8 a1_1] 34 (0, 0)) (by (with_reducible repeat (first | refine blk_drewN ?_ _ | refine blk_drew ?_ | refine blk_alloc ?_ _)); exact BK246.out) hb); have n4_ := Aside0.mk (below_step (by repeat (first | (with_reducible first | exact HB.out | apply below_alloc | apply pw_below_drewN | apply below_drew1 | refine below_set ?_ GE246.out) | exact HB.out)) hb); clear HO250; clear HO256; clear BK246; clear HB; have HO250 := n0_; have HO256 := n1_; have HO263 := n2_; have BK246 := n3_; have HB := n4_; clear n0_ n1_ n2_ n3_ n4_; (try clear hb); (try clear hb2); (try clear hk); (try clear hi); (try clear ho0)))
          (try simp only [Act.put, List.setIfInBounds_toArray, List.set_cons_zero, List.set_cons_succ])
          go_cut [75] (fun v75 wc => ∃ (kq : Nat) (x75_33 : Bool), v75 = .bool x75_33 ∧ Aside0 (thresherlaw15_PickAfters.j0 kq t248 t247 y254 (Int.tmod (wrap64 (a1_0)) (wrap64 ((t248.length : Int) - 1))) (wrap64 ((wrap64 ((Int.tmod (wrap64 (a1_0)) (wrap64 ((t248.length : Int) - 1))) + 2)) + (Int.tmod (wrap64 (a1_1)) (wrap64 ((wrap64 ((t248.length : Int) - (Int.tmod (wrap64 (a1_0)) (wrap64 ((t248.length : Int) - 1))))) - 1))))) t261 x75_33 = some r) ∧ Aside0 (kq ≤ k) ∧ Aside0 (Kd.V (Kd.int .i64) 3 wc w.heap.size (fun k_ => some k_ ≠ (v255 : Value).ownBlock ∧ some k_ ≠ (v262 : Value).ownBlock ∧ k_ ≠ gb246) (.slice Ao41 t248.length co41) t248) ∧ Aside0 (Kd.R (Kd.int .i64) 3 wc w.heap.size (fun k_ => some k_ ≠ (v262 : Value).ownBlock) v255 y254) ∧ Aside0 (Kd.R (Kd.int .i64) 3 wc w.heap.size (fun k_ => some k_ ≠ (v255 : Value).ownBlock) v262 t261) ∧ Aside0 (wc.heap[gb246]? = some (.cells #[.int .u8 a1_0, .int .u8 a1_1] 34 (0, 0))) ∧ Aside0 (Below w.heap.size w wc))
          case first =>
            have H := HC34.out
            clear HC34
            by_cases c44 : (t261.length : Int) = (wrap64 ((wrap64 ((t248.length : Int) - (wrap64 ((wrap64 ((wrap64 ((Int.tmod (wrap64 (a1_0)) (wrap64 ((t248.length : Int) - 1))) + 2)) + (Int.tmod (wrap64 (a1_1)) (wrap64 ((wrap64 ((t248.length : Int) - (Int.tmod (wrap64 (a1_0)) (wrap64 ((t248.length : Int) - 1))))) - 1))))) - (Int.tmod (wrap64 (a1_0)) (wrap64 ((t248.length : Int) - 1))))))) + 1))
            · rw [if_pos c44] at H
              have c44b0 : ((t261.length : Int) == (wrap64 ((wrap64 ((t248.length : Int) - (wrap64 ((wrap64 ((wrap64 ((Int.tmod (wrap64 (a1_0)) (wrap64 ((t248.length : Int) - 1))) + 2)) + (Int.tmod (wrap64 (a1_1)) (wrap64 ((wrap64 ((t248.length : Int) - (Int.tmod (wrap64 (a1_0)) (wrap64 ((t248.length : Int) - 1))))) - 1))))) - (Int.tmod (wrap64 (a1_0)) (wrap64 ((t248.length : Int) - 1))))))) + 1))) = true := beq_iff_eq.mpr c44
              have c44b1 : ((t261.length : Int) != (wrap64 ((wrap64 ((t248.length : Int) - (wrap64 ((wrap64 ((wrap64 ((Int.tmod (wrap64 (a1_0)) (wrap64 ((t248.length : Int) - 1))) + 2)) + (Int.tmod (wrap64 (a1_1)) (wrap64 ((wrap64 ((t248.length : Int) - (Int.tmod (wrap64 (a1_0)) (wrap64 ((t248.length : Int) - 1))))) - 1))))) - (Int.tmod (wrap64 (a1_0)) (wrap64 ((t248.length : Int) - 1))))))) + 1))) = false := bne_eq_false_iff_eq.mpr c44
              clear c44
              (first | rw [c44b0] | (simp only [i64_w, i32_w]; rw [c44b0]) | skip)
              obtain ⟨ji45, hji45⟩ : ∃ j_ : Int, (Int.tmod (wrap64 (a1_0)) (wrap64 ((t248.length : Int) - 1))) = j_ := ⟨_, rfl⟩
              replace H : (if 0 ≤ (ji45) then (if (ji45) < (t261.length : Int) then (thresherlaw15_PickAfters.j0 k t248 t247 y254 ji45 (wrap64 ((wrap64 ((ji45) + 2)) + (Int.tmod (wrap64 (a1_1)) (wrap64 ((wrap64 ((t248.length : Int) - (ji45))) - 1))))) t261 ((rd t261 (ji45)) != a2)) else (none)) else (none)) = some r := by first | (rw [hji45] at H; exact H) | (simp only [hji45] at H ⊢; exact H)
              (try rw [hji45] at c32b0)
              (try rw [hji45] at c32b1)
              (try rw [hji45] at c44b0)
              (try rw [hji45] at c44b1)
              by_cases c46 : 0 ≤ (ji45)
              · rw [if_pos c46] at H
                have c46b0 : decide (0 ≤ (ji45)) = true := decide_eq_true c46
                clear c46
                by_cases c47 : (ji45) < (t261.length : Int)
                · rw [if_pos c47] at H
                  have c47b0 : decide ((ji45) < (t261.length : Int)) = true := decide_eq_true c47
                  clear c47
                  have H' := Aside0.mk H
                  clear H
                  obtain ⟨Ao48, co48, eo48⟩ := Kd.R_slice HO263.out
                  subst eo48
                  have p264 : 0 ≤ ((ji45) : Int) := of_decide_eq_true (by first | (with_reducible assumption) | assumption)
                  have q264 : (ji45) < (t261.length : Int) := of_decide_eq_true (by first | (with_reducible assumption) | assumption)
                  obtain ⟨ad264, e264, hx264_0⟩ := Kd.at_int (Kd.R_reads' HO263.out).2.2 (ji45) p264 q264
                  cases e264
                  replace p264 := eq_true p264
                  replace q264 := eq_true q264
                  go_wp2
                  go_meet
                  case rel => exact ⟨_, (((rd t261 (ji45)) != a2)), (by first | rfl | (simp; done) | (simp only [← hji45] <;> (first | rfl | simp)) | (simp [*]; done)), (by first | exact H' | (subst_vars; exact H')), ⟨by first | omega | exact Nat.le_refl _⟩, ⟨by (with_reducible repeat (first | apply Kd.V_alloc | apply Kd.V_drewN | apply Kd.V_drew)); exact Kd.V_mono HO250.out (fun _ hk => ⟨hk.1.2, ⟨hk.2, hk.1.1⟩⟩)⟩, ⟨by (with_reducible repeat (first | apply Kd.R_alloc | apply Kd.R_drewN | apply Kd.R_drew)); exact Kd.R_mono HO256.out (fun _ hk => hk.2)⟩, ⟨by (with_reducible repeat (first | apply Kd.R_alloc | apply Kd.R_drewN | apply Kd.R_drew)); exact Kd.R_mono HO263.out (fun _ hk => hk.2)⟩, ⟨by (with_reducible repeat (first | refine blk_drewN ?_ _ | refine blk_drew ?_ | refine blk_alloc ?_ _)); exact BK246.out⟩, ⟨by repeat (first | (with_reducible first | exact HB.out | apply below_alloc | apply pw_below_drewN | apply below_drew1 | refine below_set ?_ GE246.out) | exact HB.out)⟩⟩
                · rw [if_neg c47] at H
                  exact absurd H (by simp)
              · rw [if_neg c46] at H
                exact absurd H (by simp)
            · rw [if_neg c44] at H
              have c44b0 : ((t261.length : Int) == (wrap64 ((wrap64 ((t248.length : Int) - (wrap64 ((wrap64 ((wrap64 ((Int.tmod (wrap64 (a1_0)) (wrap64 ((t248.length : Int) - 1))) + 2)) + (Int.tmod (wrap64 (a1_1)) (wrap64 ((wrap64 ((t248.length : Int) - (Int.tmod (wrap64 (a1_0)) (wrap64 ((t248.length : Int) - 1))))) - 1))))) - (Int.tmod (wrap64 (a1_0)) (wrap64 ((t248.length : Int) - 1))))))) + 1))) = false := beq_eq_false_iff_ne.mpr c44
              have c44b1 : ((t261.length : Int) != (wrap64 ((wrap64 ((t248.length : Int) - (wrap64 ((wrap64 ((wrap64 ((Int.tmod (wrap64 (a1_0)) (wrap64 ((t248.length : Int) - 1))) + 2)) + (Int.tmod (wrap64 (a1_1)) (wrap64 ((wrap64 ((t248.length : Int) - (Int.tmod (wrap64 (a1_0)) (wrap64 ((t248.length : Int) - 1))))) - 1))))) - (Int.tmod (wrap64 (a1_0)) (wrap64 ((t248.length : Int) - 1))))))) + 1))) = true := bne_iff_ne.mpr c44
              (first | rw [c44b0] | (simp only [i64_w, i32_w]; rw [c44b0]) | skip)
              have H' := Aside0.mk H
              clear H
              obtain ⟨Ao49, co49, eo49⟩ := Kd.R_slice HO263.out
              subst eo49
              go_wp2
              go_meet
              case rel => exact ⟨_, (true), (by first | rfl | (simp; done) | (simp [*]; done)), (by first | exact H' | (subst_vars; exact H')), ⟨by first | omega | exact Nat.le_refl _⟩, ⟨by (with_reducible repeat (first | apply Kd.V_alloc | apply Kd.V_drewN | apply Kd.V_drew)); exact Kd.V_mono HO250.out (fun _ hk => ⟨hk.1.2, ⟨hk.2, hk.1.1⟩⟩)⟩, ⟨by (with_reducible repeat (first | apply Kd.R_alloc | apply Kd.R_drewN | apply Kd.R_drew)); exact Kd.R_mono HO256.out (fun _ hk => hk.2)⟩, ⟨by (with_reducible repeat (first | apply Kd.R_alloc | apply Kd.R_drewN | apply Kd.R_drew)); exact Kd.R_mono HO263.out (fun _ hk => hk.2)⟩, ⟨by (with_reducible repeat (first | refine blk_drewN ?_ _ | refine blk_drew ?_ | refine blk_alloc ?_ _)); exact BK246.out⟩, ⟨by repeat (first | (with_reducible first | exact HB.out | apply below_alloc | apply pw_below_drewN | apply below_drew1 | refine below_set ?_ GE246.out) | exact HB.out)⟩⟩
          case rest =>
            clear HC34
            try clear c1
            try clear p2
            try clear q2
            try clear hx2
            try clear c3
            try clear c4
            try clear c6
            try clear p6
            try clear c7
            try clear c7b0
            try clear c7b1
            try clear c8
            try clear c9
            try clear c10
            try clear c13
            try clear c14
            try clear p26
            try clear q26
            try clear hx26
            try clear c31
            try clear c31b0
            try clear c31b1
            try clear c32
            try clear c32b0
            try clear c32b1
            try clear c44
            try clear c44b0
            try clear c44b1
            try clear c46
            try clear c46b0
            try clear c47
            try clear c47b0
            try clear hcz42_0
            try clear hcz42_1
            try clear hfz42_0
            try clear hfz42_1
            try clear hx264_0
            try clear p264
            try clear q264
            obtain ⟨kq, x75_33, rfl, HA, HJ33, HO_0, HO_8, HO_12, BK246, HB⟩ := hcut
            cases kq with
            | zero => exact absurd HA.out (by simp [thresherlaw15_PickAfters.j0])
            | succ kj33 =>
              have H := HA.out
              clear HA
              simp only [thresherlaw15_PickAfters.j0] at H
              by_cases c50 : x75_33 = true
              · subst c50
                have H1 : (some false) = some r := by rw [if_pos rfl] at H; exact H
                clear H
                have H := H1
                clear H1
                obtain rfl := Option.some.inj H
                go_wp2
                go_ret
                exact ⟨by first | rfl | (simp [errW_none, errW_some] <;> rfl) | (simp [*, errW_none, errW_some] <;> rfl), by repeat (first | (with_reducible first | exact HB.out | apply below_alloc | apply pw_below_drewN | apply below_drew1 | refine below_set ?_ GE246.out) | exact HB.out)⟩
              · replace c50 := Bool.eq_false_iff.mpr c50
                subst c50
                have H1 : (if 0 ≤ (Int.tmod (wrap64 (a1_0)) (wrap64 ((t248.length : Int) - 1))) then (if (Int.tmod (wrap64 (a1_0)) (wrap64 ((t248.length : Int) - 1))) ≤ (t261.length : Int) then (if (Int.tmod (wrap64 (a1_0)) (wrap64 ((t248.length : Int) - 1))) ≤ (t248.length : Int) then ((thresherref15_Same.f kj33 (t261.take ((Int.tmod (wrap64 (a1_0)) (wrap64 ((t248.length : Int) - 1))) : Int).toNat) (t248.take ((Int.tmod (wrap64 (a1_0)) (wrap64 ((t248.length : Int) - 1))) : Int).toNat)).bind fun t274 => (if 0 ≤ (wrap64 ((Int.tmod (wrap64 (a1_0)) (wrap64 ((t248.length : Int) - 1))) + 1)) then (if (wrap64 ((Int.tmod (wrap64 (a1_0)) (wrap64 ((t248.length : Int) - 1))) + 1)) ≤ (t261.length : Int) then (if 0 ≤ (wrap64 ((wrap64 ((Int.tmod (wrap64 (a1_0)) (wrap64 ((t248.length : Int) - 1))) + 2)) + (Int.tmod (wrap64 (a1_1)) (wrap64 ((wrap64 ((t248.length : Int) - (Int.tmod (wrap64 (a1_0)) (wrap64 ((t248.length : Int) - 1))))) - 1))))) then (if (wrap64 ((wrap64 ((Int.tmod (wrap64 (a1_0)) (wrap64 ((t248.length : Int) - 1))) + 2)) + (Int.tmod (wrap64 (a1_1)) (wrap64 ((wrap64 ((t248.length : Int) - (Int.tmod (wrap64 (a1_0)) (wrap64 ((t248.length : Int) - 1))))) - 1))))) ≤ (t248.length : Int) then ((thresherref15_Same.f kj33 (t261.drop ((wrap64 ((Int.tmod (wrap64 (a1_0)) (wrap64 ((t248.length : Int) - 1))) + 1)) : Int).toNat) (t248.drop ((wrap64 ((wrap64 ((Int.tmod (wrap64 (a1_0)) (wrap64 ((t248.length : Int) - 1))) + 2)) + (Int.tmod (wrap64 (a1_1)) (wrap64 ((wrap64 ((t248.length : Int) - (Int.tmod (wrap64 (a1_0)) (wrap64 ((t248.length : Int) - 1))))) - 1))))) : Int).toNat)).bind fun t284 => (if (Int.tmod (wrap64 (a1_0)) (wrap64 ((t248.length : Int) - 1))) < (t261.length : Int) then ((thresherref15_Same.f kj33 t248 y254).bind fun t286 => (if t247 = true then (if t274 = true then (if t284 = true then (some t286) else (some false)) else (some false)) else (some false))) else (none))) else (none)) else (none)) else (none)) else (none))) else (none)) else (none)) else (none)) = some r := by rw [if_neg (show ¬ (false = true) by decide)] at H; exact H
                clear H
                have H := H1
                clear H1
                obtain ⟨ji51, hji51⟩ : ∃ j_ : Int, (Int.tmod (wrap64 (a1_0)) (wrap64 ((t248.length : Int) - 1))) = j_ := ⟨_, rfl⟩
                replace H : (if 0 ≤ (ji51) then (if (ji51) ≤ (t261.length : Int) then (if (ji51) ≤ (t248.length : Int) then ((thresherref15_Same.f kj33 (t261.take ((ji51) : Int).toNat) (t248.take ((ji51) : Int).toNat)).bind fun t274 => (if 0 ≤ (wrap64 ((ji51) + 1)) then (if (wrap64 ((ji51) + 1)) ≤ (t261.length : Int) then (if 0 ≤ (wrap64 ((wrap64 ((ji51) + 2)) + (Int.tmod (wrap64 (a1_1)) (wrap64 ((wrap64 ((t248.length : Int) - (ji51))) - 1))))) then (if (wrap64 ((wrap64 ((ji51) + 2)) + (Int.tmod (wrap64 (a1_1)) (wrap64 ((wrap64 ((t248.length : Int) - (ji51))) - 1))))) ≤ (t248.length : Int) then ((thresherref15_Same.f kj33 (t261.drop ((wrap64 ((ji51) + 1)) : Int).toNat) (t248.drop ((wrap64 ((wrap64 ((ji51) + 2)) + (Int.tmod (wrap64 (a1_1)) (wrap64 ((wrap64 ((t248.length : Int) - (ji51))) - 1))))) : Int).toNat)).bind fun t284 => (if (ji51) < (t261.length : Int) then ((thresherref15_Same.f kj33 t248 y254).bind fun t286 => (if t247 = true then (if t274 = true then (if t284 = true then (some t286) else (some false)) else (some false)) else (some false))) else (none))) else (none)) else (none)) else (none)) else (none))) else (none)) else (none)) else (none)) = some r := by first | (rw [hji51] at H; exact H) | (simp only [hji51] at H ⊢; exact H)
                (try rw [hji51] at c32b0)
                (try rw [hji51] at c32b1)
                by_cases c52 : 0 ≤ (ji51)
                · rw [if_pos c52] at H
                  have c52b0 := eq_true c52
                  have c52b1 : decide (0 ≤ (ji51)) = true := decide_eq_true c52
                  clear c52
                  by_cases c53 : (ji51) ≤ (t261.length : Int)
                  · rw [if_pos c53] at H
                    have c53b0 := eq_true c53
                    have c53b1 : decide ((ji51) ≤ (t261.length : Int)) = true := decide_eq_true c53
                    clear c53
                    obtain ⟨y265, hy265⟩ : ∃ y_ : List Int, y_ = (t261.take ((ji51) : Int).toNat) := ⟨_, rfl⟩
                    replace H : (if (ji51) ≤ (t248.length : Int) then ((thresherref15_Same.f kj33 y265 (t248.take ((ji51) : Int).toNat)).bind fun t274 => (if 0 ≤ (wrap64 ((ji51) + 1)) then (if (wrap64 ((ji51) + 1)) ≤ (t261.length : Int) then (if 0 ≤ (wrap64 ((wrap64 ((ji51) + 2)) + (Int.tmod (wrap64 (a1_1)) (wrap64 ((wrap64 ((t248.length : Int) - (ji51))) - 1))))) then (if (wrap64 ((wrap64 ((ji51) + 2)) + (Int.tmod (wrap64 (a1_1)) (wrap64 ((wrap64 ((t248.length : Int) - (ji51))) - 1))))) ≤ (t248.length : Int) then ((thresherref15_Same.f kj33 (t261.drop ((wrap64 ((ji51) + 1)) : Int).toNat) (t248.drop ((wrap64 ((wrap64 ((ji51) + 2)) + (Int.tmod (wrap64 (a1_1)) (wrap64 ((wrap64 ((t248.length : Int) - (ji51))) - 1))))) : Int).toNat)).bind fun t284 => (if (ji51) < (t261.length : Int) then ((thresherref15_Same.f kj33 t248 y254).bind fun t286 => (if t247 = true then (if t274 = true then (if t284 = true then (some t286) else (some false)) else (some false)) else (some false))) else (none))) else (none)) else (none)) else (none)) else (none))) else (none)) = some r := by first | (rw [hy265]; with_reducible exact H) | (have H2_ := (Option.bind_some _ _).symm.trans H; rw [hy265]; with_reducible exact H2_) | (have H2_ := (Option.bind_some _ _).symm.trans H; with_reducible exact H2_) | with_reducible exact H | (rw [hy265]; exact H) | exact H
                    have Ny265 := Aside0.mk hy265
                    clear hy265
                    have c54b0 := eq_true (of_decide_eq_true (by first | (with_reducible assumption) | assumption) : 0 ≤ (ji51))
                    by_cases c55 : (ji51) ≤ (t248.length : Int)
                    · rw [if_pos c55] at H
                      have c55b0 := eq_true c55
                      have c55b1 : decide ((ji51) ≤ (t248.length : Int)) = true := decide_eq_true c55
                      clear c55
                      obtain ⟨y269, hy269⟩ : ∃ y_ : List Int, y_ = (t248.take ((ji51) : Int).toNat) := ⟨_, rfl⟩
                      replace H : ((thresherref15_Same.f kj33 y265 y269).bind fun t274 => (if 0 ≤ (wrap64 ((ji51) + 1)) then (if (wrap64 ((ji51) + 1)) ≤ (t261.length : Int) then (if 0 ≤ (wrap64 ((wrap64 ((ji51) + 2)) + (Int.tmod (wrap64 (a1_1)) (wrap64 ((wrap64 ((t248.length : Int) - (ji51))) - 1))))) then (if (wrap64 ((wrap64 ((ji51) + 2)) + (Int.tmod (wrap64 (a1_1)) (wrap64 ((wrap64 ((t248.length : Int) - (ji51))) - 1))))) ≤ (t248.length : Int) then ((thresherref15_Same.f kj33 (t261.drop ((wrap64 ((ji51) + 1)) : Int).toNat) (t248.drop ((wrap64 ((wrap64 ((ji51) + 2)) + (Int.tmod (wrap64 (a1_1)) (wrap64 ((wrap64 ((t248.length : Int) - (ji51))) - 1))))) : Int).toNat)).bind fun t284 => (if (ji51) < (t261.length : Int) then ((thresherref15_Same.f kj33 t248 y254).bind fun t286 => (if t247 = true then (if t274 = true then (if t284 = true then (some t286) else (some false)) else (some false)) else (some false))) else (none))) else (none)) else (none)) else (none)) else (none))) = some r := by first | (rw [hy269]; with_reducible exact H) | (have H2_ := (Option.bind_some _ _).symm.trans H; rw [hy269]; with_reducible exact H2_) | (have H2_ := (Option.bind_some _ _).symm.trans H; with_reducible exact H2_) | with_reducible exact H | (rw [hy269]; exact H) | exact H
                      have Ny269 := Aside0.mk hy269
                      clear hy269
                      replace H := Option.bind_eq_some_iff.mp H
                      obtain ⟨t274, A560, H⟩ := H
                      replace H : (if 0 ≤ (wrap64 ((ji51) + 1)) then (if (wrap64 ((ji51) + 1)) ≤ (t261.length : Int) then (if 0 ≤ (wrap64 ((wrap64 ((ji51) + 2)) + (Int.tmod (wrap64 (a1_1)) (wrap64 ((wrap64 ((t248.length : Int) - (ji51))) - 1))))) then (if (wrap64 ((wrap64 ((ji51) + 2)) + (Int.tmod (wrap64 (a1_1)) (wrap64 ((wrap64 ((t248.length : Int) - (ji51))) - 1))))) ≤ (t248.length : Int) then ((thresherref15_Same.f kj33 (t261.drop ((wrap64 ((ji51) + 1)) : Int).toNat) (t248.drop ((wrap64 ((wrap64 ((ji51) + 2)) + (Int.tmod (wrap64 (a1_1)) (wrap64 ((wrap64 ((t248.length : Int) - (ji51))) - 1))))) : Int).toNat)).bind fun t284 => (if (ji51) < (t261.length : Int) then ((thresherref15_Same.f kj33 t248 y254).bind fun t286 => (if t247 = true then (if t274 = true then (if t284 = true then (some t286) else (some false)) else (some false)) else (some false))) else (none))) else (none)) else (none)) else (none)) else (none)) = some r := H
                      have A56 := Aside0.mk A560
                      clear A560
                      obtain ⟨ji57, hji57⟩ : ∃ j_ : Int, (wrap64 ((ji51) + 1)) = j_ := ⟨_, rfl⟩
                      replace H : (if 0 ≤ (ji57) then (if (ji57) ≤ (t261.length : Int) then (if 0 ≤ (wrap64 ((wrap64 ((ji51) + 2)) + (Int.tmod (wrap64 (a1_1)) (wrap64 ((wrap64 ((t248.length : Int) - (ji51))) - 1))))) then (if (wrap64 ((wrap64 ((ji51) + 2)) + (Int.tmod (wrap64 (a1_1)) (wrap64 ((wrap64 ((t248.length : Int) - (ji51))) - 1))))) ≤ (t248.length : Int) then ((thresherref15_Same.f kj33 (t261.drop ((ji57) : Int).toNat) (t248.drop ((wrap64 ((wrap64 ((ji51) + 2)) + (Int.tmod (wrap64 (a1_1)) (wrap64 ((wrap64 ((t248.length : Int) - (ji51))) - 1))))) : Int).toNat)).bind fun t284 => (if (ji51) < (t261.length : Int) then ((thresherref15_Same.f kj33 t248 y254).bind fun t286 => (if t247 = true then (if t274 = true then (if t284 = true then (some t286) else (some false)) else (some false)) else (some false))) else (none))) else (none)) else (none)) else (none)) else (none)) = some r := by first | (rw [hji57] at H; exact H) | (simp only [hji57] at H ⊢; exact H)
                      (try rw [hji57] at A56)
                      have hji57w : (IntKind.i64.wrap ((ji51) + 1)) = ji57 := (i64_w _).trans hji57
                      by_cases c58 : 0 ≤ (ji57)
                      · rw [if_pos c58] at H
                        have c58b0 := eq_true c58
                        have c58b1 : decide (0 ≤ (ji57)) = true := decide_eq_true c58
                        clear c58
                        by_cases c59 : (ji57) ≤ (t261.length : Int)
                        · rw [if_pos c59] at H
                          have c59b0 := eq_true c59
                          have c59b1 : decide ((ji57) ≤ (t261.length : Int)) = true := decide_eq_true c59
                          clear c59
                          obtain ⟨y275, hy275⟩ : ∃ y_ : List Int, y_ = (t261.drop ((ji57) : Int).toNat) := ⟨_, rfl⟩
                          replace H : (if 0 ≤ (wrap64 ((wrap64 ((ji51) + 2)) + (Int.tmod (wrap64 (a1_1)) (wrap64 ((wrap64 ((t248.length : Int) - (ji51))) - 1))))) then (if (wrap64 ((wrap64 ((ji51) + 2)) + (Int.tmod (wrap64 (a1_1)) (wrap64 ((wrap64 ((t248.length : Int) - (ji51))) - 1))))) ≤ (t248.length : Int) then ((thresherref15_Same.f kj33 y275 (t248.drop ((wrap64 ((wrap64 ((ji51) + 2)) + (Int.tmod (wrap64 (a1_1)) (wrap64 ((wrap64 ((t248.length : Int) - (ji51))) - 1))))) : Int).toNat)).bind fun t284 => (if (ji51) < (t261.length : Int) then ((thresherref15_Same.f kj33 t248 y254).bind fun t286 => (if t247 = true then (if t274 = true then (if t284 = true then (some t286) else (some false)) else (some false)) else (some false))) else (none))) else (none)) else (none)) = some r := by first | (rw [hy275]; with_reducible exact H) | (have H2_ := (Option.bind_some _ _).symm.trans H; rw [hy275]; with_reducible exact H2_) | (have H2_ := (Option.bind_some _ _).symm.trans H; with_reducible exact H2_) | with_reducible exact H | (rw [hy275]; exact H) | exact H
                          have Ny275 := Aside0.mk hy275
                          clear hy275
                          obtain ⟨ji60, hji60⟩ : ∃ j_ : Int, (wrap64 ((wrap64 ((ji51) + 2)) + (Int.tmod (wrap64 (a1_1)) (wrap64 ((wrap64 ((t248.length : Int) - (ji51))) - 1))))) = j_ := ⟨_, rfl⟩
                          replace H : (if 0 ≤ (ji60) then (if (ji60) ≤ (t248.length : Int) then ((thresherref15_Same.f kj33 y275 (t248.drop ((ji60) : Int).toNat)).bind fun t284 => (if (ji51) < (t261.length : Int) then ((thresherref15_Same.f kj33 t248 y254).bind fun t286 => (if t247 = true then (if t274 = true then (if t284 = true then (some t286) else (some false)) else (some false)) else (some false))) else (none))) else (none)) else (none)) = some r := by first | (rw [hji60] at H; exact H) | (simp only [hji60] at H ⊢; exact H)
                          (try rw [hji60] at A56)
                          have hji60w : (IntKind.i64.wrap ((wrap64 ((ji51) + 2)) + (Int.tmod (wrap64 (a1_1)) (wrap64 ((wrap64 ((t248.length : Int) - (ji51))) - 1))))) = ji60 := (i64_w _).trans hji60
                          by_cases c61 : 0 ≤ (ji60)
                          · rw [if_pos c61] at H
                            have c61b0 := eq_true c61
                            have c61b1 : decide (0 ≤ (ji60)) = true := decide_eq_true c61
                            clear c61
                            by_cases c62 : (ji60) ≤ (t248.length : Int)
                            · rw [if_pos c62] at H
                              have c62b0 := eq_true c62
                              have c62b1 : decide ((ji60) ≤ (t248.length : Int)) = true := decide_eq_true c62
                              clear c62
                              obtain ⟨y279, hy279⟩ : ∃ y_ : List Int, y_ = (t248.drop ((ji60) : Int).toNat) := ⟨_, rfl⟩
                              replace H : ((thresherref15_Same.f kj33 y275 y279).bind fun t284 => (if (ji51) < (t261.length : Int) then ((thresherref15_Same.f kj33 t248 y254).bind fun t286 => (if t247 = true then (if t274 = true then (if t284 = true then (some t286) else (some false)) else (some false)) else (some false))) else (none))) = some r := by first | (rw [hy279]; with_reducible exact H) | (have H2_ := (Option.bind_some _ _).symm.trans H; rw [hy279]; with_reducible exact H2_) | (have H2_ := (Option.bind_some _ _).symm.trans H; with_reducible exact H2_) | with_reducible exact H | (rw [hy279]; exact H) | exact H
                              have Ny279 := Aside0.mk hy279
                              clear hy279
                              replace H := Option.bind_eq_some_iff.mp H
                              obtain ⟨t284, A630, H⟩ := H
                              replace H : (if (ji51) < (t261.length : Int) then ((thresherref15_Same.f kj33 t248 y254).bind fun t286 => (if t247 = true then (if t274 = true then (if t284 = true then (some t286) else (some false)) else (some false)) else (some false))) else (none)) = some r := H
                              have A63 := Aside0.mk A630
                              clear A630
                              by_cases c64 : (ji51) < (t261.length : Int)
                              · rw [if_pos c64] at H
                                have c64b0 : decide ((ji51) < (t261.length : Int)) = true := decide_eq_true c64
                                clear c64
                                obtain ⟨y285, hy285⟩ : ∃ y_ : List Int, y_ = (t261.set ((ji51) : Int).toNat (wrap64 (a2 + 1))) := ⟨_, rfl⟩
                                replace H : ((thresherref15_Same.f kj33 t248 y254).bind fun t286 => (if t247 = true then (if t274 = true then (if t284 = true then (some t286) else (some false)) else (some false)) else (some false))) = some r := by first | (rw [hy285]; with_reducible exact H) | (have H2_ := (Option.bind_some _ _).symm.trans H; rw [hy285]; with_reducible exact H2_) | (have H2_ := (Option.bind_some _ _).symm.trans H; with_reducible exact H2_) | with_reducible exact H | (rw [hy285]; exact H) | exact H
                                have Ny285 := Aside0.mk hy285
                                clear hy285
                                replace H := Option.bind_eq_some_iff.mp H
                                obtain ⟨t286, A660, H⟩ := H
                                replace H : (if t247 = true then (if t274 = true then (if t284 = true then (some t286) else (some false)) else (some false)) else (some false)) = some r := H
                                have A66 := Aside0.mk A660
                                clear A660
                                by_cases c67 : t247 = true
                                · subst c67
                                  have H1 : (if t274 = true then (if t284 = true then (some t286) else (some false)) else (some false)) = some r := by rw [if_pos rfl] at H; exact H
                                  clear H
                                  have H := H1
                                  clear H1
                                  by_cases c68 : t274 = true
                                  · subst c68
                                    have H1 : (if t284 = true then (some t286) else (some false)) = some r := by rw [if_pos rfl] at H; exact H
                                    clear H
                                    have H := H1
                                    clear H1
                                    by_cases c69 : t284 = true
                                    · subst c69
                                      have H1 : (some t286) = some r := by rw [if_pos rfl] at H; exact H
                                      clear H
                                      have H := H1
                                      clear H1
                                      obtain rfl := Option.some.inj H
                                      try go_wp2
                                      have n0_ := Aside0.mk (Kd.V_drew HO_0.out)
                                      have n1_ := Aside0.mk (Kd.R_drew HO_8.out)
                                      have n2_ := Aside0.mk (Kd.R_drew HO_12.out)
                                      have n3_ := Aside0.mk (blk_drew BK246.out)
                                      have n4_ := Aside0.mk (below_drew1 HB.out)
                                      clear HO_0
                                      clear HO_8
                                      clear HO_12
                                      clear BK246
                                      clear HB
                                      have HO_0 := n0_
                                      have HO_8 := n1_
                                      have HO_12 := n2_
                                      have BK246 := n3_
                                      have HB := n4_
                                      clear n0_ n1_ n2_ n3_ n4_
                                      obtain ⟨Ao72, co72, eo72⟩ := Kd.R_slice HO_12.out
                                      (first | subst eo72 | (injection eo72 with f1_ f2_ f3_; have f4_ := f1_.symm; have f5_ := f3_.symm; clear f1_ f2_ f3_; subst f4_; subst f5_))
                                      have q71 : ((ji51) : Int) ≤ ((t261.length : Int) : Int) := of_decide_eq_true (by first | (with_reducible assumption) | assumption)
                                      obtain ⟨i071, hi071, _, hsz71, _⟩ := info_parts info3
                                      have hroom71 : t261.length ≤ co72 := (Kd.R_reads' HO_12.out).2.1
                                      have hC71 : Kd.C (Kd.int .i64) _ Ao72 t261.length t261 := (Kd.R_reads' HO_12.out).2.2
                                      have hcut71 := cut_to (P := Try.prog) 22 3 .i64 Try.underlying22 hi071 Ao72 t261.length co72 (ji51) (of_decide_eq_true (by first | (with_reducible assumption) | assumption)) q71 hroom71
                                      have hr71 := Kd.C_take (m := ((ji51) : Int).toNat) hC71 (by omega)
                                      have hy71 : y265.length = ((ji51) : Int).toNat := (by rw [Ny265.out, List.length_take]; omega)
                                      rw [← Ny265.out] at hr71
                                      rw [← hy71] at hcut71
                                      have HR268 := Aside0.mk hr71
                                      have HC268 := Aside0.mk (show y265.length ≤ co72 from by omega)
                                      clear hr71 hC71 hroom71 hi071 hsz71
                                      have KY71 := Aside0.mk hy71
                                      clear hy71
                                      have KL71 := Aside0.mk (show ((ji51) : Int).toNat ≤ t261.length from by omega)
                                      replace q71 := eq_true q71
                                      have q73 : ((ji51) : Int) ≤ ((t248.length : Int) : Int) := of_decide_eq_true (by first | (with_reducible assumption) | assumption)
                                      obtain ⟨i073, hi073, _, hsz73, _⟩ := info_parts info3
                                      have hroom73 : t248.length ≤ co41 := (Kd.V_reads' HO_0.out).2.1
                                      have hC73 : Kd.F (Kd.int .i64) _ _ Ao41 t248.length t248 := (Kd.V_at (base := w.heap.size) HO_0.out).2.2
                                      have hcut73 := cut_to (P := Try.prog) 22 3 .i64 Try.underlying22 hi073 Ao41 t248.length co41 (ji51) (of_decide_eq_true (by first | (with_reducible assumption) | assumption)) q73 hroom73
                                      have hr73 := Kd.F_take (m := ((ji51) : Int).toNat) hC73 (by omega)
                                      have hy73 : y269.length = ((ji51) : Int).toNat := (by rw [Ny269.out, List.length_take]; omega)
                                      rw [← Ny269.out] at hr73
                                      rw [← hy73] at hcut73
                                      have HO273 := Aside0.mk (show Kd.V (Kd.int .i64) 3 _ w.heap.size _ (.slice Ao41 y269.length co41) y269 from Kd.V_mk (by omega) hr73)
                                      have HC273 := Aside0.mk (show y269.length ≤ co41 from by omega)
                                      clear hr73 hC73 hroom73 hi073 hsz73
                                      have KY73 := Aside0.mk hy73
                                      clear hy73
                                      replace q73 := eq_true q73
                                      refine start_ (n := 8) (S := fun w' => True) (ds := []) #[false, false, false, false, false, false, false, false] (by kernel_rfl) rfl rfl trivial (fun hHeld => ?_); refine with_tabW thresherlaw15_PickAfters.tab12 thresherlaw15_PickAfters.bits12 (fun HT_ HW_ => ?_)
                                      generalize wc.drew = w70 at HO_0 HO_8 HO_12 BK246 HB HO273 HR268 hHeld ⊢
                                      refine pure_ (i := 0) (N := some 76) (v := ?_) (a' := ?_) #[true, false, false, false, false, false, false, false] rfl rfl (any_of HT_.out (by kernel_rfl)) (fun _ _ _ h => h) (Or.inl ⟨by rfl, ?_⟩) ?_ ?_
                                      rotate_left
                                      · intro w'
                                        go_simp
                                        with_reducible rfl
                                      rotate_left
                                      · simp only [Act.put, List.setIfInBounds_toArray, List.set_cons_zero, List.set_cons_succ, i64_w, i32_w]
                                        rfl
                                      refine pure_ (i := 1) (N := some 77) (v := ?_) (a' := ?_) #[true, true, false, false, false, false, false, false] rfl rfl (any_of HT_.out (by kernel_rfl)) (fun _ _ _ h => h) (Or.inl ⟨by rfl, ?_⟩) ?_ ?_
                                      rotate_left
                                      · intro w'
                                        go_simp
                                        with_reducible rfl
                                      rotate_left
                                      · simp only [Act.put, List.setIfInBounds_toArray, List.set_cons_zero, List.set_cons_succ, i64_w, i32_w]
                                        rfl
                                      refine pure_ (i := 2) (N := some 78) (v := ?_) (a' := ?_) #[true, true, true, false, false, false, false, false] rfl rfl (any_of HT_.out (by kernel_rfl)) (fun _ _ _ h => h) (Or.inl ⟨by rfl, ?_⟩) ?_ ?_
                                      rotate_left
                                      · intro w'
                                        go_simp
                                        with_reducible rfl
                                      rotate_left
                                      · simp only [Act.put, List.setIfInBounds_toArray, List.set_cons_zero, List.set_cons_succ, i64_w, i32_w]
                                        rfl
                                      refine pure_ (i := 3) (N := some 79) (v := ?_) (a' := ?_) #[true, true, true, true, false, false, false, false] rfl rfl (any_of HT_.out (by kernel_rfl)) (fun _ _ _ h => h) (Or.inl ⟨by rfl, ?_⟩) ?_ ?_
                                      rotate_left
                                      · intro w'
                                        go_simp
                                        with_reducible rfl
                                      rotate_left
                                      · simp only [Act.put, List.setIfInBounds_toArray, List.set_cons_zero, List.set_cons_succ, i64_w, i32_w]
                                        rfl
                                      refine pure_ (i := 4) (N := some 80) (v := ?_) (a' := ?_) #[true, true, true, true, true, false, false, false] rfl rfl (any_of HT_.out (by kernel_rfl)) (fun _ _ _ h => h) (Or.inl ⟨by rfl, ?_⟩) ?_ ?_
                                      rotate_left
                                      · intro w'
                                        go_simp
                                        with_reducible rfl
                                      rotate_left
                                      · simp only [Act.put, List.setIfInBounds_toArray, List.set_cons_zero, List.set_cons_succ, i64_w, i32_w]
                                        rfl
                                      refine pure_ (i := 5) (N := some 81) (v := ?_) (a' := ?_) #[true, true, true, true, true, true, false, false] rfl rfl (any_of HT_.out (by kernel_rfl)) (fun _ _ _ h => h) (Or.inl ⟨by rfl, ?_⟩) ?_ ?_
                                      rotate_left
                                      · intro w'
                                        go_simp
                                        with_reducible rfl
                                      rotate_left
                                      · simp only [Act.put, List.setIfInBounds_toArray, List.set_cons_zero, List.set_cons_succ, i64_w, i32_w]
                                        rfl
                                      refine one_ (i := 6) (N := some 82) #[true, true, true, true, true, true, true, false] rfl rfl (one_of HT_.out (by kernel_rfl)) (by decide) (fun K hK => ?_)
                                      refine goes_ Try.func13 (by kernel_rfl) rfl #[.slice Ao72 y265.length co72, .slice Ao41 y269.length co41] (by rfl) rfl rfl (by (try simp only [List.map_toArray, List.map_cons, List.map_nil]); first | done | rfl | (simp only [List.length_drop, List.length_take]; rfl)) ?_
                                      with_reducible refine (thresherref15_Same.calls kj33 _ _ y265 _ _ y269 true _ ?side1 ?side2 ?side3 ?side4 A56.out).mono ?_
                                      (case side1 => repeat (first | exact (by repeat (first | (with_reducible exact HR268.out) | (with_reducible refine Kd.C_alloc ?_ _) | (with_reducible refine Kd.C_drewN ?_ _) | (with_reducible refine Kd.C_drew ?_) | exact HR268.out)) | (with_reducible refine Kd.C_alloc ?_ _) | (with_reducible refine Kd.C_drewN ?_ _) | (with_reducible refine Kd.C_drew ?_)))
                                      (case side2 => exact HC268.out)
                                      (case side3 => repeat (first | exact (Kd.V_reads' HO273.out).2.2 | (with_reducible refine Kd.C_alloc ?_ _) | (with_reducible refine Kd.C_drewN ?_ _) | (with_reducible refine Kd.C_drew ?_)))
                                      (case side4 => exact (Kd.V_reads' HO273.out).2.1)
                                      rintro e w74 ⟨rfl, hb⟩
                                      refine ⟨_, rfl, ?_⟩
                                      have n0_ := Aside0.mk (Kd.V_below (by (with_reducible repeat (first | apply Kd.V_alloc | apply Kd.V_drewN | apply Kd.V_drew)); exact HO_0.out) hb)
                                      have n1_ := Aside0.mk (Kd.R_below (by (with_reducible repeat (first | apply Kd.R_alloc | apply Kd.R_drewN | apply Kd.R_drew)); exact HO_8.out) hb)
                                      have n2_ := Aside0.mk (Kd.R_below (by (with_reducible repeat (first | apply Kd.R_alloc | apply Kd.R_drewN | apply Kd.R_drew)); exact HO_12.out) hb)
                                      have n3_ := Aside0.mk (Kd.V_below (by (with_reducible repeat (first | apply Kd.V_alloc | apply Kd.V_drewN | apply Kd.V_drew)); exact HO273.out) hb)
                                      have n4_ := Aside0.mk (blk_below (g := gb246) (o := .cells #[.int .u8 a1_0, .int .u8 a1_1] 34 (0, 0)) (by (with_reducible repeat (first | refine blk_drewN ?_ _ | refine blk_drew ?_ | refine blk_alloc ?_ _)); exact BK246.out) hb)
                                      have n5_ := Aside0.mk (Kd.C_below (by repeat (first | (with_reducible exact HR268.out) | (with_reducible refine Kd.C_alloc ?_ _) | (with_reducible refine Kd.C_drewN ?_ _) | (with_reducible refine Kd.C_drew ?_) | exact HR268.out)) hb)
                                      have n6_ := Aside0.mk (below_step (by repeat (first | (with_reducible first | exact HB.out | apply below_alloc | apply pw_below_drewN | apply below_drew1 | refine below_set ?_ GE246.out) | exact HB.out)) hb)
                                      clear HO_0
                                      clear HO_8
                                      clear HO_12
                                      clear HO273
                                      clear BK246
                                      clear HR268
                                      clear HB
                                      have HO_0 := n0_
                                      have HO_8 := n1_
                                      have HO_12 := n2_
                                      have HO273 := n3_
                                      have BK246 := n4_
                                      have HR268 := n5_
                                      have HB := n6_
                                      clear n0_ n1_ n2_ n3_ n4_ n5_ n6_
                                      (try clear hb)
                                      (try clear hb2)
                                      (try clear hk)
                                      (try clear hi)
                                      refine hK.out _ _ trivial (fun hHeld => ?_)
                                      clear hK K
                                      refine norm_ (a' := ?_) ?_ ?_
                                      rotate_left
                                      · show Act.put _ (some 82) _ = _
                                        simp only [Act.put, List.setIfInBounds_toArray, List.set_cons_zero, List.set_cons_succ, i64_w, i32_w]
                                        rfl
                                      refine pure_ (i := 7) (N := some 13) (v := ?_) (a' := ?_) #[true, true, true, true, true, true, true, true] rfl rfl (any_of HT_.out (by kernel_rfl)) (fun _ _ _ h => h) (Or.inl ⟨by rfl, ?_⟩) ?_ ?_
                                      rotate_left
                                      · intro w'
                                        go_simp
                                        with_reducible rfl
                                      rotate_left
                                      · simp only [Act.put, List.setIfInBounds_toArray, List.set_cons_zero, List.set_cons_succ, i64_w, i32_w]
                                        rfl
                                      refine done_ (done_of HT_.out (by kernel_rfl)) ?_
                                      try go_wp2
                                      have n0_ := Aside0.mk (Kd.V_drew HO_0.out)
                                      have n1_ := Aside0.mk (Kd.R_drew HO_8.out)
                                      have n2_ := Aside0.mk (Kd.R_drew HO_12.out)
                                      have n3_ := Aside0.mk (Kd.V_drew HO273.out)
                                      have n4_ := Aside0.mk (blk_drew BK246.out)
                                      have n5_ := Aside0.mk (Kd.C_drew HR268.out)
                                      have n6_ := Aside0.mk (below_drew1 HB.out)
                                      clear HO_0
                                      clear HO_8
                                      clear HO_12
                                      clear HO273
                                      clear BK246
                                      clear HR268
                                      clear HB
                                      have HO_0 := n0_
                                      have HO_8 := n1_
                                      have HO_12 := n2_
                                      have HO273 := n3_
                                      have BK246 := n4_
                                      have HR268 := n5_
                                      have HB := n6_
                                      clear n0_ n1_ n2_ n3_ n4_ n5_ n6_
                                      have q76 : ((ji57) : Int) ≤ ((t261.length : Int) : Int) := of_decide_eq_true (by first | (with_reducible assumption) | assumption)
                                      obtain ⟨i076, hi076, _, hsz76, _⟩ := info_parts info3
                                      have hroom76 : t261.length ≤ co72 := (Kd.R_reads' HO_12.out).2.1
                                      have hC76 : Kd.C (Kd.int .i64) _ Ao72 t261.length t261 := (Kd.R_reads' HO_12.out).2.2
                                      have q076 : (0 : Int) ≤ ((ji57) : Int) := of_decide_eq_true (by first | (with_reducible assumption) | assumption)
                                      have hcut76 := cut_from (P := Try.prog) 22 3 .i64 Try.underlying22 hi076 1 hsz76 Ao72 t261.length co72 (ji57) q076 q76
                                      have hr76 := Kd.C_drop (m := ((ji57) : Int).toNat) (c := co72) hC76 (by omega) hroom76
                                      obtain ⟨A76, hA76⟩ : ∃ A1, A1 = (if co72 = ((ji57) : Int).toNat then Ao72 else (Ao72 : Option Addr).map (·.add (((ji57) : Int).toNat * 1))) := ⟨_, rfl⟩
                                      obtain ⟨c76, hc76⟩ : ∃ c1, c1 = co72 - ((ji57) : Int).toNat := ⟨_, rfl⟩
                                      have hy76 : y275.length = t261.length - ((ji57) : Int).toNat := (by rw [Ny275.out, List.length_drop] <;> omega)
                                      rw [show (t261).drop ((ji57) : Int).toNat = y275 from Ny275.out.symm] at hr76
                                      replace hr76 : Kd.C (Kd.int .i64) _ A76 y275.length y275 := (by rw [hA76]; exact hr76)
                                      rw [← hy76, ← hA76, ← hc76] at hcut76
                                      have HR278 := Aside0.mk hr76
                                      have HC278 := Aside0.mk (show y275.length ≤ c76 from by rw [hy76, hc76]; exact Nat.sub_le_sub_right hroom76 _)
                                      clear hr76 hC76 hroom76 hi076 hsz76 hc76
                                      have KY76 := Aside0.mk hy76
                                      have KA76 := Aside0.mk hA76
                                      clear hy76 hA76
                                      have KL76 := Aside0.mk (show ((ji57) : Int).toNat ≤ t261.length from by omega)
                                      replace q76 := eq_true q76
                                      have q77 : ((ji60) : Int) ≤ ((t248.length : Int) : Int) := of_decide_eq_true (by first | (with_reducible assumption) | assumption)
                                      obtain ⟨i077, hi077, _, hsz77, _⟩ := info_parts info3
                                      have hroom77 : t248.length ≤ co41 := (Kd.V_reads' HO_0.out).2.1
                                      have hC77 : Kd.F (Kd.int .i64) _ _ Ao41 t248.length t248 := (Kd.V_at (base := w.heap.size) HO_0.out).2.2
                                      have q077 : (0 : Int) ≤ ((ji60) : Int) := of_decide_eq_true (by first | (with_reducible assumption) | assumption)
                                      have hcut77 := cut_from (P := Try.prog) 22 3 .i64 Try.underlying22 hi077 1 hsz77 Ao41 t248.length co41 (ji60) q077 q77
                                      have hr77 := Kd.F_cut (m := ((ji60) : Int).toNat) (c := co41) hC77 (by omega) hroom77
                                      obtain ⟨A77, hA77⟩ : ∃ A1, A1 = (if co41 = ((ji60) : Int).toNat then Ao41 else (Ao41 : Option Addr).map (·.add (((ji60) : Int).toNat * 1))) := ⟨_, rfl⟩
                                      obtain ⟨c77, hc77⟩ : ∃ c1, c1 = co41 - ((ji60) : Int).toNat := ⟨_, rfl⟩
                                      have hy77 : y279.length = t248.length - ((ji60) : Int).toNat := (by rw [Ny279.out, List.length_drop] <;> omega)
                                      rw [show (t248).drop ((ji60) : Int).toNat = y279 from Ny279.out.symm] at hr77
                                      replace hr77 : Kd.F (Kd.int .i64) _ _ A77 y279.length y279 := (by rw [hA77]; exact hr77)
                                      rw [← hy77, ← hA77, ← hc77] at hcut77
                                      have HO283 := Aside0.mk (show Kd.V (Kd.int .i64) 3 _ w.heap.size _ (.slice A77 y279.length c77) y279 from Kd.V_mk (by rw [hy77, hc77]; exact Nat.sub_le_sub_right hroom77 _) hr77)
                                      have HC283 := Aside0.mk (show y279.length ≤ c77 from by rw [hy77, hc77]; exact Nat.sub_le_sub_right hroom77 _)
                                      clear hr77 hC77 hroom77 hi077 hsz77 hc77
                                      have KY77 := Aside0.mk hy77
                                      have KA77 := Aside0.mk hA77
                                      clear hy77 hA77
                                      replace q77 := eq_true q77
                                      refine start_ (n := 9) (S := fun w' => True) (ds := []) #[false, false, false, false, false, false, false, false, false] (by kernel_rfl) rfl rfl trivial (fun hHeld => ?_); refine with_tabW thresherlaw15_PickAfters.tab13 thresherlaw15_PickAfters.bits13 (fun HT_ HW_ => ?_)
                                      generalize w74.drew = w75 at HO_0 HO_8 HO_12 HO273 BK246 HR268 HB HO283 HR278 hHeld ⊢
                                      refine pure_ (i := 0) (N := some 83) (v := ?_) (a' := ?_) #[true, false, false, false, false, false, false, false, false] rfl rfl (any_of HT_.out (by kernel_rfl)) (fun _ _ _ h => h) (Or.inl ⟨by rfl, ?_⟩) ?_ ?_
                                      rotate_left
                                      · intro w'
                                        go_simp
                                        with_reducible rfl
                                      rotate_left
                                      · simp only [Act.put, List.setIfInBounds_toArray, List.set_cons_zero, List.set_cons_succ, i64_w, i32_w]
                                        rfl
                                      refine pure_ (i := 1) (N := some 84) (v := ?_) (a' := ?_) #[true, true, false, false, false, false, false, false, false] rfl rfl (any_of HT_.out (by kernel_rfl)) (fun _ _ _ h => h) (Or.inl ⟨by rfl, ?_⟩) ?_ ?_
                                      rotate_left
                                      · intro w'
                                        go_simp
                                        with_reducible rfl
                                      rotate_left
                                      · simp only [Act.put, List.setIfInBounds_toArray, List.set_cons_zero, List.set_cons_succ, i64_w, i32_w]
                                        rfl
                                      refine pure_ (i := 2) (N := some 85) (v := ?_) (a' := ?_) #[true, true, true, false, false, false, false, false, false] rfl rfl (any_of HT_.out (by kernel_rfl)) (fun _ _ _ h => h) (Or.inl ⟨by rfl, ?_⟩) ?_ ?_
                                      rotate_left
                                      · intro w'
                                        go_simp
                                        with_reducible rfl
                                      rotate_left
                                      · simp only [Act.put, List.setIfInBounds_toArray, List.set_cons_zero, List.set_cons_succ, i64_w, i32_w]
                                        rfl
                                      refine pure_ (i := 3) (N := some 86) (v := ?_) (a' := ?_) #[true, true, true, true, false, false, false, false, false] rfl rfl (any_of HT_.out (by kernel_rfl)) (fun _ _ _ h => h) (Or.inl ⟨by rfl, ?_⟩) ?_ ?_
                                      rotate_left
                                      · intro w'
                                        go_simp
                                        with_reducible rfl
                                      rotate_left
                                      · simp only [Act.put, List.setIfInBounds_toArray, List.set_cons_zero, List.set_cons_succ, i64_w, i32_w]
                                        rfl
                                      refine pure_ (i := 4) (N := some 87) (v := ?_) (a' := ?_) #[true, true, true, true, true, false, false, false, false] rfl rfl (any_of HT_.out (by kernel_rfl)) (fun _ _ _ h => h) (Or.inl ⟨by rfl, ?_⟩) ?_ ?_
                                      rotate_left
                                      · intro w'
                                        go_simp
                                        with_reducible rfl
                                      rotate_left
                                      · simp only [Act.put, List.setIfInBounds_toArray, List.set_cons_zero, List.set_cons_succ, i64_w, i32_w]
                                        rfl
                                      refine pure_ (i := 5) (N := some 88) (v := ?_) (a' := ?_) #[true, true, true, true, true, true, false, false, false] rfl rfl (any_of HT_.out (by kernel_rfl)) (fun _ _ _ h => h) (Or.inl ⟨by rfl, ?_⟩) ?_ ?_
                                      rotate_left
                                      · intro w'
                                        go_simp
                                        with_reducible rfl
                                      rotate_left
                                      · simp only [Act.put, List.setIfInBounds_toArray, List.set_cons_zero, List.set_cons_succ, i64_w, i32_w]
                                        rfl
                                      refine pure_ (i := 6) (N := some 89) (v := ?_) (a' := ?_) #[true, true, true, true, true, true, true, false, false] rfl rfl (any_of HT_.out (by kernel_rfl)) (fun _ _ _ h => h) (Or.inl ⟨by rfl, ?_⟩) ?_ ?_
                                      rotate_left
                                      · intro w'
                                        go_simp
                                        with_reducible rfl
                                      rotate_left
                                      · simp only [Act.put, List.setIfInBounds_toArray, List.set_cons_zero, List.set_cons_succ, i64_w, i32_w]
                                        rfl
                                      refine one_ (i := 7) (N := some 90) #[true, true, true, true, true, true, true, true, false] rfl rfl (one_of HT_.out (by kernel_rfl)) (by decide) (fun K hK => ?_)
                                      refine goes_ Try.func13 (by kernel_rfl) rfl #[.slice A76 y275.length c76, .slice A77 y279.length c77] (by rfl) rfl rfl (by (try simp only [List.map_toArray, List.map_cons, List.map_nil]); first | done | rfl | (simp only [List.length_drop, List.length_take]; rfl)) ?_
                                      with_reducible refine (thresherref15_Same.calls kj33 _ _ y275 _ _ y279 true _ ?side1 ?side2 ?side3 ?side4 A63.out).mono ?_
                                      (case side1 => repeat (first | exact (by repeat (first | (with_reducible exact HR278.out) | (with_reducible refine Kd.C_alloc ?_ _) | (with_reducible refine Kd.C_drewN ?_ _) | (with_reducible refine Kd.C_drew ?_) | exact HR278.out)) | (with_reducible refine Kd.C_alloc ?_ _) | (with_reducible refine Kd.C_drewN ?_ _) | (with_reducible refine Kd.C_drew ?_)))
                                      (case side2 => exact HC278.out)
                                      (case side3 => repeat (first | exact (Kd.V_reads' HO283.out).2.2 | (with_reducible refine Kd.C_alloc ?_ _) | (with_reducible refine Kd.C_drewN ?_ _) | (with_reducible refine Kd.C_drew ?_)))
                                      (case side4 => exact (Kd.V_reads' HO283.out).2.1)
                                      rintro e w78 ⟨rfl, hb⟩
                                      refine ⟨_, rfl, ?_⟩
                                      have n0_ := Aside0.mk (Kd.V_below (by (with_reducible repeat (first | apply Kd.V_alloc | apply Kd.V_drewN | apply Kd.V_drew)); exact HO_0.out) hb)
                                      have n1_ := Aside0.mk (Kd.R_below (by (with_reducible repeat (first | apply Kd.R_alloc | apply Kd.R_drewN | apply Kd.R_drew)); exact HO_8.out) hb)
                                      have n2_ := Aside0.mk (Kd.R_below (by (with_reducible repeat (first | apply Kd.R_alloc | apply Kd.R_drewN | apply Kd.R_drew)); exact HO_12.out) hb)
                                      have n3_ := Aside0.mk (Kd.V_below (by (with_reducible repeat (first | apply Kd.V_alloc | apply Kd.V_drewN | apply Kd.V_drew)); exact HO273.out) hb)
                                      have n4_ := Aside0.mk (Kd.V_below (by (with_reducible repeat (first | apply Kd.V_alloc | apply Kd.V_drewN | apply Kd.V_drew)); exact HO283.out) hb)
                                      have n5_ := Aside0.mk (blk_below (g := gb246) (o := .cells #[.int .u8 a1_0, .int .u8 a1_1] 34 (0, 0)) (by (with_reducible repeat (first | refine blk_drewN ?_ _ | refine blk_drew ?_ | refine blk_alloc ?_ _)); exact BK246.out) hb)
                                      have n6_ := Aside0.mk (Kd.C_below (by repeat (first | (with_reducible exact HR268.out) | (with_reducible refine Kd.C_alloc ?_ _) | (with_reducible refine Kd.C_drewN ?_ _) | (with_reducible refine Kd.C_drew ?_) | exact HR268.out)) hb)
                                      have n7_ := Aside0.mk (Kd.C_below (by repeat (first | (with_reducible exact HR278.out) | (with_reducible refine Kd.C_alloc ?_ _) | (with_reducible refine Kd.C_drewN ?_ _) | (with_reducible refine Kd.C_drew ?_) | exact HR278.out)) hb)
                                      have n8_ := Aside0.mk (below_step (by repeat (first | (with_reducible first | exact HB.out | apply below_alloc | apply pw_below_drewN | apply below_drew1 | refine below_set ?_ GE246.out) | exact HB.out)) hb)
                                      clear HO_0
                                      clear HO_8
                                      clear HO_12
                                      clear HO273
                                      clear HO283
                                      clear BK246
                                      clear HR268
                                      clear HR278
                                      clear HB
                                      have HO_0 := n0_
                                      have HO_8 := n1_
                                      have HO_12 := n2_
                                      have HO273 := n3_
                                      have HO283 := n4_
                                      have BK246 := n5_
                                      have HR268 := n6_
                                      have HR278 := n7_
                                      have HB := n8_
                                      clear n0_ n1_ n2_ n3_ n4_ n5_ n6_ n7_ n8_
                                      (try clear hb)
                                      (try clear hb2)
                                      (try clear hk)
                                      (try clear hi)
                                      refine hK.out _ _ trivial (fun hHeld => ?_)
                                      clear hK K
                                      refine norm_ (a' := ?_) ?_ ?_
                                      rotate_left
                                      · show Act.put _ (some 90) _ = _
                                        simp only [Act.put, List.setIfInBounds_toArray, List.set_cons_zero, List.set_cons_succ, i64_w, i32_w]
                                        rfl
                                      refine pure_ (i := 8) (N := some 14) (v := ?_) (a' := ?_) #[true, true, true, true, true, true, true, true, true] rfl rfl (any_of HT_.out (by kernel_rfl)) (fun _ _ _ h => h) (Or.inl ⟨by rfl, ?_⟩) ?_ ?_
                                      rotate_left
                                      · intro w'
                                        go_simp
                                        with_reducible rfl
                                      rotate_left
                                      · simp only [Act.put, List.setIfInBounds_toArray, List.set_cons_zero, List.set_cons_succ, i64_w, i32_w]
                                        rfl
                                      refine done_ (done_of HT_.out (by kernel_rfl)) ?_
                                      have p65 : 0 ≤ ((ji51) : Int) := of_decide_eq_true (by first | (with_reducible assumption) | assumption)
                                      have q65 : ((ji51) : Int) < ((t261.length : Int) : Int) := of_decide_eq_true (by first | (with_reducible assumption) | assumption)
                                      obtain ⟨go65, co65, eo65, gb65, gl65, cl65, HG65⟩ := Kd.R_form HO_12.out (by omega)
                                      (first | cases eo65 | (injection eo65 with ea_ en_ ec_; (first | subst ea_ | (injection ea_ with ea_; subst ea_)); subst ec_; clear en_))
                                      have GB65 := Aside0.mk gb65
                                      have GG65 := Aside0.mk HG65
                                      clear gb65 gl65 HG65
                                      obtain ⟨hx65_0, hf65_0⟩ := Kd.R_celln 0 HO_12.out ((ji51) : Int) p65 q65
                                      replace p65 := eq_true p65
                                      replace q65 := eq_true q65
                                      obtain ⟨hy79_, hz79_⟩ := Kd.R_celln 0 HO_12.out ((ji51) : Int) (of_decide_eq_true (by first | (with_reducible assumption) | assumption)) (of_decide_eq_true (by first | (with_reducible assumption) | assumption))
                                      have HP79 := Kd.R_putg HO_12.out ((ji51) : Int) (wrap64 (a2 + 1))
                                      try go_wp2_with (first | ((with_reducible refine gate_store (t := 3) (p := 95) rfl ?_); refine store_event (t := 3) (p := 95) (v := ?vo_w80) (w1 := (w78.setCell ⟨go65, ((ji51) : Int).toNat, none⟩ (.int .i64 (wrap64 (a2 + 1))))) ?hg ?ho ?hn ?hr ?_; (case ho => rfl); (case hg => rfl); (case hn => rfl); (case hr => first | (go_simp; done) | (go_simp; rfl)); intro w80 hw; have hg : w78.grownBy w80 (some go65) := (by rw [hw]; exact HP79.2); have hp_ : Kd.R (Kd.int .i64) 3 w80 w.heap.size (fun k_ => some k_ ≠ (v255 : Value).ownBlock) (.slice (some ⟨go65, 0, none⟩) t261.length co72) y285 := (by rw [hw, Ny285.out]; exact HP79.1); clear HP79; have n0_ := Aside0.mk (Kd.V_afterv (v := (.slice (some ⟨go65, 0, none⟩) t261.length co72)) (v1 := (.slice (some ⟨go65, 0, none⟩) t261.length co72)) (ok := (fun k_ => some k_ ≠ (v255 : Value).ownBlock ∧ k_ ≠ gb246)) (by (with_reducible repeat (first | apply Kd.V_alloc | apply Kd.V_drewN | apply Kd.V_drew)); exact Kd.V_mono HO_0.out (fun _ hk => ⟨⟨hk.1, hk.2.2⟩, hk.2.1⟩)) hg (.inl rfl)); have n1_ := Aside0.mk (Kd.R_after (v := (.slice (some ⟨go65, 0, none⟩) t261.length co72)) (v1 := (.slice (some ⟨go65, 0, none⟩) t261.length co72)) (ok := (fun _ => True)) (by (with_reducible repeat (first | apply Kd.R_alloc | apply Kd.R_drewN | apply Kd.R_drew)); exact Kd.R_mono HO_8.out (fun _ hk => ⟨trivial, hk⟩)) hg (.inl rfl)); have n2_ := Aside0.mk (hp_); have n3_ := Aside0.mk (blk_grown (g := gb246) (o := .cells #[.int .u8 a1_0, .int .u8 a1_1] 34 (0, 0)) (by (with_reducible repeat (first | refine blk_drewN ?_ _ | refine blk_drew ?_ | refine blk_alloc ?_ _)); exact BK246.out) hg (Kd.R_ne HO_12.out BK246.out (by decide))); have n4_ := Aside0.mk (Kd.V_afterv (v := (.slice (some ⟨go65, 0, none⟩) t261.length co72)) (v1 := (.slice (some ⟨go65, 0, none⟩) t261.length co72)) (ok := (fun k_ => some k_ ≠ (v255 : Value).ownBlock ∧ k_ ≠ gb246)) (by (with_reducible repeat (first | apply Kd.V_alloc | apply Kd.V_drewN | apply Kd.V_drew)); exact Kd.V_mono HO273.out (fun _ hk => ⟨⟨hk.1, hk.2.2⟩, hk.2.1⟩)) hg (.inl rfl)); have n5_ := Aside0.mk (Kd.V_afterv (v := (.slice (some ⟨go65, 0, none⟩) t261.length co72)) (v1 := (.slice (some ⟨go65, 0, none⟩) t261.length co72)) (ok := (fun k_ => some k_ ≠ (v255 : Value).ownBlock ∧ k_ ≠ gb246)) (by (with_reducible repeat (first | apply Kd.V_alloc | apply Kd.V_drewN | apply Kd.V_drew)); exact Kd.V_mono HO283.out (fun _ hk => ⟨⟨hk.1, hk.2.2⟩, hk.2.1⟩)) hg (.inl rfl)); have n6_ := Aside0.mk ((by rw [hw]; exact below_set (HB.out) GB65.out : Below w.heap.size w w80)); clear HO_0; clear HO_8; clear HO_12; clear BK246; clear HO273; clear HO283; clear HB; have HO_0 := n0_; have HO_8 := n1_; have HO_12 := n2_; have BK246 := n3_; have HO273 := n4_; have HO283 := n5_; have HB := n6_; clear n0_ n1_ n2_ n3_ n4_ n5_ n6_; clear hg hw hp_; obtain ⟨Ao81, co81, eo81⟩ := Kd.R_slice HO_8.out; subst eo81) | ((with_reducible refine gate_callee (f := 13) rfl ?_); refine goesL_ (some 98) rfl rfl Try.func13 (by kernel_rfl) rfl #[.slice Ao41 t248.length co41, .slice Ao81 y254.length co81] rfl (by (try simp only [List.map_toArray, List.map_cons, List.map_nil]); first | done | rfl | (simp only [List.length_drop, List.length_take]; rfl)) ?_; (with_reducible refine (thresherref15_Same.calls kj33 _ _ t248 _ _ y254 t286 _ ?side1 ?side2 ?side3 ?side4 A66.out).mono ?_); (case side1 => repeat (first | exact (Kd.V_reads' HO_0.out).2.2 | (with_reducible refine Kd.C_alloc ?_ _) | (with_reducible refine Kd.C_drewN ?_ _) | (with_reducible refine Kd.C_drew ?_))); (case side2 => exact (Kd.V_reads' HO_0.out).2.1); (case side3 => repeat (first | exact (Kd.R_reads' HO_8.out).2.2 | (with_reducible refine Kd.C_alloc ?_ _) | (with_reducible refine Kd.C_drewN ?_ _) | (with_reducible refine Kd.C_drew ?_))); (case side4 => exact (Kd.R_reads' HO_8.out).2.1); rintro e w82 ⟨rfl, hb⟩; refine ⟨_, rfl, ?_⟩; have n0_ := Aside0.mk (Kd.V_below (by (with_reducible repeat (first | apply Kd.V_alloc | apply Kd.V_drewN | apply Kd.V_drew)); exact HO_0.out) hb); have n1_ := Aside0.mk (Kd.R_below (by (with_reducible repeat (first | apply Kd.R_alloc | apply Kd.R_drewN | apply Kd.R_drew)); exact HO_8.out) hb); have n2_ := Aside0.mk (Kd.R_below (by (with_reducible repeat (first | apply Kd.R_alloc | apply Kd.R_drewN | apply Kd.R_drew)); exact HO_12.out) hb); have n3_ := Aside0.mk (Kd.V_below (by (with_reducible repeat (first | apply Kd.V_alloc | apply Kd.V_drewN | apply Kd.V_drew)); exact HO273.out) hb); have n4_ := Aside0.mk (Kd.V_below (by (with_reducible repeat (first | apply Kd.V_alloc | apply Kd.V_drewN | apply Kd.V_drew)); exact HO283.out) hb); have n5_ := Aside0.mk (blk_below (g := gb246) (o := .cells #[.int .u8 a1_0, .int .u8 a1_1] 34 (0, 0)) (by (with_reducible repeat (first | refine blk_drewN ?_ _ | refine blk_drew ?_ | refine blk_alloc ?_ _)); exact BK246.out) hb); have n6_ := Aside0.mk (below_step (by repeat (first | (with_reducible first | exact HB.out | apply below_alloc | apply pw_below_drewN | apply below_drew1 | refine below_set ?_ GE246.out) | exact HB.out)) hb); clear HO_0; clear HO_8; clear HO_12; clear HO273; clear HO283; clear BK246; clear HB; have HO_0 := n0_; have HO_8 := n1_; have HO_12 := n2_; have HO273 := n3_; have HO283 := n4_; have BK246 := n5_; have HB := n6_; clear n0_ n1_ n2_ n3_ n4_ n5_ n6_; (try clear hb); (try clear hb2); (try clear hk); (try clear hi)))
                                      go_ret
                                      exact ⟨by first | rfl | (simp [errW_none, errW_some] <;> rfl) | (simp only [← hji51, ← hji57, ← hji60]; first | rfl | (simp [errW_none, errW_some] <;> rfl)) | (simp [*, errW_none, errW_some] <;> rfl), by repeat (first | (with_reducible first | exact HB.out | apply below_alloc | apply pw_below_drewN | apply below_drew1 | refine below_set ?_ GE246.out) | exact HB.out)⟩
                                    · replace c69 := Bool.eq_false_iff.mpr c69
                                      subst c69
                                      have H1 : (some false) = some r := by rw [if_neg (show ¬ (false = true) by decide)] at H; exact H
                                      clear H
                                      have H := H1
                                      clear H1
                                      obtain rfl := Option.some.inj H
                                      try go_wp2
                                      have n0_ := Aside0.mk (Kd.V_drew HO_0.out)
                                      have n1_ := Aside0.mk (Kd.R_drew HO_8.out)
                                      have n2_ := Aside0.mk (Kd.R_drew HO_12.out)
                                      have n3_ := Aside0.mk (blk_drew BK246.out)
                                      have n4_ := Aside0.mk (below_drew1 HB.out)
                                      clear HO_0
                                      clear HO_8
                                      clear HO_12
                                      clear BK246
                                      clear HB
                                      have HO_0 := n0_
                                      have HO_8 := n1_
                                      have HO_12 := n2_
                                      have BK246 := n3_
                                      have HB := n4_
                                      clear n0_ n1_ n2_ n3_ n4_
                                      obtain ⟨Ao85, co85, eo85⟩ := Kd.R_slice HO_12.out
                                      (first | subst eo85 | (injection eo85 with f1_ f2_ f3_; have f4_ := f1_.symm; have f5_ := f3_.symm; clear f1_ f2_ f3_; subst f4_; subst f5_))
                                      have q84 : ((ji51) : Int) ≤ ((t261.length : Int) : Int) := of_decide_eq_true (by first | (with_reducible assumption) | assumption)
                                      obtain ⟨i084, hi084, _, hsz84, _⟩ := info_parts info3
                                      have hroom84 : t261.length ≤ co85 := (Kd.R_reads' HO_12.out).2.1
                                      have hC84 : Kd.C (Kd.int .i64) _ Ao85 t261.length t261 := (Kd.R_reads' HO_12.out).2.2
                                      have hcut84 := cut_to (P := Try.prog) 22 3 .i64 Try.underlying22 hi084 Ao85 t261.length co85 (ji51) (of_decide_eq_true (by first | (with_reducible assumption) | assumption)) q84 hroom84
                                      have hr84 := Kd.C_take (m := ((ji51) : Int).toNat) hC84 (by omega)
                                      have hy84 : y265.length = ((ji51) : Int).toNat := (by rw [Ny265.out, List.length_take]; omega)
                                      rw [← Ny265.out] at hr84
                                      rw [← hy84] at hcut84
                                      have HR268 := Aside0.mk hr84
                                      have HC268 := Aside0.mk (show y265.length ≤ co85 from by omega)
                                      clear hr84 hC84 hroom84 hi084 hsz84
                                      have KY84 := Aside0.mk hy84
                                      clear hy84
                                      have KL84 := Aside0.mk (show ((ji51) : Int).toNat ≤ t261.length from by omega)
                                      replace q84 := eq_true q84
                                      have q86 : ((ji51) : Int) ≤ ((t248.length : Int) : Int) := of_decide_eq_true (by first | (with_reducible assumption) | assumption)
                                      obtain ⟨i086, hi086, _, hsz86, _⟩ := info_parts info3
                                      have hroom86 : t248.length ≤ co41 := (Kd.V_reads' HO_0.out).2.1
                                      have hC86 : Kd.F (Kd.int .i64) _ _ Ao41 t248.length t248 := (Kd.V_at (base := w.heap.size) HO_0.out).2.2
                                      have hcut86 := cut_to (P := Try.prog) 22 3 .i64 Try.underlying22 hi086 Ao41 t248.length co41 (ji51) (of_decide_eq_true (by first | (with_reducible assumption) | assumption)) q86 hroom86
                                      have hr86 := Kd.F_take (m := ((ji51) : Int).toNat) hC86 (by omega)
                                      have hy86 : y269.length = ((ji51) : Int).toNat := (by rw [Ny269.out, List.length_take]; omega)
                                      rw [← Ny269.out] at hr86
                                      rw [← hy86] at hcut86
                                      have HO273 := Aside0.mk (show Kd.V (Kd.int .i64) 3 _ w.heap.size _ (.slice Ao41 y269.length co41) y269 from Kd.V_mk (by omega) hr86)
                                      have HC273 := Aside0.mk (show y269.length ≤ co41 from by omega)
                                      clear hr86 hC86 hroom86 hi086 hsz86
                                      have KY86 := Aside0.mk hy86
                                      clear hy86
                                      replace q86 := eq_true q86
                                      refine start_ (n := 8) (S := fun w' => True) (ds := []) #[false, false, false, false, false, false, false, false] (by kernel_rfl) rfl rfl trivial (fun hHeld => ?_); refine with_tabW thresherlaw15_PickAfters.tab12 thresherlaw15_PickAfters.bits12 (fun HT_ HW_ => ?_)
                                      generalize wc.drew = w83 at HO_0 HO_8 HO_12 BK246 HB HO273 HR268 hHeld ⊢
                                      refine pure_ (i := 0) (N := some 76) (v := ?_) (a' := ?_) #[true, false, false, false, false, false, false, false] rfl rfl (any_of HT_.out (by kernel_rfl)) (fun _ _ _ h => h) (Or.inl ⟨by rfl, ?_⟩) ?_ ?_
                                      rotate_left
                                      · intro w'
                                        go_simp
                                        with_reducible rfl
                                      rotate_left
                                      · simp only [Act.put, List.setIfInBounds_toArray, List.set_cons_zero, List.set_cons_succ, i64_w, i32_w]
                                        rfl
                                      refine pure_ (i := 1) (N := some 77) (v := ?_) (a' := ?_) #[true, true, false, false, false, false, false, false] rfl rfl (any_of HT_.out (by kernel_rfl)) (fun _ _ _ h => h) (Or.inl ⟨by rfl, ?_⟩) ?_ ?_
                                      rotate_left
                                      · intro w'
                                        go_simp
                                        with_reducible rfl
                                      rotate_left
                                      · simp only [Act.put, List.setIfInBounds_toArray, List.set_cons_zero, List.set_cons_succ, i64_w, i32_w]
                                        rfl
                                      refine pure_ (i := 2) (N := some 78) (v := ?_) (a' := ?_) #[true, true, true, false, false, false, false, false] rfl rfl (any_of HT_.out (by kernel_rfl)) (fun _ _ _ h => h) (Or.inl ⟨by rfl, ?_⟩) ?_ ?_
                                      rotate_left
                                      · intro w'
                                        go_simp
                                        with_reducible rfl
                                      rotate_left
                                      · simp only [Act.put, List.setIfInBounds_toArray, List.set_cons_zero, List.set_cons_succ, i64_w, i32_w]
                                        rfl
                                      refine pure_ (i := 3) (N := some 79) (v := ?_) (a' := ?_) #[true, true, true, true, false, false, false, false] rfl rfl (any_of HT_.out (by kernel_rfl)) (fun _ _ _ h => h) (Or.inl ⟨by rfl, ?_⟩) ?_ ?_
                                      rotate_left
                                      · intro w'
                                        go_simp
                                        with_reducible rfl
                                      rotate_left
                                      · simp only [Act.put, List.setIfInBounds_toArray, List.set_cons_zero, List.set_cons_succ, i64_w, i32_w]
                                        rfl
                                      refine pure_ (i := 4) (N := some 80) (v := ?_) (a' := ?_) #[true, true, true, true, true, false, false, false] rfl rfl (any_of HT_.out (by kernel_rfl)) (fun _ _ _ h => h) (Or.inl ⟨by rfl, ?_⟩) ?_ ?_
                                      rotate_left
                                      · intro w'
                                        go_simp
                                        with_reducible rfl
                                      rotate_left
                                      · simp only [Act.put, List.setIfInBounds_toArray, List.set_cons_zero, List.set_cons_succ, i64_w, i32_w]
                                        rfl
                                      refine pure_ (i := 5) (N := some 81) (v := ?_) (a' := ?_) #[true, true, true, true, true, true, false, false] rfl rfl (any_of HT_.out (by kernel_rfl)) (fun _ _ _ h => h) (Or.inl ⟨by rfl, ?_⟩) ?_ ?_
                                      rotate_left
                                      · intro w'
                                        go_simp
                                        with_reducible rfl
                                      rotate_left
                                      · simp only [Act.put, List.setIfInBounds_toArray, List.set_cons_zero, List.set_cons_succ, i64_w, i32_w]
                                        rfl
                                      refine one_ (i := 6) (N := some 82) #[true, true, true, true, true, true, true, false] rfl rfl (one_of HT_.out (by kernel_rfl)) (by decide) (fun K hK => ?_)
                                      refine goes_ Try.func13 (by kernel_rfl) rfl #[.slice Ao85 y265.length co85, .slice Ao41 y269.length co41] (by rfl) rfl rfl (by (try simp only [List.map_toArray, List.map_cons, List.map_nil]); first | done | rfl | (simp only [List.length_drop, List.length_take]; rfl)) ?_
                                      with_reducible refine (thresherref15_Same.calls kj33 _ _ y265 _ _ y269 true _ ?side1 ?side2 ?side3 ?side4 A56.out).mono ?_
                                      (case side1 => repeat (first | exact (by repeat (first | (with_reducible exact HR268.out) | (with_reducible refine Kd.C_alloc ?_ _) | (with_reducible refine Kd.C_drewN ?_ _) | (with_reducible refine Kd.C_drew ?_) | exact HR268.out)) | (with_reducible refine Kd.C_alloc ?_ _) | (with_reducible refine Kd.C_drewN ?_ _) | (with_reducible refine Kd.C_drew ?_)))
                                      (case side2 => exact HC268.out)
                                      (case side3 => repeat (first | exact (Kd.V_reads' HO273.out).2.2 | (with_reducible refine Kd.C_alloc ?_ _) | (with_reducible refine Kd.C_drewN ?_ _) | (with_reducible refine Kd.C_drew ?_)))
                                      (case side4 => exact (Kd.V_reads' HO273.out).2.1)
                                      rintro e w87 ⟨rfl, hb⟩
                                      refine ⟨_, rfl, ?_⟩
                                      have n0_ := Aside0.mk (Kd.V_below (by (with_reducible repeat (first | apply Kd.V_alloc | apply Kd.V_drewN | apply Kd.V_drew)); exact HO_0.out) hb)
                                      have n1_ := Aside0.mk (Kd.R_below (by (with_reducible repeat (first | apply Kd.R_alloc | apply Kd.R_drewN | apply Kd.R_drew)); exact HO_8.out) hb)
                                      have n2_ := Aside0.mk (Kd.R_below (by (with_reducible repeat (first | apply Kd.R_alloc | apply Kd.R_drewN | apply Kd.R_drew)); exact HO_12.out) hb)
                                      have n3_ := Aside0.mk (Kd.V_below (by (with_reducible repeat (first | apply Kd.V_alloc | apply Kd.V_drewN | apply Kd.V_drew)); exact HO273.out) hb)
                                      have n4_ := Aside0.mk (blk_below (g := gb246) (o := .cells #[.int .u8 a1_0, .int .u8 a1_1] 34 (0, 0)) (by (with_reducible repeat (first | refine blk_drewN ?_ _ | refine blk_drew ?_ | refine blk_alloc ?_ _)); exact BK246.out) hb)
                                      have n5_ := Aside0.mk (Kd.C_below (by repeat (first | (with_reducible exact HR268.out) | (with_reducible refine Kd.C_alloc ?_ _) | (with_reducible refine Kd.C_drewN ?_ _) | (with_reducible refine Kd.C_drew ?_) | exact HR268.out)) hb)
                                      have n6_ := Aside0.mk (below_step (by repeat (first | (with_reducible first | exact HB.out | apply below_alloc | apply pw_below_drewN | apply below_drew1 | refine below_set ?_ GE246.out) | exact HB.out)) hb)
                                      clear HO_0
                                      clear HO_8
                                      clear HO_12
                                      clear HO273
                                      clear BK246
                                      clear HR268
                                      clear HB
                                      have HO_0 := n0_
                                      have HO_8 := n1_
                                      have HO_12 := n2_
                                      have HO273 := n3_
                                      have BK246 := n4_
                                      have HR268 := n5_
                                      have HB := n6_
                                      clear n0_ n1_ n2_ n3_ n4_ n5_ n6_
                                      (try clear hb)
                                      (try clear hb2)
                                      (try clear hk)
                                      (try clear hi)
                                      refine hK.out _ _ trivial (fun hHeld => ?_)
                                      clear hK K
                                      refine norm_ (a' := ?_) ?_ ?_
                                      rotate_left
                                      · show Act.put _ (some 82) _ = _
                                        simp only [Act.put, List.setIfInBounds_toArray, List.set_cons_zero, List.set_cons_succ, i64_w, i32_w]
                                        rfl
                                      refine pure_ (i := 7) (N := some 13) (v := ?_) (a' := ?_) #[true, true, true, true, true, true, true, true] rfl rfl (any_of HT_.out (by kernel_rfl)) (fun _ _ _ h => h) (Or.inl ⟨by rfl, ?_⟩) ?_ ?_
                                      rotate_left
                                      · intro w'
                                        go_simp
                                        with_reducible rfl
                                      rotate_left
                                      · simp only [Act.put, List.setIfInBounds_toArray, List.set_cons_zero, List.set_cons_succ, i64_w, i32_w]
                                        rfl
                                      refine done_ (done_of HT_.out (by kernel_rfl)) ?_
                                      try go_wp2
                                      have n0_ := Aside0.mk (Kd.V_drew HO_0.out)
                                      have n1_ := Aside0.mk (Kd.R_drew HO_8.out)
                                      have n2_ := Aside0.mk (Kd.R_drew HO_12.out)
                                      have n3_ := Aside0.mk (Kd.V_drew HO273.out)
                                      have n4_ := Aside0.mk (blk_drew BK246.out)
                                      have n5_ := Aside0.mk (Kd.C_drew HR268.out)
                                      have n6_ := Aside0.mk (below_drew1 HB.out)
                                      clear HO_0
                                      clear HO_8
                                      clear HO_12
                                      clear HO273
                                      clear BK246
                                      clear HR268
                                      clear HB
                                      have HO_0 := n0_
                                      have HO_8 := n1_
                                      have HO_12 := n2_
                                      have HO273 := n3_
                                      have BK246 := n4_
                                      have HR268 := n5_
                                      have HB := n6_
                                      clear n0_ n1_ n2_ n3_ n4_ n5_ n6_
                                      have q89 : ((ji57) : Int) ≤ ((t261.length : Int) : Int) := of_decide_eq_true (by first | (with_reducible assumption) | assumption)
                                      obtain ⟨i089, hi089, _, hsz89, _⟩ := info_parts info3
                                      have hroom89 : t261.length ≤ co85 := (Kd.R_reads' HO_12.out).2.1
                                      have hC89 : Kd.C (Kd.int .i64) _ Ao85 t261.length t261 := (Kd.R_reads' HO_12.out).2.2
                                      have q089 : (0 : Int) ≤ ((ji57) : Int) := of_decide_eq_true (by first | (with_reducible assumption) | assumption)
                                      have hcut89 := cut_from (P := Try.prog) 22 3 .i64 Try.underlying22 hi089 1 hsz89 Ao85 t261.length co85 (ji57) q089 q89
                                      have hr89 := Kd.C_drop (m := ((ji57) : Int).toNat) (c := co85) hC89 (by omega) hroom89
                                      obtain ⟨A89, hA89⟩ : ∃ A1, A1 = (if co85 = ((ji57) : Int).toNat then Ao85 else (Ao85 : Option Addr).map (·.add (((ji57) : Int).toNat * 1))) := ⟨_, rfl⟩
                                      obtain ⟨c89, hc89⟩ : ∃ c1, c1 = co85 - ((ji57) : Int).toNat := ⟨_, rfl⟩
                                      have hy89 : y275.length = t261.length - ((ji57) : Int).toNat := (by rw [Ny275.out, List.length_drop] <;> omega)
                                      rw [show (t261).drop ((ji57) : Int).toNat = y275 from Ny275.out.symm] at hr89
                                      replace hr89 : Kd.C (Kd.int .i64) _ A89 y275.length y275 := (by rw [hA89]; exact hr89)
                                      rw [← hy89, ← hA89, ← hc89] at hcut89
                                      have HR278 := Aside0.mk hr89
                                      have HC278 := Aside0.mk (show y275.length ≤ c89 from by rw [hy89, hc89]; exact Nat.sub_le_sub_right hroom89 _)
                                      clear hr89 hC89 hroom89 hi089 hsz89 hc89
                                      have KY89 := Aside0.mk hy89
                                      have KA89 := Aside0.mk hA89
                                      clear hy89 hA89
                                      have KL89 := Aside0.mk (show ((ji57) : Int).toNat ≤ t261.length from by omega)
                                      replace q89 := eq_true q89
                                      have q90 : ((ji60) : Int) ≤ ((t248.length : Int) : Int) := of_decide_eq_true (by first | (with_reducible assumption) | assumption)
                                      obtain ⟨i090, hi090, _, hsz90, _⟩ := info_parts info3
                                      have hroom90 : t248.length ≤ co41 := (Kd.V_reads' HO_0.out).2.1
                                      have hC90 : Kd.F (Kd.int .i64) _ _ Ao41 t248.length t248 := (Kd.V_at (base := w.heap.size) HO_0.out).2.2
                                      have q090 : (0 : Int) ≤ ((ji60) : Int) := of_decide_eq_true (by first | (with_reducible assumption) | assumption)
                                      have hcut90 := cut_from (P := Try.prog) 22 3 .i64 Try.underlying22 hi090 1 hsz90 Ao41 t248.length co41 (ji60) q090 q90
                                      have hr90 := Kd.F_cut (m := ((ji60) : Int).toNat) (c := co41) hC90 (by omega) hroom90
                                      obtain ⟨A90, hA90⟩ : ∃ A1, A1 = (if co41 = ((ji60) : Int).toNat then Ao41 else (Ao41 : Option Addr).map (·.add (((ji60) : Int).toNat * 1))) := ⟨_, rfl⟩
                                      obtain ⟨c90, hc90⟩ : ∃ c1, c1 = co41 - ((ji60) : Int).toNat := ⟨_, rfl⟩
                                      have hy90 : y279.length = t248.length - ((ji60) : Int).toNat := (by rw [Ny279.out, List.length_drop] <;> omega)
                                      rw [show (t248).drop ((ji60) : Int).toNat = y279 from Ny279.out.symm] at hr90
                                      replace hr90 : Kd.F (Kd.int .i64) _ _ A90 y279.length y279 := (by rw [hA90]; exact hr90)
                                      rw [← hy90, ← hA90, ← hc90] at hcut90
                                      have HO283 := Aside0.mk (show Kd.V (Kd.int .i64) 3 _ w.heap.size _ (.slice A90 y279.length c90) y279 from Kd.V_mk (by rw [hy90, hc90]; exact Nat.sub_le_sub_right hroom90 _) hr90)
                                      have HC283 := Aside0.mk (show y279.length ≤ c90 from by rw [hy90, hc90]; exact Nat.sub_le_sub_right hroom90 _)
                                      clear hr90 hC90 hroom90 hi090 hsz90 hc90
                                      have KY90 := Aside0.mk hy90
                                      have KA90 := Aside0.mk hA90
                                      clear hy90 hA90
                                      replace q90 := eq_true q90
                                      refine start_ (n := 9) (S := fun w' => True) (ds := []) #[false, false, false, false, false, false, false, false, false] (by kernel_rfl) rfl rfl trivial (fun hHeld => ?_); refine with_tabW thresherlaw15_PickAfters.tab13 thresherlaw15_PickAfters.bits13 (fun HT_ HW_ => ?_)
                                      generalize w87.drew = w88 at HO_0 HO_8 HO_12 HO273 BK246 HR268 HB HO283 HR278 hHeld ⊢
                                      refine pure_ (i := 0) (N := some 83) (v := ?_) (a' := ?_) #[true, false, false, false, false, false, false, false, false] rfl rfl (any_of HT_.out (by kernel_rfl)) (fun _ _ _ h => h) (Or.inl ⟨by rfl, ?_⟩) ?_ ?_
                                      rotate_left
                                      · intro w'
                                        go_simp
                                        with_reducible rfl
                                      rotate_left
                                      · simp only [Act.put, List.setIfInBounds_toArray, List.set_cons_zero, List.set_cons_succ, i64_w, i32_w]
                                        rfl
                                      refine pure_ (i := 1) (N := some 84) (v := ?_) (a' := ?_) #[true, true, false, false, false, false, false, false, false] rfl rfl (any_of HT_.out (by kernel_rfl)) (fun _ _ _ h => h) (Or.inl ⟨by rfl, ?_⟩) ?_ ?_
                                      rotate_left
                                      · intro w'
                                        go_simp
                                        with_reducible rfl
                                      rotate_left
                                      · simp only [Act.put, List.setIfInBounds_toArray, List.set_cons_zero, List.set_cons_succ, i64_w, i32_w]
                                        rfl
                                      refine pure_ (i := 2) (N := some 85) (v := ?_) (a' := ?_) #[true, true, true, false, false, false, false, false, false] rfl rfl (any_of HT_.out (by kernel_rfl)) (fun _ _ _ h => h) (Or.inl ⟨by rfl, ?_⟩) ?_ ?_
                                      rotate_left
                                      · intro w'
                                        go_simp
                                        with_reducible rfl
                                      rotate_left
                                      · simp only [Act.put, List.setIfInBounds_toArray, List.set_cons_zero, List.set_cons_succ, i64_w, i32_w]
                                        rfl
                                      refine pure_ (i := 3) (N := some 86) (v := ?_) (a' := ?_) #[true, true, true, true, false, false, false, false, false] rfl rfl (any_of HT_.out (by kernel_rfl)) (fun _ _ _ h => h) (Or.inl ⟨by rfl, ?_⟩) ?_ ?_
                                      rotate_left
                                      · intro w'
                                        go_simp
                                        with_reducible rfl
                                      rotate_left
                                      · simp only [Act.put, List.setIfInBounds_toArray, List.set_cons_zero, List.set_cons_succ, i64_w, i32_w]
                                        rfl
                                      refine pure_ (i := 4) (N := some 87) (v := ?_) (a' := ?_) #[true, true, true, true, true, false, false, false, false] rfl rfl (any_of HT_.out (by kernel_rfl)) (fun _ _ _ h => h) (Or.inl ⟨by rfl, ?_⟩) ?_ ?_
                                      rotate_left
                                      · intro w'
                                        go_simp
                                        with_reducible rfl
                                      rotate_left
                                      · simp only [Act.put, List.setIfInBounds_toArray, List.set_cons_zero, List.set_cons_succ, i64_w, i32_w]
                                        rfl
                                      refine pure_ (i := 5) (N := some 88) (v := ?_) (a' := ?_) #[true, true, true, true, true, true, false, false, false] rfl rfl (any_of HT_.out (by kernel_rfl)) (fun _ _ _ h => h) (Or.inl ⟨by rfl, ?_⟩) ?_ ?_
                                      rotate_left
                                      · intro w'
                                        go_simp
                                        with_reducible rfl
                                      rotate_left
                                      · simp only [Act.put, List.setIfInBounds_toArray, List.set_cons_zero, List.set_cons_succ, i64_w, i32_w]
                                        rfl
                                      refine pure_ (i := 6) (N := some 89) (v := ?_) (a' := ?_) #[true, true, true, true, true, true, true, false, false] rfl rfl (any_of HT_.out (by kernel_rfl)) (fun _ _ _ h => h) (Or.inl ⟨by rfl, ?_⟩) ?_ ?_
                                      rotate_left
                                      · intro w'
                                        go_simp
                                        with_reducible rfl
                                      rotate_left
                                      · simp only [Act.put, List.setIfInBounds_toArray, List.set_cons_zero, List.set_cons_succ, i64_w, i32_w]
                                        rfl
                                      refine one_ (i := 7) (N := some 90) #[true, true, true, true, true, true, true, true, false] rfl rfl (one_of HT_.out (by kernel_rfl)) (by decide) (fun K hK => ?_)
                                      refine goes_ Try.func13 (by kernel_rfl) rfl #[.slice A89 y275.length c89, .slice A90 y279.length c90] (by rfl) rfl rfl (by (try simp only [List.map_toArray, List.map_cons, List.map_nil]); first | done | rfl | (simp only [List.length_drop, List.length_take]; rfl)) ?_
                                      with_reducible refine (thresherref15_Same.calls kj33 _ _ y275 _ _ y279 false _ ?side1 ?side2 ?side3 ?side4 A63.out).mono ?_
                                      (case side1 => repeat (first | exact (by repeat (first | (with_reducible exact HR278.out) | (with_reducible refine Kd.C_alloc ?_ _) | (with_reducible refine Kd.C_drewN ?_ _) | (with_reducible refine Kd.C_drew ?_) | exact HR278.out)) | (with_reducible refine Kd.C_alloc ?_ _) | (with_reducible refine Kd.C_drewN ?_ _) | (with_reducible refine Kd.C_drew ?_)))
                                      (case side2 => exact HC278.out)
                                      (case side3 => repeat (first | exact (Kd.V_reads' HO283.out).2.2 | (with_reducible refine Kd.C_alloc ?_ _) | (with_reducible refine Kd.C_drewN ?_ _) | (with_reducible refine Kd.C_drew ?_)))
                                      (case side4 => exact (Kd.V_reads' HO283.out).2.1)
                                      rintro e w91 ⟨rfl, hb⟩
                                      refine ⟨_, rfl, ?_⟩
                                      have n0_ := Aside0.mk (Kd.V_below (by (with_reducible repeat (first | apply Kd.V_alloc | apply Kd.V_drewN | apply Kd.V_drew)); exact HO_0.out) hb)
                                      have n1_ := Aside0.mk (Kd.R_below (by (with_reducible repeat (first | apply Kd.R_alloc | apply Kd.R_drewN | apply Kd.R_drew)); exact HO_8.out) hb)
                                      have n2_ := Aside0.mk (Kd.R_below (by (with_reducible repeat (first | apply Kd.R_alloc | apply Kd.R_drewN | apply Kd.R_drew)); exact HO_12.out) hb)
                                      have n3_ := Aside0.mk (Kd.V_below (by (with_reducible repeat (first | apply Kd.V_alloc | apply Kd.V_drewN | apply Kd.V_drew)); exact HO273.out) hb)
                                      have n4_ := Aside0.mk (Kd.V_below (by (with_reducible repeat (first | apply Kd.V_alloc | apply Kd.V_drewN | apply Kd.V_drew)); exact HO283.out) hb)
                                      have n5_ := Aside0.mk (blk_below (g := gb246) (o := .cells #[.int .u8 a1_0, .int .u8 a1_1] 34 (0, 0)) (by (with_reducible repeat (first | refine blk_drewN ?_ _ | refine blk_drew ?_ | refine blk_alloc ?_ _)); exact BK246.out) hb)
                                      have n6_ := Aside0.mk (Kd.C_below (by repeat (first | (with_reducible exact HR268.out) | (with_reducible refine Kd.C_alloc ?_ _) | (with_reducible refine Kd.C_drewN ?_ _) | (with_reducible refine Kd.C_drew ?_) | exact HR268.out)) hb)
                                      have n7_ := Aside0.mk (Kd.C_below (by repeat (first | (with_reducible exact HR278.out) | (with_reducible refine Kd.C_alloc ?_ _) | (with_reducible refine Kd.C_drewN ?_ _) | (with_reducible refine Kd.C_drew ?_) | exact HR278.out)) hb)
                                      have n8_ := Aside0.mk (below_step (by repeat (first | (with_reducible first | exact HB.out | apply below_alloc | apply pw_below_drewN | apply below_drew1 | refine below_set ?_ GE246.out) | exact HB.out)) hb)
                                      clear HO_0
                                      clear HO_8
                                      clear HO_12
                                      clear HO273
                                      clear HO283
                                      clear BK246
                                      clear HR268
                                      clear HR278
                                      clear HB
                                      have HO_0 := n0_
                                      have HO_8 := n1_
                                      have HO_12 := n2_
                                      have HO273 := n3_
                                      have HO283 := n4_
                                      have BK246 := n5_
                                      have HR268 := n6_
                                      have HR278 := n7_
                                      have HB := n8_
                                      clear n0_ n1_ n2_ n3_ n4_ n5_ n6_ n7_ n8_
                                      (try clear hb)
                                      (try clear hb2)
                                      (try clear hk)
                                      (try clear hi)
                                      refine hK.out _ _ trivial (fun hHeld => ?_)
                                      clear hK K
                                      refine norm_ (a' := ?_) ?_ ?_
                                      rotate_left
                                      · show Act.put _ (some 90) _ = _
                                        simp only [Act.put, List.setIfInBounds_toArray, List.set_cons_zero, List.set_cons_succ, i64_w, i32_w]
                                        rfl
                                      refine pure_ (i := 8) (N := some 14) (v := ?_) (a' := ?_) #[true, true, true, true, true, true, true, true, true] rfl rfl (any_of HT_.out (by kernel_rfl)) (fun _ _ _ h => h) (Or.inl ⟨by rfl, ?_⟩) ?_ ?_
                                      rotate_left
                                      · intro w'
                                        go_simp
                                        with_reducible rfl
                                      rotate_left
                                      · simp only [Act.put, List.setIfInBounds_toArray, List.set_cons_zero, List.set_cons_succ, i64_w, i32_w]
                                        rfl
                                      refine done_ (done_of HT_.out (by kernel_rfl)) ?_
                                      have p65 : 0 ≤ ((ji51) : Int) := of_decide_eq_true (by first | (with_reducible assumption) | assumption)
                                      have q65 : ((ji51) : Int) < ((t261.length : Int) : Int) := of_decide_eq_true (by first | (with_reducible assumption) | assumption)
                                      obtain ⟨go65, co65, eo65, gb65, gl65, cl65, HG65⟩ := Kd.R_form HO_12.out (by omega)
                                      (first | cases eo65 | (injection eo65 with ea_ en_ ec_; (first | subst ea_ | (injection ea_ with ea_; subst ea_)); subst ec_; clear en_))
                                      have GB65 := Aside0.mk gb65
                                      have GG65 := Aside0.mk HG65
                                      clear gb65 gl65 HG65
                                      obtain ⟨hx65_0, hf65_0⟩ := Kd.R_celln 0 HO_12.out ((ji51) : Int) p65 q65
                                      replace p65 := eq_true p65
                                      replace q65 := eq_true q65
                                      obtain ⟨hy92_, hz92_⟩ := Kd.R_celln 0 HO_12.out ((ji51) : Int) (of_decide_eq_true (by first | (with_reducible assumption) | assumption)) (of_decide_eq_true (by first | (with_reducible assumption) | assumption))
                                      have HP92 := Kd.R_putg HO_12.out ((ji51) : Int) (wrap64 (a2 + 1))
                                      try go_wp2_with (first | ((with_reducible refine gate_store (t := 3) (p := 95) rfl ?_); refine store_event (t := 3) (p := 95) (v := ?vo_w93) (w1 := (w91.setCell ⟨go65, ((ji51) : Int).toNat, none⟩ (.int .i64 (wrap64 (a2 + 1))))) ?hg ?ho ?hn ?hr ?_; (case ho => rfl); (case hg => rfl); (case hn => rfl); (case hr => first | (go_simp; done) | (go_simp; rfl)); intro w93 hw; have hg : w91.grownBy w93 (some go65) := (by rw [hw]; exact HP92.2); have hp_ : Kd.R (Kd.int .i64) 3 w93 w.heap.size (fun k_ => some k_ ≠ (v255 : Value).ownBlock) (.slice (some ⟨go65, 0, none⟩) t261.length co85) y285 := (by rw [hw, Ny285.out]; exact HP92.1); clear HP92; have n0_ := Aside0.mk (Kd.V_afterv (v := (.slice (some ⟨go65, 0, none⟩) t261.length co85)) (v1 := (.slice (some ⟨go65, 0, none⟩) t261.length co85)) (ok := (fun k_ => some k_ ≠ (v255 : Value).ownBlock ∧ k_ ≠ gb246)) (by (with_reducible repeat (first | apply Kd.V_alloc | apply Kd.V_drewN | apply Kd.V_drew)); exact Kd.V_mono HO_0.out (fun _ hk => ⟨⟨hk.1, hk.2.2⟩, hk.2.1⟩)) hg (.inl rfl)); have n1_ := Aside0.mk (Kd.R_after (v := (.slice (some ⟨go65, 0, none⟩) t261.length co85)) (v1 := (.slice (some ⟨go65, 0, none⟩) t261.length co85)) (ok := (fun _ => True)) (by (with_reducible repeat (first | apply Kd.R_alloc | apply Kd.R_drewN | apply Kd.R_drew)); exact Kd.R_mono HO_8.out (fun _ hk => ⟨trivial, hk⟩)) hg (.inl rfl)); have n2_ := Aside0.mk (hp_); have n3_ := Aside0.mk (blk_grown (g := gb246) (o := .cells #[.int .u8 a1_0, .int .u8 a1_1] 34 (0, 0)) (by (with_reducible repeat (first | refine blk_drewN ?_ _ | refine blk_drew ?_ | refine blk_alloc ?_ _)); exact BK246.out) hg (Kd.R_ne HO_12.out BK246.out (by decide))); have n4_ := Aside0.mk (Kd.V_afterv (v := (.slice (some ⟨go65, 0, none⟩) t261.length co85)) (v1 := (.slice (some ⟨go65, 0, none⟩) t261.length co85)) (ok := (fun k_ => some k_ ≠ (v255 : Value).ownBlock ∧ k_ ≠ gb246)) (by (with_reducible repeat (first | apply Kd.V_alloc | apply Kd.V_drewN | apply Kd.V_drew)); exact Kd.V_mono HO273.out (fun _ hk => ⟨⟨hk.1, hk.2.2⟩, hk.2.1⟩)) hg (.inl rfl)); have n5_ := Aside0.mk (Kd.V_afterv (v := (.slice (some ⟨go65, 0, none⟩) t261.length co85)) (v1 := (.slice (some ⟨go65, 0, none⟩) t261.length co85)) (ok := (fun k_ => some k_ ≠ (v255 : Value).ownBlock ∧ k_ ≠ gb246)) (by (with_reducible repeat (first | apply Kd.V_alloc | apply Kd.V_drewN | apply Kd.V_drew)); exact Kd.V_mono HO283.out (fun _ hk => ⟨⟨hk.1, hk.2.2⟩, hk.2.1⟩)) hg (.inl rfl)); have n6_ := Aside0.mk ((by rw [hw]; exact below_set (HB.out) GB65.out : Below w.heap.size w w93)); clear HO_0; clear HO_8; clear HO_12; clear BK246; clear HO273; clear HO283; clear HB; have HO_0 := n0_; have HO_8 := n1_; have HO_12 := n2_; have BK246 := n3_; have HO273 := n4_; have HO283 := n5_; have HB := n6_; clear n0_ n1_ n2_ n3_ n4_ n5_ n6_; clear hg hw hp_; obtain ⟨Ao94, co94, eo94⟩ := Kd.R_slice HO_8.out; subst eo94) | ((with_reducible refine gate_callee (f := 13) rfl ?_); refine goesL_ (some 98) rfl rfl Try.func13 (by kernel_rfl) rfl #[.slice Ao41 t248.length co41, .slice Ao94 y254.length co94] rfl (by (try simp only [List.map_toArray, List.map_cons, List.map_nil]); first | done | rfl | (simp only [List.length_drop, List.length_take]; rfl)) ?_; (with_reducible refine (thresherref15_Same.calls kj33 _ _ t248 _ _ y254 t286 _ ?side1 ?side2 ?side3 ?side4 A66.out).mono ?_); (case side1 => repeat (first | exact (Kd.V_reads' HO_0.out).2.2 | (with_reducible refine Kd.C_alloc ?_ _) | (with_reducible refine Kd.C_drewN ?_ _) | (with_reducible refine Kd.C_drew ?_))); (case side2 => exact (Kd.V_reads' HO_0.out).2.1); (case side3 => repeat (first | exact (Kd.R_reads' HO_8.out).2.2 | (with_reducible refine Kd.C_alloc ?_ _) | (with_reducible refine Kd.C_drewN ?_ _) | (with_reducible refine Kd.C_drew ?_))); (case side4 => exact (Kd.R_reads' HO_8.out).2.1); rintro e w95 ⟨rfl, hb⟩; refine ⟨_, rfl, ?_⟩; have n0_ := Aside0.mk (Kd.V_below (by (with_reducible repeat (first | apply Kd.V_alloc | apply Kd.V_drewN | apply Kd.V_drew)); exact HO_0.out) hb); have n1_ := Aside0.mk (Kd.R_below (by (with_reducible repeat (first | apply Kd.R_alloc | apply Kd.R_drewN | apply Kd.R_drew)); exact HO_8.out) hb); have n2_ := Aside0.mk (Kd.R_below (by (with_reducible repeat (first | apply Kd.R_alloc | apply Kd.R_drewN | apply Kd.R_drew)); exact HO_12.out) hb); have n3_ := Aside0.mk (Kd.V_below (by (with_reducible repeat (first | apply Kd.V_alloc | apply Kd.V_drewN | apply Kd.V_drew)); exact HO273.out) hb); have n4_ := Aside0.mk (Kd.V_below (by (with_reducible repeat (first | apply Kd.V_alloc | apply Kd.V_drewN | apply Kd.V_drew)); exact HO283.out) hb); have n5_ := Aside0.mk (blk_below (g := gb246) (o := .cells #[.int .u8 a1_0, .int .u8 a1_1] 34 (0, 0)) (by (with_reducible repeat (first | refine blk_drewN ?_ _ | refine blk_drew ?_ | refine blk_alloc ?_ _)); exact BK246.out) hb); have n6_ := Aside0.mk (below_step (by repeat (first | (with_reducible first | exact HB.out | apply below_alloc | apply pw_below_drewN | apply below_drew1 | refine below_set ?_ GE246.out) | exact HB.out)) hb); clear HO_0; clear HO_8; clear HO_12; clear HO273; clear HO283; clear BK246; clear HB; have HO_0 := n0_; have HO_8 := n1_; have HO_12 := n2_; have HO273 := n3_; have HO283 := n4_; have BK246 := n5_; have HB := n6_; clear n0_ n1_ n2_ n3_ n4_ n5_ n6_; (try clear hb); (try clear hb2); (try clear hk); (try clear hi)))
                                      go_ret
                                      exact ⟨by first | rfl | (simp [errW_none, errW_some] <;> rfl) | (simp only [← hji51, ← hji57, ← hji60]; first | rfl | (simp [errW_none, errW_some] <;> rfl)) | (simp [*, errW_none, errW_some] <;> rfl), by repeat (first | (with_reducible first | exact HB.out | apply below_alloc | apply pw_below_drewN | apply below_drew1 | refine below_set ?_ GE246.out) | exact HB.out)⟩
                                  · replace c68 := Bool.eq_false_iff.mpr c68
                                    subst c68
                                    have H1 : (some false) = some r := by rw [if_neg (show ¬ (false = true) by decide)] at H; exact H
                                    clear H
                                    have H := H1
                                    clear H1
                                    obtain rfl := Option.some.inj H
                                    try go_wp2
                                    have n0_ := Aside0.mk (Kd.V_drew HO_0.out)
                                    have n1_ := Aside0.mk (Kd.R_drew HO_8.out)
                                    have n2_ := Aside0.mk (Kd.R_drew HO_12.out)
                                    have n3_ := Aside0.mk (blk_drew BK246.out)
                                    have n4_ := Aside0.mk (below_drew1 HB.out)
                                    clear HO_0
                                    clear HO_8
                                    clear HO_12
                                    clear BK246
                                    clear HB
                                    have HO_0 := n0_
                                    have HO_8 := n1_
                                    have HO_12 := n2_
                                    have BK246 := n3_
                                    have HB := n4_
                                    clear n0_ n1_ n2_ n3_ n4_
                                    obtain ⟨Ao98, co98, eo98⟩ := Kd.R_slice HO_12.out
                                    (first | subst eo98 | (injection eo98 with f1_ f2_ f3_; have f4_ := f1_.symm; have f5_ := f3_.symm; clear f1_ f2_ f3_; subst f4_; subst f5_))
                                    have q97 : ((ji51) : Int) ≤ ((t261.length : Int) : Int) := of_decide_eq_true (by first | (with_reducible assumption) | assumption)
                                    obtain ⟨i097, hi097, _, hsz97, _⟩ := info_parts info3
                                    have hroom97 : t261.length ≤ co98 := (Kd.R_reads' HO_12.out).2.1
                                    have hC97 : Kd.C (Kd.int .i64) _ Ao98 t261.length t261 := (Kd.R_reads' HO_12.out).2.2
                                    have hcut97 := cut_to (P := Try.prog) 22 3 .i64 Try.underlying22 hi097 Ao98 t261.length co98 (ji51) (of_decide_eq_true (by first | (with_reducible assumption) | assumption)) q97 hroom97
                                    have hr97 := Kd.C_take (m := ((ji51) : Int).toNat) hC97 (by omega)
                                    have hy97 : y265.length = ((ji51) : Int).toNat := (by rw [Ny265.out, List.length_take]; omega)
                                    rw [← Ny265.out] at hr97
                                    rw [← hy97] at hcut97
                                    have HR268 := Aside0.mk hr97
                                    have HC268 := Aside0.mk (show y265.length ≤ co98 from by omega)
                                    clear hr97 hC97 hroom97 hi097 hsz97
                                    have KY97 := Aside0.mk hy97
                                    clear hy97
                                    have KL97 := Aside0.mk (show ((ji51) : Int).toNat ≤ t261.length from by omega)
                                    replace q97 := eq_true q97
                                    have q99 : ((ji51) : Int) ≤ ((t248.length : Int) : Int) := of_decide_eq_true (by first | (with_reducible assumption) | assumption)
                                    obtain ⟨i099, hi099, _, hsz99, _⟩ := info_parts info3
                                    have hroom99 : t248.length ≤ co41 := (Kd.V_reads' HO_0.out).2.1
                                    have hC99 : Kd.F (Kd.int .i64) _ _ Ao41 t248.length t248 := (Kd.V_at (base := w.heap.size) HO_0.out).2.2
                                    have hcut99 := cut_to (P := Try.prog) 22 3 .i64 Try.underlying22 hi099 Ao41 t248.length co41 (ji51) (of_decide_eq_true (by first | (with_reducible assumption) | assumption)) q99 hroom99
                                    have hr99 := Kd.F_take (m := ((ji51) : Int).toNat) hC99 (by omega)
                                    have hy99 : y269.length = ((ji51) : Int).toNat := (by rw [Ny269.out, List.length_take]; omega)
                                    rw [← Ny269.out] at hr99
                                    rw [← hy99] at hcut99
                                    have HO273 := Aside0.mk (show Kd.V (Kd.int .i64) 3 _ w.heap.size _ (.slice Ao41 y269.length co41) y269 from Kd.V_mk (by omega) hr99)
                                    have HC273 := Aside0.mk (show y269.length ≤ co41 from by omega)
                                    clear hr99 hC99 hroom99 hi099 hsz99
                                    have KY99 := Aside0.mk hy99
                                    clear hy99
                                    replace q99 := eq_true q99
                                    refine start_ (n := 8) (S := fun w' => True) (ds := []) #[false, false, false, false, false, false, false, false] (by kernel_rfl) rfl rfl trivial (fun hHeld => ?_); refine with_tabW thresherlaw15_PickAfters.tab12 thresherlaw15_PickAfters.bits12 (fun HT_ HW_ => ?_)
                                    generalize wc.drew = w96 at HO_0 HO_8 HO_12 BK246 HB HO273 HR268 hHeld ⊢
                                    refine pure_ (i := 0) (N := some 76) (v := ?_) (a' := ?_) #[true, false, false, false, false, false, false, false] rfl rfl (any_of HT_.out (by kernel_rfl)) (fun _ _ _ h => h) (Or.inl ⟨by rfl, ?_⟩) ?_ ?_
                                    rotate_left
                                    · intro w'
                                      go_simp
                                      with_reducible rfl
                                    rotate_left
                                    · simp only [Act.put, List.setIfInBounds_toArray, List.set_cons_zero, List.set_cons_succ, i64_w, i32_w]
                                      rfl
                                    refine pure_ (i := 1) (N := some 77) (v := ?_) (a' := ?_) #[true, true, false, false, false, false, false, false] rfl rfl (any_of HT_.out (by kernel_rfl)) (fun _ _ _ h => h) (Or.inl ⟨by rfl, ?_⟩) ?_ ?_
                                    rotate_left
                                    · intro w'
                                      go_simp
                                      with_reducible rfl
                                    rotate_left
                                    · simp only [Act.put, List.setIfInBounds_toArray, List.set_cons_zero, List.set_cons_succ, i64_w, i32_w]
                                      rfl
                                    refine pure_ (i := 2) (N := some 78) (v := ?_) (a' := ?_) #[true, true, true, false, false, false, false, false] rfl rfl (any_of HT_.out (by kernel_rfl)) (fun _ _ _ h => h) (Or.inl ⟨by rfl, ?_⟩) ?_ ?_
                                    rotate_left
                                    · intro w'
                                      go_simp
                                      with_reducible rfl
                                    rotate_left
                                    · simp only [Act.put, List.setIfInBounds_toArray, List.set_cons_zero, List.set_cons_succ, i64_w, i32_w]
                                      rfl
                                    refine pure_ (i := 3) (N := some 79) (v := ?_) (a' := ?_) #[true, true, true, true, false, false, false, false] rfl rfl (any_of HT_.out (by kernel_rfl)) (fun _ _ _ h => h) (Or.inl ⟨by rfl, ?_⟩) ?_ ?_
                                    rotate_left
                                    · intro w'
                                      go_simp
                                      with_reducible rfl
                                    rotate_left
                                    · simp only [Act.put, List.setIfInBounds_toArray, List.set_cons_zero, List.set_cons_succ, i64_w, i32_w]
                                      rfl
                                    refine pure_ (i := 4) (N := some 80) (v := ?_) (a' := ?_) #[true, true, true, true, true, false, false, false] rfl rfl (any_of HT_.out (by kernel_rfl)) (fun _ _ _ h => h) (Or.inl ⟨by rfl, ?_⟩) ?_ ?_
                                    rotate_left
                                    · intro w'
                                      go_simp
                                      with_reducible rfl
                                    rotate_left
                                    · simp only [Act.put, List.setIfInBounds_toArray, List.set_cons_zero, List.set_cons_succ, i64_w, i32_w]
                                      rfl
                                    refine pure_ (i := 5) (N := some 81) (v := ?_) (a' := ?_) #[true, true, true, true, true, true, false, false] rfl rfl (any_of HT_.out (by kernel_rfl)) (fun _ _ _ h => h) (Or.inl ⟨by rfl, ?_⟩) ?_ ?_
                                    rotate_left
                                    · intro w'
                                      go_simp
                                      with_reducible rfl
                                    rotate_left
                                    · simp only [Act.put, List.setIfInBounds_toArray, List.set_cons_zero, List.set_cons_succ, i64_w, i32_w]
                                      rfl
                                    refine one_ (i := 6) (N := some 82) #[true, true, true, true, true, true, true, false] rfl rfl (one_of HT_.out (by kernel_rfl)) (by decide) (fun K hK => ?_)
                                    refine goes_ Try.func13 (by kernel_rfl) rfl #[.slice Ao98 y265.length co98, .slice Ao41 y269.length co41] (by rfl) rfl rfl (by (try simp only [List.map_toArray, List.map_cons, List.map_nil]); first | done | rfl | (simp only [List.length_drop, List.length_take]; rfl)) ?_
                                    with_reducible refine (thresherref15_Same.calls kj33 _ _ y265 _ _ y269 false _ ?side1 ?side2 ?side3 ?side4 A56.out).mono ?_
                                    (case side1 => repeat (first | exact (by repeat (first | (with_reducible exact HR268.out) | (with_reducible refine Kd.C_alloc ?_ _) | (with_reducible refine Kd.C_drewN ?_ _) | (with_reducible refine Kd.C_drew ?_) | exact HR268.out)) | (with_reducible refine Kd.C_alloc ?_ _) | (with_reducible refine Kd.C_drewN ?_ _) | (with_reducible refine Kd.C_drew ?_)))
                                    (case side2 => exact HC268.out)
                                    (case side3 => repeat (first | exact (Kd.V_reads' HO273.out).2.2 | (with_reducible refine Kd.C_alloc ?_ _) | (with_reducible refine Kd.C_drewN ?_ _) | (with_reducible refine Kd.C_drew ?_)))
                                    (case side4 => exact (Kd.V_reads' HO273.out).2.1)
                                    rintro e w100 ⟨rfl, hb⟩
                                    refine ⟨_, rfl, ?_⟩
                                    have n0_ := Aside0.mk (Kd.V_below (by (with_reducible repeat (first | apply Kd.V_alloc | apply Kd.V_drewN | apply Kd.V_drew)); exact HO_0.out) hb)
                                    have n1_ := Aside0.mk (Kd.R_below (by (with_reducible repeat (first | apply Kd.R_alloc | apply Kd.R_drewN | apply Kd.R_drew)); exact HO_8.out) hb)
                                    have n2_ := Aside0.mk (Kd.R_below (by (with_reducible repeat (first | apply Kd.R_alloc | apply Kd.R_drewN | apply Kd.R_drew)); exact HO_12.out) hb)
                                    have n3_ := Aside0.mk (Kd.V_below (by (with_reducible repeat (first | apply Kd.V_alloc | apply Kd.V_drewN | apply Kd.V_drew)); exact HO273.out) hb)
                                    have n4_ := Aside0.mk (blk_below (g := gb246) (o := .cells #[.int .u8 a1_0, .int .u8 a1_1] 34 (0, 0)) (by (with_reducible repeat (first | refine blk_drewN ?_ _ | refine blk_drew ?_ | refine blk_alloc ?_ _)); exact BK246.out) hb)
                                    have n5_ := Aside0.mk (Kd.C_below (by repeat (first | (with_reducible exact HR268.out) | (with_reducible refine Kd.C_alloc ?_ _) | (with_reducible refine Kd.C_drewN ?_ _) | (with_reducible refine Kd.C_drew ?_) | exact HR268.out)) hb)
                                    have n6_ := Aside0.mk (below_step (by repeat (first | (with_reducible first | exact HB.out | apply below_alloc | apply pw_below_drewN | apply below_drew1 | refine below_set ?_ GE246.out) | exact HB.out)) hb)
                                    clear HO_0
                                    clear HO_8
                                    clear HO_12
                                    clear HO273
                                    clear BK246
                                    clear HR268
                                    clear HB
                                    have HO_0 := n0_
                                    have HO_8 := n1_
                                    have HO_12 := n2_
                                    have HO273 := n3_
                                    have BK246 := n4_
                                    have HR268 := n5_
                                    have HB := n6_
                                    clear n0_ n1_ n2_ n3_ n4_ n5_ n6_
                                    (try clear hb)
                                    (try clear hb2)
                                    (try clear hk)
                                    (try clear hi)
                                    refine hK.out _ _ trivial (fun hHeld => ?_)
                                    clear hK K
                                    refine norm_ (a' := ?_) ?_ ?_
                                    rotate_left
                                    · show Act.put _ (some 82) _ = _
                                      simp only [Act.put, List.setIfInBounds_toArray, List.set_cons_zero, List.set_cons_succ, i64_w, i32_w]
                                      rfl
                                    refine pure_ (i := 7) (N := some 13) (v := ?_) (a' := ?_) #[true, true, true, true, true, true, true, true] rfl rfl (any_of HT_.out (by kernel_rfl)) (fun _ _ _ h => h) (Or.inl ⟨by rfl, ?_⟩) ?_ ?_
                                    rotate_left
                                    · intro w'
                                      go_simp
                                      with_reducible rfl
                                    rotate_left
                                    · simp only [Act.put, List.setIfInBounds_toArray, List.set_cons_zero, List.set_cons_succ, i64_w, i32_w]
                                      rfl
                                    refine done_ (done_of HT_.out (by kernel_rfl)) ?_
                                    try go_wp2
                                    have n0_ := Aside0.mk (Kd.V_drew HO_0.out)
                                    have n1_ := Aside0.mk (Kd.R_drew HO_8.out)
                                    have n2_ := Aside0.mk (Kd.R_drew HO_12.out)
                                    have n3_ := Aside0.mk (Kd.V_drew HO273.out)
                                    have n4_ := Aside0.mk (blk_drew BK246.out)
                                    have n5_ := Aside0.mk (Kd.C_drew HR268.out)
                                    have n6_ := Aside0.mk (below_drew1 HB.out)
                                    clear HO_0
                                    clear HO_8
                                    clear HO_12
                                    clear HO273
                                    clear BK246
                                    clear HR268
                                    clear HB
                                    have HO_0 := n0_
                                    have HO_8 := n1_
                                    have HO_12 := n2_
                                    have HO273 := n3_
                                    have BK246 := n4_
                                    have HR268 := n5_
                                    have HB := n6_
                                    clear n0_ n1_ n2_ n3_ n4_ n5_ n6_
                                    have q102 : ((ji57) : Int) ≤ ((t261.length : Int) : Int) := of_decide_eq_true (by first | (with_reducible assumption) | assumption)
                                    obtain ⟨i0102, hi0102, _, hsz102, _⟩ := info_parts info3
                                    have hroom102 : t261.length ≤ co98 := (Kd.R_reads' HO_12.out).2.1
                                    have hC102 : Kd.C (Kd.int .i64) _ Ao98 t261.length t261 := (Kd.R_reads' HO_12.out).2.2
                                    have q0102 : (0 : Int) ≤ ((ji57) : Int) := of_decide_eq_true (by first | (with_reducible assumption) | assumption)
                                    have hcut102 := cut_from (P := Try.prog) 22 3 .i64 Try.underlying22 hi0102 1 hsz102 Ao98 t261.length co98 (ji57) q0102 q102
                                    have hr102 := Kd.C_drop (m := ((ji57) : Int).toNat) (c := co98) hC102 (by omega) hroom102
                                    obtain ⟨A102, hA102⟩ : ∃ A1, A1 = (if co98 = ((ji57) : Int).toNat then Ao98 else (Ao98 : Option Addr).map (·.add (((ji57) : Int).toNat * 1))) := ⟨_, rfl⟩
                                    obtain ⟨c102, hc102⟩ : ∃ c1, c1 = co98 - ((ji57) : Int).toNat := ⟨_, rfl⟩
                                    have hy102 : y275.length = t261.length - ((ji57) : Int).toNat := (by rw [Ny275.out, List.length_drop] <;> omega)
                                    rw [show (t261).drop ((ji57) : Int).toNat = y275 from Ny275.out.symm] at hr102
                                    replace hr102 : Kd.C (Kd.int .i64) _ A102 y275.length y275 := (by rw [hA102]; exact hr102)
                                    rw [← hy102, ← hA102, ← hc102] at hcut102
                                    have HR278 := Aside0.mk hr102
                                    have HC278 := Aside0.mk (show y275.length ≤ c102 from by rw [hy102, hc102]; exact Nat.sub_le_sub_right hroom102 _)
                                    clear hr102 hC102 hroom102 hi0102 hsz102 hc102
                                    have KY102 := Aside0.mk hy102
                                    have KA102 := Aside0.mk hA102
                                    clear hy102 hA102
                                    have KL102 := Aside0.mk (show ((ji57) : Int).toNat ≤ t261.length from by omega)
                                    replace q102 := eq_true q102
                                    have q103 : ((ji60) : Int) ≤ ((t248.length : Int) : Int) := of_decide_eq_true (by first | (with_reducible assumption) | assumption)
                                    obtain ⟨i0103, hi0103, _, hsz103, _⟩ := info_parts info3
                                    have hroom103 : t248.length ≤ co41 := (Kd.V_reads' HO_0.out).2.1
                                    have hC103 : Kd.F (Kd.int .i64) _ _ Ao41 t248.length t248 := (Kd.V_at (base := w.heap.size) HO_0.out).2.2
                                    have q0103 : (0 : Int) ≤ ((ji60) : Int) := of_decide_eq_true (by first | (with_reducible assumption) | assumption)
                                    have hcut103 := cut_from (P := Try.prog) 22 3 .i64 Try.underlying22 hi0103 1 hsz103 Ao41 t248.length co41 (ji60) q0103 q103
                                    have hr103 := Kd.F_cut (m := ((ji60) : Int).toNat) (c := co41) hC103 (by omega) hroom103
                                    obtain ⟨A103, hA103⟩ : ∃ A1, A1 = (if co41 = ((ji60) : Int).toNat then Ao41 else (Ao41 : Option Addr).map (·.add (((ji60) : Int).toNat * 1))) := ⟨_, rfl⟩
                                    obtain ⟨c103, hc103⟩ : ∃ c1, c1 = co41 - ((ji60) : Int).toNat := ⟨_, rfl⟩
                                    have hy103 : y279.length = t248.length - ((ji60) : Int).toNat := (by rw [Ny279.out, List.length_drop] <;> omega)
                                    rw [show (t248).drop ((ji60) : Int).toNat = y279 from Ny279.out.symm] at hr103
                                    replace hr103 : Kd.F (Kd.int .i64) _ _ A103 y279.length y279 := (by rw [hA103]; exact hr103)
                                    rw [← hy103, ← hA103, ← hc103] at hcut103
                                    have HO283 := Aside0.mk (show Kd.V (Kd.int .i64) 3 _ w.heap.size _ (.slice A103 y279.length c103) y279 from Kd.V_mk (by rw [hy103, hc103]; exact Nat.sub_le_sub_right hroom103 _) hr103)
                                    have HC283 := Aside0.mk (show y279.length ≤ c103 from by rw [hy103, hc103]; exact Nat.sub_le_sub_right hroom103 _)
                                    clear hr103 hC103 hroom103 hi0103 hsz103 hc103
                                    have KY103 := Aside0.mk hy103
                                    have KA103 := Aside0.mk hA103
                                    clear hy103 hA103
                                    replace q103 := eq_true q103
                                    refine start_ (n := 9) (S := fun w' => True) (ds := []) #[false, false, false, false, false, false, false, false, false] (by kernel_rfl) rfl rfl trivial (fun hHeld => ?_); refine with_tabW thresherlaw15_PickAfters.tab13 thresherlaw15_PickAfters.bits13 (fun HT_ HW_ => ?_)
                                    generalize w100.drew = w101 at HO_0 HO_8 HO_12 HO273 BK246 HR268 HB HO283 HR278 hHeld ⊢
                                    refine pure_ (i := 0) (N := some 83) (v := ?_) (a' := ?_) #[true, false, false, false, false, false, false, false, false] rfl rfl (any_of HT_.out (by kernel_rfl)) (fun _ _ _ h => h) (Or.inl ⟨by rfl, ?_⟩) ?_ ?_
                                    rotate_left
                                    · intro w'
                                      go_simp
                                      with_reducible rfl
                                    rotate_left
                                    · simp only [Act.put, List.setIfInBounds_toArray, List.set_cons_zero, List.set_cons_succ, i64_w, i32_w]
                                      rfl
                                    refine pure_ (i := 1) (N := some 84) (v := ?_) (a' := ?_) #[true, true, false, false, false, false, false, false, false] rfl rfl (any_of HT_.out (by kernel_rfl)) (fun _ _ _ h => h) (Or.inl ⟨by rfl, ?_⟩) ?_ ?_
                                    rotate_left
                                    · intro w'
                                      go_simp
                                      with_reducible rfl
                                    rotate_left
                                    · simp only [Act.put, List.setIfInBounds_toArray, List.set_cons_zero, List.set_cons_succ, i64_w, i32_w]
                                      rfl
                                    refine pure_ (i := 2) (N := some 85) (v := ?_) (a' := ?_) #[true, true, true, false, false, false, false, false, false] rfl rfl (any_of HT_.out (by kernel_rfl)) (fun _ _ _ h => h) (Or.inl ⟨by rfl, ?_⟩) ?_ ?_
                                    rotate_left
                                    · intro w'
                                      go_simp
                                      with_reducible rfl
                                    rotate_left
                                    · simp only [Act.put, List.setIfInBounds_toArray, List.set_cons_zero, List.set_cons_succ, i64_w, i32_w]
                                      rfl
                                    refine pure_ (i := 3) (N := some 86) (v := ?_) (a' := ?_) #[true, true, true, true, false, false, false, false, false] rfl rfl (any_of HT_.out (by kernel_rfl)) (fun _ _ _ h => h) (Or.inl ⟨by rfl, ?_⟩) ?_ ?_
                                    rotate_left
                                    · intro w'
                                      go_simp
                                      with_reducible rfl
                                    rotate_left
                                    · simp only [Act.put, List.setIfInBounds_toArray, List.set_cons_zero, List.set_cons_succ, i64_w, i32_w]
                                      rfl
                                    refine pure_ (i := 4) (N := some 87) (v := ?_) (a' := ?_) #[true, true, true, true, true, false, false, false, false] rfl rfl (any_of HT_.out (by kernel_rfl)) (fun _ _ _ h => h) (Or.inl ⟨by rfl, ?_⟩) ?_ ?_
                                    rotate_left
                                    · intro w'
                                      go_simp
                                      with_reducible rfl
                                    rotate_left
                                    · simp only [Act.put, List.setIfInBounds_toArray, List.set_cons_zero, List.set_cons_succ, i64_w, i32_w]
                                      rfl
                                    refine pure_ (i := 5) (N := some 88) (v := ?_) (a' := ?_) #[true, true, true, true, true, true, false, false, false] rfl rfl (any_of HT_.out (by kernel_rfl)) (fun _ _ _ h => h) (Or.inl ⟨by rfl, ?_⟩) ?_ ?_
                                    rotate_left
                                    · intro w'
                                      go_simp
                                      with_reducible rfl
                                    rotate_left
                                    · simp only [Act.put, List.setIfInBounds_toArray, List.set_cons_zero, List.set_cons_succ, i64_w, i32_w]
                                      rfl
                                    refine pure_ (i := 6) (N := some 89) (v := ?_) (a' := ?_) #[true, true, true, true, true, true, true, false, false] rfl rfl (any_of HT_.out (by kernel_rfl)) (fun _ _ _ h => h) (Or.inl ⟨by rfl, ?_⟩) ?_ ?_
                                    rotate_left
                                    · intro w'
                                      go_simp
                                      with_reducible rfl
                                    rotate_left
                                    · simp only [Act.put, List.setIfInBounds_toArray, List.set_cons_zero, List.set_cons_succ, i64_w, i32_w]
                                      rfl
                                    refine one_ (i := 7) (N := some 90) #[true, true, true, true, true, true, true, true, false] rfl rfl (one_of HT_.out (by kernel_rfl)) (by decide) (fun K hK => ?_)
                                    refine goes_ Try.func13 (by kernel_rfl) rfl #[.slice A102 y275.length c102, .slice A103 y279.length c103] (by rfl) rfl rfl (by (try simp only [List.map_toArray, List.map_cons, List.map_nil]); first | done | rfl | (simp only [List.length_drop, List.length_take]; rfl)) ?_
                                    with_reducible refine (thresherref15_Same.calls kj33 _ _ y275 _ _ y279 t284 _ ?side1 ?side2 ?side3 ?side4 A63.out).mono ?_
                                    (case side1 => repeat (first | exact (by repeat (first | (with_reducible exact HR278.out) | (with_reducible refine Kd.C_alloc ?_ _) | (with_reducible refine Kd.C_drewN ?_ _) | (with_reducible refine Kd.C_drew ?_) | exact HR278.out)) | (with_reducible refine Kd.C_alloc ?_ _) | (with_reducible refine Kd.C_drewN ?_ _) | (with_reducible refine Kd.C_drew ?_)))
                                    (case side2 => exact HC278.out)
                                    (case side3 => repeat (first | exact (Kd.V_reads' HO283.out).2.2 | (with_reducible refine Kd.C_alloc ?_ _) | (with_reducible refine Kd.C_drewN ?_ _) | (with_reducible refine Kd.C_drew ?_)))
                                    (case side4 => exact (Kd.V_reads' HO283.out).2.1)
                                    rintro e w104 ⟨rfl, hb⟩
                                    refine ⟨_, rfl, ?_⟩
                                    have n0_ := Aside0.mk (Kd.V_below (by (with_reducible repeat (first | apply Kd.V_alloc | apply Kd.V_drewN | apply Kd.V_drew)); exact HO_0.out) hb)
                                    have n1_ := Aside0.mk (Kd.R_below (by (with_reducible repeat (first | apply Kd.R_alloc | apply Kd.R_drewN | apply Kd.R_drew)); exact HO_8.out) hb)
                                    have n2_ := Aside0.mk (Kd.R_below (by (with_reducible repeat (first | apply Kd.R_alloc | apply Kd.R_drewN | apply Kd.R_drew)); exact HO_12.out) hb)
                                    have n3_ := Aside0.mk (Kd.V_below (by (with_reducible repeat (first | apply Kd.V_alloc | apply Kd.V_drewN | apply Kd.V_drew)); exact HO273.out) hb)
                                    have n4_ := Aside0.mk (Kd.V_below (by (with_reducible repeat (first | apply Kd.V_alloc | apply Kd.V_drewN | apply Kd.V_drew)); exact HO283.out) hb)
                                    have n5_ := Aside0.mk (blk_below (g := gb246) (o := .cells #[.int .u8 a1_0, .int .u8 a1_1] 34 (0, 0)) (by (with_reducible repeat (first | refine blk_drewN ?_ _ | refine blk_drew ?_ | refine blk_alloc ?_ _)); exact BK246.out) hb)
                                    have n6_ := Aside0.mk (Kd.C_below (by repeat (first | (with_reducible exact HR268.out) | (with_reducible refine Kd.C_alloc ?_ _) | (with_reducible refine Kd.C_drewN ?_ _) | (with_reducible refine Kd.C_drew ?_) | exact HR268.out)) hb)
                                    have n7_ := Aside0.mk (Kd.C_below (by repeat (first | (with_reducible exact HR278.out) | (with_reducible refine Kd.C_alloc ?_ _) | (with_reducible refine Kd.C_drewN ?_ _) | (with_reducible refine Kd.C_drew ?_) | exact HR278.out)) hb)
                                    have n8_ := Aside0.mk (below_step (by repeat (first | (with_reducible first | exact HB.out | apply below_alloc | apply pw_below_drewN | apply below_drew1 | refine below_set ?_ GE246.out) | exact HB.out)) hb)
                                    clear HO_0
                                    clear HO_8
                                    clear HO_12
                                    clear HO273
                                    clear HO283
                                    clear BK246
                                    clear HR268
                                    clear HR278
                                    clear HB
                                    have HO_0 := n0_
                                    have HO_8 := n1_
                                    have HO_12 := n2_
                                    have HO273 := n3_
                                    have HO283 := n4_
                                    have BK246 := n5_
                                    have HR268 := n6_
                                    have HR278 := n7_
                                    have HB := n8_
                                    clear n0_ n1_ n2_ n3_ n4_ n5_ n6_ n7_ n8_
                                    (try clear hb)
                                    (try clear hb2)
                                    (try clear hk)
                                    (try clear hi)
                                    refine hK.out _ _ trivial (fun hHeld => ?_)
                                    clear hK K
                                    refine norm_ (a' := ?_) ?_ ?_
                                    rotate_left
                                    · show Act.put _ (some 90) _ = _
                                      simp only [Act.put, List.setIfInBounds_toArray, List.set_cons_zero, List.set_cons_succ, i64_w, i32_w]
                                      rfl
                                    refine pure_ (i := 8) (N := some 14) (v := ?_) (a' := ?_) #[true, true, true, true, true, true, true, true, true] rfl rfl (any_of HT_.out (by kernel_rfl)) (fun _ _ _ h => h) (Or.inl ⟨by rfl, ?_⟩) ?_ ?_
                                    rotate_left
                                    · intro w'
                                      go_simp
                                      with_reducible rfl
                                    rotate_left
                                    · simp only [Act.put, List.setIfInBounds_toArray, List.set_cons_zero, List.set_cons_succ, i64_w, i32_w]
                                      rfl
                                    refine done_ (done_of HT_.out (by kernel_rfl)) ?_
                                    have p65 : 0 ≤ ((ji51) : Int) := of_decide_eq_true (by first | (with_reducible assumption) | assumption)
                                    have q65 : ((ji51) : Int) < ((t261.length : Int) : Int) := of_decide_eq_true (by first | (with_reducible assumption) | assumption)
                                    obtain ⟨go65, co65, eo65, gb65, gl65, cl65, HG65⟩ := Kd.R_form HO_12.out (by omega)
                                    (first | cases eo65 | (injection eo65 with ea_ en_ ec_; (first | subst ea_ | (injection ea_ with ea_; subst ea_)); subst ec_; clear en_))
                                    have GB65 := Aside0.mk gb65
                                    have GG65 := Aside0.mk HG65
                                    clear gb65 gl65 HG65
                                    obtain ⟨hx65_0, hf65_0⟩ := Kd.R_celln 0 HO_12.out ((ji51) : Int) p65 q65
                                    replace p65 := eq_true p65
                                    replace q65 := eq_true q65
                                    obtain ⟨hy105_, hz105_⟩ := Kd.R_celln 0 HO_12.out ((ji51) : Int) (of_decide_eq_true (by first | (with_reducible assumption) | assumption)) (of_decide_eq_true (by first | (with_reducible assumption) | assumption))
                                    have HP105 := Kd.R_putg HO_12.out ((ji51) : Int) (wrap64 (a2 + 1))
                                    try go_wp2_with (first | ((with_reducible refine gate_store (t := 3) (p := 95) rfl ?_); refine store_event (t := 3) (p := 95) (v := ?vo_w106) (w1 := (w104.setCell ⟨go65, ((ji51) : Int).toNat, none⟩ (.int .i64 (wrap64 (a2 + 1))))) ?hg ?ho ?hn ?hr ?_; (case ho => rfl); (case hg => rfl); (case hn => rfl); (case hr => first | (go_simp; done) | (go_simp; rfl)); intro w106 hw; have hg : w104.grownBy w106 (some go65) := (by rw [hw]; exact HP105.2); have hp_ : Kd.R (Kd.int .i64) 3 w106 w.heap.size (fun k_ => some k_ ≠ (v255 : Value).ownBlock) (.slice (some ⟨go65, 0, none⟩) t261.length co98) y285 := (by rw [hw, Ny285.out]; exact HP105.1); clear HP105; have n0_ := Aside0.mk (Kd.V_afterv (v := (.slice (some ⟨go65, 0, none⟩) t261.length co98)) (v1 := (.slice (some ⟨go65, 0, none⟩) t261.length co98)) (ok := (fun k_ => some k_ ≠ (v255 : Value).ownBlock ∧ k_ ≠ gb246)) (by (with_reducible repeat (first | apply Kd.V_alloc | apply Kd.V_drewN | apply Kd.V_drew)); exact Kd.V_mono HO_0.out (fun _ hk => ⟨⟨hk.1, hk.2.2⟩, hk.2.1⟩)) hg (.inl rfl)); have n1_ := Aside0.mk (Kd.R_after (v := (.slice (some ⟨go65, 0, none⟩) t261.length co98)) (v1 := (.slice (some ⟨go65, 0, none⟩) t261.length co98)) (ok := (fun _ => True)) (by (with_reducible repeat (first | apply Kd.R_alloc | apply Kd.R_drewN | apply Kd.R_drew)); exact Kd.R_mono HO_8.out (fun _ hk => ⟨trivial, hk⟩)) hg (.inl rfl)); have n2_ := Aside0.mk (hp_); have n3_ := Aside0.mk (blk_grown (g := gb246) (o := .cells #[.int .u8 a1_0, .int .u8 a1_1] 34 (0, 0)) (by (with_reducible repeat (first | refine blk_drewN ?_ _ | refine blk_drew ?_ | refine blk_alloc ?_ _)); exact BK246.out) hg (Kd.R_ne HO_12.out BK246.out (by decide))); have n4_ := Aside0.mk (Kd.V_afterv (v := (.slice (some ⟨go65, 0, none⟩) t261.length co98)) (v1 := (.slice (some ⟨go65, 0, none⟩) t261.length co98)) (ok := (fun k_ => some k_ ≠ (v255 : Value).ownBlock ∧ k_ ≠ gb246)) (by (with_reducible repeat (first | apply Kd.V_alloc | apply Kd.V_drewN | apply Kd.V_drew)); exact Kd.V_mono HO273.out (fun _ hk => ⟨⟨hk.1, hk.2.2⟩, hk.2.1⟩)) hg (.inl rfl)); have n5_ := Aside0.mk (Kd.V_afterv (v := (.slice (some ⟨go65, 0, none⟩) t261.length co98)) (v1 := (.slice (some ⟨go65, 0, none⟩) t261.length co98)) (ok := (fun k_ => some k_ ≠ (v255 : Value).ownBlock ∧ k_ ≠ gb246)) (by (with_reducible repeat (first | apply Kd.V_alloc | apply Kd.V_drewN | apply Kd.V_drew)); exact Kd.V_mono HO283.out (fun _ hk => ⟨⟨hk.1, hk.2.2⟩, hk.2.1⟩)) hg (.inl rfl)); have n6_ := Aside0.mk ((by rw [hw]; exact below_set (HB.out) GB65.out : Below w.heap.size w w106)); clear HO_0; clear HO_8; clear HO_12; clear BK246; clear HO273; clear HO283; clear HB; have HO_0 := n0_; have HO_8 := n1_; have HO_12 := n2_; have BK246 := n3_; have HO273 := n4_; have HO283 := n5_; have HB := n6_; clear n0_ n1_ n2_ n3_ n4_ n5_ n6_; clear hg hw hp_; obtain ⟨Ao107, co107, eo107⟩ := Kd.R_slice HO_8.out; subst eo107) | ((with_reducible refine gate_callee (f := 13) rfl ?_); refine goesL_ (some 98) rfl rfl Try.func13 (by kernel_rfl) rfl #[.slice Ao41 t248.length co41, .slice Ao107 y254.length co107] rfl (by (try simp only [List.map_toArray, List.map_cons, List.map_nil]); first | done | rfl | (simp only [List.length_drop, List.length_take]; rfl)) ?_; (with_reducible refine (thresherref15_Same.calls kj33 _ _ t248 _ _ y254 t286 _ ?side1 ?side2 ?side3 ?side4 A66.out).mono ?_); (case side1 => repeat (first | exact (Kd.V_reads' HO_0.out).2.2 | (with_reducible refine Kd.C_alloc ?_ _) | (with_reducible refine Kd.C_drewN ?_ _) | (with_reducible refine Kd.C_drew ?_))); (case side2 => exact (Kd.V_reads' HO_0.out).2.1); (case side3 => repeat (first | exact (Kd.R_reads' HO_8.out).2.2 | (with_reducible refine Kd.C_alloc ?_ _) | (with_reducible refine Kd.C_drewN ?_ _) | (with_reducible refine Kd.C_drew ?_))); (case side4 => exact (Kd.R_reads' HO_8.out).2.1); rintro e w108 ⟨rfl, hb⟩; refine ⟨_, rfl, ?_⟩; have n0_ := Aside0.mk (Kd.V_below (by (with_reducible repeat (first | apply Kd.V_alloc | apply Kd.V_drewN | apply Kd.V_drew)); exact HO_0.out) hb); have n1_ := Aside0.mk (Kd.R_below (by (with_reducible repeat (first | apply Kd.R_alloc | apply Kd.R_drewN | apply Kd.R_drew)); exact HO_8.out) hb); have n2_ := Aside0.mk (Kd.R_below (by (with_reducible repeat (first | apply Kd.R_alloc | apply Kd.R_drewN | apply Kd.R_drew)); exact HO_12.out) hb); have n3_ := Aside0.mk (Kd.V_below (by (with_reducible repeat (first | apply Kd.V_alloc | apply Kd.V_drewN | apply Kd.V_drew)); exact HO273.out) hb); have n4_ := Aside0.mk (Kd.V_below (by (with_reducible repeat (first | apply Kd.V_alloc | apply Kd.V_drewN | apply Kd.V_drew)); exact HO283.out) hb); have n5_ := Aside0.mk (blk_below (g := gb246) (o := .cells #[.int .u8 a1_0, .int .u8 a1_1] 34 (0, 0)) (by (with_reducible repeat (first | refine blk_drewN ?_ _ | refine blk_drew ?_ | refine blk_alloc ?_ _)); exact BK246.out) hb); have n6_ := Aside0.mk (below_step (by repeat (first | (with_reducible first | exact HB.out | apply below_alloc | apply pw_below_drewN | apply below_drew1 | refine below_set ?_ GE246.out) | exact HB.out)) hb); clear HO_0; clear HO_8; clear HO_12; clear HO273; clear HO283; clear BK246; clear HB; have HO_0 := n0_; have HO_8 := n1_; have HO_12 := n2_; have HO273 := n3_; have HO283 := n4_; have BK246 := n5_; have HB := n6_; clear n0_ n1_ n2_ n3_ n4_ n5_ n6_; (try clear hb); (try clear hb2); (try clear hk); (try clear hi)))
                                    go_ret
                                    exact ⟨by first | rfl | (simp [errW_none, errW_some] <;> rfl) | (simp only [← hji51, ← hji57, ← hji60]; first | rfl | (simp [errW_none, errW_some] <;> rfl)) | (simp [*, errW_none, errW_some] <;> rfl), by repeat (first | (with_reducible first | exact HB.out | apply below_alloc | apply pw_below_drewN | apply below_drew1 | refine below_set ?_ GE246.out) | exact HB.out)⟩
                                · replace c67 := Bool.eq_false_iff.mpr c67
                                  subst c67
                                  have H1 : (some false) = some r := by rw [if_neg (show ¬ (false = true) by decide)] at H; exact H
                                  clear H
                                  have H := H1
                                  clear H1
                                  obtain rfl := Option.some.inj H
                                  try go_wp2
                                  have n0_ := Aside0.mk (Kd.V_drew HO_0.out)
                                  have n1_ := Aside0.mk (Kd.R_drew HO_8.out)
                                  have n2_ := Aside0.mk (Kd.R_drew HO_12.out)
                                  have n3_ := Aside0.mk (blk_drew BK246.out)
                                  have n4_ := Aside0.mk (below_drew1 HB.out)
                                  clear HO_0
                                  clear HO_8
                                  clear HO_12
                                  clear BK246
                                  clear HB
                                  have HO_0 := n0_
                                  have HO_8 := n1_
                                  have HO_12 := n2_
                                  have BK246 := n3_
                                  have HB := n4_
                                  clear n0_ n1_ n2_ n3_ n4_
                                  obtain ⟨Ao111, co111, eo111⟩ := Kd.R_slice HO_12.out
                                  (first | subst eo111 | (injection eo111 with f1_ f2_ f3_; have f4_ := f1_.symm; have f5_ := f3_.symm; clear f1_ f2_ f3_; subst f4_; subst f5_))
                                  have q110 : ((ji51) : Int) ≤ ((t261.length : Int) : Int) := of_decide_eq_true (by first | (with_reducible assumption) | assumption)
                                  obtain ⟨i0110, hi0110, _, hsz110, _⟩ := info_parts info3
                                  have hroom110 : t261.length ≤ co111 := (Kd.R_reads' HO_12.out).2.1
                                  have hC110 : Kd.C (Kd.int .i64) _ Ao111 t261.length t261 := (Kd.R_reads' HO_12.out).2.2
                                  have hcut110 := cut_to (P := Try.prog) 22 3 .i64 Try.underlying22 hi0110 Ao111 t261.length co111 (ji51) (of_decide_eq_true (by first | (with_reducible assumption) | assumption)) q110 hroom110
                                  have hr110 := Kd.C_take (m := ((ji51) : Int).toNat) hC110 (by omega)
                                  have hy110 : y265.length = ((ji51) : Int).toNat := (by rw [Ny265.out, List.length_take]; omega)
                                  rw [← Ny265.out] at hr110
                                  rw [← hy110] at hcut110
                                  have HR268 := Aside0.mk hr110
                                  have HC268 := Aside0.mk (show y265.length ≤ co111 from by omega)
                                  clear hr110 hC110 hroom110 hi0110 hsz110
                                  have KY110 := Aside0.mk hy110
                                  clear hy110
                                  have KL110 := Aside0.mk (show ((ji51) : Int).toNat ≤ t261.length from by omega)
                                  replace q110 := eq_true q110
                                  have q112 : ((ji51) : Int) ≤ ((t248.length : Int) : Int) := of_decide_eq_true (by first | (with_reducible assumption) | assumption)
                                  obtain ⟨i0112, hi0112, _, hsz112, _⟩ := info_parts info3
                                  have hroom112 : t248.length ≤ co41 := (Kd.V_reads' HO_0.out).2.1
                                  have hC112 : Kd.F (Kd.int .i64) _ _ Ao41 t248.length t248 := (Kd.V_at (base := w.heap.size) HO_0.out).2.2
                                  have hcut112 := cut_to (P := Try.prog) 22 3 .i64 Try.underlying22 hi0112 Ao41 t248.length co41 (ji51) (of_decide_eq_true (by first | (with_reducible assumption) | assumption)) q112 hroom112
                                  have hr112 := Kd.F_take (m := ((ji51) : Int).toNat) hC112 (by omega)
                                  have hy112 : y269.length = ((ji51) : Int).toNat := (by rw [Ny269.out, List.length_take]; omega)
                                  rw [← Ny269.out] at hr112
                                  rw [← hy112] at hcut112
                                  have HO273 := Aside0.mk (show Kd.V (Kd.int .i64) 3 _ w.heap.size _ (.slice Ao41 y269.length co41) y269 from Kd.V_mk (by omega) hr112)
                                  have HC273 := Aside0.mk (show y269.length ≤ co41 from by omega)
                                  clear hr112 hC112 hroom112 hi0112 hsz112
                                  have KY112 := Aside0.mk hy112
                                  clear hy112
                                  replace q112 := eq_true q112
                                  refine start_ (n := 8) (S := fun w' => True) (ds := []) #[false, false, false, false, false, false, false, false] (by kernel_rfl) rfl rfl trivial (fun hHeld => ?_); refine with_tabW thresherlaw15_PickAfters.tab12 thresherlaw15_PickAfters.bits12 (fun HT_ HW_ => ?_)
                                  generalize wc.drew = w109 at HO_0 HO_8 HO_12 BK246 HB HO273 HR268 hHeld ⊢
                                  refine pure_ (i := 0) (N := some 76) (v := ?_) (a' := ?_) #[true, false, false, false, false, false, false, false] rfl rfl (any_of HT_.out (by kernel_rfl)) (fun _ _ _ h => h) (Or.inl ⟨by rfl, ?_⟩) ?_ ?_
                                  rotate_left
                                  · intro w'
                                    go_simp
                                    with_reducible rfl
                                  rotate_left
                                  · simp only [Act.put, List.setIfInBounds_toArray, List.set_cons_zero, List.set_cons_succ, i64_w, i32_w]
                                    rfl
                                  refine pure_ (i := 1) (N := some 77) (v := ?_) (a' := ?_) #[true, true, false, false, false, false, false, false] rfl rfl (any_of HT_.out (by kernel_rfl)) (fun _ _ _ h => h) (Or.inl ⟨by rfl, ?_⟩) ?_ ?_
                                  rotate_left
                                  · intro w'
                                    go_simp
                                    with_reducible rfl
                                  rotate_left
                                  · simp only [Act.put, List.setIfInBounds_toArray, List.set_cons_zero, List.set_cons_succ, i64_w, i32_w]
                                    rfl
                                  refine pure_ (i := 2) (N := some 78) (v := ?_) (a' := ?_) #[true, true, true, false, false, false, false, false] rfl rfl (any_of HT_.out (by kernel_rfl)) (fun _ _ _ h => h) (Or.inl ⟨by rfl, ?_⟩) ?_ ?_
                                  rotate_left
                                  · intro w'
                                    go_simp
                                    with_reducible rfl
                                  rotate_left
                                  · simp only [Act.put, List.setIfInBounds_toArray, List.set_cons_zero, List.set_cons_succ, i64_w, i32_w]
                                    rfl
                                  refine pure_ (i := 3) (N := some 79) (v := ?_) (a' := ?_) #[true, true, true, true, false, false, false, false] rfl rfl (any_of HT_.out (by kernel_rfl)) (fun _ _ _ h => h) (Or.inl ⟨by rfl, ?_⟩) ?_ ?_
                                  rotate_left
                                  · intro w'
                                    go_simp
                                    with_reducible rfl
                                  rotate_left
                                  · simp only [Act.put, List.setIfInBounds_toArray, List.set_cons_zero, List.set_cons_succ, i64_w, i32_w]
                                    rfl
                                  refine pure_ (i := 4) (N := some 80) (v := ?_) (a' := ?_) #[true, true, true, true, true, false, false, false] rfl rfl (any_of HT_.out (by kernel_rfl)) (fun _ _ _ h => h) (Or.inl ⟨by rfl, ?_⟩) ?_ ?_
                                  rotate_left
                                  · intro w'
                                    go_simp
                                    with_reducible rfl
                                  rotate_left
                                  · simp only [Act.put, List.setIfInBounds_toArray, List.set_cons_zero, List.set_cons_succ, i64_w, i32_w]
                                    rfl
                                  refine pure_ (i := 5) (N := some 81) (v := ?_) (a' := ?_) #[true, true, true, true, true, true, false, false] rfl rfl (any_of HT_.out (by kernel_rfl)) (fun _ _ _ h => h) (Or.inl ⟨by rfl, ?_⟩) ?_ ?_
                                  rotate_left
                                  · intro w'
                                    go_simp
                                    with_reducible rfl
                                  rotate_left
                                  · simp only [Act.put, List.setIfInBounds_toArray, List.set_cons_zero, List.set_cons_succ, i64_w, i32_w]
                                    rfl
                                  refine one_ (i := 6) (N := some 82) #[true, true, true, true, true, true, true, false] rfl rfl (one_of HT_.out (by kernel_rfl)) (by decide) (fun K hK => ?_)
                                  refine goes_ Try.func13 (by kernel_rfl) rfl #[.slice Ao111 y265.length co111, .slice Ao41 y269.length co41] (by rfl) rfl rfl (by (try simp only [List.map_toArray, List.map_cons, List.map_nil]); first | done | rfl | (simp only [List.length_drop, List.length_take]; rfl)) ?_
                                  with_reducible refine (thresherref15_Same.calls kj33 _ _ y265 _ _ y269 t274 _ ?side1 ?side2 ?side3 ?side4 A56.out).mono ?_
                                  (case side1 => repeat (first | exact (by repeat (first | (with_reducible exact HR268.out) | (with_reducible refine Kd.C_alloc ?_ _) | (with_reducible refine Kd.C_drewN ?_ _) | (with_reducible refine Kd.C_drew ?_) | exact HR268.out)) | (with_reducible refine Kd.C_alloc ?_ _) | (with_reducible refine Kd.C_drewN ?_ _) | (with_reducible refine Kd.C_drew ?_)))
                                  (case side2 => exact HC268.out)
                                  (case side3 => repeat (first | exact (Kd.V_reads' HO273.out).2.2 | (with_reducible refine Kd.C_alloc ?_ _) | (with_reducible refine Kd.C_drewN ?_ _) | (with_reducible refine Kd.C_drew ?_)))
                                  (case side4 => exact (Kd.V_reads' HO273.out).2.1)
                                  rintro e w113 ⟨rfl, hb⟩
                                  refine ⟨_, rfl, ?_⟩
                                  have n0_ := Aside0.mk (Kd.V_below (by (with_reducible repeat (first | apply Kd.V_alloc | apply Kd.V_drewN | apply Kd.V_drew)); exact HO_0.out) hb)
                                  have n1_ := Aside0.mk (Kd.R_below (by (with_reducible repeat (first | apply Kd.R_alloc | apply Kd.R_drewN | apply Kd.R_drew)); exact HO_8.out) hb)
                                  have n2_ := Aside0.mk (Kd.R_below (by (with_reducible repeat (first | apply Kd.R_alloc | apply Kd.R_drewN | apply Kd.R_drew)); exact HO_12.out) hb)
                                  have n3_ := Aside0.mk (Kd.V_below (by (with_reducible repeat (first | apply Kd.V_alloc | apply Kd.V_drewN | apply Kd.V_drew)); exact HO273.out) hb)
                                  have n4_ := Aside0.mk (blk_below (g := gb246) (o := .cells #[.int .u8 a1_0, .int .u8 a1_1] 34 (0, 0)) (by (with_reducible repeat (first | refine blk_drewN ?_ _ | refine blk_drew ?_ | refine blk_alloc ?_ _)); exact BK246.out) hb)
                                  have n5_ := Aside0.mk (Kd.C_below (by repeat (first | (with_reducible exact HR268.out) | (with_reducible refine Kd.C_alloc ?_ _) | (with_reducible refine Kd.C_drewN ?_ _) | (with_reducible refine Kd.C_drew ?_) | exact HR268.out)) hb)
                                  have n6_ := Aside0.mk (below_step (by repeat (first | (with_reducible first | exact HB.out | apply below_alloc | apply pw_below_drewN | apply below_drew1 | refine below_set ?_ GE246.out) | exact HB.out)) hb)
                                  clear HO_0
                                  clear HO_8
                                  clear HO_12
                                  clear HO273
                                  clear BK246
                                  clear HR268
                                  clear HB
                                  have HO_0 := n0_
                                  have HO_8 := n1_
                                  have HO_12 := n2_
                                  have HO273 := n3_
                                  have BK246 := n4_
                                  have HR268 := n5_
                                  have HB := n6_
                                  clear n0_ n1_ n2_ n3_ n4_ n5_ n6_
                                  (try clear hb)
                                  (try clear hb2)
                                  (try clear hk)
                                  (try clear hi)
                                  refine hK.out _ _ trivial (fun hHeld => ?_)
                                  clear hK K
                                  refine norm_ (a' := ?_) ?_ ?_
                                  rotate_left
                                  · show Act.put _ (some 82) _ = _
                                    simp only [Act.put, List.setIfInBounds_toArray, List.set_cons_zero, List.set_cons_succ, i64_w, i32_w]
                                    rfl
                                  refine pure_ (i := 7) (N := some 13) (v := ?_) (a' := ?_) #[true, true, true, true, true, true, true, true] rfl rfl (any_of HT_.out (by kernel_rfl)) (fun _ _ _ h => h) (Or.inl ⟨by rfl, ?_⟩) ?_ ?_
                                  rotate_left
                                  · intro w'
                                    go_simp
                                    with_reducible rfl
                                  rotate_left
                                  · simp only [Act.put, List.setIfInBounds_toArray, List.set_cons_zero, List.set_cons_succ, i64_w, i32_w]
                                    rfl
                                  refine done_ (done_of HT_.out (by kernel_rfl)) ?_
                                  try go_wp2
                                  have n0_ := Aside0.mk (Kd.V_drew HO_0.out)
                                  have n1_ := Aside0.mk (Kd.R_drew HO_8.out)
                                  have n2_ := Aside0.mk (Kd.R_drew HO_12.out)
                                  have n3_ := Aside0.mk (Kd.V_drew HO273.out)
                                  have n4_ := Aside0.mk (blk_drew BK246.out)
                                  have n5_ := Aside0.mk (Kd.C_drew HR268.out)
                                  have n6_ := Aside0.mk (below_drew1 HB.out)
                                  clear HO_0
                                  clear HO_8
                                  clear HO_12
                                  clear HO273
                                  clear BK246
                                  clear HR268
                                  clear HB
                                  have HO_0 := n0_
                                  have HO_8 := n1_
                                  have HO_12 := n2_
                                  have HO273 := n3_
                                  have BK246 := n4_
                                  have HR268 := n5_
                                  have HB := n6_
                                  clear n0_ n1_ n2_ n3_ n4_ n5_ n6_
                                  have q115 : ((ji57) : Int) ≤ ((t261.length : Int) : Int) := of_decide_eq_true (by first | (with_reducible assumption) | assumption)
                                  obtain ⟨i0115, hi0115, _, hsz115, _⟩ := info_parts info3
                                  have hroom115 : t261.length ≤ co111 := (Kd.R_reads' HO_12.out).2.1
                                  have hC115 : Kd.C (Kd.int .i64) _ Ao111 t261.length t261 := (Kd.R_reads' HO_12.out).2.2
                                  have q0115 : (0 : Int) ≤ ((ji57) : Int) := of_decide_eq_true (by first | (with_reducible assumption) | assumption)
                                  have hcut115 := cut_from (P := Try.prog) 22 3 .i64 Try.underlying22 hi0115 1 hsz115 Ao111 t261.length co111 (ji57) q0115 q115
                                  have hr115 := Kd.C_drop (m := ((ji57) : Int).toNat) (c := co111) hC115 (by omega) hroom115
                                  obtain ⟨A115, hA115⟩ : ∃ A1, A1 = (if co111 = ((ji57) : Int).toNat then Ao111 else (Ao111 : Option Addr).map (·.add (((ji57) : Int).toNat * 1))) := ⟨_, rfl⟩
                                  obtain ⟨c115, hc115⟩ : ∃ c1, c1 = co111 - ((ji57) : Int).toNat := ⟨_, rfl⟩
                                  have hy115 : y275.length = t261.length - ((ji57) : Int).toNat := (by rw [Ny275.out, List.length_drop] <;> omega)
                                  rw [show (t261).drop ((ji57) : Int).toNat = y275 from Ny275.out.symm] at hr115
                                  replace hr115 : Kd.C (Kd.int .i64) _ A115 y275.length y275 := (by rw [hA115]; exact hr115)
                                  rw [← hy115, ← hA115, ← hc115] at hcut115
                                  have HR278 := Aside0.mk hr115
                                  have HC278 := Aside0.mk (show y275.length ≤ c115 from by rw [hy115, hc115]; exact Nat.sub_le_sub_right hroom115 _)
                                  clear hr115 hC115 hroom115 hi0115 hsz115 hc115
                                  have KY115 := Aside0.mk hy115
                                  have KA115 := Aside0.mk hA115
                                  clear hy115 hA115
                                  have KL115 := Aside0.mk (show ((ji57) : Int).toNat ≤ t261.length from by omega)
                                  replace q115 := eq_true q115
                                  have q116 : ((ji60) : Int) ≤ ((t248.length : Int) : Int) := of_decide_eq_true (by first | (with_reducible assumption) | assumption)
                                  obtain ⟨i0116, hi0116, _, hsz116, _⟩ := info_parts info3
                                  have hroom116 : t248.length ≤ co41 := (Kd.V_reads' HO_0.out).2.1
                                  have hC116 : Kd.F (Kd.int .i64) _ _ Ao41 t248.length t248 := (Kd.V_at (base := w.heap.size) HO_0.out).2.2
                                  have q0116 : (0 : Int) ≤ ((ji60) : Int) := of_decide_eq_true (by first | (with_reducible assumption) | assumption)
                                  have hcut116 := cut_from (P := Try.prog) 22 3 .i64 Try.underlying22 hi0116 1 hsz116 Ao41 t248.length co41 (ji60) q0116 q116
                                  have hr116 := Kd.F_cut (m := ((ji60) : Int).toNat) (c := co41) hC116 (by omega) hroom116
                                  obtain ⟨A116, hA116⟩ : ∃ A1, A1 = (if co41 = ((ji60) : Int).toNat then Ao41 else (Ao41 : Option Addr).map (·.add (((ji60) : Int).toNat * 1))) := ⟨_, rfl⟩
                                  obtain ⟨c116, hc116⟩ : ∃ c1, c1 = co41 - ((ji60) : Int).toNat := ⟨_, rfl⟩
                                  have hy116 : y279.length = t248.length - ((ji60) : Int).toNat := (by rw [Ny279.out, List.length_drop] <;> omega)
                                  rw [show (t248).drop ((ji60) : Int).toNat = y279 from Ny279.out.symm] at hr116
                                  replace hr116 : Kd.F (Kd.int .i64) _ _ A116 y279.length y279 := (by rw [hA116]; exact hr116)
                                  rw [← hy116, ← hA116, ← hc116] at hcut116
                                  have HO283 := Aside0.mk (show Kd.V (Kd.int .i64) 3 _ w.heap.size _ (.slice A116 y279.length c116) y279 from Kd.V_mk (by rw [hy116, hc116]; exact Nat.sub_le_sub_right hroom116 _) hr116)
                                  have HC283 := Aside0.mk (show y279.length ≤ c116 from by rw [hy116, hc116]; exact Nat.sub_le_sub_right hroom116 _)
                                  clear hr116 hC116 hroom116 hi0116 hsz116 hc116
                                  have KY116 := Aside0.mk hy116
                                  have KA116 := Aside0.mk hA116
                                  clear hy116 hA116
                                  replace q116 := eq_true q116
                                  refine start_ (n := 9) (S := fun w' => True) (ds := []) #[false, false, false, false, false, false, false, false, false] (by kernel_rfl) rfl rfl trivial (fun hHeld => ?_); refine with_tabW thresherlaw15_PickAfters.tab13 thresherlaw15_PickAfters.bits13 (fun HT_ HW_ => ?_)
                                  generalize w113.drew = w114 at HO_0 HO_8 HO_12 HO273 BK246 HR268 HB HO283 HR278 hHeld ⊢
                                  refine pure_ (i := 0) (N := some 83) (v := ?_) (a' := ?_) #[true, false, false, false, false, false, false, false, false] rfl rfl (any_of HT_.out (by kernel_rfl)) (fun _ _ _ h => h) (Or.inl ⟨by rfl, ?_⟩) ?_ ?_
                                  rotate_left
                                  · intro w'
                                    go_simp
                                    with_reducible rfl
                                  rotate_left
                                  · simp only [Act.put, List.setIfInBounds_toArray, List.set_cons_zero, List.set_cons_succ, i64_w, i32_w]
                                    rfl
                                  refine pure_ (i := 1) (N := some 84) (v := ?_) (a' := ?_) #[true, true, false, false, false, false, false, false, false] rfl rfl (any_of HT_.out (by kernel_rfl)) (fun _ _ _ h => h) (Or.inl ⟨by rfl, ?_⟩) ?_ ?_
                                  rotate_left
                                  · intro w'
                                    go_simp
                                    with_reducible rfl
                                  rotate_left
                                  · simp only [Act.put, List.setIfInBounds_toArray, List.set_cons_zero, List.set_cons_succ, i64_w, i32_w]
                                    rfl
                                  refine pure_ (i := 2) (N := some 85) (v := ?_) (a' := ?_) #[true, true, true, false, false, false, false, false, false] rfl rfl (any_of HT_.out (by kernel_rfl)) (fun _ _ _ h => h) (Or.inl ⟨by rfl, ?_⟩) ?_ ?_
                                  rotate_left
                                  · intro w'
                                    go_simp
                                    with_reducible rfl
                                  rotate_left
                                  · simp only [Act.put, List.setIfInBounds_toArray, List.set_cons_zero, List.set_cons_succ, i64_w, i32_w]
                                    rfl
                                  refine pure_ (i := 3) (N := some 86) (v := ?_) (a' := ?_) #[true, true, true, true, false, false, false, false, false] rfl rfl (any_of HT_.out (by kernel_rfl)) (fun _ _ _ h => h) (Or.inl ⟨by rfl, ?_⟩) ?_ ?_
                                  rotate_left
                                  · intro w'
                                    go_simp
                                    with_reducible rfl
                                  rotate_left
                                  · simp only [Act.put, List.setIfInBounds_toArray, List.set_cons_zero, List.set_cons_succ, i64_w, i32_w]
                                    rfl
                                  refine pure_ (i := 4) (N := some 87) (v := ?_) (a' := ?_) #[true, true, true, true, true, false, false, false, false] rfl rfl (any_of HT_.out (by kernel_rfl)) (fun _ _ _ h => h) (Or.inl ⟨by rfl, ?_⟩) ?_ ?_
                                  rotate_left
                                  · intro w'
                                    go_simp
                                    with_reducible rfl
                                  rotate_left
                                  · simp only [Act.put, List.setIfInBounds_toArray, List.set_cons_zero, List.set_cons_succ, i64_w, i32_w]
                                    rfl
                                  refine pure_ (i := 5) (N := some 88) (v := ?_) (a' := ?_) #[true, true, true, true, true, true, false, false, false] rfl rfl (any_of HT_.out (by kernel_rfl)) (fun _ _ _ h => h) (Or.inl ⟨by rfl, ?_⟩) ?_ ?_
                                  rotate_left
                                  · intro w'
                                    go_simp
                                    with_reducible rfl
                                  rotate_left
                                  · simp only [Act.put, List.setIfInBounds_toArray, List.set_cons_zero, List.set_cons_succ, i64_w, i32_w]
                                    rfl
                                  refine pure_ (i := 6) (N := some 89) (v := ?_) (a' := ?_) #[true, true, true, true, true, true, true, false, false] rfl rfl (any_of HT_.out (by kernel_rfl)) (fun _ _ _ h => h) (Or.inl ⟨by rfl, ?_⟩) ?_ ?_
                                  rotate_left
                                  · intro w'
                                    go_simp
                                    with_reducible rfl
                                  rotate_left
                                  · simp only [Act.put, List.setIfInBounds_toArray, List.set_cons_zero, List.set_cons_succ, i64_w, i32_w]
                                    rfl
                                  refine one_ (i := 7) (N := some 90) #[true, true, true, true, true, true, true, true, false] rfl rfl (one_of HT_.out (by kernel_rfl)) (by decide) (fun K hK => ?_)
                                  refine goes_ Try.func13 (by kernel_rfl) rfl #[.slice A115 y275.length c115, .slice A116 y279.length c116] (by rfl) rfl rfl (by (try simp only [List.map_toArray, List.map_cons, List.map_nil]); first | done | rfl | (simp only [List.length_drop, List.length_take]; rfl)) ?_
                                  with_reducible refine (thresherref15_Same.calls kj33 _ _ y275 _ _ y279 t284 _ ?side1 ?side2 ?side3 ?side4 A63.out).mono ?_
                                  (case side1 => repeat (first | exact (by repeat (first | (with_reducible exact HR278.out) | (with_reducible refine Kd.C_alloc ?_ _) | (with_reducible refine Kd.C_drewN ?_ _) | (with_reducible refine Kd.C_drew ?_) | exact HR278.out)) | (with_reducible refine Kd.C_alloc ?_ _) | (with_reducible refine Kd.C_drewN ?_ _) | (with_reducible refine Kd.C_drew ?_)))
                                  (case side2 => exact HC278.out)
                                  (case side3 => repeat (first | exact (Kd.V_reads' HO283.out).2.2 | (with_reducible refine Kd.C_alloc ?_ _) | (with_reducible refine Kd.C_drewN ?_ _) | (with_reducible refine Kd.C_drew ?_)))
                                  (case side4 => exact (Kd.V_reads' HO283.out).2.1)
                                  rintro e w117 ⟨rfl, hb⟩
                                  refine ⟨_, rfl, ?_⟩
                                  have n0_ := Aside0.mk (Kd.V_below (by (with_reducible repeat (first | apply Kd.V_alloc | apply Kd.V_drewN | apply Kd.V_drew)); exact HO_0.out) hb)
                                  have n1_ := Aside0.mk (Kd.R_below (by (with_reducible repeat (first | apply Kd.R_alloc | apply Kd.R_drewN | apply Kd.R_drew)); exact HO_8.out) hb)
                                  have n2_ := Aside0.mk (Kd.R_below (by (with_reducible repeat (first | apply Kd.R_alloc | apply Kd.R_drewN | apply Kd.R_drew)); exact HO_12.out) hb)
                                  have n3_ := Aside0.mk (Kd.V_below (by (with_reducible repeat (first | apply Kd.V_alloc | apply Kd.V_drewN | apply Kd.V_drew)); exact HO273.out) hb)
                                  have n4_ := Aside0.mk (Kd.V_below (by (with_reducible repeat (first | apply Kd.V_alloc | apply Kd.V_drewN | apply Kd.V_drew)); exact HO283.out) hb)
                                  have n5_ := Aside0.mk (blk_below (g := gb246) (o := .cells #[.int .u8 a1_0, .int .u8 a1_1] 34 (0, 0)) (by (with_reducible repeat (first | refine blk_drewN ?_ _ | refine blk_drew ?_ | refine blk_alloc ?_ _)); exact BK246.out) hb)
                                  have n6_ := Aside0.mk (Kd.C_below (by repeat (first | (with_reducible exact HR268.out) | (with_reducible refine Kd.C_alloc ?_ _) | (with_reducible refine Kd.C_drewN ?_ _) | (with_reducible refine Kd.C_drew ?_) | exact HR268.out)) hb)
                                  have n7_ := Aside0.mk (Kd.C_below (by repeat (first | (with_reducible exact HR278.out) | (with_reducible refine Kd.C_alloc ?_ _) | (with_reducible refine Kd.C_drewN ?_ _) | (with_reducible refine Kd.C_drew ?_) | exact HR278.out)) hb)
                                  have n8_ := Aside0.mk (below_step (by repeat (first | (with_reducible first | exact HB.out | apply below_alloc | apply pw_below_drewN | apply below_drew1 | refine below_set ?_ GE246.out) | exact HB.out)) hb)
                                  clear HO_0
                                  clear HO_8
                                  clear HO_12
                                  clear HO273
                                  clear HO283
                                  clear BK246
                                  clear HR268
                                  clear HR278
                                  clear HB
                                  have HO_0 := n0_
                                  have HO_8 := n1_
                                  have HO_12 := n2_
                                  have HO273 := n3_
                                  have HO283 := n4_
                                  have BK246 := n5_
                                  have HR268 := n6_
                                  have HR278 := n7_
                                  have HB := n8_
                                  clear n0_ n1_ n2_ n3_ n4_ n5_ n6_ n7_ n8_
                                  (try clear hb)
                                  (try clear hb2)
                                  (try clear hk)
                                  (try clear hi)
                                  refine hK.out _ _ trivial (fun hHeld => ?_)
                                  clear hK K
                                  refine norm_ (a' := ?_) ?_ ?_
                                  rotate_left
                                  · show Act.put _ (some 90) _ = _
                                    simp only [Act.put, List.setIfInBounds_toArray, List.set_cons_zero, List.set_cons_succ, i64_w, i32_w]
                                    rfl
                                  refine pure_ (i := 8) (N := some 14) (v := ?_) (a' := ?_) #[true, true, true, true, true, true, true, true, true] rfl rfl (any_of HT_.out (by kernel_rfl)) (fun _ _ _ h => h) (Or.inl ⟨by rfl, ?_⟩) ?_ ?_
                                  rotate_left
                                  · intro w'
                                    go_simp
                                    with_reducible rfl
                                  rotate_left
                                  · simp only [Act.put, List.setIfInBounds_toArray, List.set_cons_zero, List.set_cons_succ, i64_w, i32_w]
                                    rfl
                                  refine done_ (done_of HT_.out (by kernel_rfl)) ?_
                                  have p65 : 0 ≤ ((ji51) : Int) := of_decide_eq_true (by first | (with_reducible assumption) | assumption)
                                  have q65 : ((ji51) : Int) < ((t261.length : Int) : Int) := of_decide_eq_true (by first | (with_reducible assumption) | assumption)
                                  obtain ⟨go65, co65, eo65, gb65, gl65, cl65, HG65⟩ := Kd.R_form HO_12.out (by omega)
                                  (first | cases eo65 | (injection eo65 with ea_ en_ ec_; (first | subst ea_ | (injection ea_ with ea_; subst ea_)); subst ec_; clear en_))
                                  have GB65 := Aside0.mk gb65
                                  have GG65 := Aside0.mk HG65
                                  clear gb65 gl65 HG65
                                  obtain ⟨hx65_0, hf65_0⟩ := Kd.R_celln 0 HO_12.out ((ji51) : Int) p65 q65
                                  replace p65 := eq_true p65
                                  replace q65 := eq_true q65
                                  obtain ⟨hy118_, hz118_⟩ := Kd.R_celln 0 HO_12.out ((ji51) : Int) (of_decide_eq_true (by first | (with_reducible assumption) | assumption)) (of_decide_eq_true (by first | (with_reducible assumption) | assumption))
                                  have HP118 := Kd.R_putg HO_12.out ((ji51) : Int) (wrap64 (a2 + 1))
                                  try go_wp2_with (first | ((with_reducible refine gate_store (t := 3) (p := 95) rfl ?_); refine store_event (t := 3) (p := 95) (v := ?vo_w119) (w1 := (w117.setCell ⟨go65, ((ji51) : Int).toNat, none⟩ (.int .i64 (wrap64 (a2 + 1))))) ?hg ?ho ?hn ?hr ?_; (case ho => rfl); (case hg => rfl); (case hn => rfl); (case hr => first | (go_simp; done) | (go_simp; rfl)); intro w119 hw; have hg : w117.grownBy w119 (some go65) := (by rw [hw]; exact HP118.2); have hp_ : Kd.R (Kd.int .i64) 3 w119 w.heap.size (fun k_ => some k_ ≠ (v255 : Value).ownBlock) (.slice (some ⟨go65, 0, none⟩) t261.length co111) y285 := (by rw [hw, Ny285.out]; exact HP118.1); clear HP118; have n0_ := Aside0.mk (Kd.V_afterv (v := (.slice (some ⟨go65, 0, none⟩) t261.length co111)) (v1 := (.slice (some ⟨go65, 0, none⟩) t261.length co111)) (ok := (fun k_ => some k_ ≠ (v255 : Value).ownBlock ∧ k_ ≠ gb246)) (by (with_reducible repeat (first | apply Kd.V_alloc | apply Kd.V_drewN | apply Kd.V_drew)); exact Kd.V_mono HO_0.out (fun _ hk => ⟨⟨hk.1, hk.2.2⟩, hk.2.1⟩)) hg (.inl rfl)); have n1_ := Aside0.mk (Kd.R_after (v := (.slice (some ⟨go65, 0, none⟩) t261.length co111)) (v1 := (.slice (some ⟨go65, 0, none⟩) t261.length co111)) (ok := (fun _ => True)) (by (with_reducible repeat (first | apply Kd.R_alloc | apply Kd.R_drewN | apply Kd.R_drew)); exact Kd.R_mono HO_8.out (fun _ hk => ⟨trivial, hk⟩)) hg (.inl rfl)); have n2_ := Aside0.mk (hp_); have n3_ := Aside0.mk (blk_grown (g := gb246) (o := .cells #[.int .u8 a1_0, .int .u8 a1_1] 34 (0, 0)) (by (with_reducible repeat (first | refine blk_drewN ?_ _ | refine blk_drew ?_ | refine blk_alloc ?_ _)); exact BK246.out) hg (Kd.R_ne HO_12.out BK246.out (by decide))); have n4_ := Aside0.mk (Kd.V_afterv (v := (.slice (some ⟨go65, 0, none⟩) t261.length co111)) (v1 := (.slice (some ⟨go65, 0, none⟩) t261.length co111)) (ok := (fun k_ => some k_ ≠ (v255 : Value).ownBlock ∧ k_ ≠ gb246)) (by (with_reducible repeat (first | apply Kd.V_alloc | apply Kd.V_drewN | apply Kd.V_drew)); exact Kd.V_mono HO273.out (fun _ hk => ⟨⟨hk.1, hk.2.2⟩, hk.2.1⟩)) hg (.inl rfl)); have n5_ := Aside0.mk (Kd.V_afterv (v := (.slice (some ⟨go65, 0, none⟩) t261.length co111)) (v1 := (.slice (some ⟨go65, 0, none⟩) t261.length co111)) (ok := (fun k_ => some k_ ≠ (v255 : Value).ownBlock ∧ k_ ≠ gb246)) (by (with_reducible repeat (first | apply Kd.V_alloc | apply Kd.V_drewN | apply Kd.V_drew)); exact Kd.V_mono HO283.out (fun _ hk => ⟨⟨hk.1, hk.2.2⟩, hk.2.1⟩)) hg (.inl rfl)); have n6_ := Aside0.mk ((by rw [hw]; exact below_set (HB.out) GB65.out : Below w.heap.size w w119)); clear HO_0; clear HO_8; clear HO_12; clear BK246; clear HO273; clear HO283; clear HB; have HO_0 := n0_; have HO_8 := n1_; have HO_12 := n2_; have BK246 := n3_; have HO273 := n4_; have HO283 := n5_; have HB := n6_; clear n0_ n1_ n2_ n3_ n4_ n5_ n6_; clear hg hw hp_; obtain ⟨Ao120, co120, eo120⟩ := Kd.R_slice HO_8.out; subst eo120) | ((with_reducible refine gate_callee (f := 13) rfl ?_); refine goesL_ (some 98) rfl rfl Try.func13 (by kernel_rfl) rfl #[.slice Ao41 t248.length co41, .slice Ao120 y254.length co120] rfl (by (try simp only [List.map_toArray, List.map_cons, List.map_nil]); first | done | rfl | (simp only [List.length_drop, List.length_take]; rfl)) ?_; (with_reducible refine (thresherref15_Same.calls kj33 _ _ t248 _ _ y254 t286 _ ?side1 ?side2 ?side3 ?side4 A66.out).mono ?_); (case side1 => repeat (first | exact (Kd.V_reads' HO_0.out).2.2 | (with_reducible refine Kd.C_alloc ?_ _) | (with_reducible refine Kd.C_drewN ?_ _) | (with_reducible refine Kd.C_drew ?_))); (case side2 => exact (Kd.V_reads' HO_0.out).2.1); (case side3 => repeat (first | exact (Kd.R_reads' HO_8.out).2.2 | (with_reducible refine Kd.C_alloc ?_ _) | (with_reducible refine Kd.C_drewN ?_ _) | (with_reducible refine Kd.C_drew ?_))); (case side4 => exact (Kd.R_reads' HO_8.out).2.1); rintro e w121 ⟨rfl, hb⟩; refine ⟨_, rfl, ?_⟩; have n0_ := Aside0.mk (Kd.V_below (by (with_reducible repeat (first | apply Kd.V_alloc | apply Kd.V_drewN | apply Kd.V_drew)); exact HO_0.out) hb); have n1_ := Aside0.mk (Kd.R_below (by (with_reducible repeat (first | apply Kd.R_alloc | apply Kd.R_drewN | apply Kd.R_drew)); exact HO_8.out) hb); have n2_ := Aside0.mk (Kd.R_below (by (with_reducible repeat (first | apply Kd.R_alloc | apply Kd.R_drewN | apply Kd.R_drew)); exact HO_12.out) hb); have n3_ := Aside0.mk (Kd.V_below (by (with_reducible repeat (first | apply Kd.V_alloc | apply Kd.V_drewN | apply Kd.V_drew)); exact HO273.out) hb); have n4_ := Aside0.mk (Kd.V_below (by (with_reducible repeat (first | apply Kd.V_alloc | apply Kd.V_drewN | apply Kd.V_drew)); exact HO283.out) hb); have n5_ := Aside0.mk (blk_below (g := gb246) (o := .cells #[.int .u8 a1_0, .int .u8 a1_1] 34 (0, 0)) (by (with_reducible repeat (first | refine blk_drewN ?_ _ | refine blk_drew ?_ | refine blk_alloc ?_ _)); exact BK246.out) hb); have n6_ := Aside0.mk (below_step (by repeat (first | (with_reducible first | exact HB.out | apply below_alloc | apply pw_below_drewN | apply below_drew1 | refine below_set ?_ GE246.out) | exact HB.out)) hb); clear HO_0; clear HO_8; clear HO_12; clear HO273; clear HO283; clear BK246; clear HB; have HO_0 := n0_; have HO_8 := n1_; have HO_12 := n2_; have HO273 := n3_; have HO283 := n4_; have BK246 := n5_; have HB := n6_; clear n0_ n1_ n2_ n3_ n4_ n5_ n6_; (try clear hb); (try clear hb2); (try clear hk); (try clear hi)))
                                  go_ret
                                  exact ⟨by first | rfl | (simp [errW_none, errW_some] <;> rfl) | (simp only [← hji51, ← hji57, ← hji60]; first | rfl | (simp [errW_none, errW_some] <;> rfl)) | (simp [*, errW_none, errW_some] <;> rfl), by repeat (first | (with_reducible first | exact HB.out | apply below_alloc | apply pw_below_drewN | apply below_drew1 | refine below_set ?_ GE246.out) | exact HB.out)⟩
                              · rw [if_neg c64] at H
                                exact absurd H (by simp)
                            · rw [if_neg c62] at H
                              exact absurd H (by simp)
                          · rw [if_neg c61] at H
                            exact absurd H (by simp)
                        · rw [if_neg c59] at H
                          exact absurd H (by simp)
                      · rw [if_neg c58] at H
                        exact absurd H (by simp)
                    · rw [if_neg c55] at H
                      exact absurd H (by simp)
                  · rw [if_neg c53] at H
                    exact absurd H (by simp)
                · rw [if_neg c52] at H
                  exact absurd H (by simp)
  · rw [if_neg c6] at H
    exact absurd H (by simp)

end Go.Proofs.Ytcpdmbeilfpiiaa.P
