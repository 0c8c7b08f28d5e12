-- Written by wip/tools/myprint.py over the kit's print (a program's print; Lean checks it).
import Derived.Test.YtbkpifcjgedjaaaPx0
import Derived.Test.YtbkpifcjgedjaaaPx4
import Derived.Test.YtbkpifcjgedjaaaPx11
import Derived.Test.YtbkpifcjgedjaaaPx14
namespace Go.Proofs.Ytbkpifcjgedjaaa.P
open Go.RowKit Go.Proofs.YtbkpifcjgedjaaaW.PrintWords Go.Proofs.YtbkpifcjgedjaaaW.PrintLast Go.Proofs.YtbkpifcjgedjaaaW.PrintMore
attribute [local go_sem] max2_int min2_int max_two min_two max_three min_three max_four min_four   -- for this text's walks alone
set_option linter.unusedVariables false
set_option linter.unusedSimpArgs false

/-! ### thresherlaw19_FilterBegins: function 7 -/
mutual
def thresherlaw19_FilterBegins.j1 : Nat → ByteArray → Bool → List (List (S37)) → List Int → Int → Int → Int → Option (Bool)
  | 0, _, _, _, _, _, _, _ => none
  | k + 1, x1, x5, x7, x379000, x379001, x379002, x379003 => (filter_Keep.f k x379000 x379001 x379002 x379003 (([(⟨0, 7, (⟨0, x1⟩ : S37)⟩ : S39)] : List (S39))) x7).bind fun t394 => (thresherlaw19_FilterBegins.l1 k x1 x5 x7 t394 0 0 x379000 x379001 x379002 x379003 0 7 0 x1)
def thresherlaw19_FilterBegins.l1 : Nat → ByteArray → Bool → List (List (S37)) → List (List (S37)) → Int → Int → List Int → Int → Int → Int → Int → Int → Int → ByteArray → Option (Bool)
  | 0, _, _, _, _, _, _, _, _, _, _, _, _, _, _ => none
  | k + 1, x1, x5, x7, x10, x11, x12, x379000, x379001, x379002, x379003, x391000, x391001, x391002, x391003 => if x12 < (x7.length : Int) then (if 0 ≤ x12 then (if 0 < ((rd_L4 x7 x12).length : Int) then (if (((rd_T37 (rd_L4 x7 x12) 0).f1).size : Int) ≥ (x1.size : Int) then (if 0 ≤ (x1.size : Int) then (if (x1.size : Int) ≤ (((rd_T37 (rd_L4 x7 x12) 0).f1).size : Int) then (thresherlaw19_FilterBegins.j3 k x1 x5 x7 x10 x11 x12 ((rd_T37 (rd_L4 x7 x12) 0).f1) ((((rd_T37 (rd_L4 x7 x12) 0).f1).extract 0 ((x1.size : Int) : Int).toNat).toList == x1.toList) x379000 x379001 x379002 x379003 x391000 x391001 x391002 x391003) else (none)) else (none)) else (thresherlaw19_FilterBegins.j3 k x1 x5 x7 x10 x11 x12 ((rd_T37 (rd_L4 x7 x12) 0).f1) false x379000 x379001 x379002 x379003 x391000 x391001 x391002 x391003)) else (none)) else (none)) else ((filter_Keep.f k x379000 x379001 x379002 x379003 (([(⟨0, 7, (⟨0, (⟨#[]⟩ : ByteArray)⟩ : S37)⟩ : S39)] : List (S39))) x7).bind fun t405 => ((filter_Keep.f k x379000 x379001 x379002 x379003 (([(⟨x391000, x391001, (⟨x391002, x391003⟩ : S37)⟩ : S39), (⟨0, 6, (⟨0, x1⟩ : S37)⟩ : S39)] : List (S39))) x7).bind fun t411 => (if x5 = true then (if x11 = (x10.length : Int) then (if (t405.length : Int) = (x7.length : Int) then (if (t411.length : Int) = x11 then ((filter_May.f k x379000 x379001 x379002 x379003 (([(⟨x391000, x391001, (⟨x391002, x391003⟩ : S37)⟩ : S39)] : List (S39)))).bind fun t417 => (some t417)) else (some false)) else (some false)) else (some false)) else (some false))))
def thresherlaw19_FilterBegins.j3 : Nat → ByteArray → Bool → List (List (S37)) → List (List (S37)) → Int → Int → ByteArray → Bool → List Int → Int → Int → Int → Int → Int → Int → ByteArray → Option (Bool)
  | 0, _, _, _, _, _, _, _, _, _, _, _, _, _, _, _, _ => none
  | k + 1, x1, x5, x7, x10, x11, x12, x13, x84, x379000, x379001, x379002, x379003, x391000, x391001, x391002, x391003 => if x84 = true then (if x11 ≥ (x10.length : Int) then (thresherlaw19_FilterBegins.j4 k x1 x5 x7 x10 x11 x12 true x379000 x379001 x379002 x379003 x391000 x391001 x391002 x391003) else (if 0 ≤ x11 then (if x11 < (x10.length : Int) then (if ((rd_L4 x10 x11).length : Int) = 1 then (if 0 < ((rd_L4 x10 x11).length : Int) then (thresherlaw19_FilterBegins.j4 k x1 x5 x7 x10 x11 x12 (((rd_T37 (rd_L4 x10 x11) 0).f1).toList != x13.toList) x379000 x379001 x379002 x379003 x391000 x391001 x391002 x391003) else (none)) else (thresherlaw19_FilterBegins.j4 k x1 x5 x7 x10 x11 x12 true x379000 x379001 x379002 x379003 x391000 x391001 x391002 x391003)) else (none)) else (none))) else (thresherlaw19_FilterBegins.l1 k x1 x5 x7 x10 x11 (wrap64 (x12 + 1)) x379000 x379001 x379002 x379003 x391000 x391001 x391002 x391003)
def thresherlaw19_FilterBegins.j4 : Nat → ByteArray → Bool → List (List (S37)) → List (List (S37)) → Int → Int → Bool → List Int → Int → Int → Int → Int → Int → Int → ByteArray → Option (Bool)
  | 0, _, _, _, _, _, _, _, _, _, _, _, _, _, _, _ => none
  | k + 1, x1, x5, x7, x10, x11, x12, x107, x379000, x379001, x379002, x379003, x391000, x391001, x391002, x391003 => if x107 = true then (some false) else (thresherlaw19_FilterBegins.l1 k x1 x5 x7 x10 (wrap64 (x11 + 1)) (wrap64 (x12 + 1)) x379000 x379001 x379002 x379003 x391000 x391001 x391002 x391003)
def thresherlaw19_FilterBegins.l0 : Nat → List ByteArray → ByteArray → Bool → List (List (S37)) → Int → List Int → Int → Int → Int → Option (Bool)
  | 0, _, _, _, _, _, _, _, _, _ => none
  | k + 1, x0, x1, x5, x7, x8, x379000, x379001, x379002, x379003 => if x8 < (x0.length : Int) then (if x8 < 60 then (if 0 ≤ x8 then (if 0 ≤ (mn ((rdOf ByteArray.empty x0 x8).size : Int) 60) then (if (mn ((rdOf ByteArray.empty x0 x8).size : Int) 60) ≤ ((rdOf ByteArray.empty x0 x8).size : Int) then (if x7.length < 5864062014805 then (thresherlaw19_FilterBegins.l0 k x0 x1 x5 (x7 ++ [(([(⟨0, (rdOf ByteArray.empty x0 x8).extract 0 ((mn ((rdOf ByteArray.empty x0 x8).size : Int) 60) : Int).toNat⟩ : S37)] : List (S37)))]) (wrap64 (x8 + 1)) x379000 x379001 x379002 x379003) else (none)) else (none)) else (none)) else (none)) else (thresherlaw19_FilterBegins.j1 k x1 x5 x7 x379000 x379001 x379002 x379003)) else (thresherlaw19_FilterBegins.j1 k x1 x5 x7 x379000 x379001 x379002 x379003)
end
def thresherlaw19_FilterBegins.f (k : Nat) (l0 : List ByteArray) (a1 : ByteArray) : Option (Bool) := (thresherlaw19_shown.f k).bind fun t374 => (if 0 ≤ (mn (a1.size : Int) 60) then (if (mn (a1.size : Int) 60) ≤ (a1.size : Int) then (thresherlaw19_FilterBegins.l0 k l0 (a1.extract 0 ((mn (a1.size : Int) 60) : Int).toNat) t374 (([] : List (List (S37)))) 0 (([3] : List Int)) 1 1 1) else (none)) else (none))
theorem thresherlaw19_FilterBegins.mono_l : ∀ k, (∀ y0 y1 y2 y3 y4 y5 y6, LeO (thresherlaw19_FilterBegins.j1 k y0 y1 y2 y3 y4 y5 y6) (thresherlaw19_FilterBegins.j1 (k + 1) y0 y1 y2 y3 y4 y5 y6)) ∧ (∀ y0 y1 y2 y3 y4 y5 y6 y7 y8 y9 y10 y11 y12 y13, LeO (thresherlaw19_FilterBegins.l1 k y0 y1 y2 y3 y4 y5 y6 y7 y8 y9 y10 y11 y12 y13) (thresherlaw19_FilterBegins.l1 (k + 1) y0 y1 y2 y3 y4 y5 y6 y7 y8 y9 y10 y11 y12 y13)) ∧ (∀ y0 y1 y2 y3 y4 y5 y6 y7 y8 y9 y10 y11 y12 y13 y14 y15, LeO (thresherlaw19_FilterBegins.j3 k y0 y1 y2 y3 y4 y5 y6 y7 y8 y9 y10 y11 y12 y13 y14 y15) (thresherlaw19_FilterBegins.j3 (k + 1) y0 y1 y2 y3 y4 y5 y6 y7 y8 y9 y10 y11 y12 y13 y14 y15)) ∧ (∀ y0 y1 y2 y3 y4 y5 y6 y7 y8 y9 y10 y11 y12 y13 y14, LeO (thresherlaw19_FilterBegins.j4 k y0 y1 y2 y3 y4 y5 y6 y7 y8 y9 y10 y11 y12 y13 y14) (thresherlaw19_FilterBegins.j4 (k + 1) y0 y1 y2 y3 y4 y5 y6 y7 y8 y9 y10 y11 y12 y13 y14)) ∧ (∀ y0 y1 y2 y3 y4 y5 y6 y7 y8, LeO (thresherlaw19_FilterBegins.l0 k y0 y1 y2 y3 y4 y5 y6 y7 y8) (thresherlaw19_FilterBegins.l0 (k + 1) y0 y1 y2 y3 y4 y5 y6 y7 y8))
  | 0 => ⟨fun _ _ _ _ _ _ _ r h => by simp [thresherlaw19_FilterBegins.j1] at h, fun _ _ _ _ _ _ _ _ _ _ _ _ _ _ r h => by simp [thresherlaw19_FilterBegins.l1] at h, fun _ _ _ _ _ _ _ _ _ _ _ _ _ _ _ _ r h => by simp [thresherlaw19_FilterBegins.j3] at h, fun _ _ _ _ _ _ _ _ _ _ _ _ _ _ _ r h => by simp [thresherlaw19_FilterBegins.j4] at h, fun _ _ _ _ _ _ _ _ _ r h => by simp [thresherlaw19_FilterBegins.l0] at h⟩
  | k + 1 => by
    obtain ⟨ih0, ih1, ih2, ih3, ih4⟩ := thresherlaw19_FilterBegins.mono_l k
    refine ⟨?_, ?_, ?_, ?_, ?_⟩
    · intro y0 y1 y2 y3 y4 y5 y6
      unfold thresherlaw19_FilterBegins.j1
      repeat' first
      | (with_reducible exact ih0 _ _ _ _ _ _ _)
      | (with_reducible exact ih1 _ _ _ _ _ _ _ _ _ _ _ _ _ _)
      | (with_reducible exact ih2 _ _ _ _ _ _ _ _ _ _ _ _ _ _ _ _)
      | (with_reducible exact ih3 _ _ _ _ _ _ _ _ _ _ _ _ _ _ _)
      | (with_reducible exact ih4 _ _ _ _ _ _ _ _ _)
      | (with_reducible exact filter_Keep.mono _ _ _ _ _ _ _)
      | (with_reducible exact filter_May.mono _ _ _ _ _ _)
      | (with_reducible exact thresherlaw19_shown.mono _)
      | (with_reducible exact LeO.refl _)
      | (with_reducible exact LeO.none _)
      | (with_reducible refine LeO.ite ?_ ?_)
      | (with_reducible refine LeO.bind ?_ (fun _ => ?_))
      | exact ih0 _ _ _ _ _ _ _
      | exact ih1 _ _ _ _ _ _ _ _ _ _ _ _ _ _
      | exact ih2 _ _ _ _ _ _ _ _ _ _ _ _ _ _ _ _
      | exact ih3 _ _ _ _ _ _ _ _ _ _ _ _ _ _ _
      | exact ih4 _ _ _ _ _ _ _ _ _
      | exact filter_Keep.mono _ _ _ _ _ _ _
      | exact filter_May.mono _ _ _ _ _ _
      | exact thresherlaw19_shown.mono _
      | exact LeO.none _
      | refine LeO.ite ?_ ?_
      | refine LeO.bind ?_ (fun _ => ?_)
    · intro y0 y1 y2 y3 y4 y5 y6 y7 y8 y9 y10 y11 y12 y13
      unfold thresherlaw19_FilterBegins.l1
      repeat' first
      | (with_reducible exact ih0 _ _ _ _ _ _ _)
      | (with_reducible exact ih1 _ _ _ _ _ _ _ _ _ _ _ _ _ _)
      | (with_reducible exact ih2 _ _ _ _ _ _ _ _ _ _ _ _ _ _ _ _)
      | (with_reducible exact ih3 _ _ _ _ _ _ _ _ _ _ _ _ _ _ _)
      | (with_reducible exact ih4 _ _ _ _ _ _ _ _ _)
      | (with_reducible exact filter_Keep.mono _ _ _ _ _ _ _)
      | (with_reducible exact filter_May.mono _ _ _ _ _ _)
      | (with_reducible exact thresherlaw19_shown.mono _)
      | (with_reducible exact LeO.refl _)
      | (with_reducible exact LeO.none _)
      | (with_reducible refine LeO.ite ?_ ?_)
      | (with_reducible refine LeO.bind ?_ (fun _ => ?_))
      | exact ih0 _ _ _ _ _ _ _
      | exact ih1 _ _ _ _ _ _ _ _ _ _ _ _ _ _
      | exact ih2 _ _ _ _ _ _ _ _ _ _ _ _ _ _ _ _
      | exact ih3 _ _ _ _ _ _ _ _ _ _ _ _ _ _ _
      | exact ih4 _ _ _ _ _ _ _ _ _
      | exact filter_Keep.mono _ _ _ _ _ _ _
      | exact filter_May.mono _ _ _ _ _ _
      | exact thresherlaw19_shown.mono _
      | exact LeO.none _
      | refine LeO.ite ?_ ?_
      | refine LeO.bind ?_ (fun _ => ?_)
    · intro y0 y1 y2 y3 y4 y5 y6 y7 y8 y9 y10 y11 y12 y13 y14 y15
      unfold thresherlaw19_FilterBegins.j3
      repeat' first
      | (with_reducible exact ih0 _ _ _ _ _ _ _)
      | (with_reducible exact ih1 _ _ _ _ _ _ _ _ _ _ _ _ _ _)
      | (with_reducible exact ih2 _ _ _ _ _ _ _ _ _ _ _ _ _ _ _ _)
      | (with_reducible exact ih3 _ _ _ _ _ _ _ _ _ _ _ _ _ _ _)
      | (with_reducible exact ih4 _ _ _ _ _ _ _ _ _)
      | (with_reducible exact filter_Keep.mono _ _ _ _ _ _ _)
      | (with_reducible exact filter_May.mono _ _ _ _ _ _)
      | (with_reducible exact thresherlaw19_shown.mono _)
      | (with_reducible exact LeO.refl _)
      | (with_reducible exact LeO.none _)
      | (with_reducible refine LeO.ite ?_ ?_)
      | (with_reducible refine LeO.bind ?_ (fun _ => ?_))
      | exact ih0 _ _ _ _ _ _ _
      | exact ih1 _ _ _ _ _ _ _ _ _ _ _ _ _ _
      | exact ih2 _ _ _ _ _ _ _ _ _ _ _ _ _ _ _ _
      | exact ih3 _ _ _ _ _ _ _ _ _ _ _ _ _ _ _
      | exact ih4 _ _ _ _ _ _ _ _ _
      | exact filter_Keep.mono _ _ _ _ _ _ _
      | exact filter_May.mono _ _ _ _ _ _
      | exact thresherlaw19_shown.mono _
      | exact LeO.none _
      | refine LeO.ite ?_ ?_
      | refine LeO.bind ?_ (fun _ => ?_)
    · intro y0 y1 y2 y3 y4 y5 y6 y7 y8 y9 y10 y11 y12 y13 y14
      unfold thresherlaw19_FilterBegins.j4
      repeat' first
      | (with_reducible exact ih0 _ _ _ _ _ _ _)
      | (with_reducible exact ih1 _ _ _ _ _ _ _ _ _ _ _ _ _ _)
      | (with_reducible exact ih2 _ _ _ _ _ _ _ _ _ _ _ _ _ _ _ _)
      | (with_reducible exact ih3 _ _ _ _ _ _ _ _ _ _ _ _ _ _ _)
      | (with_reducible exact ih4 _ _ _ _ _ _ _ _ _)
      | (with_reducible exact filter_Keep.mono _ _ _ _ _ _ _)
      | (with_reducible exact filter_May.mono _ _ _ _ _ _)
      | (with_reducible exact thresherlaw19_shown.mono _)
      | (with_reducible exact LeO.refl _)
      | (with_reducible exact LeO.none _)
      | (with_reducible refine LeO.ite ?_ ?_)
      | (with_reducible refine LeO.bind ?_ (fun _ => ?_))
      | exact ih0 _ _ _ _ _ _ _
      | exact ih1 _ _ _ _ _ _ _ _ _ _ _ _ _ _
      | exact ih2 _ _ _ _ _ _ _ _ _ _ _ _ _ _ _ _
      | exact ih3 _ _ _ _ _ _ _ _ _ _ _ _ _ _ _
      | exact ih4 _ _ _ _ _ _ _ _ _
      | exact filter_Keep.mono _ _ _ _ _ _ _
      | exact filter_May.mono _ _ _ _ _ _
      | exact thresherlaw19_shown.mono _
      | exact LeO.none _
      | refine LeO.ite ?_ ?_
      | refine LeO.bind ?_ (fun _ => ?_)
    · intro y0 y1 y2 y3 y4 y5 y6 y7 y8
      unfold thresherlaw19_FilterBegins.l0
      repeat' first
      | (with_reducible exact ih0 _ _ _ _ _ _ _)
      | (with_reducible exact ih1 _ _ _ _ _ _ _ _ _ _ _ _ _ _)
      | (with_reducible exact ih2 _ _ _ _ _ _ _ _ _ _ _ _ _ _ _ _)
      | (with_reducible exact ih3 _ _ _ _ _ _ _ _ _ _ _ _ _ _ _)
      | (with_reducible exact ih4 _ _ _ _ _ _ _ _ _)
      | (with_reducible exact filter_Keep.mono _ _ _ _ _ _ _)
      | (with_reducible exact filter_May.mono _ _ _ _ _ _)
      | (with_reducible exact thresherlaw19_shown.mono _)
      | (with_reducible exact LeO.refl _)
      | (with_reducible exact LeO.none _)
      | (with_reducible refine LeO.ite ?_ ?_)
      | (with_reducible refine LeO.bind ?_ (fun _ => ?_))
      | exact ih0 _ _ _ _ _ _ _
      | exact ih1 _ _ _ _ _ _ _ _ _ _ _ _ _ _
      | exact ih2 _ _ _ _ _ _ _ _ _ _ _ _ _ _ _ _
      | exact ih3 _ _ _ _ _ _ _ _ _ _ _ _ _ _ _
      | exact ih4 _ _ _ _ _ _ _ _ _
      | exact filter_Keep.mono _ _ _ _ _ _ _
      | exact filter_May.mono _ _ _ _ _ _
      | exact thresherlaw19_shown.mono _
      | exact LeO.none _
      | refine LeO.ite ?_ ?_
      | refine LeO.bind ?_ (fun _ => ?_)
theorem thresherlaw19_FilterBegins.mono : ∀ a0 a1 k, LeO (thresherlaw19_FilterBegins.f k a0 a1) (thresherlaw19_FilterBegins.f (k + 1) a0 a1) := by
  intro a0 a1 k
  obtain ⟨ih0, ih1, ih2, ih3, ih4⟩ := thresherlaw19_FilterBegins.mono_l k
  unfold thresherlaw19_FilterBegins.f
  repeat' first
      | (with_reducible exact ih0 _ _ _ _ _ _ _)
      | (with_reducible exact ih1 _ _ _ _ _ _ _ _ _ _ _ _ _ _)
      | (with_reducible exact ih2 _ _ _ _ _ _ _ _ _ _ _ _ _ _ _ _)
      | (with_reducible exact ih3 _ _ _ _ _ _ _ _ _ _ _ _ _ _ _)
      | (with_reducible exact ih4 _ _ _ _ _ _ _ _ _)
      | (with_reducible exact filter_Keep.mono _ _ _ _ _ _ _)
      | (with_reducible exact filter_May.mono _ _ _ _ _ _)
      | (with_reducible exact thresherlaw19_shown.mono _)
      | (with_reducible exact LeO.refl _)
      | (with_reducible exact LeO.none _)
      | (with_reducible refine LeO.ite ?_ ?_)
      | (with_reducible refine LeO.bind ?_ (fun _ => ?_))
      | exact ih0 _ _ _ _ _ _ _
      | exact ih1 _ _ _ _ _ _ _ _ _ _ _ _ _ _
      | exact ih2 _ _ _ _ _ _ _ _ _ _ _ _ _ _ _ _
      | exact ih3 _ _ _ _ _ _ _ _ _ _ _ _ _ _ _
      | exact ih4 _ _ _ _ _ _ _ _ _
      | exact filter_Keep.mono _ _ _ _ _ _ _
      | exact filter_May.mono _ _ _ _ _ _
      | exact thresherlaw19_shown.mono _
      | exact LeO.none _
      | refine LeO.ite ?_ ?_
      | refine LeO.bind ?_ (fun _ => ?_)
def thresherlaw19_FilterBegins.T8 : Bool × List (List Nat × List Nat) := (true, [([], []), ([], []), ([], []), ([1, 2], [1, 2]), ([3], [3]), ([], []), ([], []), ([5, 6], [5, 6]), ([7], [7]), ([8], [8]), ([9], [9]), ([4, 10], [4, 10]), ([11], [11]), ([12], [12]), ([13], [13]), ([0, 14], [0, 14]), ([15, 15, 0, 1, 2, 3, 4, 5, 6, 7, 8, 9, 10, 11, 12, 13, 14, 15], [0, 15])])
def thresherlaw19_FilterBegins.B8 : List Nat := [0, 0, 0, 6, 14, 0, 0, 96, 224, 480, 992, 2046, 4094, 8190, 16382, 32767, 65535]
theorem thresherlaw19_FilterBegins.tab8 : rtab .any (opsOf Try.f7 8) = thresherlaw19_FilterBegins.T8 := by kernel_rfl
theorem thresherlaw19_FilterBegins.bits8 : waitsOk thresherlaw19_FilterBegins.T8.2 thresherlaw19_FilterBegins.B8 = true := by kernel_rfl
set_option maxHeartbeats 8000000 in
set_option maxRecDepth 100000 in
theorem thresherlaw19_FilterBegins.calls (k : Nat) (A0 : Option Addr) (c0 : Nat) (l0 : List ByteArray) (a1 : ByteArray) (r : Bool) (w : World) (hr0 : Kd.C Kd.string w A0 l0.length l0) (hc0 : l0.length ≤ c0) (h : thresherlaw19_FilterBegins.f k l0 a1 = some r) :
    Calls Try.prog 7 #[.slice A0 l0.length c0, .string a1] w fun e w' => e = .returned (.bool r) ∧ Below w.heap.size w w' := by
  have hu32 := Try.underlying32
  have hu37 := Try.underlying37
  have hu39 := Try.underlying39
  have HR0 := Aside0.mk hr0
  have HC0 := Aside0.mk hc0
  clear hr0 hc0
  have HB := Aside0.mk (Below.refl w.heap.size w)
  have H : ((thresherlaw19_shown.f k).bind fun t374 => (if 0 ≤ (mn (a1.size : Int) 60) then (if (mn (a1.size : Int) 60) ≤ (a1.size : Int) then (thresherlaw19_FilterBegins.l0 k l0 (a1.extract 0 ((mn (a1.size : Int) 60) : Int).toNat) t374 (([] : List (List (S37)))) 0 (([3] : List Int)) 1 1 1) else (none)) else (none))) = some r := h
  clear h
  replace H := Option.bind_eq_some_iff.mp H
  obtain ⟨t374, A30, H⟩ := H
  replace H : (if 0 ≤ (mn (a1.size : Int) 60) then (if (mn (a1.size : Int) 60) ≤ (a1.size : Int) then (thresherlaw19_FilterBegins.l0 k l0 (a1.extract 0 ((mn (a1.size : Int) 60) : Int).toNat) t374 (([] : List (List (S37)))) 0 (([3] : List Int)) 1 1 1) else (none)) else (none)) = some r := H
  have A3 := Aside0.mk A30
  clear A30
  obtain ⟨y375, hy375⟩ : ∃ y_ : List Int, y_ = (([3] : List Int)) := ⟨_, rfl⟩
  replace H : (if 0 ≤ (mn (a1.size : Int) 60) then (if (mn (a1.size : Int) 60) ≤ (a1.size : Int) then (thresherlaw19_FilterBegins.l0 k l0 (a1.extract 0 ((mn (a1.size : Int) 60) : Int).toNat) t374 (([] : List (List (S37)))) 0 y375 1 1 1) else (none)) else (none)) = some r := by first | (rw [hy375]; with_reducible exact H) | (have H2_ := (Option.bind_some _ _).symm.trans H; rw [hy375]; with_reducible exact H2_) | (have H2_ := (Option.bind_some _ _).symm.trans H; with_reducible exact H2_) | with_reducible exact H | (rw [hy375]; exact H) | exact H
  have Ny375 := Aside0.mk hy375
  clear hy375
  obtain ⟨ji4, hji4⟩ : ∃ j_ : Int, (mn (a1.size : Int) 60) = j_ := ⟨_, rfl⟩
  replace H : (if 0 ≤ (ji4) then (if (ji4) ≤ (a1.size : Int) then (thresherlaw19_FilterBegins.l0 k l0 (a1.extract 0 ((ji4) : Int).toNat) t374 (([] : List (List (S37)))) 0 y375 1 1 1) else (none)) else (none)) = some r := by first | (rw [hji4] at H; exact H) | (simp only [hji4] at H ⊢; exact H)
  (try rw [hji4] at A3)
  (try (have hji4h : ji4 ≤ 60 := by (rw [← hji4]; unfold mn; (repeat' split) <;> omega)))
  (try (have hji4g : ji4 ≤ 64 := by omega))
  (try (have hji4l : 0 ≤ ji4 := by (rw [← hji4]; unfold mn; (repeat' split) <;> omega)))
  (try (have hji4m : 0 ≤ ji4 := by omega))
  have hji4_ : (if 60 < (a1.size : Int) then 60 else (a1.size : Int)) = ji4 := hji4
  by_cases c5 : 0 ≤ (ji4)
  · rw [if_pos c5] at H
    have c5b0 := eq_true c5
    have c5b1 : decide (0 ≤ (ji4)) = true := decide_eq_true c5
    clear c5
    by_cases c6 : (ji4) ≤ (a1.size : Int)
    · rw [if_pos c6] at H
      have c6b0 := eq_true c6
      have c6b1 : decide ((ji4) ≤ (a1.size : Int)) = true := decide_eq_true c6
      clear c6
      obtain ⟨y379, hy379⟩ : ∃ y_ : List (List (S37)), y_ = (([] : List (List (S37)))) := ⟨_, rfl⟩
      replace H : (thresherlaw19_FilterBegins.l0 k l0 (a1.extract 0 ((ji4) : Int).toNat) t374 y379 0 y375 1 1 1) = some r := by first | (rw [hy379]; with_reducible exact H) | (have H2_ := (Option.bind_some _ _).symm.trans H; rw [hy379]; with_reducible exact H2_) | (have H2_ := (Option.bind_some _ _).symm.trans H; with_reducible exact H2_) | with_reducible exact H | (rw [hy379]; exact H) | exact H
      have Ny379 := Aside0.mk hy379
      clear hy379
      have HC7 := Aside0.mk H
      clear H
      go_enter Try.func7, Try.ntmps7
      go_upto_block 0 with (first | ((with_reducible refine gate_callee (f := 8) rfl ?_); refine goesL_ (some 16) rfl rfl Try.func8 (by kernel_rfl) rfl #[] rfl (by (try simp only [List.map_toArray, List.map_cons, List.map_nil]); first | done | rfl | (simp only [List.length_drop, List.length_take]; rfl)) ?_; (with_reducible refine (thresherlaw19_shown.calls k  t374 _ A3.out).mono ?_); rintro e w8 ⟨rfl, hb⟩; refine ⟨_, rfl, ?_⟩; have n0_ := Aside0.mk (below_step (by repeat (first | (with_reducible first | exact HB.out | apply below_alloc | apply pw_below_drewN | apply below_drew1) | exact HB.out)) hb); clear HB; have HB := n0_; clear n0_; (try clear hb); (try clear hb2); (try clear hk); (try clear hi)) | ((with_reducible refine gate_dst (N := 17) rfl ?_); (try (refine gate_guard (by rfl) ?_; dsimp only)); refine Kd.R_lit (Kd.int .i64) _ 3 ?hg (N := 17) ?hd (xs := ([3] : List Int)) (inner := [.int .i64 3]) (ok := fun _ => True) (okp := fun _ => True) ?hr ?hp (fun _ hk => hk) trivial (Below.refl _ _) (Nat.le_refl _) (by simp) ?_; (case hd => rfl); (case hg => rfl); (case hr => first | (go_simp; done) | (go_simp; rfl)); (case hp => exact (Reps.one (show Kd.M (Kd.int .i64) _ _ _ 3 [.int .i64 3] from rfl) (Reps.none _ _))); intro v376 w9 ho10 hb hg_ hnew_; clear hg_ hnew_; (first | rw [← Ny375.out] at ho10 | (simp only [Int.reduceToNat] at ho10; rw [← Ny375.out] at ho10)); have n0_ := Aside0.mk (Kd.R_lower ho10 (below_size (by repeat (first | (with_reducible first | exact HB.out | apply below_alloc | apply pw_below_drewN | apply below_drew1) | exact HB.out)))); have n1_ := Aside0.mk (below_step (by repeat (first | (with_reducible first | exact HB.out | apply below_alloc | apply pw_below_drewN | apply below_drew1) | exact HB.out)) hb); clear HB; have HO377 := n0_; have HB := n1_; clear n0_ n1_; clear hb ho10; obtain ⟨Ao11, co11, eo11⟩ := Kd.R_slice HO377.out; subst eo11) | ((with_reducible refine gate_dst (N := 6) rfl ?_); (try (refine gate_guard (by rfl) ?_; dsimp only)); refine box_event ?hg (N := 6) ?hd (cs := #[.slice none 0 0, .int .i64 0, .int .i64 0, .int .i64 0]) (t := 32) ?hr ?_; (case hd => rfl); (case hg => rfl); (case hr => first | (go_simp; done) | (go_simp; rfl)); intro gb378 hg w12 hbox hb; have n0_ := Aside0.mk (Kd.R_below (by (with_reducible repeat (first | apply Kd.R_alloc | apply Kd.R_drewN | apply Kd.R_drew)); exact HO377.out) hb); have n1_ := Aside0.mk (below_step (by repeat (first | (with_reducible first | exact HB.out | apply below_alloc | apply pw_below_drewN | apply below_drew1) | exact HB.out)) hb); have n2_ := Aside0.mk (hbox); have n3_ := Aside0.mk ((by rw [hg]; exact (below_size (by repeat (first | (with_reducible first | exact HB.out | apply below_alloc | apply pw_below_drewN | apply below_drew1) | exact HB.out))) : w.heap.size ≤ gb378)); have n4_ := Aside0.mk ((by rw [hg]; exact (below_size (by repeat (first | (with_reducible first | exact HB.out | apply below_alloc | apply pw_below_drewN | apply below_drew1) | exact HB.out))) : w.heap.size ≤ gb378)); clear HO377; clear HB; have HO377 := n0_; have HB := n1_; have BK378 := n2_; have GW378 := n3_; have GE378 := n4_; clear n0_ n1_ n2_ n3_ n4_; clear hb hbox hg; have hcz13_0 : w12.cell? ⟨gb378, 0, none⟩ = some (.slice none 0 0) := (blk_cell BK378.out 0).trans rfl; have hcz13_1 : w12.cell? ⟨gb378, 1, none⟩ = some (.int .i64 0) := (blk_cell BK378.out 1).trans rfl; have hcz13_2 : w12.cell? ⟨gb378, 2, none⟩ = some (.int .i64 0) := (blk_cell BK378.out 2).trans rfl; have hcz13_3 : w12.cell? ⟨gb378, 3, none⟩ = some (.int .i64 0) := (blk_cell BK378.out 3).trans rfl; have hfz13_0 := blk_frozen BK378.out 0; have hfz13_1 := blk_frozen BK378.out 1; have hfz13_2 := blk_frozen BK378.out 2; have hfz13_3 := blk_frozen BK378.out 3) | ((with_reducible refine gate_dst (N := 24) rfl ?_); (try (refine gate_guard (by rfl) ?_; dsimp only)); refine Kd.N_lit (Kd.slice 37 k37) _ 41 ?hg (N' := 24) ?hd (xs := ([] : List (List (S37)))) (inner := []) (ok := (fun k_ => some k_ ≠ (.slice Ao11 y375.length co11 : Value).ownBlock ∧ k_ ≠ gb378)) (okp := (fun k_ => some k_ ≠ (.slice Ao11 y375.length co11 : Value).ownBlock ∧ k_ ≠ gb378)) ?hr ?hp (fun _ hk => hk) ((show ∀ k_, ((((w12.setCell ⟨gb378, 0, none⟩ (.slice Ao11 y375.length co11)).setCell ⟨gb378, 1, none⟩ (.int .i64 1)).setCell ⟨gb378, 2, none⟩ (.int .i64 1)).setCell ⟨gb378, 3, none⟩ (.int .i64 1)).heap.size ≤ k_ → (fun k_ => some k_ ≠ (.slice Ao11 y375.length co11 : Value).ownBlock ∧ k_ ≠ gb378) k_ from fun k_ hk => ⟨Kd.fresh' (Kd.R_lt (by (with_reducible repeat (first | apply Kd.R_alloc | apply Kd.R_drewN | apply Kd.R_drew)); exact (Kd.R_mono (Kd.R_far (p := ⟨gb378, 3, none⟩) (Kd.R_far (p := ⟨gb378, 2, none⟩) (Kd.R_far (p := ⟨gb378, 1, none⟩) (Kd.R_far (p := ⟨gb378, 0, none⟩) (Kd.R_types HO377.out BK378.out (by decide)) (fun _ hk => hk.2) (.slice Ao11 y375.length co11)) (fun _ hk => hk.2) (.int .i64 1)) (fun _ hk => hk.2) (.int .i64 1)) (fun _ hk => hk.2) (.int .i64 1)) (fun _ h_ => h_.1)))) k_ hk, Kd.freshB (g := gb378) (o := .cells #[.slice Ao11 y375.length co11, .int .i64 1, .int .i64 1, .int .i64 1] 32 (0, 0)) (by (with_reducible repeat (first | refine blk_drewN ?_ _ | refine blk_drew ?_ | refine blk_alloc ?_ _)); refine blk_put (cs := #[.slice Ao11 y375.length co11, .int .i64 1, .int .i64 1, .int .i64 0]) ?_ 3 _ rfl; (with_reducible repeat (first | refine blk_drewN ?_ _ | refine blk_drew ?_ | refine blk_alloc ?_ _)); refine blk_put (cs := #[.slice Ao11 y375.length co11, .int .i64 1, .int .i64 0, .int .i64 0]) ?_ 2 _ rfl; (with_reducible repeat (first | refine blk_drewN ?_ _ | refine blk_drew ?_ | refine blk_alloc ?_ _)); refine blk_put (cs := #[.slice Ao11 y375.length co11, .int .i64 0, .int .i64 0, .int .i64 0]) ?_ 1 _ rfl; (with_reducible repeat (first | refine blk_drewN ?_ _ | refine blk_drew ?_ | refine blk_alloc ?_ _)); refine blk_put (cs := #[.slice none 0 0, .int .i64 0, .int .i64 0, .int .i64 0]) ?_ 0 _ rfl; (with_reducible repeat (first | refine blk_drewN ?_ _ | refine blk_drew ?_ | refine blk_alloc ?_ _)); exact BK378.out) k_ hk⟩) _ (Nat.le_refl _)) (Below.refl _ _) (Nat.le_refl _) (by simp) ?_; (case hd => rfl); (case hg => rfl); (case hr => first | (go_simp; done) | (go_simp; rfl)); (case hp => exact (Reps.none _ _)); intro v380 w14 ho15 hb hg_ hnew_; clear hg_ hnew_; (first | rw [← Ny379.out] at ho15 | (simp only [Int.reduceToNat] at ho15; rw [← Ny379.out] at ho15)); have n0_ := Aside0.mk (Kd.R_below (by (with_reducible repeat (first | apply Kd.R_alloc | apply Kd.R_drewN | apply Kd.R_drew)); exact (Kd.R_mono (Kd.R_far (p := ⟨gb378, 3, none⟩) (Kd.R_far (p := ⟨gb378, 2, none⟩) (Kd.R_far (p := ⟨gb378, 1, none⟩) (Kd.R_far (p := ⟨gb378, 0, none⟩) (Kd.R_types HO377.out BK378.out (by decide)) (fun _ hk => hk.2) (.slice Ao11 y375.length co11)) (fun _ hk => hk.2) (.int .i64 1)) (fun _ hk => hk.2) (.int .i64 1)) (fun _ hk => hk.2) (.int .i64 1)) (fun _ h_ => h_.1))) hb); have n1_ := Aside0.mk (Kd.N_lower ho15 (below_size (by repeat (first | (with_reducible first | exact HB.out | apply below_alloc | apply pw_below_drewN | apply below_drew1 | refine below_set ?_ GE378.out) | exact HB.out)))); have n2_ := Aside0.mk (blk_below (g := gb378) (o := .cells #[.slice Ao11 y375.length co11, .int .i64 1, .int .i64 1, .int .i64 1] 32 (0, 0)) (by (with_reducible repeat (first | refine blk_drewN ?_ _ | refine blk_drew ?_ | refine blk_alloc ?_ _)); refine blk_put (cs := #[.slice Ao11 y375.length co11, .int .i64 1, .int .i64 1, .int .i64 0]) ?_ 3 _ rfl; (with_reducible repeat (first | refine blk_drewN ?_ _ | refine blk_drew ?_ | refine blk_alloc ?_ _)); refine blk_put (cs := #[.slice Ao11 y375.length co11, .int .i64 1, .int .i64 0, .int .i64 0]) ?_ 2 _ rfl; (with_reducible repeat (first | refine blk_drewN ?_ _ | refine blk_drew ?_ | refine blk_alloc ?_ _)); refine blk_put (cs := #[.slice Ao11 y375.length co11, .int .i64 0, .int .i64 0, .int .i64 0]) ?_ 1 _ rfl; (with_reducible repeat (first | refine blk_drewN ?_ _ | refine blk_drew ?_ | refine blk_alloc ?_ _)); refine blk_put (cs := #[.slice none 0 0, .int .i64 0, .int .i64 0, .int .i64 0]) ?_ 0 _ rfl; (with_reducible repeat (first | refine blk_drewN ?_ _ | refine blk_drew ?_ | refine blk_alloc ?_ _)); exact BK378.out) hb); have n3_ := Aside0.mk (below_step (by repeat (first | (with_reducible first | exact HB.out | apply below_alloc | apply pw_below_drewN | apply below_drew1 | refine below_set ?_ GE378.out) | exact HB.out)) hb); clear HO377; clear BK378; clear HB; have HO377 := n0_; have HO381 := n1_; have BK378 := n2_; have HB := n3_; clear n0_ n1_ n2_ n3_; clear hb ho15))
      (try simp only [Act.put, List.setIfInBounds_toArray, List.set_cons_zero, List.set_cons_succ])
      generalize a1.extract 0 ((ji4) : Int).toNat = tx at HC7 ⊢
      go_cut [7] (fun v7 wc => ∃ (kq : Nat) (x7_6 : List (List (S37))), Aside0 (thresherlaw19_FilterBegins.j1 kq tx t374 x7_6 y375 1 1 1 = some r) ∧ Aside0 (kq ≤ k) ∧ Aside0 (Kd.N (Kd.slice 37 k37) 41 wc w.heap.size (fun k_ => some k_ ≠ ((.slice Ao11 y375.length co11) : Value).ownBlock ∧ k_ ≠ gb378) v7 x7_6) ∧ Aside0 (Kd.R (Kd.int .i64) 3 wc w.heap.size (fun _ => True) (.slice Ao11 y375.length co11) y375) ∧ Aside0 (wc.heap[gb378]? = some (.cells #[(.slice Ao11 y375.length co11), .int .i64 1, .int .i64 1, .int .i64 1] 32 (0, 0))) ∧ Aside0 (Below w.heap.size w wc))
      case first =>
        have H := HC7.out
        clear HC7
        have H' := Aside0.mk H
        clear H
        go_wp2
        go_loopg [7, 8] k (fun kq v7 v8 w' => ∃ (x7_1 : List (List (S37))) (x8_1 : Int), v8 = .int .i64 x8_1 ∧ Aside0 (thresherlaw19_FilterBegins.l0 kq l0 tx t374 x7_1 x8_1 y375 1 1 1 = some r) ∧ Aside0 (kq ≤ k) ∧ Aside0 (Kd.N (Kd.slice 37 k37) 41 w' w.heap.size (fun k_ => some k_ ≠ ((.slice Ao11 y375.length co11) : Value).ownBlock ∧ k_ ≠ gb378) v7 x7_1) ∧ Aside0 (Kd.R (Kd.int .i64) 3 w' w.heap.size (fun _ => True) (.slice Ao11 y375.length co11) y375) ∧ Aside0 (w'.heap[gb378]? = some (.cells #[(.slice Ao11 y375.length co11), .int .i64 1, .int .i64 1, .int .i64 1] 32 (0, 0))) ∧ Aside0 (Below w.heap.size w w'))
        case atStart => exact ⟨(y379), (0), (by first | rfl | (simp; done) | (simp [*]; done)), H', ⟨Nat.le_refl _⟩, ⟨by (with_reducible repeat (first | apply Kd.N_alloc | apply Kd.N_drewN | apply Kd.N_drew)); exact HO381.out⟩, ⟨by (with_reducible repeat (first | apply Kd.R_alloc | apply Kd.R_drewN | apply Kd.R_drew)); exact HO377.out⟩, ⟨by (with_reducible repeat (first | refine blk_drewN ?_ _ | refine blk_drew ?_ | refine blk_alloc ?_ _)); exact BK378.out⟩, ⟨by repeat (first | (with_reducible first | exact HB.out | apply below_alloc | apply pw_below_drewN | apply below_drew1 | refine below_set ?_ GE378.out) | exact HB.out)⟩⟩
        case round =>
          clear H'
          try clear p2
          try clear c5
          try clear c5b0
          try clear c5b1
          try clear c6
          try clear c6b0
          try clear c6b1
          try clear c7
          try clear c8
          try clear hcz13_0
          try clear hcz13_1
          try clear hcz13_2
          try clear hcz13_3
          try clear hfz13_0
          try clear hfz13_1
          try clear hfz13_2
          try clear hfz13_3
          obtain ⟨x7_1, x8_1, rfl, HA, HK1, HO_7, HO_379000, BK378, HB⟩ := hrel
          cases gk with
          | zero => exact absurd HA.out (by simp [thresherlaw19_FilterBegins.l0])
          | succ k1 =>
            have H := HA.out
            clear HA
            simp only [thresherlaw19_FilterBegins.l0] at H
            by_cases c16 : x8_1 < (l0.length : Int)
            · rw [if_pos c16] at H
              have c16b0 : decide (x8_1 < (l0.length : Int)) = true := decide_eq_true c16
              clear c16
              (first | rw [c16b0] | (simp only [i64_w, i32_w]; rw [c16b0]) | skip)
              by_cases c17 : x8_1 < 60
              · rw [if_pos c17] at H
                have c17b0 : decide (x8_1 < 60) = true := decide_eq_true c17
                clear c17
                by_cases c18 : 0 ≤ x8_1
                · rw [if_pos c18] at H
                  have c18b0 : decide (0 ≤ x8_1) = true := decide_eq_true c18
                  clear c18
                  obtain ⟨ji19, hji19⟩ : ∃ j_ : Int, (mn ((rdOf ByteArray.empty l0 x8_1).size : Int) 60) = j_ := ⟨_, rfl⟩
                  replace H : (if 0 ≤ (ji19) then (if (ji19) ≤ ((rdOf ByteArray.empty l0 x8_1).size : Int) then (if x7_1.length < 5864062014805 then (thresherlaw19_FilterBegins.l0 k1 l0 tx t374 (x7_1 ++ [(([(⟨0, (rdOf ByteArray.empty l0 x8_1).extract 0 ((ji19) : Int).toNat⟩ : S37)] : List (S37)))]) (wrap64 (x8_1 + 1)) y375 1 1 1) else (none)) else (none)) else (none)) = some r := by first | (rw [hji19] at H; exact H) | (simp only [hji19] at H ⊢; exact H)
                  have hji19_ : (if 60 < ((rdOf ByteArray.empty l0 x8_1).size : Int) then 60 else ((rdOf ByteArray.empty l0 x8_1).size : Int)) = ji19 := hji19
                  by_cases c20 : 0 ≤ (ji19)
                  · rw [if_pos c20] at H
                    have c20b0 := eq_true c20
                    have c20b1 : decide (0 ≤ (ji19)) = true := decide_eq_true c20
                    clear c20
                    by_cases c21 : (ji19) ≤ ((rdOf ByteArray.empty l0 x8_1).size : Int)
                    · rw [if_pos c21] at H
                      have c21b0 := eq_true c21
                      have c21b1 : decide ((ji19) ≤ ((rdOf ByteArray.empty l0 x8_1).size : Int)) = true := decide_eq_true c21
                      clear c21
                      obtain ⟨y384, hy384⟩ : ∃ y_ : List (S37), y_ = (([(⟨0, (rdOf ByteArray.empty l0 x8_1).extract 0 ((ji19) : Int).toNat⟩ : S37)] : List (S37))) := ⟨_, rfl⟩
                      replace H : (if x7_1.length < 5864062014805 then (thresherlaw19_FilterBegins.l0 k1 l0 tx t374 (x7_1 ++ [y384]) (wrap64 (x8_1 + 1)) y375 1 1 1) else (none)) = some r := by first | (rw [hy384]; with_reducible exact H) | (have H2_ := (Option.bind_some _ _).symm.trans H; rw [hy384]; with_reducible exact H2_) | (have H2_ := (Option.bind_some _ _).symm.trans H; with_reducible exact H2_) | with_reducible exact H | (rw [hy384]; exact H) | exact H
                      have Ny384 := Aside0.mk hy384
                      clear hy384
                      by_cases c22 : x7_1.length < 5864062014805
                      · rw [if_pos c22] at H
                        have LMc22 := Aside0.mk c22
                        clear c22
                        obtain ⟨y387, hy387⟩ : ∃ y_ : List (List (S37)), y_ = (x7_1 ++ [y384]) := ⟨_, rfl⟩
                        replace H : (thresherlaw19_FilterBegins.l0 k1 l0 tx t374 y387 (wrap64 (x8_1 + 1)) y375 1 1 1) = some r := by first | (rw [hy387]; with_reducible exact H) | (have H2_ := (Option.bind_some _ _).symm.trans H; rw [hy387]; with_reducible exact H2_) | (have H2_ := (Option.bind_some _ _).symm.trans H; with_reducible exact H2_) | with_reducible exact H | (rw [hy387]; exact H) | exact H
                        have Ny387 := Aside0.mk hy387
                        clear hy387
                        have H' := Aside0.mk H
                        clear H
                        try go_wp2
                        have n0_ := Aside0.mk (Kd.N_drew HO_7.out)
                        have n1_ := Aside0.mk (Kd.R_drew HO_379000.out)
                        have n2_ := Aside0.mk (blk_drew BK378.out)
                        have n3_ := Aside0.mk (below_drew1 HB.out)
                        clear HO_7
                        clear HO_379000
                        clear BK378
                        clear HB
                        have HO_7 := n0_
                        have HO_379000 := n1_
                        have BK378 := n2_
                        have HB := n3_
                        clear n0_ n1_ n2_ n3_
                        have p382 : 0 ≤ (x8_1 : Int) := of_decide_eq_true (by first | (with_reducible assumption) | assumption)
                        have q382 : x8_1 < (l0.length : Int) := of_decide_eq_true (by first | (with_reducible assumption) | assumption)
                        obtain ⟨ad382, e382, hx382_0⟩ := Kd.at_string HR0.out x8_1 p382 q382
                        have hw382_0 := hx382_0
                        cases e382
                        replace hx382_0 := (HB.out.cell (World.block_lt_of_cell? w _ hx382_0)).trans hx382_0
                        replace p382 := eq_true p382
                        replace q382 := eq_true q382
                        have p383 : 0 ≤ (x8_1 : Int) := of_decide_eq_true (by first | (with_reducible assumption) | assumption)
                        have q383 : x8_1 < (l0.length : Int) := of_decide_eq_true (by first | (with_reducible assumption) | assumption)
                        obtain ⟨ad383, e383, hx383_0⟩ := Kd.at_string HR0.out x8_1 p383 q383
                        have hw383_0 := hx383_0
                        obtain rfl : ad382 = ad383 := (by injection e383)
                        replace hx383_0 := (HB.out.cell (World.block_lt_of_cell? w _ hx383_0)).trans hx383_0
                        replace p383 := eq_true p383
                        replace q383 := eq_true q383
                        refine start_ (n := 17) (S := fun w' => w'.cell? (ad382.add (x8_1).toNat) = some (.string (rdOf ByteArray.empty l0 x8_1)) ∧ w'.cell? (ad382.add (x8_1).toNat) = some (.string (rdOf ByteArray.empty l0 x8_1))) (ds := []) #[false, false, false, false, false, false, false, false, false, false, false, false, false, false, false, false, false] (by kernel_rfl) rfl rfl ⟨((HB.out.cell (World.block_lt_of_cell? w _ hw382_0)).trans hw382_0), ((HB.out.cell (World.block_lt_of_cell? w _ hw383_0)).trans hw383_0)⟩ (fun hHeld => ?_); refine with_tabW thresherlaw19_FilterBegins.tab8 thresherlaw19_FilterBegins.bits8 (fun HT_ HW_ => ?_)
                        generalize wr.drew = w23 at HO_7 HO_379000 BK378 HB hx382_0 hx383_0 hHeld ⊢
                        refine pure_ (i := 0) (N := some 35) (v := ?_) (a' := ?_) #[true, false, false, false, false, false, false, false, false, false, false, false, false, false, false, false, false] rfl rfl (any_of HT_.out (by kernel_rfl)) (fun _ _ _ h => h) (Or.inl ⟨by rfl, ?_⟩) ?_ ?_
                        rotate_left
                        · intro w'
                          go_simp
                          with_reducible rfl
                        rotate_left
                        · simp only [Act.put, List.setIfInBounds_toArray, List.set_cons_zero, List.set_cons_succ, i64_w, i32_w]
                          rfl
                        refine pure_ (i := 1) (N := some 36) (v := ?_) (a' := ?_) #[true, true, false, false, false, false, false, false, false, false, false, false, false, false, false, false, false] rfl rfl (any_of HT_.out (by kernel_rfl)) (fun _ _ _ h => h) (Or.inl ⟨by rfl, ?_⟩) ?_ ?_
                        rotate_left
                        · intro w'
                          go_simp
                          with_reducible rfl
                        rotate_left
                        · simp only [Act.put, List.setIfInBounds_toArray, List.set_cons_zero, List.set_cons_succ, i64_w, i32_w]
                          rfl
                        refine pure_ (i := 2) (N := some 37) (v := ?_) (a' := ?_) #[true, true, true, false, false, false, false, false, false, false, false, false, false, false, false, false, false] rfl rfl (any_of HT_.out (by kernel_rfl)) (fun _ _ _ h => h) (Or.inl ⟨by rfl, ?_⟩) ?_ ?_
                        rotate_left
                        · intro w'
                          go_simp
                          with_reducible rfl
                        rotate_left
                        · simp only [Act.put, List.setIfInBounds_toArray, List.set_cons_zero, List.set_cons_succ, i64_w, i32_w]
                          rfl
                        refine pure_ (i := 3) (N := some 38) (v := ?_) (a' := ?_) #[true, true, true, true, false, false, false, false, false, false, false, false, false, false, false, false, false] rfl rfl (any_of HT_.out (by kernel_rfl)) (fun _ _ _ h => h) (Or.inl ⟨by rfl, ?_⟩) ?_ ?_
                        rotate_left
                        · intro w'
                          go_simp
                          with_reducible rfl
                        rotate_left
                        · simp only [Act.put, List.setIfInBounds_toArray, List.set_cons_zero, List.set_cons_succ, i64_w, i32_w]
                          rfl
                        refine pure_ (i := 5) (N := some 40) (v := ?_) (a' := ?_) #[true, true, true, true, false, true, false, false, false, false, false, false, false, false, false, false, false] rfl rfl (any_of HT_.out (by kernel_rfl)) (fun _ _ _ h => h) (Or.inl ⟨by rfl, ?_⟩) ?_ ?_
                        rotate_left
                        · intro w'
                          go_simp
                          with_reducible rfl
                        rotate_left
                        · simp only [Act.put, List.setIfInBounds_toArray, List.set_cons_zero, List.set_cons_succ, i64_w, i32_w]
                          rfl
                        refine pure_ (i := 6) (N := some 41) (v := ?_) (a' := ?_) #[true, true, true, true, false, true, true, false, false, false, false, false, false, false, false, false, false] rfl rfl (any_of HT_.out (by kernel_rfl)) (fun _ _ _ h => h) (Or.inl ⟨by rfl, ?_⟩) ?_ ?_
                        rotate_left
                        · intro w'
                          go_simp
                          with_reducible rfl
                        rotate_left
                        · simp only [Act.put, List.setIfInBounds_toArray, List.set_cons_zero, List.set_cons_succ, i64_w, i32_w]
                          rfl
                        refine pure_ (i := 7) (N := some 42) (v := ?_) (a' := ?_) #[true, true, true, true, false, true, true, true, false, false, false, false, false, false, false, false, false] rfl rfl (any_of HT_.out (by kernel_rfl)) (fun _ _ _ h => h) (Or.inl ⟨by rfl, ?_⟩) ?_ ?_
                        rotate_left
                        · intro w'
                          go_simp
                          with_reducible rfl
                        rotate_left
                        · simp only [Act.put, List.setIfInBounds_toArray, List.set_cons_zero, List.set_cons_succ, i64_w, i32_w]
                          rfl
                        refine take_ (i := 4) (N := some 39) (v := ?_) (a' := ?_) #[true, true, true, true, true, true, true, true, false, false, false, false, false, false, false, false, false] rfl rfl (take_ofW HT_.out HW_.out (by kernel_rfl)) (fun _ _ _ h => h) (Or.inl ⟨by rfl, ?_⟩) hHeld ?_ ?_
                        rotate_left
                        · rintro w' ⟨s0, s1⟩
                          go_simp
                          with_reducible rfl
                        rotate_left
                        · simp only [Act.put, List.setIfInBounds_toArray, List.set_cons_zero, List.set_cons_succ, i64_w, i32_w]
                          rfl
                        refine take_ (i := 8) (N := some 43) (v := ?_) (a' := ?_) #[true, true, true, true, true, true, true, true, true, false, false, false, false, false, false, false, false] rfl rfl (take_ofW HT_.out HW_.out (by kernel_rfl)) (fun _ _ _ h => h) (Or.inl ⟨by rfl, ?_⟩) hHeld ?_ ?_
                        rotate_left
                        · rintro w' ⟨s0, s1⟩
                          go_simp
                          with_reducible rfl
                        rotate_left
                        · simp only [Act.put, List.setIfInBounds_toArray, List.set_cons_zero, List.set_cons_succ, i64_w, i32_w]
                          rfl
                        refine pure_ (i := 9) (N := some 44) (v := ?_) (a' := ?_) #[true, true, true, true, true, true, true, true, true, true, false, false, false, false, false, false, false] rfl rfl (any_of HT_.out (by kernel_rfl)) (fun _ _ _ h => h) (Or.inl ⟨by rfl, ?_⟩) ?_ ?_
                        rotate_left
                        · intro w'
                          go_simp
                          with_reducible rfl
                        rotate_left
                        · simp only [Act.put, List.setIfInBounds_toArray, List.set_cons_zero, List.set_cons_succ, i64_w, i32_w]
                          rfl
                        refine pure_ (i := 10) (N := some 45) (v := ?_) (a' := ?_) #[true, true, true, true, true, true, true, true, true, true, true, false, false, false, false, false, false] rfl rfl (any_of HT_.out (by kernel_rfl)) (fun _ _ _ h => h) (Or.inl ⟨by rfl, ?_⟩) ?_ ?_
                        rotate_left
                        · intro w'
                          go_simp
                          with_reducible rfl
                        rotate_left
                        · simp only [Act.put, List.setIfInBounds_toArray, List.set_cons_zero, List.set_cons_succ, i64_w, i32_w]
                          rfl
                        refine pure_ (i := 11) (N := some 46) (v := ?_) (a' := ?_) #[true, true, true, true, true, true, true, true, true, true, true, true, false, false, false, false, false] rfl rfl (any_of HT_.out (by kernel_rfl)) (fun _ _ _ h => h) (Or.inl ⟨by rfl, ?_⟩) ?_ ?_
                        rotate_left
                        · intro w'
                          go_simp
                          with_reducible rfl
                        rotate_left
                        · simp only [Act.put, List.setIfInBounds_toArray, List.set_cons_zero, List.set_cons_succ, i64_w, i32_w]
                          rfl
                        refine pure_ (i := 12) (N := some 47) (v := ?_) (a' := ?_) #[true, true, true, true, true, true, true, true, true, true, true, true, true, false, false, false, false] rfl rfl (any_of HT_.out (by kernel_rfl)) (fun _ _ _ h => h) (Or.inl ⟨by rfl, ?_⟩) ?_ ?_
                        rotate_left
                        · intro w'
                          go_simp
                          with_reducible rfl
                        rotate_left
                        · simp only [Act.put, List.setIfInBounds_toArray, List.set_cons_zero, List.set_cons_succ, i64_w, i32_w]
                          rfl
                        refine one_ (i := 13) (N := some 48) #[true, true, true, true, true, true, true, true, true, true, true, true, true, true, false, false, false] rfl rfl (one_of HT_.out (by kernel_rfl)) (by decide) (fun K hK => ?_)
                        refine Kd.R_lit_step k37 _ 37 ?hg (N := 48) ?hd (xs := ([(⟨0, (rdOf ByteArray.empty l0 x8_1).extract 0 ((ji19) : Int).toNat⟩ : S37)] : List (S37))) (inner := [.int .i64 0, .string ((rdOf ByteArray.empty l0 x8_1).extract 0 ((ji19) : Int).toNat)]) (ok := fun _ => True) (okp := fun _ => True) ?hr ?hp (fun _ hk => hk) trivial (Below.refl _ _) (Nat.le_refl _) (by simp) ?_; (case hd => rfl); (case hg => rfl); (case hr => first | (go_simp; done) | (go_simp; rfl)); (case hp => exact (Reps.c2 (show Kd.M k37 _ _ _ (⟨0, (rdOf ByteArray.empty l0 x8_1).extract 0 ((ji19) : Int).toNat⟩ : S37) [.int .i64 0, .string ((rdOf ByteArray.empty l0 x8_1).extract 0 ((ji19) : Int).toNat)] from (k37_mkM _ _ _ (⟨0, (rdOf ByteArray.empty l0 x8_1).extract 0 ((ji19) : Int).toNat⟩ : S37) )) (Reps.none _ _)))
                        intro v385 w24 ho25 hb hg_ hnew_
                        clear hg_ hnew_
                        (first | rw [← Ny384.out] at ho25 | (simp only [Int.reduceToNat] at ho25; rw [← Ny384.out] at ho25))
                        have n0_ := Aside0.mk (Kd.N_elder' (by (with_reducible repeat (first | apply Kd.N_alloc | apply Kd.N_drewN | apply Kd.N_drew)); exact HO_7.out) (Kd.R_base ho25) hb)
                        have n1_ := Aside0.mk (Kd.R_below (by (with_reducible repeat (first | apply Kd.R_alloc | apply Kd.R_drewN | apply Kd.R_drew)); exact HO_379000.out) hb)
                        have n2_ := Aside0.mk (Kd.R_lower ho25 (below_size (by repeat (first | (with_reducible first | exact HB.out | apply below_alloc | apply pw_below_drewN | apply below_drew1 | refine below_set ?_ GE378.out) | exact HB.out))))
                        have n3_ := Aside0.mk (blk_below (g := gb378) (o := .cells #[.slice Ao11 y375.length co11, .int .i64 1, .int .i64 1, .int .i64 1] 32 (0, 0)) (by (with_reducible repeat (first | refine blk_drewN ?_ _ | refine blk_drew ?_ | refine blk_alloc ?_ _)); exact BK378.out) hb)
                        have n4_ := Aside0.mk (below_step (by repeat (first | (with_reducible first | exact HB.out | apply below_alloc | apply pw_below_drewN | apply below_drew1 | refine below_set ?_ GE378.out) | exact HB.out)) hb)
                        clear HO_7
                        clear HO_379000
                        clear BK378
                        clear HB
                        have HO_7 := n0_
                        have HO_379000 := n1_
                        have HO386 := n2_
                        have BK378 := n3_
                        have HB := n4_
                        clear n0_ n1_ n2_ n3_ n4_
                        clear hb ho25
                        obtain ⟨Ao27, co27, eo27⟩ := Kd.R_slice HO386.out
                        (first | subst eo27 | (injection eo27 with f1_ f2_ f3_; have f4_ := f1_.symm; have f5_ := f3_.symm; clear f1_ f2_ f3_; subst f4_; subst f5_))
                        refine hK.out _ _ ⟨((HB.out.cell (World.block_lt_of_cell? w _ hw382_0)).trans hw382_0), ((HB.out.cell (World.block_lt_of_cell? w _ hw383_0)).trans hw383_0)⟩ (fun hHeld => ?_)
                        clear hK K
                        refine norm_ (a' := ?_) ?_ ?_
                        rotate_left
                        · show Act.put _ (some 48) _ = _
                          simp only [Act.put, List.setIfInBounds_toArray, List.set_cons_zero, List.set_cons_succ, i64_w, i32_w]
                          rfl
                        refine one_ (i := 14) (N := some 49) #[true, true, true, true, true, true, true, true, true, true, true, true, true, true, true, false, false] rfl rfl (one_of HT_.out (by kernel_rfl)) (by decide) (fun K hK => ?_)
                        refine value_ (w1 := ?_) (v := ?_) (by rfl) rfl ?_ ?_
                        rotate_left 2
                        · go_simp
                          constructor
                          · rfl
                          · rfl
                        refine hK.out _ _ ⟨(World.cell?_alloc_lt _ _ _ (World.block_lt_of_cell? _ _ (((HB.out.cell (World.block_lt_of_cell? w _ hw382_0)).trans hw382_0)))).trans (((HB.out.cell (World.block_lt_of_cell? w _ hw382_0)).trans hw382_0)), (World.cell?_alloc_lt _ _ _ (World.block_lt_of_cell? _ _ (((HB.out.cell (World.block_lt_of_cell? w _ hw383_0)).trans hw383_0)))).trans (((HB.out.cell (World.block_lt_of_cell? w _ hw383_0)).trans hw383_0))⟩ (fun hHeld => ?_)
                        clear hK K
                        refine norm_ (a' := ?_) ?_ ?_
                        rotate_left
                        · show Act.put _ (some 49) _ = _
                          simp only [Act.put, List.setIfInBounds_toArray, List.set_cons_zero, List.set_cons_succ, i64_w, i32_w]
                          rfl
                        refine one_ (i := 15) (N := some 50) #[true, true, true, true, true, true, true, true, true, true, true, true, true, true, true, true, false] rfl rfl (one_of HT_.out (by kernel_rfl)) (by decide) (fun K hK => ?_)
                        refine Kd.N_append_step (Kd.slice 37 k37) (w0 := w) w.heap.size (by rfl) (.tmp 35) (.tmp 49) 26 41 (.slice none 0 0) 24 rfl Try.underlying26 info41 rfl (by decide) (by omega) u7 x7_1 y384 [.slice Ao27 y384.length co27] (fun k_ => some k_ ≠ (.slice Ao11 y375.length co11 : Value).ownBlock ∧ k_ ≠ gb378) (fun k_ => ((fun k_ => some k_ ≠ (.slice Ao11 y375.length co11 : Value).ownBlock ∧ k_ ≠ gb378)) k_ ∧ some k_ ≠ (u7 : Value).ownBlock) rfl rfl ?aP (fun _ hk => hk) ?aF ?aO ?aB ?aS ?aL ?_
                        (case aP => exact (Kd.FK_slice_mk (Kd.R_reads' (Kd.R_mono (ok' := (fun k_ => ((fun k_ => some k_ ≠ (.slice Ao11 y375.length co11 : Value).ownBlock ∧ k_ ≠ gb378)) k_ ∧ some k_ ≠ (u7 : Value).ownBlock)) (Kd.R_types (Kd.R_apart' (Kd.R_apart' (HO386.out) (Kd.R_typed HO_379000.out) (by decide)) (Kd.N_typed HO_7.out) (by decide)) BK378.out (by decide)) (fun k_ hk => ⟨⟨hk.1.1.2, hk.2⟩, hk.1.2⟩))).2.1 (Kd.R_F (Kd.R_mono (ok' := (fun k_ => ((fun k_ => some k_ ≠ (.slice Ao11 y375.length co11 : Value).ownBlock ∧ k_ ≠ gb378)) k_ ∧ some k_ ≠ (u7 : Value).ownBlock)) (Kd.R_types (Kd.R_apart' (Kd.R_apart' (HO386.out) (Kd.R_typed HO_379000.out) (by decide)) (Kd.N_typed HO_7.out) (by decide)) BK378.out (by decide)) (fun k_ hk => ⟨⟨hk.1.1.2, hk.2⟩, hk.1.2⟩)))))
                        (case aB => exact (by repeat (first | (with_reducible first | exact HB.out | apply below_alloc | apply pw_below_drewN | apply below_drew1 | refine below_set ?_ GE378.out) | exact HB.out)))
                        (case aF => exact (fun k_ hk => ⟨Kd.fresh' (Kd.R_lt (by (with_reducible repeat (first | apply Kd.R_alloc | apply Kd.R_drewN | apply Kd.R_drew)); exact HO_379000.out)) k_ hk, Kd.freshB (g := gb378) (o := .cells #[.slice Ao11 y375.length co11, .int .i64 1, .int .i64 1, .int .i64 1] 32 (0, 0)) (by (with_reducible repeat (first | refine blk_drewN ?_ _ | refine blk_drew ?_ | refine blk_alloc ?_ _)); exact BK378.out) k_ hk⟩))
                        (case aO => exact (by (with_reducible repeat (first | apply Kd.N_alloc | apply Kd.N_drewN | apply Kd.N_drew)); exact Kd.N_mono HO_7.out (fun _ hk => ⟨hk.1.1, hk.1.2⟩)))
                        (case aS => exact (below_size (by repeat (first | (with_reducible first | exact HB.out | apply below_alloc | apply pw_below_drewN | apply below_drew1 | refine below_set ?_ GE378.out) | exact HB.out))))
                        (case aL => have := LMc22.out; omega)
                        intro v388 w26 ho hb hg hat
                        rw [← Ny387.out] at ho
                        have n0_ := Aside0.mk (Kd.R_over' (by (with_reducible repeat (first | apply Kd.R_alloc | apply Kd.R_drewN | apply Kd.R_drew)); exact HO_379000.out) (Kd.N_typed (by (with_reducible repeat (first | apply Kd.N_alloc | apply Kd.N_drewN | apply Kd.N_drew)); exact HO_7.out)) (by decide) hg)
                        have n1_ := Aside0.mk (blk_grown (g := gb378) (o := .cells #[.slice Ao11 y375.length co11, .int .i64 1, .int .i64 1, .int .i64 1] 32 (0, 0)) (by (with_reducible repeat (first | refine blk_drewN ?_ _ | refine blk_drew ?_ | refine blk_alloc ?_ _)); exact BK378.out) hg (Kd.N_ne HO_7.out BK378.out (by decide)))
                        have n2_ := Aside0.mk (hb)
                        have n3_ := Aside0.mk (ho)
                        clear HO_379000
                        clear BK378
                        clear HB
                        clear HO_7
                        clear HO386
                        have HO_379000 := n0_
                        have BK378 := n1_
                        have HB := n2_
                        have HO389 := n3_
                        clear n0_ n1_ n2_ n3_
                        clear ho hb hg hat
                        refine hK.out _ _ ⟨((HB.out.cell (World.block_lt_of_cell? w _ hw382_0)).trans hw382_0), ((HB.out.cell (World.block_lt_of_cell? w _ hw383_0)).trans hw383_0)⟩ (fun hHeld => ?_)
                        clear hK K
                        refine norm_ (a' := ?_) ?_ ?_
                        rotate_left
                        · show Act.put _ (some 50) _ = _
                          simp only [Act.put, List.setIfInBounds_toArray, List.set_cons_zero, List.set_cons_succ, i64_w, i32_w]
                          rfl
                        refine pure_ (i := 16) (N := some 7) (v := ?_) (a' := ?_) #[true, true, true, true, true, true, true, true, true, true, true, true, true, true, true, true, true] rfl rfl (any_of HT_.out (by kernel_rfl)) (fun _ _ _ h => h) (Or.inl ⟨by rfl, ?_⟩) ?_ ?_
                        rotate_left
                        · intro w'
                          go_simp
                          with_reducible rfl
                        rotate_left
                        · simp only [Act.put, List.setIfInBounds_toArray, List.set_cons_zero, List.set_cons_succ, i64_w, i32_w]
                          rfl
                        refine done_ (done_of HT_.out (by kernel_rfl)) ?_
                        (try clear hHeld)
                        try go_wp2
                        go_roundg k1
                        case measure => have := HK1.out; omega
                        case rel => exact ⟨(y387), (wrap64 (x8_1 + 1)), (by first | rfl | (simp; done) | (simp [*]; done)), (by first | exact H' | (subst_vars; exact H')), ⟨by have := HK1.out; omega⟩, ⟨by (with_reducible repeat (first | apply Kd.N_alloc | apply Kd.N_drewN | apply Kd.N_drew)); exact HO389.out⟩, ⟨by (with_reducible repeat (first | apply Kd.R_alloc | apply Kd.R_drewN | apply Kd.R_drew)); exact HO_379000.out⟩, ⟨by (with_reducible repeat (first | refine blk_drewN ?_ _ | refine blk_drew ?_ | refine blk_alloc ?_ _)); exact BK378.out⟩, ⟨by repeat (first | (with_reducible first | exact HB.out | apply below_alloc | apply pw_below_drewN | apply below_drew1 | refine below_set ?_ GE378.out) | exact HB.out)⟩⟩
                      · rw [if_neg c22] at H
                        exact absurd H (by simp)
                    · rw [if_neg c21] at H
                      exact absurd H (by simp)
                  · rw [if_neg c20] at H
                    exact absurd H (by simp)
                · rw [if_neg c18] at H
                  exact absurd H (by simp)
              · rw [if_neg c17] at H
                have c17b0 : decide (x8_1 < 60) = false := decide_eq_false c17
                clear c17
                have H' := Aside0.mk H
                clear H
                go_wp2
                go_meet
                case rel => exact ⟨_, (x7_1), (by first | exact H' | (subst_vars; exact H')), ⟨by have := HK1.out; first | omega | exact Nat.le_refl _⟩, ⟨by (with_reducible repeat (first | apply Kd.N_alloc | apply Kd.N_drewN | apply Kd.N_drew)); exact HO_7.out⟩, ⟨by (with_reducible repeat (first | apply Kd.R_alloc | apply Kd.R_drewN | apply Kd.R_drew)); exact HO_379000.out⟩, ⟨by (with_reducible repeat (first | refine blk_drewN ?_ _ | refine blk_drew ?_ | refine blk_alloc ?_ _)); exact BK378.out⟩, ⟨by repeat (first | (with_reducible first | exact HB.out | apply below_alloc | apply pw_below_drewN | apply below_drew1 | refine below_set ?_ GE378.out) | exact HB.out)⟩⟩
            · rw [if_neg c16] at H
              have c16b0 : decide (x8_1 < (l0.length : Int)) = false := decide_eq_false c16
              clear c16
              (first | rw [c16b0] | (simp only [i64_w, i32_w]; rw [c16b0]) | skip)
              have H' := Aside0.mk H
              clear H
              go_wp2
              go_meet
              case rel => exact ⟨_, (x7_1), (by first | exact H' | (subst_vars; exact H')), ⟨by have := HK1.out; first | omega | exact Nat.le_refl _⟩, ⟨by (with_reducible repeat (first | apply Kd.N_alloc | apply Kd.N_drewN | apply Kd.N_drew)); exact HO_7.out⟩, ⟨by (with_reducible repeat (first | apply Kd.R_alloc | apply Kd.R_drewN | apply Kd.R_drew)); exact HO_379000.out⟩, ⟨by (with_reducible repeat (first | refine blk_drewN ?_ _ | refine blk_drew ?_ | refine blk_alloc ?_ _)); exact BK378.out⟩, ⟨by repeat (first | (with_reducible first | exact HB.out | apply below_alloc | apply pw_below_drewN | apply below_drew1 | refine below_set ?_ GE378.out) | exact HB.out)⟩⟩
      case rest =>
        clear HC7
        try clear c1
        try clear c2
        try clear p2
        try clear p3
        try clear q3
        try clear hx3
        try clear c5
        try clear c5b0
        try clear c5b1
        try clear c6
        try clear c6b0
        try clear c6b1
        try clear p6
        try clear c7
        try clear c8
        try clear c16
        try clear c16b0
        try clear c17
        try clear c17b0
        try clear c18
        try clear c18b0
        try clear c20
        try clear c20b0
        try clear c20b1
        try clear c21
        try clear c21b0
        try clear c21b1
        try clear c22
        try clear hcz13_0
        try clear hcz13_1
        try clear hcz13_2
        try clear hcz13_3
        try clear hfz13_0
        try clear hfz13_1
        try clear hfz13_2
        try clear hfz13_3
        try clear hx382_0
        try clear hx383_0
        try clear p2
        try clear p382
        try clear p383
        try clear q382
        try clear q383
        obtain ⟨kq, x7_6, HA, HJ6, HO_7, HO_379000, BK378, HB⟩ := hcut
        cases kq with
        | zero => exact absurd HA.out (by simp [thresherlaw19_FilterBegins.j1])
        | succ kj6 =>
          have H := HA.out
          clear HA
          simp only [thresherlaw19_FilterBegins.j1] at H
          obtain ⟨y391, hy391⟩ : ∃ y_ : List (S39), y_ = (([(⟨0, 7, (⟨0, tx⟩ : S37)⟩ : S39)] : List (S39))) := ⟨_, rfl⟩
          replace H : ((filter_Keep.f kj6 y375 1 1 1 y391 x7_6).bind fun t394 => (thresherlaw19_FilterBegins.l1 kj6 tx t374 x7_6 t394 0 0 y375 1 1 1 0 7 0 tx)) = some r := by first | (rw [hy391]; with_reducible exact H) | (have H2_ := (Option.bind_some _ _).symm.trans H; rw [hy391]; with_reducible exact H2_) | (have H2_ := (Option.bind_some _ _).symm.trans H; with_reducible exact H2_) | with_reducible exact H | (rw [hy391]; exact H) | exact H
          have Ny391 := Aside0.mk hy391
          clear hy391
          replace H := Option.bind_eq_some_iff.mp H
          obtain ⟨t394, A280, H⟩ := H
          replace H : (thresherlaw19_FilterBegins.l1 kj6 tx t374 x7_6 t394 0 0 y375 1 1 1 0 7 0 tx) = some r := H
          have A28 := Aside0.mk A280
          clear A280
          have H' := Aside0.mk H
          clear H
          go_wp2_with (first | ((with_reducible refine gate_dst (N := 9) rfl ?_); (try (refine gate_guard (by rfl) ?_; dsimp only)); refine box_event ?hg (N := 9) ?hd (cs := #[.int .i64 0, .int .i64 0, .int .i64 0, .string (⟨#[]⟩ : ByteArray)]) (t := 39) ?hr ?_; (case hd => rfl); (case hg => rfl); (case hr => first | (go_simp; done) | (go_simp; rfl)); intro gb390 hg w29 hbox hb; have n0_ := Aside0.mk (Kd.N_below (Kd.N_elderB (by (with_reducible repeat (first | apply Kd.N_alloc | apply Kd.N_drewN | apply Kd.N_drew)); exact HO_7.out) gb390 (Nat.le_of_eq hg.symm)) hb); have n1_ := Aside0.mk (Kd.R_below (by (with_reducible repeat (first | apply Kd.R_alloc | apply Kd.R_drewN | apply Kd.R_drew)); exact HO_379000.out) hb); have n2_ := Aside0.mk (blk_below (g := gb378) (o := .cells #[.slice Ao11 y375.length co11, .int .i64 1, .int .i64 1, .int .i64 1] 32 (0, 0)) (by (with_reducible repeat (first | refine blk_drewN ?_ _ | refine blk_drew ?_ | refine blk_alloc ?_ _)); exact BK378.out) hb); have n3_ := Aside0.mk (below_step (by repeat (first | (with_reducible first | exact HB.out | apply below_alloc | apply pw_below_drewN | apply below_drew1 | refine below_set ?_ GE378.out) | exact HB.out)) hb); have n4_ := Aside0.mk (hbox); have n5_ := Aside0.mk ((by rw [hg]; exact (below_size (by repeat (first | (with_reducible first | exact HB.out | apply below_alloc | apply pw_below_drewN | apply below_drew1 | refine below_set ?_ GE378.out) | exact HB.out))) : w.heap.size ≤ gb390)); have n6_ := Aside0.mk ((by rw [hg]; exact (below_size (by repeat (first | (with_reducible first | exact HB.out | apply below_alloc | apply pw_below_drewN | apply below_drew1 | refine below_set ?_ GE378.out) | exact HB.out))) : w.heap.size ≤ gb390)); have n7_ := Aside0.mk ((by rw [hg]; exact Nat.ne_of_lt (blk_lt (g := gb378) (o := .cells #[.slice Ao11 y375.length co11, .int .i64 1, .int .i64 1, .int .i64 1] 32 (0, 0)) (by (with_reducible repeat (first | refine blk_drewN ?_ _ | refine blk_drew ?_ | refine blk_alloc ?_ _)); exact BK378.out)) : gb378 ≠ gb390)); have n8_ := Aside0.mk ((by rw [hg]; exact Nat.ne_of_gt (blk_lt (g := gb378) (o := .cells #[.slice Ao11 y375.length co11, .int .i64 1, .int .i64 1, .int .i64 1] 32 (0, 0)) (by (with_reducible repeat (first | refine blk_drewN ?_ _ | refine blk_drew ?_ | refine blk_alloc ?_ _)); exact BK378.out)) : gb390 ≠ gb378)); clear HO_7; clear HO_379000; clear BK378; clear HB; have HO_7 := n0_; have HO_379000 := n1_; have BK378 := n2_; have HB := n3_; have BK390 := n4_; have GW390 := n5_; have GE390 := n6_; have NB378_390 := n7_; have NB390_378 := n8_; clear n0_ n1_ n2_ n3_ n4_ n5_ n6_ n7_ n8_; clear hb hbox hg; have hnb30 := NB390_378.out; have hnc30 := NB378_390.out; have hcz31_0 : w29.cell? ⟨gb390, 0, none⟩ = some (.int .i64 0) := (blk_cell BK390.out 0).trans rfl; have hcz31_1 : w29.cell? ⟨gb390, 1, none⟩ = some (.int .i64 0) := (blk_cell BK390.out 1).trans rfl; have hcz31_2 : w29.cell? ⟨gb390, 2, none⟩ = some (.int .i64 0) := (blk_cell BK390.out 2).trans rfl; have hcz31_3 : w29.cell? ⟨gb390, 3, none⟩ = some (.string (⟨#[]⟩ : ByteArray)) := (blk_cell BK390.out 3).trans rfl; have hfz31_0 := blk_frozen BK390.out 0; have hfz31_1 := blk_frozen BK390.out 1; have hfz31_2 := blk_frozen BK390.out 2; have hfz31_3 := blk_frozen BK390.out 3; have hcz32_0 : w29.cell? ⟨gb378, 0, none⟩ = some (.slice Ao11 y375.length co11) := (blk_cell BK378.out 0).trans rfl; have hcz32_1 : w29.cell? ⟨gb378, 1, none⟩ = some (.int .i64 1) := (blk_cell BK378.out 1).trans rfl; have hcz32_2 : w29.cell? ⟨gb378, 2, none⟩ = some (.int .i64 1) := (blk_cell BK378.out 2).trans rfl; have hcz32_3 : w29.cell? ⟨gb378, 3, none⟩ = some (.int .i64 1) := (blk_cell BK378.out 3).trans rfl; have hfz32_0 := blk_frozen BK378.out 0; have hfz32_1 := blk_frozen BK378.out 1; have hfz32_2 := blk_frozen BK378.out 2; have hfz32_3 := blk_frozen BK378.out 3) | ((with_reducible refine gate_dst (N := 56) rfl ?_); (try (refine gate_guard (by rfl) ?_; dsimp only)); refine Kd.R_lit k39 _ 39 ?hg (N := 56) ?hd (xs := ([(⟨0, 7, (⟨0, tx⟩ : S37)⟩ : S39)] : List (S39))) (inner := [.int .i64 0, .int .i64 7, .int .i64 0, .string tx]) (ok := fun _ => True) (okp := fun _ => True) ?hr ?hp (fun _ hk => hk) trivial (Below.refl _ _) (Nat.le_refl _) (by simp) ?_; (case hd => rfl); (case hg => rfl); (case hr => first | (go_simp; done) | (go_simp; rfl)); (case hp => exact (Reps.c4 (show Kd.M k39 _ _ _ (⟨0, 7, (⟨0, tx⟩ : S37)⟩ : S39) [.int .i64 0, .int .i64 7, .int .i64 0, .string tx] from (k39_mkM _ _ _ (⟨0, 7, (⟨0, tx⟩ : S37)⟩ : S39) )) (Reps.none _ _))); intro v392 w33 ho34 hb hg_ hnew_; clear hg_ hnew_; (first | rw [← Ny391.out] at ho34 | (simp only [Int.reduceToNat] at ho34; rw [← Ny391.out] at ho34)); have n0_ := Aside0.mk (Kd.N_elder' (by (with_reducible repeat (first | apply Kd.N_alloc | apply Kd.N_drewN | apply Kd.N_drew)); exact (Kd.N_mono (Kd.N_far (p := ⟨gb390, 3, none⟩) (Kd.N_far (p := ⟨gb390, 2, none⟩) (Kd.N_far (p := ⟨gb390, 1, none⟩) (Kd.N_far (p := ⟨gb390, 0, none⟩) (Kd.N_mono HO_7.out (fun k_ hk => (⟨hk, hk.2⟩ : _ ∧ k_ ≠ gb390))) (fun _ hk => hk.2) (.int .i64 0)) (fun _ hk => hk.2) (.int .i64 7)) (fun _ hk => hk.2) (.int .i64 0)) (fun _ hk => hk.2) (.string tx)) (fun _ h_ => h_.1))) (Kd.R_base ho34) hb); have n1_ := Aside0.mk (Kd.R_below (by (with_reducible repeat (first | apply Kd.R_alloc | apply Kd.R_drewN | apply Kd.R_drew)); exact (Kd.R_mono (Kd.R_far (p := ⟨gb390, 3, none⟩) (Kd.R_far (p := ⟨gb390, 2, none⟩) (Kd.R_far (p := ⟨gb390, 1, none⟩) (Kd.R_far (p := ⟨gb390, 0, none⟩) (Kd.R_types HO_379000.out BK390.out (by decide)) (fun _ hk => hk.2) (.int .i64 0)) (fun _ hk => hk.2) (.int .i64 7)) (fun _ hk => hk.2) (.int .i64 0)) (fun _ hk => hk.2) (.string tx)) (fun _ h_ => h_.1))) hb); have n2_ := Aside0.mk (Kd.R_lower (Kd.R_newB ho34 (g := gb390) (o := .cells #[.int .i64 0, .int .i64 7, .int .i64 0, .string tx] 39 (0, 0)) (by (with_reducible repeat (first | refine blk_drewN ?_ _ | refine blk_drew ?_ | refine blk_alloc ?_ _)); refine blk_put (cs := #[.int .i64 0, .int .i64 7, .int .i64 0, .string (⟨#[]⟩ : ByteArray)]) ?_ 3 _ rfl; (with_reducible repeat (first | refine blk_drewN ?_ _ | refine blk_drew ?_ | refine blk_alloc ?_ _)); refine blk_put (cs := #[.int .i64 0, .int .i64 7, .int .i64 0, .string (⟨#[]⟩ : ByteArray)]) ?_ 2 _ rfl; (with_reducible repeat (first | refine blk_drewN ?_ _ | refine blk_drew ?_ | refine blk_alloc ?_ _)); refine blk_put (cs := #[.int .i64 0, .int .i64 0, .int .i64 0, .string (⟨#[]⟩ : ByteArray)]) ?_ 1 _ rfl; (with_reducible repeat (first | refine blk_drewN ?_ _ | refine blk_drew ?_ | refine blk_alloc ?_ _)); refine blk_put (cs := #[.int .i64 0, .int .i64 0, .int .i64 0, .string (⟨#[]⟩ : ByteArray)]) ?_ 0 _ rfl; (with_reducible repeat (first | refine blk_drewN ?_ _ | refine blk_drew ?_ | refine blk_alloc ?_ _)); exact BK390.out)) (below_size (by repeat (first | (with_reducible first | exact HB.out | apply below_alloc | apply pw_below_drewN | apply below_drew1 | refine below_set ?_ GE378.out | refine below_set ?_ GE390.out) | exact HB.out)))); have n3_ := Aside0.mk (blk_below (g := gb378) (o := .cells #[.slice Ao11 y375.length co11, .int .i64 1, .int .i64 1, .int .i64 1] 32 (0, 0)) (by (with_reducible repeat (first | refine blk_drewN ?_ _ | refine blk_drew ?_ | refine blk_alloc ?_ _)); refine blk_far ?_ NB378_390.out _; (with_reducible repeat (first | refine blk_drewN ?_ _ | refine blk_drew ?_ | refine blk_alloc ?_ _)); refine blk_far ?_ NB378_390.out _; (with_reducible repeat (first | refine blk_drewN ?_ _ | refine blk_drew ?_ | refine blk_alloc ?_ _)); refine blk_far ?_ NB378_390.out _; (with_reducible repeat (first | refine blk_drewN ?_ _ | refine blk_drew ?_ | refine blk_alloc ?_ _)); refine blk_far ?_ NB378_390.out _; (with_reducible repeat (first | refine blk_drewN ?_ _ | refine blk_drew ?_ | refine blk_alloc ?_ _)); exact BK378.out) hb); have n4_ := Aside0.mk (blk_below (g := gb390) (o := .cells #[.int .i64 0, .int .i64 7, .int .i64 0, .string tx] 39 (0, 0)) (by (with_reducible repeat (first | refine blk_drewN ?_ _ | refine blk_drew ?_ | refine blk_alloc ?_ _)); refine blk_put (cs := #[.int .i64 0, .int .i64 7, .int .i64 0, .string (⟨#[]⟩ : ByteArray)]) ?_ 3 _ rfl; (with_reducible repeat (first | refine blk_drewN ?_ _ | refine blk_drew ?_ | refine blk_alloc ?_ _)); refine blk_put (cs := #[.int .i64 0, .int .i64 7, .int .i64 0, .string (⟨#[]⟩ : ByteArray)]) ?_ 2 _ rfl; (with_reducible repeat (first | refine blk_drewN ?_ _ | refine blk_drew ?_ | refine blk_alloc ?_ _)); refine blk_put (cs := #[.int .i64 0, .int .i64 0, .int .i64 0, .string (⟨#[]⟩ : ByteArray)]) ?_ 1 _ rfl; (with_reducible repeat (first | refine blk_drewN ?_ _ | refine blk_drew ?_ | refine blk_alloc ?_ _)); refine blk_put (cs := #[.int .i64 0, .int .i64 0, .int .i64 0, .string (⟨#[]⟩ : ByteArray)]) ?_ 0 _ rfl; (with_reducible repeat (first | refine blk_drewN ?_ _ | refine blk_drew ?_ | refine blk_alloc ?_ _)); exact BK390.out) hb); have n5_ := Aside0.mk (below_step (by repeat (first | (with_reducible first | exact HB.out | apply below_alloc | apply pw_below_drewN | apply below_drew1 | refine below_set ?_ GE378.out | refine below_set ?_ GE390.out) | exact HB.out)) hb); clear HO_7; clear HO_379000; clear BK378; clear BK390; clear HB; have HO_7 := n0_; have HO_379000 := n1_; have HO393 := n2_; have BK378 := n3_; have BK390 := n4_; have HB := n5_; clear n0_ n1_ n2_ n3_ n4_ n5_; clear hb ho34; obtain ⟨Ao35, co35, eo35⟩ := Kd.R_slice HO393.out; subst eo35; obtain ⟨Ao36, co36, eo36⟩ := Kd.N_slice HO_7.out; subst eo36) | ((with_reducible refine gate_callee (f := 15) rfl ?_); refine goesL_ (some 58) rfl rfl Try.func15 (by kernel_rfl) rfl #[.agg #[.slice Ao11 y375.length co11, .int .i64 1, .int .i64 1, .int .i64 1], .slice Ao35 y391.length co35, .slice Ao36 x7_6.length co36] rfl (by (try simp only [List.map_toArray, List.map_cons, List.map_nil]); first | done | rfl | (simp only [List.length_drop, List.length_take]; rfl)) ?_; (with_reducible refine (filter_Keep.calls kj6 _ _ y375 1 1 1 _ _ y391 (fun k_ => (((some k_ ≠ (.slice Ao11 y375.length co11 : Value).ownBlock ∧ k_ ≠ gb378) ∧ k_ ≠ gb390) ∧ some k_ ≠ (.slice Ao35 y391.length co35 : Value).ownBlock)) _ _ x7_6 t394 _ ?side1 ?side2 ?side3 ?side4 ?side5 A28.out).mono ?_); (case side1 => repeat (first | exact (Kd.R_reads' HO_379000.out).2.2 | (with_reducible refine Kd.C_alloc ?_ _) | (with_reducible refine Kd.C_drewN ?_ _) | (with_reducible refine Kd.C_drew ?_))); (case side2 => exact (Kd.R_reads' HO_379000.out).2.1); (case side3 => repeat (first | exact (Kd.R_reads' HO393.out).2.2 | (with_reducible refine Kd.C_alloc ?_ _) | (with_reducible refine Kd.C_drewN ?_ _) | (with_reducible refine Kd.C_drew ?_))); (case side4 => exact (Kd.R_reads' HO393.out).2.1); (case side5 => exact Kd.N_V (HO_7.out)); rintro e w37 ⟨v395, rfl, ho0, hb⟩; refine ⟨_, rfl, ?_⟩; have n0_ := Aside0.mk (Kd.N_elder' (by (with_reducible repeat (first | apply Kd.N_alloc | apply Kd.N_drewN | apply Kd.N_drew)); exact HO_7.out) (by first | exact Kd.N_base ho0 | exact Kd.S_base ho0) hb); have n1_ := Aside0.mk (Kd.R_below (by (with_reducible repeat (first | apply Kd.R_alloc | apply Kd.R_drewN | apply Kd.R_drew)); exact HO_379000.out) hb); have n2_ := Aside0.mk (Kd.R_below (by (with_reducible repeat (first | apply Kd.R_alloc | apply Kd.R_drewN | apply Kd.R_drew)); exact HO393.out) hb); have n3_ := Aside0.mk (Kd.N_lower (Kd.N_mono (ok' := fun k_ => some k_ ≠ (.slice Ao11 y375.length co11 : Value).ownBlock ∧ some k_ ≠ (.slice Ao35 y391.length co35 : Value).ownBlock ∧ k_ ≠ gb378 ∧ k_ ≠ gb390) ho0 (fun k_ hk_ => ⟨Or.elim hk_ (fun hs_ => hs_.1.1.1) (fun hn_ => (Kd.fresh' (Kd.R_lt (by (with_reducible repeat (first | apply Kd.R_alloc | apply Kd.R_drewN | apply Kd.R_drew)); exact HO_379000.out)) k_ hn_)), Or.elim hk_ (fun hs_ => hs_.2) (fun hn_ => (Kd.fresh' (Kd.R_lt (by (with_reducible repeat (first | apply Kd.R_alloc | apply Kd.R_drewN | apply Kd.R_drew)); exact HO393.out)) k_ hn_)), Or.elim hk_ (fun hs_ => hs_.1.1.2) (fun hn_ => (Kd.freshB (g := gb378) (o := .cells #[.slice Ao11 y375.length co11, .int .i64 1, .int .i64 1, .int .i64 1] 32 (0, 0)) (by (with_reducible repeat (first | refine blk_drewN ?_ _ | refine blk_drew ?_ | refine blk_alloc ?_ _)); exact BK378.out) k_ hn_)), Or.elim hk_ (fun hs_ => hs_.1.2) (fun hn_ => (Kd.freshB (g := gb390) (o := .cells #[.int .i64 0, .int .i64 7, .int .i64 0, .string tx] 39 (0, 0)) (by (with_reducible repeat (first | refine blk_drewN ?_ _ | refine blk_drew ?_ | refine blk_alloc ?_ _)); exact BK390.out) k_ hn_))⟩)) (below_size (by repeat (first | (with_reducible first | exact HB.out | apply below_alloc | apply pw_below_drewN | apply below_drew1 | refine below_set ?_ GE378.out | refine below_set ?_ GE390.out) | exact HB.out)))); have n4_ := Aside0.mk (blk_below (g := gb378) (o := .cells #[.slice Ao11 y375.length co11, .int .i64 1, .int .i64 1, .int .i64 1] 32 (0, 0)) (by (with_reducible repeat (first | refine blk_drewN ?_ _ | refine blk_drew ?_ | refine blk_alloc ?_ _)); exact BK378.out) hb); have n5_ := Aside0.mk (blk_below (g := gb390) (o := .cells #[.int .i64 0, .int .i64 7, .int .i64 0, .string tx] 39 (0, 0)) (by (with_reducible repeat (first | refine blk_drewN ?_ _ | refine blk_drew ?_ | refine blk_alloc ?_ _)); exact BK390.out) hb); have n6_ := Aside0.mk (below_step (by repeat (first | (with_reducible first | exact HB.out | apply below_alloc | apply pw_below_drewN | apply below_drew1 | refine below_set ?_ GE378.out | refine below_set ?_ GE390.out) | exact HB.out)) hb); clear HO_7; clear HO_379000; clear HO393; clear BK378; clear BK390; clear HB; have HO_7 := n0_; have HO_379000 := n1_; have HO393 := n2_; have HO396 := n3_; have BK378 := n4_; have BK390 := n5_; have HB := n6_; clear n0_ n1_ n2_ n3_ n4_ n5_ n6_; (try clear hb); (try clear hb2); (try clear hk); (try clear hi); (try clear ho0)))
          go_loopg [11, 12] kj6 (fun kq v11 v12 w' => ∃ (x11_2 : Int) (x12_2 : Int), v11 = .int .i64 x11_2 ∧ v12 = .int .i64 x12_2 ∧ Aside0 (thresherlaw19_FilterBegins.l1 kq tx t374 x7_6 t394 x11_2 x12_2 y375 1 1 1 0 7 0 tx = some r) ∧ Aside0 (kq ≤ kj6) ∧ Aside0 (Kd.N (Kd.slice 37 k37) 41 w' w.heap.size (fun k_ => some k_ ≠ (v395 : Value).ownBlock ∧ some k_ ≠ ((.slice Ao11 y375.length co11) : Value).ownBlock ∧ k_ ≠ gb378 ∧ k_ ≠ gb390) (.slice Ao36 x7_6.length co36) x7_6) ∧ Aside0 (Kd.N (Kd.slice 37 k37) 41 w' w.heap.size (fun k_ => some k_ ≠ ((.slice Ao11 y375.length co11) : Value).ownBlock ∧ k_ ≠ gb378 ∧ k_ ≠ gb390) v395 t394) ∧ Aside0 (Kd.R (Kd.int .i64) 3 w' w.heap.size (fun _ => True) (.slice Ao11 y375.length co11) y375) ∧ Aside0 (w'.heap[gb378]? = some (.cells #[(.slice Ao11 y375.length co11), .int .i64 1, .int .i64 1, .int .i64 1] 32 (0, 0))) ∧ Aside0 (w'.heap[gb390]? = some (.cells #[.int .i64 0, .int .i64 7, .int .i64 0, .string tx] 39 (0, 0))) ∧ Aside0 (Below w.heap.size w w'))
          case atStart => exact ⟨(0), (0), (by first | rfl | (simp; done) | (simp [*]; done)), (by first | rfl | (simp; done) | (simp [*]; done)), H', ⟨Nat.le_refl _⟩, ⟨by (with_reducible repeat (first | apply Kd.N_alloc | apply Kd.N_drewN | apply Kd.N_drew)); exact Kd.N_mono HO_7.out (fun _ hk => ⟨hk.2, ⟨hk.1.1.1.1, ⟨hk.1.1.1.2, hk.1.1.2⟩⟩⟩)⟩, ⟨by (with_reducible repeat (first | apply Kd.N_alloc | apply Kd.N_drewN | apply Kd.N_drew)); exact Kd.N_mono HO396.out (fun _ hk => ⟨hk.1, ⟨hk.2.2.1, hk.2.2.2⟩⟩)⟩, ⟨by (with_reducible repeat (first | apply Kd.R_alloc | apply Kd.R_drewN | apply Kd.R_drew)); exact HO_379000.out⟩, ⟨by (with_reducible repeat (first | refine blk_drewN ?_ _ | refine blk_drew ?_ | refine blk_alloc ?_ _)); exact BK378.out⟩, ⟨by (with_reducible repeat (first | refine blk_drewN ?_ _ | refine blk_drew ?_ | refine blk_alloc ?_ _)); exact BK390.out⟩, ⟨by repeat (first | (with_reducible first | exact HB.out | apply below_alloc | apply pw_below_drewN | apply below_drew1 | refine below_set ?_ GE378.out | refine below_set ?_ GE390.out) | exact HB.out)⟩⟩
          case round =>
            clear H'
            try clear c1
            try clear c2
            try clear p2
            try clear c3
            try clear p3
            try clear q3
            try clear hx3
            try clear c4
            try clear c5
            try clear c5b0
            try clear c5b1
            try clear c6
            try clear c6b0
            try clear c6b1
            try clear p6
            try clear c7
            try clear c8
            try clear c15
            try clear c16
            try clear c16b0
            try clear c17
            try clear c17b0
            try clear c18
            try clear c18b0
            try clear c20
            try clear c20b0
            try clear c20b1
            try clear c21
            try clear c21b0
            try clear c21b1
            try clear c22
            try clear c30
            try clear hcz13_0
            try clear hcz13_1
            try clear hcz13_2
            try clear hcz13_3
            try clear hcz31_0
            try clear hcz31_1
            try clear hcz31_2
            try clear hcz31_3
            try clear hcz32_0
            try clear hcz32_1
            try clear hcz32_2
            try clear hcz32_3
            try clear hfz13_0
            try clear hfz13_1
            try clear hfz13_2
            try clear hfz13_3
            try clear hfz31_0
            try clear hfz31_1
            try clear hfz31_2
            try clear hfz31_3
            try clear hfz32_0
            try clear hfz32_1
            try clear hfz32_2
            try clear hfz32_3
            try clear hx382_0
            try clear hx383_0
            try clear p2
            try clear p3
            try clear p382
            try clear p383
            try clear p6
            try clear q3
            try clear q382
            try clear q383
            obtain ⟨x11_2, x12_2, rfl, rfl, HA, HK2, HO_7, HO_10, HO_379000, BK378, BK390, HB⟩ := hrel
            cases gk with
            | zero => exact absurd HA.out (by simp [thresherlaw19_FilterBegins.l1])
            | succ k2 =>
              have H := HA.out
              clear HA
              simp only [thresherlaw19_FilterBegins.l1] at H
              by_cases c38 : x12_2 < (x7_6.length : Int)
              · rw [if_pos c38] at H
                have c38b0 : decide (x12_2 < (x7_6.length : Int)) = true := decide_eq_true c38
                clear c38
                by_cases c39 : 0 ≤ x12_2
                · rw [if_pos c39] at H
                  have c39b0 : decide (0 ≤ x12_2) = true := decide_eq_true c39
                  clear c39
                  by_cases c40 : 0 < ((rd_L4 x7_6 x12_2).length : Int)
                  · rw [if_pos c40] at H
                    have c40b0 : decide (0 < ((rd_L4 x7_6 x12_2).length : Int)) = true := decide_eq_true c40
                    have c40b1 : decide (0 < (rd_L4 x7_6 x12_2).length) = true := decide_eq_true (by omega)
                    clear c40
                    have HC41 := Aside0.mk H
                    clear H
                    have p397 : 0 ≤ (x12_2 : Int) := of_decide_eq_true (by first | (with_reducible assumption) | assumption)
                    have q397 : x12_2 < (x7_6.length : Int) := of_decide_eq_true (by first | (with_reducible assumption) | assumption)
                    obtain ⟨ad397, A397_0, c397_0, e397, hx397_0, hl397_0, hi397_0⟩ := at_L4 (Kd.N_reads' HO_7.out).2.2 x12_2 p397 q397
                    cases e397
                    obtain ⟨ce397, hce397, hMe397, hcc397⟩ := Kd.N_get HO_7.out [] x12_2 p397 (by first | exact q397 | exact of_decide_eq_true (by first | (with_reducible assumption) | assumption) | (have e_ := (Kd.N_reads' HO_7.out).1; omega))
                    obtain ⟨ua397_0, uc397_0, rfl, ul397_0, ge397_0⟩ := Kd.FK_slice_open hMe397
                    have hv397_0 := hcc397 0 _ rfl
                    rw [Nat.add_zero, show ((Kd.slice 37 k37)).sz = 1 from rfl, Nat.mul_one] at hv397_0
                    replace hv397_0 := Option.some.inj (hv397_0.symm.trans hx397_0)
                    injection hv397_0 with hva_ hvn_ hvc_
                    rw [hva_] at ge397_0
                    rw [hvc_] at ul397_0
                    have HL397_0 := Aside0.mk (show Kd.V k37 37 _ w.heap.size _ _ (rd_L4 x7_6 x12_2) from Kd.V_mk ul397_0 ge397_0)
                    clear hva_ hvn_ hvc_ ge397_0 ul397_0
                    clear hcc397 hce397
                    have HR397_0 := Aside0.mk hi397_0
                    have HC397_0 := Aside0.mk hl397_0
                    clear hi397_0 hl397_0
                    replace p397 := eq_true p397
                    replace q397 := eq_true q397
                    have p398 : 0 ≤ (0 : Int) := (by omega)
                    have q398 : 0 < ((rd_L4 x7_6 x12_2).length : Int) := of_decide_eq_true (by first | (with_reducible assumption) | assumption)
                    obtain ⟨ad398, e398, hx398_0, hx398_1⟩ := at_T37 (by repeat (first | (with_reducible exact HR397_0.out) | (with_reducible refine Kd.C_alloc ?_ _) | (with_reducible refine Kd.C_drewN ?_ _) | (with_reducible refine Kd.C_drew ?_) | exact HR397_0.out)) 0 p398 q398
                    cases e398
                    have qi398 : (0 < (rd_L4 x7_6 x12_2).length) = True := eq_true (by omega)
                    (try rw [show ((0 : Int)).toNat = 0 from rfl] at hx398_0)
                    (try rw [show 0 * 2 = 0 from rfl] at hx398_0)
                    (try rw [Addr.add_zero'] at hx398_0)
                    (try rw [show ((0 : Int)).toNat = 0 from rfl] at hx398_1)
                    (try rw [show 0 * 2 = 0 from rfl] at hx398_1)
                    (try rw [Addr.add_zero'] at hx398_1)
                    replace p398 := eq_true p398
                    replace q398 := eq_true q398
                    go_upto_region 16 with (fail)
                    go_cut [84] (fun v84 wc => ∃ (kq : Nat) (x84_40 : Bool), v84 = .bool x84_40 ∧ Aside0 (thresherlaw19_FilterBegins.j3 kq tx t374 x7_6 t394 x11_2 x12_2 ((rd_T37 (rd_L4 x7_6 x12_2) 0).f1) x84_40 y375 1 1 1 0 7 0 tx = some r) ∧ Aside0 (kq ≤ k2) ∧ Aside0 (Kd.N (Kd.slice 37 k37) 41 wc w.heap.size (fun k_ => some k_ ≠ (v395 : Value).ownBlock ∧ some k_ ≠ ((.slice Ao11 y375.length co11) : Value).ownBlock ∧ k_ ≠ gb378 ∧ k_ ≠ gb390) (.slice (some ad397) x7_6.length co36) x7_6) ∧ Aside0 (Kd.N (Kd.slice 37 k37) 41 wc w.heap.size (fun k_ => some k_ ≠ ((.slice Ao11 y375.length co11) : Value).ownBlock ∧ k_ ≠ gb378 ∧ k_ ≠ gb390) v395 t394) ∧ Aside0 (Kd.R (Kd.int .i64) 3 wc w.heap.size (fun _ => True) (.slice Ao11 y375.length co11) y375) ∧ Aside0 (wc.heap[gb378]? = some (.cells #[(.slice Ao11 y375.length co11), .int .i64 1, .int .i64 1, .int .i64 1] 32 (0, 0))) ∧ Aside0 (wc.heap[gb390]? = some (.cells #[.int .i64 0, .int .i64 7, .int .i64 0, .string tx] 39 (0, 0))) ∧ Aside0 (Kd.C k37 wc (some ad398) (rd_L4 x7_6 x12_2).length (rd_L4 x7_6 x12_2)) ∧ Aside0 (Below w.heap.size w wc))
                    case first =>
                      have H := HC41.out
                      clear HC41
                      by_cases c42 : (((rd_T37 (rd_L4 x7_6 x12_2) 0).f1).size : Int) ≥ (tx.size : Int)
                      · rw [if_pos c42] at H
                        have c42b0 : decide ((tx.size : Int) ≤ (((rd_T37 (rd_L4 x7_6 x12_2) 0).f1).size : Int)) = true := decide_eq_true c42
                        have c42b1 : decide (tx.size ≤ ((rd_T37 (rd_L4 x7_6 x12_2) 0).f1).size) = true := decide_eq_true (Int.ofNat_le.mp c42)
                        clear c42
                        (first | rw [c42b0] | (simp only [i64_w, i32_w]; rw [c42b0]) | skip)
                        by_cases c43 : 0 ≤ (tx.size : Int)
                        · rw [if_pos c43] at H
                          have c43b0 := eq_true c43
                          have c43b1 : decide (0 ≤ (tx.size : Int)) = true := decide_eq_true c43
                          clear c43
                          by_cases c44 : (tx.size : Int) ≤ (((rd_T37 (rd_L4 x7_6 x12_2) 0).f1).size : Int)
                          · rw [if_pos c44] at H
                            have c44b0 := eq_true c44
                            have c44b1 : decide ((tx.size : Int) ≤ (((rd_T37 (rd_L4 x7_6 x12_2) 0).f1).size : Int)) = true := decide_eq_true c44
                            clear c44
                            have H' := Aside0.mk H
                            clear H
                            go_wp2
                            go_meet
                            case rel => exact ⟨_, (((((rd_T37 (rd_L4 x7_6 x12_2) 0).f1).extract 0 ((tx.size : Int) : Int).toNat).toList == tx.toList)), (by first | rfl | (simp; done) | (simp only [← hji4] <;> (first | rfl | simp)) | (simp [*]; done)), (by first | exact H' | (subst_vars; exact H')), ⟨by have := HJ6.out; have := HK2.out; first | omega | exact Nat.le_refl _⟩, ⟨by (with_reducible repeat (first | apply Kd.N_alloc | apply Kd.N_drewN | apply Kd.N_drew)); exact HO_7.out⟩, ⟨by (with_reducible repeat (first | apply Kd.N_alloc | apply Kd.N_drewN | apply Kd.N_drew)); exact HO_10.out⟩, ⟨by (with_reducible repeat (first | apply Kd.R_alloc | apply Kd.R_drewN | apply Kd.R_drew)); exact HO_379000.out⟩, ⟨by (with_reducible repeat (first | refine blk_drewN ?_ _ | refine blk_drew ?_ | refine blk_alloc ?_ _)); exact BK378.out⟩, ⟨by (with_reducible repeat (first | refine blk_drewN ?_ _ | refine blk_drew ?_ | refine blk_alloc ?_ _)); exact BK390.out⟩, ⟨by repeat (first | (with_reducible exact HR397_0.out) | (with_reducible refine Kd.C_alloc ?_ _) | (with_reducible refine Kd.C_drewN ?_ _) | (with_reducible refine Kd.C_drew ?_) | exact HR397_0.out)⟩, ⟨by repeat (first | (with_reducible first | exact HB.out | apply below_alloc | apply pw_below_drewN | apply below_drew1 | refine below_set ?_ GE378.out | refine below_set ?_ GE390.out) | exact HB.out)⟩⟩
                          · rw [if_neg c44] at H
                            exact absurd H (by simp)
                        · rw [if_neg c43] at H
                          exact absurd H (by simp)
                      · rw [if_neg c42] at H
                        have c42b0 : decide ((tx.size : Int) ≤ (((rd_T37 (rd_L4 x7_6 x12_2) 0).f1).size : Int)) = false := decide_eq_false c42
                        have c42b1 : decide (tx.size ≤ ((rd_T37 (rd_L4 x7_6 x12_2) 0).f1).size) = false := decide_eq_false (fun h => c42 (Int.ofNat_le.mpr h))
                        clear c42
                        (first | rw [c42b0] | (simp only [i64_w, i32_w]; rw [c42b0]) | skip)
                        have H' := Aside0.mk H
                        clear H
                        go_wp2
                        go_meet
                        case rel => exact ⟨_, (false), (by first | rfl | (simp; done) | (simp [*]; done)), (by first | exact H' | (subst_vars; exact H')), ⟨by have := HJ6.out; have := HK2.out; first | omega | exact Nat.le_refl _⟩, ⟨by (with_reducible repeat (first | apply Kd.N_alloc | apply Kd.N_drewN | apply Kd.N_drew)); exact HO_7.out⟩, ⟨by (with_reducible repeat (first | apply Kd.N_alloc | apply Kd.N_drewN | apply Kd.N_drew)); exact HO_10.out⟩, ⟨by (with_reducible repeat (first | apply Kd.R_alloc | apply Kd.R_drewN | apply Kd.R_drew)); exact HO_379000.out⟩, ⟨by (with_reducible repeat (first | refine blk_drewN ?_ _ | refine blk_drew ?_ | refine blk_alloc ?_ _)); exact BK378.out⟩, ⟨by (with_reducible repeat (first | refine blk_drewN ?_ _ | refine blk_drew ?_ | refine blk_alloc ?_ _)); exact BK390.out⟩, ⟨by repeat (first | (with_reducible exact HR397_0.out) | (with_reducible refine Kd.C_alloc ?_ _) | (with_reducible refine Kd.C_drewN ?_ _) | (with_reducible refine Kd.C_drew ?_) | exact HR397_0.out)⟩, ⟨by repeat (first | (with_reducible first | exact HB.out | apply below_alloc | apply pw_below_drewN | apply below_drew1 | refine below_set ?_ GE378.out | refine below_set ?_ GE390.out) | exact HB.out)⟩⟩
                    case rest =>
                      clear HC41
                      try clear c1
                      try clear c2
                      try clear p2
                      try clear c3
                      try clear p3
                      try clear q3
                      try clear hx3
                      try clear qi3
                      try clear c4
                      try clear c5
                      try clear c5b0
                      try clear c5b1
                      try clear c6
                      try clear c6b0
                      try clear c6b1
                      try clear p6
                      try clear c7
                      try clear c8
                      try clear c15
                      try clear c16
                      try clear c16b0
                      try clear c17
                      try clear c17b0
                      try clear c18
                      try clear c18b0
                      try clear c20
                      try clear c20b0
                      try clear c20b1
                      try clear c21
                      try clear c21b0
                      try clear c21b1
                      try clear c22
                      try clear c30
                      try clear c38
                      try clear c38b0
                      try clear p38
                      try clear q38
                      try clear hx38
                      try clear c39
                      try clear c39b0
                      try clear p39
                      try clear q39
                      try clear hx39
                      try clear qi39
                      try clear c40
                      try clear c40b0
                      try clear c40b1
                      try clear c42
                      try clear c42b0
                      try clear c42b1
                      try clear c43
                      try clear c43b0
                      try clear c43b1
                      try clear c44
                      try clear c44b0
                      try clear c44b1
                      try clear hcz13_0
                      try clear hcz13_1
                      try clear hcz13_2
                      try clear hcz13_3
                      try clear hcz31_0
                      try clear hcz31_1
                      try clear hcz31_2
                      try clear hcz31_3
                      try clear hcz32_0
                      try clear hcz32_1
                      try clear hcz32_2
                      try clear hcz32_3
                      try clear hfz13_0
                      try clear hfz13_1
                      try clear hfz13_2
                      try clear hfz13_3
                      try clear hfz31_0
                      try clear hfz31_1
                      try clear hfz31_2
                      try clear hfz31_3
                      try clear hfz32_0
                      try clear hfz32_1
                      try clear hfz32_2
                      try clear hfz32_3
                      try clear hx382_0
                      try clear hx383_0
                      try clear hx397_0
                      try clear hx398_0
                      try clear hx398_1
                      try clear p2
                      try clear p3
                      try clear p382
                      try clear p383
                      try clear p397
                      try clear p398
                      try clear p6
                      try clear q3
                      try clear q382
                      try clear q383
                      try clear q397
                      try clear q398
                      obtain ⟨kq, x84_40, rfl, HA, HJ40, HO_7, HO_10, HO_379000, BK378, BK390, HR397_0, HB⟩ := hcut
                      cases kq with
                      | zero => exact absurd HA.out (by simp [thresherlaw19_FilterBegins.j3])
                      | succ kj40 =>
                        have H := HA.out
                        clear HA
                        simp only [thresherlaw19_FilterBegins.j3] at H
                        by_cases c45 : x84_40 = true
                        · subst c45
                          have H1 : (if x11_2 ≥ (t394.length : Int) then (thresherlaw19_FilterBegins.j4 kj40 tx t374 x7_6 t394 x11_2 x12_2 true y375 1 1 1 0 7 0 tx) else (if 0 ≤ x11_2 then (if x11_2 < (t394.length : Int) then (if ((rd_L4 t394 x11_2).length : Int) = 1 then (if 0 < ((rd_L4 t394 x11_2).length : Int) then (thresherlaw19_FilterBegins.j4 kj40 tx t374 x7_6 t394 x11_2 x12_2 (((rd_T37 (rd_L4 t394 x11_2) 0).f1).toList != ((rd_T37 (rd_L4 x7_6 x12_2) 0).f1).toList) y375 1 1 1 0 7 0 tx) else (none)) else (thresherlaw19_FilterBegins.j4 kj40 tx t374 x7_6 t394 x11_2 x12_2 true y375 1 1 1 0 7 0 tx)) else (none)) else (none))) = some r := by rw [if_pos rfl] at H; exact H
                          clear H
                          have H := H1
                          clear H1
                          have HC46 := Aside0.mk H
                          clear H
                          go_upto_region 17 with (fail)
                          go_cut [107] (fun v107 wc => ∃ (kq : Nat) (x107_45 : Bool), v107 = .bool x107_45 ∧ Aside0 (thresherlaw19_FilterBegins.j4 kq tx t374 x7_6 t394 x11_2 x12_2 x107_45 y375 1 1 1 0 7 0 tx = some r) ∧ Aside0 (kq ≤ kj40) ∧ Aside0 (Kd.N (Kd.slice 37 k37) 41 wc w.heap.size (fun k_ => some k_ ≠ (v395 : Value).ownBlock ∧ some k_ ≠ ((.slice Ao11 y375.length co11) : Value).ownBlock ∧ k_ ≠ gb378 ∧ k_ ≠ gb390) (.slice (some ad397) x7_6.length co36) x7_6) ∧ Aside0 (Kd.N (Kd.slice 37 k37) 41 wc w.heap.size (fun k_ => some k_ ≠ ((.slice Ao11 y375.length co11) : Value).ownBlock ∧ k_ ≠ gb378 ∧ k_ ≠ gb390) v395 t394) ∧ Aside0 (Kd.R (Kd.int .i64) 3 wc w.heap.size (fun _ => True) (.slice Ao11 y375.length co11) y375) ∧ Aside0 (wc.heap[gb378]? = some (.cells #[(.slice Ao11 y375.length co11), .int .i64 1, .int .i64 1, .int .i64 1] 32 (0, 0))) ∧ Aside0 (wc.heap[gb390]? = some (.cells #[.int .i64 0, .int .i64 7, .int .i64 0, .string tx] 39 (0, 0))) ∧ Aside0 (Kd.C k37 wc (some ad398) (rd_L4 x7_6 x12_2).length (rd_L4 x7_6 x12_2)) ∧ Aside0 (Below w.heap.size w wc))
                          case first =>
                            have H := HC46.out
                            clear HC46
                            by_cases c47 : x11_2 ≥ (t394.length : Int)
                            · rw [if_pos c47] at H
                              have c47b0 : decide ((t394.length : Int) ≤ x11_2) = true := decide_eq_true c47
                              clear c47
                              (first | rw [c47b0] | (simp only [i64_w, i32_w]; rw [c47b0]) | skip)
                              have H' := Aside0.mk H
                              clear H
                              obtain ⟨Ao48, co48, eo48⟩ := Kd.N_slice HO_10.out
                              subst eo48
                              go_wp2
                              go_meet
                              case rel => exact ⟨_, (true), (by first | rfl | (simp; done) | (simp [*]; done)), (by first | exact H' | (subst_vars; exact H')), ⟨by have := HJ6.out; have := HK2.out; have := HJ40.out; first | omega | exact Nat.le_refl _⟩, ⟨by (with_reducible repeat (first | apply Kd.N_alloc | apply Kd.N_drewN | apply Kd.N_drew)); exact HO_7.out⟩, ⟨by (with_reducible repeat (first | apply Kd.N_alloc | apply Kd.N_drewN | apply Kd.N_drew)); exact HO_10.out⟩, ⟨by (with_reducible repeat (first | apply Kd.R_alloc | apply Kd.R_drewN | apply Kd.R_drew)); exact HO_379000.out⟩, ⟨by (with_reducible repeat (first | refine blk_drewN ?_ _ | refine blk_drew ?_ | refine blk_alloc ?_ _)); exact BK378.out⟩, ⟨by (with_reducible repeat (first | refine blk_drewN ?_ _ | refine blk_drew ?_ | refine blk_alloc ?_ _)); exact BK390.out⟩, ⟨by repeat (first | (with_reducible exact HR397_0.out) | (with_reducible refine Kd.C_alloc ?_ _) | (with_reducible refine Kd.C_drewN ?_ _) | (with_reducible refine Kd.C_drew ?_) | exact HR397_0.out)⟩, ⟨by repeat (first | (with_reducible first | exact HB.out | apply below_alloc | apply pw_below_drewN | apply below_drew1 | refine below_set ?_ GE378.out | refine below_set ?_ GE390.out) | exact HB.out)⟩⟩
                            · rw [if_neg c47] at H
                              have c47b0 : decide ((t394.length : Int) ≤ x11_2) = false := decide_eq_false c47
                              clear c47
                              (first | rw [c47b0] | (simp only [i64_w, i32_w]; rw [c47b0]) | skip)
                              by_cases c49 : 0 ≤ x11_2
                              · rw [if_pos c49] at H
                                have c49b0 : decide (0 ≤ x11_2) = true := decide_eq_true c49
                                clear c49
                                by_cases c50 : x11_2 < (t394.length : Int)
                                · rw [if_pos c50] at H
                                  have c50b0 : decide (x11_2 < (t394.length : Int)) = true := decide_eq_true c50
                                  clear c50
                                  by_cases c51 : ((rd_L4 t394 x11_2).length : Int) = 1
                                  · rw [if_pos c51] at H
                                    have c51b0 : (((rd_L4 t394 x11_2).length : Int) == 1) = true := beq_iff_eq.mpr c51
                                    have c51b1 : (((rd_L4 t394 x11_2).length : Int) != 1) = false := bne_eq_false_iff_eq.mpr c51
                                    clear c51
                                    by_cases c52 : 0 < ((rd_L4 t394 x11_2).length : Int)
                                    · rw [if_pos c52] at H
                                      have c52b0 : decide (0 < ((rd_L4 t394 x11_2).length : Int)) = true := decide_eq_true c52
                                      have c52b1 : decide (0 < (rd_L4 t394 x11_2).length) = true := decide_eq_true (by omega)
                                      clear c52
                                      have H' := Aside0.mk H
                                      clear H
                                      obtain ⟨Ao53, co53, eo53⟩ := Kd.N_slice HO_10.out
                                      subst eo53
                                      have p399 : 0 ≤ (x11_2 : Int) := of_decide_eq_true (by first | (with_reducible assumption) | assumption)
                                      have q399 : x11_2 < (t394.length : Int) := of_decide_eq_true (by first | (with_reducible assumption) | assumption)
                                      obtain ⟨ad399, A399_0, c399_0, e399, hx399_0, hl399_0, hi399_0⟩ := at_L4 (Kd.N_reads' HO_10.out).2.2 x11_2 p399 q399
                                      cases e399
                                      obtain ⟨ce399, hce399, hMe399, hcc399⟩ := Kd.N_get HO_10.out [] x11_2 p399 (by first | exact q399 | exact of_decide_eq_true (by first | (with_reducible assumption) | assumption) | (have e_ := (Kd.N_reads' HO_10.out).1; omega))
                                      obtain ⟨ua399_0, uc399_0, rfl, ul399_0, ge399_0⟩ := Kd.FK_slice_open hMe399
                                      have hv399_0 := hcc399 0 _ rfl
                                      rw [Nat.add_zero, show ((Kd.slice 37 k37)).sz = 1 from rfl, Nat.mul_one] at hv399_0
                                      replace hv399_0 := Option.some.inj (hv399_0.symm.trans hx399_0)
                                      injection hv399_0 with hva_ hvn_ hvc_
                                      rw [hva_] at ge399_0
                                      rw [hvc_] at ul399_0
                                      have HL399_0 := Aside0.mk (show Kd.V k37 37 _ w.heap.size _ _ (rd_L4 t394 x11_2) from Kd.V_mk ul399_0 ge399_0)
                                      clear hva_ hvn_ hvc_ ge399_0 ul399_0
                                      clear hcc399 hce399
                                      have HR399_0 := Aside0.mk hi399_0
                                      have HC399_0 := Aside0.mk hl399_0
                                      clear hi399_0 hl399_0
                                      replace p399 := eq_true p399
                                      replace q399 := eq_true q399
                                      have p400 : 0 ≤ (x11_2 : Int) := of_decide_eq_true (by first | (with_reducible assumption) | assumption)
                                      have q400 : x11_2 < (t394.length : Int) := of_decide_eq_true (by first | (with_reducible assumption) | assumption)
                                      obtain ⟨ad400, A400_0, c400_0, e400, hx400_0, hl400_0, hi400_0⟩ := at_L4 (Kd.N_reads' HO_10.out).2.2 x11_2 p400 q400
                                      obtain rfl : ad399 = ad400 := (by injection e400)
                                      obtain ⟨ce400, hce400, hMe400, hcc400⟩ := Kd.N_get HO_10.out [] x11_2 p400 (by first | exact q400 | exact of_decide_eq_true (by first | (with_reducible assumption) | assumption) | (have e_ := (Kd.N_reads' HO_10.out).1; omega))
                                      obtain ⟨ua400_0, uc400_0, rfl, ul400_0, ge400_0⟩ := Kd.FK_slice_open hMe400
                                      have hv400_0 := hcc400 0 _ rfl
                                      rw [Nat.add_zero, show ((Kd.slice 37 k37)).sz = 1 from rfl, Nat.mul_one] at hv400_0
                                      replace hv400_0 := Option.some.inj (hv400_0.symm.trans hx400_0)
                                      injection hv400_0 with hva_ hvn_ hvc_
                                      rw [hva_] at ge400_0
                                      rw [hvc_] at ul400_0
                                      have HL400_0 := Aside0.mk (show Kd.V k37 37 _ w.heap.size _ _ (rd_L4 t394 x11_2) from Kd.V_mk ul400_0 ge400_0)
                                      clear hva_ hvn_ hvc_ ge400_0 ul400_0
                                      clear hcc400 hce400
                                      have HR400_0 := Aside0.mk hi400_0
                                      have HC400_0 := Aside0.mk hl400_0
                                      clear hi400_0 hl400_0
                                      replace p400 := eq_true p400
                                      replace q400 := eq_true q400
                                      have ea_ := Option.some.inj (hx399_0.symm.trans hx400_0)
                                      injection ea_ with ea_ en_ ec_
                                      subst ea_
                                      subst ec_
                                      clear en_
                                      have p401 : 0 ≤ (0 : Int) := (by omega)
                                      have q401 : 0 < ((rd_L4 t394 x11_2).length : Int) := of_decide_eq_true (by first | (with_reducible assumption) | assumption)
                                      obtain ⟨ad401, e401, hx401_0, hx401_1⟩ := at_T37 (by repeat (first | (with_reducible exact HR400_0.out) | (with_reducible refine Kd.C_alloc ?_ _) | (with_reducible refine Kd.C_drewN ?_ _) | (with_reducible refine Kd.C_drew ?_) | exact HR400_0.out)) 0 p401 q401
                                      cases e401
                                      have qi401 : (0 < (rd_L4 t394 x11_2).length) = True := eq_true (by omega)
                                      (try rw [show ((0 : Int)).toNat = 0 from rfl] at hx401_0)
                                      (try rw [show 0 * 2 = 0 from rfl] at hx401_0)
                                      (try rw [Addr.add_zero'] at hx401_0)
                                      (try rw [show ((0 : Int)).toNat = 0 from rfl] at hx401_1)
                                      (try rw [show 0 * 2 = 0 from rfl] at hx401_1)
                                      (try rw [Addr.add_zero'] at hx401_1)
                                      replace p401 := eq_true p401
                                      replace q401 := eq_true q401
                                      go_wp2
                                      go_meet
                                      case rel => exact ⟨_, ((((rd_T37 (rd_L4 t394 x11_2) 0).f1).toList != ((rd_T37 (rd_L4 x7_6 x12_2) 0).f1).toList)), (by first | rfl | (simp; done) | (simp [*]; done)), (by first | exact H' | (subst_vars; exact H')), ⟨by have := HJ6.out; have := HK2.out; have := HJ40.out; first | omega | exact Nat.le_refl _⟩, ⟨by (with_reducible repeat (first | apply Kd.N_alloc | apply Kd.N_drewN | apply Kd.N_drew)); exact HO_7.out⟩, ⟨by (with_reducible repeat (first | apply Kd.N_alloc | apply Kd.N_drewN | apply Kd.N_drew)); exact HO_10.out⟩, ⟨by (with_reducible repeat (first | apply Kd.R_alloc | apply Kd.R_drewN | apply Kd.R_drew)); exact HO_379000.out⟩, ⟨by (with_reducible repeat (first | refine blk_drewN ?_ _ | refine blk_drew ?_ | refine blk_alloc ?_ _)); exact BK378.out⟩, ⟨by (with_reducible repeat (first | refine blk_drewN ?_ _ | refine blk_drew ?_ | refine blk_alloc ?_ _)); exact BK390.out⟩, ⟨by repeat (first | (with_reducible exact HR397_0.out) | (with_reducible refine Kd.C_alloc ?_ _) | (with_reducible refine Kd.C_drewN ?_ _) | (with_reducible refine Kd.C_drew ?_) | exact HR397_0.out)⟩, ⟨by repeat (first | (with_reducible first | exact HB.out | apply below_alloc | apply pw_below_drewN | apply below_drew1 | refine below_set ?_ GE378.out | refine below_set ?_ GE390.out) | exact HB.out)⟩⟩
                                    · rw [if_neg c52] at H
                                      exact absurd H (by simp)
                                  · rw [if_neg c51] at H
                                    have c51b0 : (((rd_L4 t394 x11_2).length : Int) == 1) = false := beq_eq_false_iff_ne.mpr c51
                                    have c51b1 : (((rd_L4 t394 x11_2).length : Int) != 1) = true := bne_iff_ne.mpr c51
                                    have H' := Aside0.mk H
                                    clear H
                                    obtain ⟨Ao54, co54, eo54⟩ := Kd.N_slice HO_10.out
                                    subst eo54
                                    have p399 : 0 ≤ (x11_2 : Int) := of_decide_eq_true (by first | (with_reducible assumption) | assumption)
                                    have q399 : x11_2 < (t394.length : Int) := of_decide_eq_true (by first | (with_reducible assumption) | assumption)
                                    obtain ⟨ad399, A399_0, c399_0, e399, hx399_0, hl399_0, hi399_0⟩ := at_L4 (Kd.N_reads' HO_10.out).2.2 x11_2 p399 q399
                                    cases e399
                                    obtain ⟨ce399, hce399, hMe399, hcc399⟩ := Kd.N_get HO_10.out [] x11_2 p399 (by first | exact q399 | exact of_decide_eq_true (by first | (with_reducible assumption) | assumption) | (have e_ := (Kd.N_reads' HO_10.out).1; omega))
                                    obtain ⟨ua399_0, uc399_0, rfl, ul399_0, ge399_0⟩ := Kd.FK_slice_open hMe399
                                    have hv399_0 := hcc399 0 _ rfl
                                    rw [Nat.add_zero, show ((Kd.slice 37 k37)).sz = 1 from rfl, Nat.mul_one] at hv399_0
                                    replace hv399_0 := Option.some.inj (hv399_0.symm.trans hx399_0)
                                    injection hv399_0 with hva_ hvn_ hvc_
                                    rw [hva_] at ge399_0
                                    rw [hvc_] at ul399_0
                                    have HL399_0 := Aside0.mk (show Kd.V k37 37 _ w.heap.size _ _ (rd_L4 t394 x11_2) from Kd.V_mk ul399_0 ge399_0)
                                    clear hva_ hvn_ hvc_ ge399_0 ul399_0
                                    clear hcc399 hce399
                                    have HR399_0 := Aside0.mk hi399_0
                                    have HC399_0 := Aside0.mk hl399_0
                                    clear hi399_0 hl399_0
                                    replace p399 := eq_true p399
                                    replace q399 := eq_true q399
                                    go_wp2
                                    go_meet
                                    case rel => exact ⟨_, (true), (by first | rfl | (simp; done) | (simp [*]; done)), (by first | exact H' | (subst_vars; exact H')), ⟨by have := HJ6.out; have := HK2.out; have := HJ40.out; first | omega | exact Nat.le_refl _⟩, ⟨by (with_reducible repeat (first | apply Kd.N_alloc | apply Kd.N_drewN | apply Kd.N_drew)); exact HO_7.out⟩, ⟨by (with_reducible repeat (first | apply Kd.N_alloc | apply Kd.N_drewN | apply Kd.N_drew)); exact HO_10.out⟩, ⟨by (with_reducible repeat (first | apply Kd.R_alloc | apply Kd.R_drewN | apply Kd.R_drew)); exact HO_379000.out⟩, ⟨by (with_reducible repeat (first | refine blk_drewN ?_ _ | refine blk_drew ?_ | refine blk_alloc ?_ _)); exact BK378.out⟩, ⟨by (with_reducible repeat (first | refine blk_drewN ?_ _ | refine blk_drew ?_ | refine blk_alloc ?_ _)); exact BK390.out⟩, ⟨by repeat (first | (with_reducible exact HR397_0.out) | (with_reducible refine Kd.C_alloc ?_ _) | (with_reducible refine Kd.C_drewN ?_ _) | (with_reducible refine Kd.C_drew ?_) | exact HR397_0.out)⟩, ⟨by repeat (first | (with_reducible first | exact HB.out | apply below_alloc | apply pw_below_drewN | apply below_drew1 | refine below_set ?_ GE378.out | refine below_set ?_ GE390.out) | exact HB.out)⟩⟩
                                · rw [if_neg c50] at H
                                  exact absurd H (by simp)
                              · rw [if_neg c49] at H
                                exact absurd H (by simp)
                          case rest =>
                            clear HC46
                            try clear c1
                            try clear c2
                            try clear p2
                            try clear c3
                            try clear p3
                            try clear q3
                            try clear hx3
                            try clear qi3
                            try clear c4
                            try clear p4
                            try clear q4
                            try clear hx4
                            try clear qi4
                            try clear c5
                            try clear c5b0
                            try clear c5b1
                            try clear c6
                            try clear c6b0
                            try clear c6b1
                            try clear p6
                            try clear c7
                            try clear c8
                            try clear c15
                            try clear c16
                            try clear c16b0
                            try clear c17
                            try clear c17b0
                            try clear c18
                            try clear c18b0
                            try clear c20
                            try clear c20b0
                            try clear c20b1
                            try clear c21
                            try clear c21b0
                            try clear c21b1
                            try clear c22
                            try clear c30
                            try clear c38
                            try clear c38b0
                            try clear p38
                            try clear q38
                            try clear hx38
                            try clear c39
                            try clear c39b0
                            try clear p39
                            try clear q39
                            try clear hx39
                            try clear qi39
                            try clear c40
                            try clear c40b0
                            try clear c40b1
                            try clear p40
                            try clear q40
                            try clear hx40
                            try clear qi40
                            try clear c42
                            try clear c42b0
                            try clear c42b1
                            try clear c43
                            try clear c43b0
                            try clear c43b1
                            try clear c44
                            try clear c44b0
                            try clear c44b1
                            try clear c45
                            try clear c47
                            try clear c47b0
                            try clear c49
                            try clear c49b0
                            try clear c50
                            try clear c50b0
                            try clear c51
                            try clear c51b0
                            try clear c51b1
                            try clear c52
                            try clear c52b0
                            try clear c52b1
                            try clear hcz13_0
                            try clear hcz13_1
                            try clear hcz13_2
                            try clear hcz13_3
                            try clear hcz31_0
                            try clear hcz31_1
                            try clear hcz31_2
                            try clear hcz31_3
                            try clear hcz32_0
                            try clear hcz32_1
                            try clear hcz32_2
                            try clear hcz32_3
                            try clear hfz13_0
                            try clear hfz13_1
                            try clear hfz13_2
                            try clear hfz13_3
                            try clear hfz31_0
                            try clear hfz31_1
                            try clear hfz31_2
                            try clear hfz31_3
                            try clear hfz32_0
                            try clear hfz32_1
                            try clear hfz32_2
                            try clear hfz32_3
                            try clear hx382_0
                            try clear hx383_0
                            try clear hx397_0
                            try clear hx398_0
                            try clear hx398_1
                            try clear hx399_0
                            try clear hx400_0
                            try clear hx401_0
                            try clear hx401_1
                            try clear p2
                            try clear p3
                            try clear p38
                            try clear p382
                            try clear p383
                            try clear p39
                            try clear p397
                            try clear p398
                            try clear p399
                            try clear p400
                            try clear p401
                            try clear p6
                            try clear q3
                            try clear q38
                            try clear q382
                            try clear q383
                            try clear q39
                            try clear q397
                            try clear q398
                            try clear q399
                            try clear q400
                            try clear q401
                            obtain ⟨kq, x107_45, rfl, HA, HJ45, HO_7, HO_10, HO_379000, BK378, BK390, HR397_0, HB⟩ := hcut
                            cases kq with
                            | zero => exact absurd HA.out (by simp [thresherlaw19_FilterBegins.j4])
                            | succ kj45 =>
                              have H := HA.out
                              clear HA
                              simp only [thresherlaw19_FilterBegins.j4] at H
                              by_cases c55 : x107_45 = true
                              · subst c55
                                have H1 : (some false) = some r := by rw [if_pos rfl] at H; exact H
                                clear H
                                have H := H1
                                clear H1
                                obtain rfl := Option.some.inj H
                                go_wp2
                                go_ret
                                exact ⟨by first | rfl | (simp [errW_none, errW_some] <;> rfl) | (simp only [← hji4]; first | rfl | (simp [errW_none, errW_some] <;> rfl)) | (simp [*, errW_none, errW_some] <;> rfl), by repeat (first | (with_reducible first | exact HB.out | apply below_alloc | apply pw_below_drewN | apply below_drew1 | refine below_set ?_ GE378.out | refine below_set ?_ GE390.out) | exact HB.out)⟩
                              · replace c55 := Bool.eq_false_iff.mpr c55
                                subst c55
                                have H1 : (thresherlaw19_FilterBegins.l1 kj45 tx t374 x7_6 t394 (wrap64 (x11_2 + 1)) (wrap64 (x12_2 + 1)) y375 1 1 1 0 7 0 tx) = some r := by rw [if_neg (show ¬ (false = true) by decide)] at H; exact H
                                clear H
                                have H := H1
                                clear H1
                                have H' := Aside0.mk H
                                clear H
                                go_wp2
                                go_roundg kj45
                                case measure => have := HJ6.out; have := HK2.out; have := HJ40.out; have := HJ45.out; omega
                                case rel => exact ⟨(wrap64 (x11_2 + 1)), (wrap64 (x12_2 + 1)), (by first | rfl | (simp; done) | (simp [*]; done)), (by first | rfl | (simp; done) | (simp [*]; done)), (by first | exact H' | (subst_vars; exact H')), ⟨by have := HJ6.out; have := HK2.out; have := HJ40.out; have := HJ45.out; omega⟩, ⟨by (with_reducible repeat (first | apply Kd.N_alloc | apply Kd.N_drewN | apply Kd.N_drew)); exact HO_7.out⟩, ⟨by (with_reducible repeat (first | apply Kd.N_alloc | apply Kd.N_drewN | apply Kd.N_drew)); exact HO_10.out⟩, ⟨by (with_reducible repeat (first | apply Kd.R_alloc | apply Kd.R_drewN | apply Kd.R_drew)); exact HO_379000.out⟩, ⟨by (with_reducible repeat (first | refine blk_drewN ?_ _ | refine blk_drew ?_ | refine blk_alloc ?_ _)); exact BK378.out⟩, ⟨by (with_reducible repeat (first | refine blk_drewN ?_ _ | refine blk_drew ?_ | refine blk_alloc ?_ _)); exact BK390.out⟩, ⟨by repeat (first | (with_reducible first | exact HB.out | apply below_alloc | apply pw_below_drewN | apply below_drew1 | refine below_set ?_ GE378.out | refine below_set ?_ GE390.out) | exact HB.out)⟩⟩
                        · replace c45 := Bool.eq_false_iff.mpr c45
                          subst c45
                          have H1 : (thresherlaw19_FilterBegins.l1 kj40 tx t374 x7_6 t394 x11_2 (wrap64 (x12_2 + 1)) y375 1 1 1 0 7 0 tx) = some r := by rw [if_neg (show ¬ (false = true) by decide)] at H; exact H
                          clear H
                          have H := H1
                          clear H1
                          have H' := Aside0.mk H
                          clear H
                          go_wp2
                          go_roundg kj40
                          case measure => have := HJ6.out; have := HK2.out; have := HJ40.out; omega
                          case rel => exact ⟨(x11_2), (wrap64 (x12_2 + 1)), (by first | rfl | (simp; done) | (simp [*]; done)), (by first | rfl | (simp; done) | (simp [*]; done)), (by first | exact H' | (subst_vars; exact H')), ⟨by have := HJ6.out; have := HK2.out; have := HJ40.out; omega⟩, ⟨by (with_reducible repeat (first | apply Kd.N_alloc | apply Kd.N_drewN | apply Kd.N_drew)); exact HO_7.out⟩, ⟨by (with_reducible repeat (first | apply Kd.N_alloc | apply Kd.N_drewN | apply Kd.N_drew)); exact HO_10.out⟩, ⟨by (with_reducible repeat (first | apply Kd.R_alloc | apply Kd.R_drewN | apply Kd.R_drew)); exact HO_379000.out⟩, ⟨by (with_reducible repeat (first | refine blk_drewN ?_ _ | refine blk_drew ?_ | refine blk_alloc ?_ _)); exact BK378.out⟩, ⟨by (with_reducible repeat (first | refine blk_drewN ?_ _ | refine blk_drew ?_ | refine blk_alloc ?_ _)); exact BK390.out⟩, ⟨by repeat (first | (with_reducible first | exact HB.out | apply below_alloc | apply pw_below_drewN | apply below_drew1 | refine below_set ?_ GE378.out | refine below_set ?_ GE390.out) | exact HB.out)⟩⟩
                  · rw [if_neg c40] at H
                    exact absurd H (by simp)
                · rw [if_neg c39] at H
                  exact absurd H (by simp)
              · rw [if_neg c38] at H
                have c38b0 : decide (x12_2 < (x7_6.length : Int)) = false := decide_eq_false c38
                clear c38
                obtain ⟨y402, hy402⟩ : ∃ y_ : List (S39), y_ = (([(⟨0, 7, (⟨0, (⟨#[]⟩ : ByteArray)⟩ : S37)⟩ : S39)] : List (S39))) := ⟨_, rfl⟩
                replace H : ((filter_Keep.f k2 y375 1 1 1 y402 x7_6).bind fun t405 => ((filter_Keep.f k2 y375 1 1 1 (([(⟨0, 7, (⟨0, tx⟩ : S37)⟩ : S39), (⟨0, 6, (⟨0, tx⟩ : S37)⟩ : S39)] : List (S39))) x7_6).bind fun t411 => (if t374 = true then (if x11_2 = (t394.length : Int) then (if (t405.length : Int) = (x7_6.length : Int) then (if (t411.length : Int) = x11_2 then ((filter_May.f k2 y375 1 1 1 (([(⟨0, 7, (⟨0, tx⟩ : S37)⟩ : S39)] : List (S39)))).bind fun t417 => (some t417)) else (some false)) else (some false)) else (some false)) else (some false)))) = some r := by first | (rw [hy402]; with_reducible exact H) | (have H2_ := (Option.bind_some _ _).symm.trans H; rw [hy402]; with_reducible exact H2_) | (have H2_ := (Option.bind_some _ _).symm.trans H; with_reducible exact H2_) | with_reducible exact H | (rw [hy402]; exact H) | exact H
                have Ny402 := Aside0.mk hy402
                clear hy402
                replace H := Option.bind_eq_some_iff.mp H
                obtain ⟨t405, A560, H⟩ := H
                replace H : ((filter_Keep.f k2 y375 1 1 1 (([(⟨0, 7, (⟨0, tx⟩ : S37)⟩ : S39), (⟨0, 6, (⟨0, tx⟩ : S37)⟩ : S39)] : List (S39))) x7_6).bind fun t411 => (if t374 = true then (if x11_2 = (t394.length : Int) then (if (t405.length : Int) = (x7_6.length : Int) then (if (t411.length : Int) = x11_2 then ((filter_May.f k2 y375 1 1 1 (([(⟨0, 7, (⟨0, tx⟩ : S37)⟩ : S39)] : List (S39)))).bind fun t417 => (some t417)) else (some false)) else (some false)) else (some false)) else (some false))) = some r := H
                have A56 := Aside0.mk A560
                clear A560
                obtain ⟨y408, hy408⟩ : ∃ y_ : List (S39), y_ = (([(⟨0, 7, (⟨0, tx⟩ : S37)⟩ : S39), (⟨0, 6, (⟨0, tx⟩ : S37)⟩ : S39)] : List (S39))) := ⟨_, rfl⟩
                replace H : ((filter_Keep.f k2 y375 1 1 1 y408 x7_6).bind fun t411 => (if t374 = true then (if x11_2 = (t394.length : Int) then (if (t405.length : Int) = (x7_6.length : Int) then (if (t411.length : Int) = x11_2 then ((filter_May.f k2 y375 1 1 1 (([(⟨0, 7, (⟨0, tx⟩ : S37)⟩ : S39)] : List (S39)))).bind fun t417 => (some t417)) else (some false)) else (some false)) else (some false)) else (some false))) = some r := by first | (rw [hy408]; with_reducible exact H) | (have H2_ := (Option.bind_some _ _).symm.trans H; rw [hy408]; with_reducible exact H2_) | (have H2_ := (Option.bind_some _ _).symm.trans H; with_reducible exact H2_) | with_reducible exact H | (rw [hy408]; exact H) | exact H
                have Ny408 := Aside0.mk hy408
                clear hy408
                replace H := Option.bind_eq_some_iff.mp H
                obtain ⟨t411, A570, H⟩ := H
                replace H : (if t374 = true then (if x11_2 = (t394.length : Int) then (if (t405.length : Int) = (x7_6.length : Int) then (if (t411.length : Int) = x11_2 then ((filter_May.f k2 y375 1 1 1 (([(⟨0, 7, (⟨0, tx⟩ : S37)⟩ : S39)] : List (S39)))).bind fun t417 => (some t417)) else (some false)) else (some false)) else (some false)) else (some false)) = some r := H
                have A57 := Aside0.mk A570
                clear A570
                by_cases c58 : t374 = true
                · subst c58
                  have H1 : (if x11_2 = (t394.length : Int) then (if (t405.length : Int) = (x7_6.length : Int) then (if (t411.length : Int) = x11_2 then ((filter_May.f k2 y375 1 1 1 (([(⟨0, 7, (⟨0, tx⟩ : S37)⟩ : S39)] : List (S39)))).bind fun t417 => (some t417)) else (some false)) else (some false)) else (some false)) = some r := by rw [if_pos rfl] at H; exact H
                  clear H
                  have H := H1
                  clear H1
                  by_cases c59 : x11_2 = (t394.length : Int)
                  · rw [if_pos c59] at H
                    have c59b0 : (x11_2 == (t394.length : Int)) = true := beq_iff_eq.mpr c59
                    have c59b1 : (x11_2 != (t394.length : Int)) = false := bne_eq_false_iff_eq.mpr c59
                    clear c59
                    by_cases c60 : (t405.length : Int) = (x7_6.length : Int)
                    · rw [if_pos c60] at H
                      have c60b0 : ((t405.length : Int) == (x7_6.length : Int)) = true := beq_iff_eq.mpr c60
                      have c60b1 : ((t405.length : Int) != (x7_6.length : Int)) = false := bne_eq_false_iff_eq.mpr c60
                      have c60b2 : (t405.length == x7_6.length) = true := by first | simpa using c60 | (simp at c60 ⊢; omega)
                      clear c60
                      by_cases c61 : (t411.length : Int) = x11_2
                      · rw [if_pos c61] at H
                        have c61b0 : ((t411.length : Int) == x11_2) = true := beq_iff_eq.mpr c61
                        have c61b1 : ((t411.length : Int) != x11_2) = false := bne_eq_false_iff_eq.mpr c61
                        clear c61
                        obtain ⟨y414, hy414⟩ : ∃ y_ : List (S39), y_ = (([(⟨0, 7, (⟨0, tx⟩ : S37)⟩ : S39)] : List (S39))) := ⟨_, rfl⟩
                        replace H : ((filter_May.f k2 y375 1 1 1 y414).bind fun t417 => (some t417)) = some r := by first | (rw [hy414]; with_reducible exact H) | (have H2_ := (Option.bind_some _ _).symm.trans H; rw [hy414]; with_reducible exact H2_) | (have H2_ := (Option.bind_some _ _).symm.trans H; with_reducible exact H2_) | with_reducible exact H | (rw [hy414]; exact H) | exact H
                        have Ny414 := Aside0.mk hy414
                        clear hy414
                        replace H := Option.bind_eq_some_iff.mp H
                        obtain ⟨t417, A620, H⟩ := H
                        replace H : (some t417) = some r := H
                        have A62 := Aside0.mk A620
                        clear A620
                        obtain rfl := Option.some.inj H
                        have hnb63 := NB378_390.out
                        have hnc63 := NB390_378.out
                        have hcz64_0 : wr.cell? ⟨gb378, 0, none⟩ = some (.slice Ao11 y375.length co11) := (blk_cell BK378.out 0).trans rfl
                        have hcz64_1 : wr.cell? ⟨gb378, 1, none⟩ = some (.int .i64 1) := (blk_cell BK378.out 1).trans rfl
                        have hcz64_2 : wr.cell? ⟨gb378, 2, none⟩ = some (.int .i64 1) := (blk_cell BK378.out 2).trans rfl
                        have hcz64_3 : wr.cell? ⟨gb378, 3, none⟩ = some (.int .i64 1) := (blk_cell BK378.out 3).trans rfl
                        have hfz64_0 := blk_frozen BK378.out 0
                        have hfz64_1 := blk_frozen BK378.out 1
                        have hfz64_2 := blk_frozen BK378.out 2
                        have hfz64_3 := blk_frozen BK378.out 3
                        go_wp2_with (first | ((with_reducible refine gate_dst (N := 112) rfl ?_); (try (refine gate_guard (by rfl) ?_; dsimp only)); refine Kd.R_lit k39 _ 39 ?hg (N := 112) ?hd (xs := ([(⟨0, 7, (⟨0, (⟨#[]⟩ : ByteArray)⟩ : S37)⟩ : S39)] : List (S39))) (inner := [.int .i64 0, .int .i64 7, .int .i64 0, .string (⟨#[]⟩ : ByteArray)]) (ok := fun _ => True) (okp := fun _ => True) ?hr ?hp (fun _ hk => hk) trivial (Below.refl _ _) (Nat.le_refl _) (by simp) ?_; (case hd => rfl); (case hg => rfl); (case hr => first | (go_simp; done) | (go_simp; rfl)); (case hp => exact (Reps.c4 (show Kd.M k39 _ _ _ (⟨0, 7, (⟨0, (⟨#[]⟩ : ByteArray)⟩ : S37)⟩ : S39) [.int .i64 0, .int .i64 7, .int .i64 0, .string (⟨#[]⟩ : ByteArray)] from (k39_mkM _ _ _ (⟨0, 7, (⟨0, (⟨#[]⟩ : ByteArray)⟩ : S37)⟩ : S39) )) (Reps.none _ _))); intro v403 w65 ho66 hb hg_ hnew_; clear hg_ hnew_; (first | rw [← Ny402.out] at ho66 | (simp only [Int.reduceToNat] at ho66; rw [← Ny402.out] at ho66)); have n0_ := Aside0.mk (Kd.N_elder' (by (with_reducible repeat (first | apply Kd.N_alloc | apply Kd.N_drewN | apply Kd.N_drew)); exact HO_7.out) (Kd.R_base ho66) hb); have n1_ := Aside0.mk (Kd.N_elder' (by (with_reducible repeat (first | apply Kd.N_alloc | apply Kd.N_drewN | apply Kd.N_drew)); exact HO_10.out) (Kd.R_base ho66) hb); have n2_ := Aside0.mk (Kd.R_below (by (with_reducible repeat (first | apply Kd.R_alloc | apply Kd.R_drewN | apply Kd.R_drew)); exact HO_379000.out) hb); have n3_ := Aside0.mk (Kd.R_lower (Kd.R_newB ho66 (g := gb390) (o := .cells #[.int .i64 0, .int .i64 7, .int .i64 0, .string tx] 39 (0, 0)) (by (with_reducible repeat (first | refine blk_drewN ?_ _ | refine blk_drew ?_ | refine blk_alloc ?_ _)); exact BK390.out)) (below_size (by repeat (first | (with_reducible first | exact HB.out | apply below_alloc | apply pw_below_drewN | apply below_drew1 | refine below_set ?_ GE378.out | refine below_set ?_ GE390.out) | exact HB.out)))); have n4_ := Aside0.mk (blk_below (g := gb378) (o := .cells #[.slice Ao11 y375.length co11, .int .i64 1, .int .i64 1, .int .i64 1] 32 (0, 0)) (by (with_reducible repeat (first | refine blk_drewN ?_ _ | refine blk_drew ?_ | refine blk_alloc ?_ _)); exact BK378.out) hb); have n5_ := Aside0.mk (blk_below (g := gb390) (o := .cells #[.int .i64 0, .int .i64 7, .int .i64 0, .string tx] 39 (0, 0)) (by (with_reducible repeat (first | refine blk_drewN ?_ _ | refine blk_drew ?_ | refine blk_alloc ?_ _)); exact BK390.out) hb); have n6_ := Aside0.mk (below_step (by repeat (first | (with_reducible first | exact HB.out | apply below_alloc | apply pw_below_drewN | apply below_drew1 | refine below_set ?_ GE378.out | refine below_set ?_ GE390.out) | exact HB.out)) hb); clear HO_7; clear HO_10; clear HO_379000; clear BK378; clear BK390; clear HB; have HO_7 := n0_; have HO_10 := n1_; have HO_379000 := n2_; have HO404 := n3_; have BK378 := n4_; have BK390 := n5_; have HB := n6_; clear n0_ n1_ n2_ n3_ n4_ n5_ n6_; clear hb ho66; obtain ⟨Ao67, co67, eo67⟩ := Kd.R_slice HO404.out; subst eo67) | ((with_reducible refine gate_callee (f := 15) rfl ?_); refine goesL_ (some 114) rfl rfl Try.func15 (by kernel_rfl) rfl #[.agg #[.slice Ao11 y375.length co11, .int .i64 1, .int .i64 1, .int .i64 1], .slice Ao67 y402.length co67, .slice Ao36 x7_6.length co36] rfl (by (try simp only [List.map_toArray, List.map_cons, List.map_nil]); first | done | rfl | (simp only [List.length_drop, List.length_take]; rfl)) ?_; (with_reducible refine (filter_Keep.calls k2 _ _ y375 1 1 1 _ _ y402 (fun k_ => ((some k_ ≠ (v395 : Value).ownBlock ∧ (some k_ ≠ (.slice Ao11 y375.length co11 : Value).ownBlock ∧ (k_ ≠ gb378 ∧ k_ ≠ gb390))) ∧ some k_ ≠ (.slice Ao67 y402.length co67 : Value).ownBlock)) _ _ x7_6 t405 _ ?side1 ?side2 ?side3 ?side4 ?side5 A56.out).mono ?_); (case side1 => repeat (first | exact (Kd.R_reads' HO_379000.out).2.2 | (with_reducible refine Kd.C_alloc ?_ _) | (with_reducible refine Kd.C_drewN ?_ _) | (with_reducible refine Kd.C_drew ?_))); (case side2 => exact (Kd.R_reads' HO_379000.out).2.1); (case side3 => repeat (first | exact (Kd.R_reads' HO404.out).2.2 | (with_reducible refine Kd.C_alloc ?_ _) | (with_reducible refine Kd.C_drewN ?_ _) | (with_reducible refine Kd.C_drew ?_))); (case side4 => exact (Kd.R_reads' HO404.out).2.1); (case side5 => exact Kd.N_V (HO_7.out)); rintro e w68 ⟨v406, rfl, ho0, hb⟩; refine ⟨_, rfl, ?_⟩; have n0_ := Aside0.mk (Kd.N_elder' (by (with_reducible repeat (first | apply Kd.N_alloc | apply Kd.N_drewN | apply Kd.N_drew)); exact HO_7.out) (by first | exact Kd.N_base ho0 | exact Kd.S_base ho0) hb); have n1_ := Aside0.mk (Kd.N_elder' (by (with_reducible repeat (first | apply Kd.N_alloc | apply Kd.N_drewN | apply Kd.N_drew)); exact HO_10.out) (by first | exact Kd.N_base ho0 | exact Kd.S_base ho0) hb); have n2_ := Aside0.mk (Kd.R_below (by (with_reducible repeat (first | apply Kd.R_alloc | apply Kd.R_drewN | apply Kd.R_drew)); exact HO_379000.out) hb); have n3_ := Aside0.mk (Kd.R_below (by (with_reducible repeat (first | apply Kd.R_alloc | apply Kd.R_drewN | apply Kd.R_drew)); exact HO404.out) hb); have n4_ := Aside0.mk (Kd.N_lower (Kd.N_mono (ok' := fun k_ => some k_ ≠ (v395 : Value).ownBlock ∧ some k_ ≠ (.slice Ao11 y375.length co11 : Value).ownBlock ∧ some k_ ≠ (.slice Ao67 y402.length co67 : Value).ownBlock ∧ k_ ≠ gb378 ∧ k_ ≠ gb390) ho0 (fun k_ hk_ => ⟨Or.elim hk_ (fun hs_ => hs_.1.1) (fun hn_ => (Kd.fresh' (Kd.N_lt (by (with_reducible repeat (first | apply Kd.N_alloc | apply Kd.N_drewN | apply Kd.N_drew)); exact HO_10.out)) k_ hn_)), Or.elim hk_ (fun hs_ => hs_.1.2.1) (fun hn_ => (Kd.fresh' (Kd.R_lt (by (with_reducible repeat (first | apply Kd.R_alloc | apply Kd.R_drewN | apply Kd.R_drew)); exact HO_379000.out)) k_ hn_)), Or.elim hk_ (fun hs_ => hs_.2) (fun hn_ => (Kd.fresh' (Kd.R_lt (by (with_reducible repeat (first | apply Kd.R_alloc | apply Kd.R_drewN | apply Kd.R_drew)); exact HO404.out)) k_ hn_)), Or.elim hk_ (fun hs_ => hs_.1.2.2.1) (fun hn_ => (Kd.freshB (g := gb378) (o := .cells #[.slice Ao11 y375.length co11, .int .i64 1, .int .i64 1, .int .i64 1] 32 (0, 0)) (by (with_reducible repeat (first | refine blk_drewN ?_ _ | refine blk_drew ?_ | refine blk_alloc ?_ _)); exact BK378.out) k_ hn_)), Or.elim hk_ (fun hs_ => hs_.1.2.2.2) (fun hn_ => (Kd.freshB (g := gb390) (o := .cells #[.int .i64 0, .int .i64 7, .int .i64 0, .string tx] 39 (0, 0)) (by (with_reducible repeat (first | refine blk_drewN ?_ _ | refine blk_drew ?_ | refine blk_alloc ?_ _)); exact BK390.out) k_ hn_))⟩)) (below_size (by repeat (first | (with_reducible first | exact HB.out | apply below_alloc | apply pw_below_drewN | apply below_drew1 | refine below_set ?_ GE378.out | refine below_set ?_ GE390.out) | exact HB.out)))); have n5_ := Aside0.mk (blk_below (g := gb378) (o := .cells #[.slice Ao11 y375.length co11, .int .i64 1, .int .i64 1, .int .i64 1] 32 (0, 0)) (by (with_reducible repeat (first | refine blk_drewN ?_ _ | refine blk_drew ?_ | refine blk_alloc ?_ _)); exact BK378.out) hb); have n6_ := Aside0.mk (blk_below (g := gb390) (o := .cells #[.int .i64 0, .int .i64 7, .int .i64 0, .string tx] 39 (0, 0)) (by (with_reducible repeat (first | refine blk_drewN ?_ _ | refine blk_drew ?_ | refine blk_alloc ?_ _)); exact BK390.out) hb); have n7_ := Aside0.mk (below_step (by repeat (first | (with_reducible first | exact HB.out | apply below_alloc | apply pw_below_drewN | apply below_drew1 | refine below_set ?_ GE378.out | refine below_set ?_ GE390.out) | exact HB.out)) hb); clear HO_7; clear HO_10; clear HO_379000; clear HO404; clear BK378; clear BK390; clear HB; have HO_7 := n0_; have HO_10 := n1_; have HO_379000 := n2_; have HO404 := n3_; have HO407 := n4_; have BK378 := n5_; have BK390 := n6_; have HB := n7_; clear n0_ n1_ n2_ n3_ n4_ n5_ n6_ n7_; (try clear hb); (try clear hb2); (try clear hk); (try clear hi); (try clear ho0); have hcz69_0 : w68.cell? ⟨gb378, 0, none⟩ = some (.slice Ao11 y375.length co11) := (blk_cell BK378.out 0).trans rfl; have hcz69_1 : w68.cell? ⟨gb378, 1, none⟩ = some (.int .i64 1) := (blk_cell BK378.out 1).trans rfl; have hcz69_2 : w68.cell? ⟨gb378, 2, none⟩ = some (.int .i64 1) := (blk_cell BK378.out 2).trans rfl; have hcz69_3 : w68.cell? ⟨gb378, 3, none⟩ = some (.int .i64 1) := (blk_cell BK378.out 3).trans rfl; have hfz69_0 := blk_frozen BK378.out 0; have hfz69_1 := blk_frozen BK378.out 1; have hfz69_2 := blk_frozen BK378.out 2; have hfz69_3 := blk_frozen BK378.out 3; have hcz70_0 : w68.cell? ⟨gb390, 0, none⟩ = some (.int .i64 0) := (blk_cell BK390.out 0).trans rfl; have hcz70_1 : w68.cell? ⟨gb390, 1, none⟩ = some (.int .i64 7) := (blk_cell BK390.out 1).trans rfl; have hcz70_2 : w68.cell? ⟨gb390, 2, none⟩ = some (.int .i64 0) := (blk_cell BK390.out 2).trans rfl; have hcz70_3 : w68.cell? ⟨gb390, 3, none⟩ = some (.string tx) := (blk_cell BK390.out 3).trans rfl; have hfz70_0 := blk_frozen BK390.out 0; have hfz70_1 := blk_frozen BK390.out 1; have hfz70_2 := blk_frozen BK390.out 2; have hfz70_3 := blk_frozen BK390.out 3) | ((with_reducible refine gate_dst (N := 120) rfl ?_); (try (refine gate_guard (by rfl) ?_; dsimp only)); refine Kd.R_lit k39 _ 39 ?hg (N := 120) ?hd (xs := ([(⟨0, 7, (⟨0, tx⟩ : S37)⟩ : S39), (⟨0, 6, (⟨0, tx⟩ : S37)⟩ : S39)] : List (S39))) (inner := [.int .i64 0, .int .i64 7, .int .i64 0, .string tx, .int .i64 0, .int .i64 6, .int .i64 0, .string tx]) (ok := fun _ => True) (okp := fun _ => True) ?hr ?hp (fun _ hk => hk) trivial (Below.refl _ _) (Nat.le_refl _) (by simp) ?_; (case hd => rfl); (case hg => rfl); (case hr => first | (go_simp; done) | (go_simp; rfl)); (case hp => exact (Reps.c4 (show Kd.M k39 _ _ _ (⟨0, 7, (⟨0, tx⟩ : S37)⟩ : S39) [.int .i64 0, .int .i64 7, .int .i64 0, .string tx] from (k39_mkM _ _ _ (⟨0, 7, (⟨0, tx⟩ : S37)⟩ : S39) )) (Reps.c4 (show Kd.M k39 _ _ _ (⟨0, 6, (⟨0, tx⟩ : S37)⟩ : S39) [.int .i64 0, .int .i64 6, .int .i64 0, .string tx] from (k39_mkM _ _ _ (⟨0, 6, (⟨0, tx⟩ : S37)⟩ : S39) )) (Reps.none _ _)))); intro v409 w71 ho72 hb hg_ hnew_; clear hg_ hnew_; (first | rw [← Ny408.out] at ho72 | (simp only [Int.reduceToNat] at ho72; rw [← Ny408.out] at ho72)); have n0_ := Aside0.mk (Kd.N_elder' (by (with_reducible repeat (first | apply Kd.N_alloc | apply Kd.N_drewN | apply Kd.N_drew)); exact HO_7.out) (Kd.R_base ho72) hb); have n1_ := Aside0.mk (Kd.N_elder' (by (with_reducible repeat (first | apply Kd.N_alloc | apply Kd.N_drewN | apply Kd.N_drew)); exact HO_10.out) (Kd.R_base ho72) hb); have n2_ := Aside0.mk (Kd.R_below (by (with_reducible repeat (first | apply Kd.R_alloc | apply Kd.R_drewN | apply Kd.R_drew)); exact HO_379000.out) hb); have n3_ := Aside0.mk (Kd.R_elder' (by (with_reducible repeat (first | apply Kd.R_alloc | apply Kd.R_drewN | apply Kd.R_drew)); exact HO404.out) (Kd.R_base ho72) hb); have n4_ := Aside0.mk (Kd.N_elder' (by (with_reducible repeat (first | apply Kd.N_alloc | apply Kd.N_drewN | apply Kd.N_drew)); exact HO407.out) (Kd.R_base ho72) hb); have n5_ := Aside0.mk (Kd.R_lower (Kd.R_newB (Kd.R_new' ho72 (Kd.R_lt (by (with_reducible repeat (first | apply Kd.R_alloc | apply Kd.R_drewN | apply Kd.R_drew)); exact HO404.out))) (g := gb390) (o := .cells #[.int .i64 0, .int .i64 7, .int .i64 0, .string tx] 39 (0, 0)) (by (with_reducible repeat (first | refine blk_drewN ?_ _ | refine blk_drew ?_ | refine blk_alloc ?_ _)); exact BK390.out)) (below_size (by repeat (first | (with_reducible first | exact HB.out | apply below_alloc | apply pw_below_drewN | apply below_drew1 | refine below_set ?_ GE378.out | refine below_set ?_ GE390.out) | exact HB.out)))); have n6_ := Aside0.mk (blk_below (g := gb378) (o := .cells #[.slice Ao11 y375.length co11, .int .i64 1, .int .i64 1, .int .i64 1] 32 (0, 0)) (by (with_reducible repeat (first | refine blk_drewN ?_ _ | refine blk_drew ?_ | refine blk_alloc ?_ _)); exact BK378.out) hb); have n7_ := Aside0.mk (blk_below (g := gb390) (o := .cells #[.int .i64 0, .int .i64 7, .int .i64 0, .string tx] 39 (0, 0)) (by (with_reducible repeat (first | refine blk_drewN ?_ _ | refine blk_drew ?_ | refine blk_alloc ?_ _)); exact BK390.out) hb); have n8_ := Aside0.mk (below_step (by repeat (first | (with_reducible first | exact HB.out | apply below_alloc | apply pw_below_drewN | apply below_drew1 | refine below_set ?_ GE378.out | refine below_set ?_ GE390.out) | exact HB.out)) hb); clear HO_7; clear HO_10; clear HO_379000; clear HO404; clear HO407; clear BK378; clear BK390; clear HB; have HO_7 := n0_; have HO_10 := n1_; have HO_379000 := n2_; have HO404 := n3_; have HO407 := n4_; have HO410 := n5_; have BK378 := n6_; have BK390 := n7_; have HB := n8_; clear n0_ n1_ n2_ n3_ n4_ n5_ n6_ n7_ n8_; clear hb ho72; obtain ⟨Ao73, co73, eo73⟩ := Kd.R_slice HO410.out; subst eo73) | ((with_reducible refine gate_callee (f := 15) rfl ?_); refine goesL_ (some 122) rfl rfl Try.func15 (by kernel_rfl) rfl #[.agg #[.slice Ao11 y375.length co11, .int .i64 1, .int .i64 1, .int .i64 1], .slice Ao73 y408.length co73, .slice Ao36 x7_6.length co36] rfl (by (try simp only [List.map_toArray, List.map_cons, List.map_nil]); first | done | rfl | (simp only [List.length_drop, List.length_take]; rfl)) ?_; (with_reducible refine (filter_Keep.calls k2 _ _ y375 1 1 1 _ _ y408 (fun k_ => ((((some k_ ≠ (v395 : Value).ownBlock ∧ (some k_ ≠ (.slice Ao11 y375.length co11 : Value).ownBlock ∧ (k_ ≠ gb378 ∧ k_ ≠ gb390))) ∧ some k_ ≠ (.slice Ao67 y402.length co67 : Value).ownBlock) ∧ some k_ ≠ (v406 : Value).ownBlock) ∧ some k_ ≠ (.slice Ao73 y408.length co73 : Value).ownBlock)) _ _ x7_6 t411 _ ?side1 ?side2 ?side3 ?side4 ?side5 A57.out).mono ?_); (case side1 => repeat (first | exact (Kd.R_reads' HO_379000.out).2.2 | (with_reducible refine Kd.C_alloc ?_ _) | (with_reducible refine Kd.C_drewN ?_ _) | (with_reducible refine Kd.C_drew ?_))); (case side2 => exact (Kd.R_reads' HO_379000.out).2.1); (case side3 => repeat (first | exact (Kd.R_reads' HO410.out).2.2 | (with_reducible refine Kd.C_alloc ?_ _) | (with_reducible refine Kd.C_drewN ?_ _) | (with_reducible refine Kd.C_drew ?_))); (case side4 => exact (Kd.R_reads' HO410.out).2.1); (case side5 => exact Kd.N_V (HO_7.out)); rintro e w74 ⟨v412, rfl, ho0, hb⟩; refine ⟨_, rfl, ?_⟩; have n0_ := Aside0.mk (Kd.N_elder' (by (with_reducible repeat (first | apply Kd.N_alloc | apply Kd.N_drewN | apply Kd.N_drew)); exact HO_7.out) (by first | exact Kd.N_base ho0 | exact Kd.S_base ho0) hb); have n1_ := Aside0.mk (Kd.N_elder' (by (with_reducible repeat (first | apply Kd.N_alloc | apply Kd.N_drewN | apply Kd.N_drew)); exact HO_10.out) (by first | exact Kd.N_base ho0 | exact Kd.S_base ho0) hb); have n2_ := Aside0.mk (Kd.R_below (by (with_reducible repeat (first | apply Kd.R_alloc | apply Kd.R_drewN | apply Kd.R_drew)); exact HO_379000.out) hb); have n3_ := Aside0.mk (Kd.R_below (by (with_reducible repeat (first | apply Kd.R_alloc | apply Kd.R_drewN | apply Kd.R_drew)); exact HO404.out) hb); have n4_ := Aside0.mk (Kd.N_elder' (by (with_reducible repeat (first | apply Kd.N_alloc | apply Kd.N_drewN | apply Kd.N_drew)); exact HO407.out) (by first | exact Kd.N_base ho0 | exact Kd.S_base ho0) hb); have n5_ := Aside0.mk (Kd.R_below (by (with_reducible repeat (first | apply Kd.R_alloc | apply Kd.R_drewN | apply Kd.R_drew)); exact HO410.out) hb); have n6_ := Aside0.mk (Kd.N_lower (Kd.N_mono (ok' := fun k_ => some k_ ≠ (v395 : Value).ownBlock ∧ some k_ ≠ (.slice Ao11 y375.length co11 : Value).ownBlock ∧ some k_ ≠ (.slice Ao67 y402.length co67 : Value).ownBlock ∧ some k_ ≠ (v406 : Value).ownBlock ∧ some k_ ≠ (.slice Ao73 y408.length co73 : Value).ownBlock ∧ k_ ≠ gb378 ∧ k_ ≠ gb390) ho0 (fun k_ hk_ => ⟨Or.elim hk_ (fun hs_ => hs_.1.1.1.1) (fun hn_ => (Kd.fresh' (Kd.N_lt (by (with_reducible repeat (first | apply Kd.N_alloc | apply Kd.N_drewN | apply Kd.N_drew)); exact HO_10.out)) k_ hn_)), Or.elim hk_ (fun hs_ => hs_.1.1.1.2.1) (fun hn_ => (Kd.fresh' (Kd.R_lt (by (with_reducible repeat (first | apply Kd.R_alloc | apply Kd.R_drewN | apply Kd.R_drew)); exact HO_379000.out)) k_ hn_)), Or.elim hk_ (fun hs_ => hs_.1.1.2) (fun hn_ => (Kd.fresh' (Kd.R_lt (by (with_reducible repeat (first | apply Kd.R_alloc | apply Kd.R_drewN | apply Kd.R_drew)); exact HO404.out)) k_ hn_)), Or.elim hk_ (fun hs_ => hs_.1.2) (fun hn_ => (Kd.fresh' (Kd.N_lt (by (with_reducible repeat (first | apply Kd.N_alloc | apply Kd.N_drewN | apply Kd.N_drew)); exact HO407.out)) k_ hn_)), Or.elim hk_ (fun hs_ => hs_.2) (fun hn_ => (Kd.fresh' (Kd.R_lt (by (with_reducible repeat (first | apply Kd.R_alloc | apply Kd.R_drewN | apply Kd.R_drew)); exact HO410.out)) k_ hn_)), Or.elim hk_ (fun hs_ => hs_.1.1.1.2.2.1) (fun hn_ => (Kd.freshB (g := gb378) (o := .cells #[.slice Ao11 y375.length co11, .int .i64 1, .int .i64 1, .int .i64 1] 32 (0, 0)) (by (with_reducible repeat (first | refine blk_drewN ?_ _ | refine blk_drew ?_ | refine blk_alloc ?_ _)); exact BK378.out) k_ hn_)), Or.elim hk_ (fun hs_ => hs_.1.1.1.2.2.2) (fun hn_ => (Kd.freshB (g := gb390) (o := .cells #[.int .i64 0, .int .i64 7, .int .i64 0, .string tx] 39 (0, 0)) (by (with_reducible repeat (first | refine blk_drewN ?_ _ | refine blk_drew ?_ | refine blk_alloc ?_ _)); exact BK390.out) k_ hn_))⟩)) (below_size (by repeat (first | (with_reducible first | exact HB.out | apply below_alloc | apply pw_below_drewN | apply below_drew1 | refine below_set ?_ GE378.out | refine below_set ?_ GE390.out) | exact HB.out)))); have n7_ := Aside0.mk (blk_below (g := gb378) (o := .cells #[.slice Ao11 y375.length co11, .int .i64 1, .int .i64 1, .int .i64 1] 32 (0, 0)) (by (with_reducible repeat (first | refine blk_drewN ?_ _ | refine blk_drew ?_ | refine blk_alloc ?_ _)); exact BK378.out) hb); have n8_ := Aside0.mk (blk_below (g := gb390) (o := .cells #[.int .i64 0, .int .i64 7, .int .i64 0, .string tx] 39 (0, 0)) (by (with_reducible repeat (first | refine blk_drewN ?_ _ | refine blk_drew ?_ | refine blk_alloc ?_ _)); exact BK390.out) hb); have n9_ := Aside0.mk (below_step (by repeat (first | (with_reducible first | exact HB.out | apply below_alloc | apply pw_below_drewN | apply below_drew1 | refine below_set ?_ GE378.out | refine below_set ?_ GE390.out) | exact HB.out)) hb); clear HO_7; clear HO_10; clear HO_379000; clear HO404; clear HO407; clear HO410; clear BK378; clear BK390; clear HB; have HO_7 := n0_; have HO_10 := n1_; have HO_379000 := n2_; have HO404 := n3_; have HO407 := n4_; have HO410 := n5_; have HO413 := n6_; have BK378 := n7_; have BK390 := n8_; have HB := n9_; clear n0_ n1_ n2_ n3_ n4_ n5_ n6_ n7_ n8_ n9_; (try clear hb); (try clear hb2); (try clear hk); (try clear hi); (try clear ho0); obtain ⟨Ao75, co75, eo75⟩ := Kd.N_slice HO_10.out; subst eo75; obtain ⟨Ao76, co76, eo76⟩ := Kd.N_slice HO407.out; subst eo76; obtain ⟨Ao77, co77, eo77⟩ := Kd.N_slice HO413.out; subst eo77; have hcz78_0 : w74.cell? ⟨gb378, 0, none⟩ = some (.slice Ao11 y375.length co11) := (blk_cell BK378.out 0).trans rfl; have hcz78_1 : w74.cell? ⟨gb378, 1, none⟩ = some (.int .i64 1) := (blk_cell BK378.out 1).trans rfl; have hcz78_2 : w74.cell? ⟨gb378, 2, none⟩ = some (.int .i64 1) := (blk_cell BK378.out 2).trans rfl; have hcz78_3 : w74.cell? ⟨gb378, 3, none⟩ = some (.int .i64 1) := (blk_cell BK378.out 3).trans rfl; have hfz78_0 := blk_frozen BK378.out 0; have hfz78_1 := blk_frozen BK378.out 1; have hfz78_2 := blk_frozen BK378.out 2; have hfz78_3 := blk_frozen BK378.out 3; have hcz79_0 : w74.cell? ⟨gb390, 0, none⟩ = some (.int .i64 0) := (blk_cell BK390.out 0).trans rfl; have hcz79_1 : w74.cell? ⟨gb390, 1, none⟩ = some (.int .i64 7) := (blk_cell BK390.out 1).trans rfl; have hcz79_2 : w74.cell? ⟨gb390, 2, none⟩ = some (.int .i64 0) := (blk_cell BK390.out 2).trans rfl; have hcz79_3 : w74.cell? ⟨gb390, 3, none⟩ = some (.string tx) := (blk_cell BK390.out 3).trans rfl; have hfz79_0 := blk_frozen BK390.out 0; have hfz79_1 := blk_frozen BK390.out 1; have hfz79_2 := blk_frozen BK390.out 2; have hfz79_3 := blk_frozen BK390.out 3) | ((with_reducible refine gate_dst (N := 146) rfl ?_); (try (refine gate_guard (by rfl) ?_; dsimp only)); refine Kd.R_lit k39 _ 39 ?hg (N := 146) ?hd (xs := ([(⟨0, 7, (⟨0, tx⟩ : S37)⟩ : S39)] : List (S39))) (inner := [.int .i64 0, .int .i64 7, .int .i64 0, .string tx]) (ok := fun _ => True) (okp := fun _ => True) ?hr ?hp (fun _ hk => hk) trivial (Below.refl _ _) (Nat.le_refl _) (by simp) ?_; (case hd => rfl); (case hg => rfl); (case hr => first | (go_simp; done) | (go_simp; rfl)); (case hp => exact (Reps.c4 (show Kd.M k39 _ _ _ (⟨0, 7, (⟨0, tx⟩ : S37)⟩ : S39) [.int .i64 0, .int .i64 7, .int .i64 0, .string tx] from (k39_mkM _ _ _ (⟨0, 7, (⟨0, tx⟩ : S37)⟩ : S39) )) (Reps.none _ _))); intro v415 w80 ho81 hb hg_ hnew_; clear hg_ hnew_; (first | rw [← Ny414.out] at ho81 | (simp only [Int.reduceToNat] at ho81; rw [← Ny414.out] at ho81)); have n0_ := Aside0.mk (Kd.N_elder' (by (with_reducible repeat (first | apply Kd.N_alloc | apply Kd.N_drewN | apply Kd.N_drew)); exact HO_7.out) (Kd.R_base ho81) hb); have n1_ := Aside0.mk (Kd.N_elder' (by (with_reducible repeat (first | apply Kd.N_alloc | apply Kd.N_drewN | apply Kd.N_drew)); exact HO_10.out) (Kd.R_base ho81) hb); have n2_ := Aside0.mk (Kd.R_below (by (with_reducible repeat (first | apply Kd.R_alloc | apply Kd.R_drewN | apply Kd.R_drew)); exact HO_379000.out) hb); have n3_ := Aside0.mk (Kd.R_elder' (by (with_reducible repeat (first | apply Kd.R_alloc | apply Kd.R_drewN | apply Kd.R_drew)); exact HO404.out) (Kd.R_base ho81) hb); have n4_ := Aside0.mk (Kd.N_elder' (by (with_reducible repeat (first | apply Kd.N_alloc | apply Kd.N_drewN | apply Kd.N_drew)); exact HO407.out) (Kd.R_base ho81) hb); have n5_ := Aside0.mk (Kd.R_elder' (by (with_reducible repeat (first | apply Kd.R_alloc | apply Kd.R_drewN | apply Kd.R_drew)); exact HO410.out) (Kd.R_base ho81) hb); have n6_ := Aside0.mk (Kd.N_elder' (by (with_reducible repeat (first | apply Kd.N_alloc | apply Kd.N_drewN | apply Kd.N_drew)); exact HO413.out) (Kd.R_base ho81) hb); have n7_ := Aside0.mk (Kd.R_lower (Kd.R_newB (Kd.R_new' (Kd.R_new' ho81 (Kd.R_lt (by (with_reducible repeat (first | apply Kd.R_alloc | apply Kd.R_drewN | apply Kd.R_drew)); exact HO404.out))) (Kd.R_lt (by (with_reducible repeat (first | apply Kd.R_alloc | apply Kd.R_drewN | apply Kd.R_drew)); exact HO410.out))) (g := gb390) (o := .cells #[.int .i64 0, .int .i64 7, .int .i64 0, .string tx] 39 (0, 0)) (by (with_reducible repeat (first | refine blk_drewN ?_ _ | refine blk_drew ?_ | refine blk_alloc ?_ _)); exact BK390.out)) (below_size (by repeat (first | (with_reducible first | exact HB.out | apply below_alloc | apply pw_below_drewN | apply below_drew1 | refine below_set ?_ GE378.out | refine below_set ?_ GE390.out) | exact HB.out)))); have n8_ := Aside0.mk (blk_below (g := gb378) (o := .cells #[.slice Ao11 y375.length co11, .int .i64 1, .int .i64 1, .int .i64 1] 32 (0, 0)) (by (with_reducible repeat (first | refine blk_drewN ?_ _ | refine blk_drew ?_ | refine blk_alloc ?_ _)); exact BK378.out) hb); have n9_ := Aside0.mk (blk_below (g := gb390) (o := .cells #[.int .i64 0, .int .i64 7, .int .i64 0, .string tx] 39 (0, 0)) (by (with_reducible repeat (first | refine blk_drewN ?_ _ | refine blk_drew ?_ | refine blk_alloc ?_ _)); exact BK390.out) hb); have n10_ := Aside0.mk (below_step (by repeat (first | (with_reducible first | exact HB.out | apply below_alloc | apply pw_below_drewN | apply below_drew1 | refine below_set ?_ GE378.out | refine below_set ?_ GE390.out) | exact HB.out)) hb); clear HO_7; clear HO_10; clear HO_379000; clear HO404; clear HO407; clear HO410; clear HO413; clear BK378; clear BK390; clear HB; have HO_7 := n0_; have HO_10 := n1_; have HO_379000 := n2_; have HO404 := n3_; have HO407 := n4_; have HO410 := n5_; have HO413 := n6_; have HO416 := n7_; have BK378 := n8_; have BK390 := n9_; have HB := n10_; clear n0_ n1_ n2_ n3_ n4_ n5_ n6_ n7_ n8_ n9_ n10_; clear hb ho81; obtain ⟨Ao82, co82, eo82⟩ := Kd.R_slice HO416.out; subst eo82) | (go_at_call 20; (with_reducible refine (filter_May.calls k2 _ _ y375 1 1 1 _ _ y414 t417 _ ?side1 ?side2 ?side3 ?side4 A62.out).mono ?_); (case side1 => repeat (first | exact (Kd.R_reads' HO_379000.out).2.2 | (with_reducible refine Kd.C_alloc ?_ _) | (with_reducible refine Kd.C_drewN ?_ _) | (with_reducible refine Kd.C_drew ?_))); (case side2 => exact (Kd.R_reads' HO_379000.out).2.1); (case side3 => repeat (first | exact (Kd.R_reads' HO416.out).2.2 | (with_reducible refine Kd.C_alloc ?_ _) | (with_reducible refine Kd.C_drewN ?_ _) | (with_reducible refine Kd.C_drew ?_))); (case side4 => exact (Kd.R_reads' HO416.out).2.1); rintro e w83 ⟨rfl, hb⟩; have n0_ := Aside0.mk (Kd.N_below (by (with_reducible repeat (first | apply Kd.N_alloc | apply Kd.N_drewN | apply Kd.N_drew)); exact HO_7.out) hb); have n1_ := Aside0.mk (Kd.N_below (by (with_reducible repeat (first | apply Kd.N_alloc | apply Kd.N_drewN | apply Kd.N_drew)); exact HO_10.out) hb); have n2_ := Aside0.mk (Kd.R_below (by (with_reducible repeat (first | apply Kd.R_alloc | apply Kd.R_drewN | apply Kd.R_drew)); exact HO_379000.out) hb); have n3_ := Aside0.mk (Kd.R_below (by (with_reducible repeat (first | apply Kd.R_alloc | apply Kd.R_drewN | apply Kd.R_drew)); exact HO404.out) hb); have n4_ := Aside0.mk (Kd.N_below (by (with_reducible repeat (first | apply Kd.N_alloc | apply Kd.N_drewN | apply Kd.N_drew)); exact HO407.out) hb); have n5_ := Aside0.mk (Kd.R_below (by (with_reducible repeat (first | apply Kd.R_alloc | apply Kd.R_drewN | apply Kd.R_drew)); exact HO410.out) hb); have n6_ := Aside0.mk (Kd.N_below (by (with_reducible repeat (first | apply Kd.N_alloc | apply Kd.N_drewN | apply Kd.N_drew)); exact HO413.out) hb); have n7_ := Aside0.mk (Kd.R_below (by (with_reducible repeat (first | apply Kd.R_alloc | apply Kd.R_drewN | apply Kd.R_drew)); exact HO416.out) hb); have n8_ := Aside0.mk (blk_below (g := gb378) (o := .cells #[.slice Ao11 y375.length co11, .int .i64 1, .int .i64 1, .int .i64 1] 32 (0, 0)) (by (with_reducible repeat (first | refine blk_drewN ?_ _ | refine blk_drew ?_ | refine blk_alloc ?_ _)); exact BK378.out) hb); have n9_ := Aside0.mk (blk_below (g := gb390) (o := .cells #[.int .i64 0, .int .i64 7, .int .i64 0, .string tx] 39 (0, 0)) (by (with_reducible repeat (first | refine blk_drewN ?_ _ | refine blk_drew ?_ | refine blk_alloc ?_ _)); exact BK390.out) hb); have n10_ := Aside0.mk (below_step (by repeat (first | (with_reducible first | exact HB.out | apply below_alloc | apply pw_below_drewN | apply below_drew1 | refine below_set ?_ GE378.out | refine below_set ?_ GE390.out) | exact HB.out)) hb); clear HO_7; clear HO_10; clear HO_379000; clear HO404; clear HO407; clear HO410; clear HO413; clear HO416; clear BK378; clear BK390; clear HB; have HO_7 := n0_; have HO_10 := n1_; have HO_379000 := n2_; have HO404 := n3_; have HO407 := n4_; have HO410 := n5_; have HO413 := n6_; have HO416 := n7_; have BK378 := n8_; have BK390 := n9_; have HB := n10_; clear n0_ n1_ n2_ n3_ n4_ n5_ n6_ n7_ n8_ n9_ n10_; (try clear hb); (try clear hb2); (try clear hk); (try clear hi)))
                        go_ret
                        exact ⟨by first | rfl | (simp [errW_none, errW_some] <;> rfl) | (simp only [← hji4]; first | rfl | (simp [errW_none, errW_some] <;> rfl)) | (simp [*, errW_none, errW_some] <;> rfl), by repeat (first | (with_reducible first | exact HB.out | apply below_alloc | apply pw_below_drewN | apply below_drew1 | refine below_set ?_ GE378.out | refine below_set ?_ GE390.out) | exact HB.out)⟩
                      · rw [if_neg c61] at H
                        have c61b0 : ((t411.length : Int) == x11_2) = false := beq_eq_false_iff_ne.mpr c61
                        have c61b1 : ((t411.length : Int) != x11_2) = true := bne_iff_ne.mpr c61
                        obtain rfl := Option.some.inj H
                        have hnb84 := NB378_390.out
                        have hnc84 := NB390_378.out
                        have hcz85_0 : wr.cell? ⟨gb378, 0, none⟩ = some (.slice Ao11 y375.length co11) := (blk_cell BK378.out 0).trans rfl
                        have hcz85_1 : wr.cell? ⟨gb378, 1, none⟩ = some (.int .i64 1) := (blk_cell BK378.out 1).trans rfl
                        have hcz85_2 : wr.cell? ⟨gb378, 2, none⟩ = some (.int .i64 1) := (blk_cell BK378.out 2).trans rfl
                        have hcz85_3 : wr.cell? ⟨gb378, 3, none⟩ = some (.int .i64 1) := (blk_cell BK378.out 3).trans rfl
                        have hfz85_0 := blk_frozen BK378.out 0
                        have hfz85_1 := blk_frozen BK378.out 1
                        have hfz85_2 := blk_frozen BK378.out 2
                        have hfz85_3 := blk_frozen BK378.out 3
                        go_wp2_with (first | ((with_reducible refine gate_dst (N := 112) rfl ?_); (try (refine gate_guard (by rfl) ?_; dsimp only)); refine Kd.R_lit k39 _ 39 ?hg (N := 112) ?hd (xs := ([(⟨0, 7, (⟨0, (⟨#[]⟩ : ByteArray)⟩ : S37)⟩ : S39)] : List (S39))) (inner := [.int .i64 0, .int .i64 7, .int .i64 0, .string (⟨#[]⟩ : ByteArray)]) (ok := fun _ => True) (okp := fun _ => True) ?hr ?hp (fun _ hk => hk) trivial (Below.refl _ _) (Nat.le_refl _) (by simp) ?_; (case hd => rfl); (case hg => rfl); (case hr => first | (go_simp; done) | (go_simp; rfl)); (case hp => exact (Reps.c4 (show Kd.M k39 _ _ _ (⟨0, 7, (⟨0, (⟨#[]⟩ : ByteArray)⟩ : S37)⟩ : S39) [.int .i64 0, .int .i64 7, .int .i64 0, .string (⟨#[]⟩ : ByteArray)] from (k39_mkM _ _ _ (⟨0, 7, (⟨0, (⟨#[]⟩ : ByteArray)⟩ : S37)⟩ : S39) )) (Reps.none _ _))); intro v403 w86 ho87 hb hg_ hnew_; clear hg_ hnew_; (first | rw [← Ny402.out] at ho87 | (simp only [Int.reduceToNat] at ho87; rw [← Ny402.out] at ho87)); have n0_ := Aside0.mk (Kd.N_elder' (by (with_reducible repeat (first | apply Kd.N_alloc | apply Kd.N_drewN | apply Kd.N_drew)); exact HO_7.out) (Kd.R_base ho87) hb); have n1_ := Aside0.mk (Kd.N_elder' (by (with_reducible repeat (first | apply Kd.N_alloc | apply Kd.N_drewN | apply Kd.N_drew)); exact HO_10.out) (Kd.R_base ho87) hb); have n2_ := Aside0.mk (Kd.R_below (by (with_reducible repeat (first | apply Kd.R_alloc | apply Kd.R_drewN | apply Kd.R_drew)); exact HO_379000.out) hb); have n3_ := Aside0.mk (Kd.R_lower (Kd.R_newB ho87 (g := gb390) (o := .cells #[.int .i64 0, .int .i64 7, .int .i64 0, .string tx] 39 (0, 0)) (by (with_reducible repeat (first | refine blk_drewN ?_ _ | refine blk_drew ?_ | refine blk_alloc ?_ _)); exact BK390.out)) (below_size (by repeat (first | (with_reducible first | exact HB.out | apply below_alloc | apply pw_below_drewN | apply below_drew1 | refine below_set ?_ GE378.out | refine below_set ?_ GE390.out) | exact HB.out)))); have n4_ := Aside0.mk (blk_below (g := gb378) (o := .cells #[.slice Ao11 y375.length co11, .int .i64 1, .int .i64 1, .int .i64 1] 32 (0, 0)) (by (with_reducible repeat (first | refine blk_drewN ?_ _ | refine blk_drew ?_ | refine blk_alloc ?_ _)); exact BK378.out) hb); have n5_ := Aside0.mk (blk_below (g := gb390) (o := .cells #[.int .i64 0, .int .i64 7, .int .i64 0, .string tx] 39 (0, 0)) (by (with_reducible repeat (first | refine blk_drewN ?_ _ | refine blk_drew ?_ | refine blk_alloc ?_ _)); exact BK390.out) hb); have n6_ := Aside0.mk (below_step (by repeat (first | (with_reducible first | exact HB.out | apply below_alloc | apply pw_below_drewN | apply below_drew1 | refine below_set ?_ GE378.out | refine below_set ?_ GE390.out) | exact HB.out)) hb); clear HO_7; clear HO_10; clear HO_379000; clear BK378; clear BK390; clear HB; have HO_7 := n0_; have HO_10 := n1_; have HO_379000 := n2_; have HO404 := n3_; have BK378 := n4_; have BK390 := n5_; have HB := n6_; clear n0_ n1_ n2_ n3_ n4_ n5_ n6_; clear hb ho87; obtain ⟨Ao88, co88, eo88⟩ := Kd.R_slice HO404.out; subst eo88) | ((with_reducible refine gate_callee (f := 15) rfl ?_); refine goesL_ (some 114) rfl rfl Try.func15 (by kernel_rfl) rfl #[.agg #[.slice Ao11 y375.length co11, .int .i64 1, .int .i64 1, .int .i64 1], .slice Ao88 y402.length co88, .slice Ao36 x7_6.length co36] rfl (by (try simp only [List.map_toArray, List.map_cons, List.map_nil]); first | done | rfl | (simp only [List.length_drop, List.length_take]; rfl)) ?_; (with_reducible refine (filter_Keep.calls k2 _ _ y375 1 1 1 _ _ y402 (fun k_ => ((some k_ ≠ (v395 : Value).ownBlock ∧ (some k_ ≠ (.slice Ao11 y375.length co11 : Value).ownBlock ∧ (k_ ≠ gb378 ∧ k_ ≠ gb390))) ∧ some k_ ≠ (.slice Ao88 y402.length co88 : Value).ownBlock)) _ _ x7_6 t405 _ ?side1 ?side2 ?side3 ?side4 ?side5 A56.out).mono ?_); (case side1 => repeat (first | exact (Kd.R_reads' HO_379000.out).2.2 | (with_reducible refine Kd.C_alloc ?_ _) | (with_reducible refine Kd.C_drewN ?_ _) | (with_reducible refine Kd.C_drew ?_))); (case side2 => exact (Kd.R_reads' HO_379000.out).2.1); (case side3 => repeat (first | exact (Kd.R_reads' HO404.out).2.2 | (with_reducible refine Kd.C_alloc ?_ _) | (with_reducible refine Kd.C_drewN ?_ _) | (with_reducible refine Kd.C_drew ?_))); (case side4 => exact (Kd.R_reads' HO404.out).2.1); (case side5 => exact Kd.N_V (HO_7.out)); rintro e w89 ⟨v406, rfl, ho0, hb⟩; refine ⟨_, rfl, ?_⟩; have n0_ := Aside0.mk (Kd.N_elder' (by (with_reducible repeat (first | apply Kd.N_alloc | apply Kd.N_drewN | apply Kd.N_drew)); exact HO_7.out) (by first | exact Kd.N_base ho0 | exact Kd.S_base ho0) hb); have n1_ := Aside0.mk (Kd.N_elder' (by (with_reducible repeat (first | apply Kd.N_alloc | apply Kd.N_drewN | apply Kd.N_drew)); exact HO_10.out) (by first | exact Kd.N_base ho0 | exact Kd.S_base ho0) hb); have n2_ := Aside0.mk (Kd.R_below (by (with_reducible repeat (first | apply Kd.R_alloc | apply Kd.R_drewN | apply Kd.R_drew)); exact HO_379000.out) hb); have n3_ := Aside0.mk (Kd.R_below (by (with_reducible repeat (first | apply Kd.R_alloc | apply Kd.R_drewN | apply Kd.R_drew)); exact HO404.out) hb); have n4_ := Aside0.mk (Kd.N_lower (Kd.N_mono (ok' := fun k_ => some k_ ≠ (v395 : Value).ownBlock ∧ some k_ ≠ (.slice Ao11 y375.length co11 : Value).ownBlock ∧ some k_ ≠ (.slice Ao88 y402.length co88 : Value).ownBlock ∧ k_ ≠ gb378 ∧ k_ ≠ gb390) ho0 (fun k_ hk_ => ⟨Or.elim hk_ (fun hs_ => hs_.1.1) (fun hn_ => (Kd.fresh' (Kd.N_lt (by (with_reducible repeat (first | apply Kd.N_alloc | apply Kd.N_drewN | apply Kd.N_drew)); exact HO_10.out)) k_ hn_)), Or.elim hk_ (fun hs_ => hs_.1.2.1) (fun hn_ => (Kd.fresh' (Kd.R_lt (by (with_reducible repeat (first | apply Kd.R_alloc | apply Kd.R_drewN | apply Kd.R_drew)); exact HO_379000.out)) k_ hn_)), Or.elim hk_ (fun hs_ => hs_.2) (fun hn_ => (Kd.fresh' (Kd.R_lt (by (with_reducible repeat (first | apply Kd.R_alloc | apply Kd.R_drewN | apply Kd.R_drew)); exact HO404.out)) k_ hn_)), Or.elim hk_ (fun hs_ => hs_.1.2.2.1) (fun hn_ => (Kd.freshB (g := gb378) (o := .cells #[.slice Ao11 y375.length co11, .int .i64 1, .int .i64 1, .int .i64 1] 32 (0, 0)) (by (with_reducible repeat (first | refine blk_drewN ?_ _ | refine blk_drew ?_ | refine blk_alloc ?_ _)); exact BK378.out) k_ hn_)), Or.elim hk_ (fun hs_ => hs_.1.2.2.2) (fun hn_ => (Kd.freshB (g := gb390) (o := .cells #[.int .i64 0, .int .i64 7, .int .i64 0, .string tx] 39 (0, 0)) (by (with_reducible repeat (first | refine blk_drewN ?_ _ | refine blk_drew ?_ | refine blk_alloc ?_ _)); exact BK390.out) k_ hn_))⟩)) (below_size (by repeat (first | (with_reducible first | exact HB.out | apply below_alloc | apply pw_below_drewN | apply below_drew1 | refine below_set ?_ GE378.out | refine below_set ?_ GE390.out) | exact HB.out)))); have n5_ := Aside0.mk (blk_below (g := gb378) (o := .cells #[.slice Ao11 y375.length co11, .int .i64 1, .int .i64 1, .int .i64 1] 32 (0, 0)) (by (with_reducible repeat (first | refine blk_drewN ?_ _ | refine blk_drew ?_ | refine blk_alloc ?_ _)); exact BK378.out) hb); have n6_ := Aside0.mk (blk_below (g := gb390) (o := .cells #[.int .i64 0, .int .i64 7, .int .i64 0, .string tx] 39 (0, 0)) (by (with_reducible repeat (first | refine blk_drewN ?_ _ | refine blk_drew ?_ | refine blk_alloc ?_ _)); exact BK390.out) hb); have n7_ := Aside0.mk (below_step (by repeat (first | (with_reducible first | exact HB.out | apply below_alloc | apply pw_below_drewN | apply below_drew1 | refine below_set ?_ GE378.out | refine below_set ?_ GE390.out) | exact HB.out)) hb); clear HO_7; clear HO_10; clear HO_379000; clear HO404; clear BK378; clear BK390; clear HB; have HO_7 := n0_; have HO_10 := n1_; have HO_379000 := n2_; have HO404 := n3_; have HO407 := n4_; have BK378 := n5_; have BK390 := n6_; have HB := n7_; clear n0_ n1_ n2_ n3_ n4_ n5_ n6_ n7_; (try clear hb); (try clear hb2); (try clear hk); (try clear hi); (try clear ho0); have hcz90_0 : w89.cell? ⟨gb378, 0, none⟩ = some (.slice Ao11 y375.length co11) := (blk_cell BK378.out 0).trans rfl; have hcz90_1 : w89.cell? ⟨gb378, 1, none⟩ = some (.int .i64 1) := (blk_cell BK378.out 1).trans rfl; have hcz90_2 : w89.cell? ⟨gb378, 2, none⟩ = some (.int .i64 1) := (blk_cell BK378.out 2).trans rfl; have hcz90_3 : w89.cell? ⟨gb378, 3, none⟩ = some (.int .i64 1) := (blk_cell BK378.out 3).trans rfl; have hfz90_0 := blk_frozen BK378.out 0; have hfz90_1 := blk_frozen BK378.out 1; have hfz90_2 := blk_frozen BK378.out 2; have hfz90_3 := blk_frozen BK378.out 3; have hcz91_0 : w89.cell? ⟨gb390, 0, none⟩ = some (.int .i64 0) := (blk_cell BK390.out 0).trans rfl; have hcz91_1 : w89.cell? ⟨gb390, 1, none⟩ = some (.int .i64 7) := (blk_cell BK390.out 1).trans rfl; have hcz91_2 : w89.cell? ⟨gb390, 2, none⟩ = some (.int .i64 0) := (blk_cell BK390.out 2).trans rfl; have hcz91_3 : w89.cell? ⟨gb390, 3, none⟩ = some (.string tx) := (blk_cell BK390.out 3).trans rfl; have hfz91_0 := blk_frozen BK390.out 0; have hfz91_1 := blk_frozen BK390.out 1; have hfz91_2 := blk_frozen BK390.out 2; have hfz91_3 := blk_frozen BK390.out 3) | ((with_reducible refine gate_dst (N := 120) rfl ?_); (try (refine gate_guard (by rfl) ?_; dsimp only)); refine Kd.R_lit k39 _ 39 ?hg (N := 120) ?hd (xs := ([(⟨0, 7, (⟨0, tx⟩ : S37)⟩ : S39), (⟨0, 6, (⟨0, tx⟩ : S37)⟩ : S39)] : List (S39))) (inner := [.int .i64 0, .int .i64 7, .int .i64 0, .string tx, .int .i64 0, .int .i64 6, .int .i64 0, .string tx]) (ok := fun _ => True) (okp := fun _ => True) ?hr ?hp (fun _ hk => hk) trivial (Below.refl _ _) (Nat.le_refl _) (by simp) ?_; (case hd => rfl); (case hg => rfl); (case hr => first | (go_simp; done) | (go_simp; rfl)); (case hp => exact (Reps.c4 (show Kd.M k39 _ _ _ (⟨0, 7, (⟨0, tx⟩ : S37)⟩ : S39) [.int .i64 0, .int .i64 7, .int .i64 0, .string tx] from (k39_mkM _ _ _ (⟨0, 7, (⟨0, tx⟩ : S37)⟩ : S39) )) (Reps.c4 (show Kd.M k39 _ _ _ (⟨0, 6, (⟨0, tx⟩ : S37)⟩ : S39) [.int .i64 0, .int .i64 6, .int .i64 0, .string tx] from (k39_mkM _ _ _ (⟨0, 6, (⟨0, tx⟩ : S37)⟩ : S39) )) (Reps.none _ _)))); intro v409 w92 ho93 hb hg_ hnew_; clear hg_ hnew_; (first | rw [← Ny408.out] at ho93 | (simp only [Int.reduceToNat] at ho93; rw [← Ny408.out] at ho93)); have n0_ := Aside0.mk (Kd.N_elder' (by (with_reducible repeat (first | apply Kd.N_alloc | apply Kd.N_drewN | apply Kd.N_drew)); exact HO_7.out) (Kd.R_base ho93) hb); have n1_ := Aside0.mk (Kd.N_elder' (by (with_reducible repeat (first | apply Kd.N_alloc | apply Kd.N_drewN | apply Kd.N_drew)); exact HO_10.out) (Kd.R_base ho93) hb); have n2_ := Aside0.mk (Kd.R_below (by (with_reducible repeat (first | apply Kd.R_alloc | apply Kd.R_drewN | apply Kd.R_drew)); exact HO_379000.out) hb); have n3_ := Aside0.mk (Kd.R_elder' (by (with_reducible repeat (first | apply Kd.R_alloc | apply Kd.R_drewN | apply Kd.R_drew)); exact HO404.out) (Kd.R_base ho93) hb); have n4_ := Aside0.mk (Kd.N_elder' (by (with_reducible repeat (first | apply Kd.N_alloc | apply Kd.N_drewN | apply Kd.N_drew)); exact HO407.out) (Kd.R_base ho93) hb); have n5_ := Aside0.mk (Kd.R_lower (Kd.R_newB (Kd.R_new' ho93 (Kd.R_lt (by (with_reducible repeat (first | apply Kd.R_alloc | apply Kd.R_drewN | apply Kd.R_drew)); exact HO404.out))) (g := gb390) (o := .cells #[.int .i64 0, .int .i64 7, .int .i64 0, .string tx] 39 (0, 0)) (by (with_reducible repeat (first | refine blk_drewN ?_ _ | refine blk_drew ?_ | refine blk_alloc ?_ _)); exact BK390.out)) (below_size (by repeat (first | (with_reducible first | exact HB.out | apply below_alloc | apply pw_below_drewN | apply below_drew1 | refine below_set ?_ GE378.out | refine below_set ?_ GE390.out) | exact HB.out)))); have n6_ := Aside0.mk (blk_below (g := gb378) (o := .cells #[.slice Ao11 y375.length co11, .int .i64 1, .int .i64 1, .int .i64 1] 32 (0, 0)) (by (with_reducible repeat (first | refine blk_drewN ?_ _ | refine blk_drew ?_ | refine blk_alloc ?_ _)); exact BK378.out) hb); have n7_ := Aside0.mk (blk_below (g := gb390) (o := .cells #[.int .i64 0, .int .i64 7, .int .i64 0, .string tx] 39 (0, 0)) (by (with_reducible repeat (first | refine blk_drewN ?_ _ | refine blk_drew ?_ | refine blk_alloc ?_ _)); exact BK390.out) hb); have n8_ := Aside0.mk (below_step (by repeat (first | (with_reducible first | exact HB.out | apply below_alloc | apply pw_below_drewN | apply below_drew1 | refine below_set ?_ GE378.out | refine below_set ?_ GE390.out) | exact HB.out)) hb); clear HO_7; clear HO_10; clear HO_379000; clear HO404; clear HO407; clear BK378; clear BK390; clear HB; have HO_7 := n0_; have HO_10 := n1_; have HO_379000 := n2_; have HO404 := n3_; have HO407 := n4_; have HO410 := n5_; have BK378 := n6_; have BK390 := n7_; have HB := n8_; clear n0_ n1_ n2_ n3_ n4_ n5_ n6_ n7_ n8_; clear hb ho93; obtain ⟨Ao94, co94, eo94⟩ := Kd.R_slice HO410.out; subst eo94) | ((with_reducible refine gate_callee (f := 15) rfl ?_); refine goesL_ (some 122) rfl rfl Try.func15 (by kernel_rfl) rfl #[.agg #[.slice Ao11 y375.length co11, .int .i64 1, .int .i64 1, .int .i64 1], .slice Ao94 y408.length co94, .slice Ao36 x7_6.length co36] rfl (by (try simp only [List.map_toArray, List.map_cons, List.map_nil]); first | done | rfl | (simp only [List.length_drop, List.length_take]; rfl)) ?_; (with_reducible refine (filter_Keep.calls k2 _ _ y375 1 1 1 _ _ y408 (fun k_ => ((((some k_ ≠ (v395 : Value).ownBlock ∧ (some k_ ≠ (.slice Ao11 y375.length co11 : Value).ownBlock ∧ (k_ ≠ gb378 ∧ k_ ≠ gb390))) ∧ some k_ ≠ (.slice Ao88 y402.length co88 : Value).ownBlock) ∧ some k_ ≠ (v406 : Value).ownBlock) ∧ some k_ ≠ (.slice Ao94 y408.length co94 : Value).ownBlock)) _ _ x7_6 t411 _ ?side1 ?side2 ?side3 ?side4 ?side5 A57.out).mono ?_); (case side1 => repeat (first | exact (Kd.R_reads' HO_379000.out).2.2 | (with_reducible refine Kd.C_alloc ?_ _) | (with_reducible refine Kd.C_drewN ?_ _) | (with_reducible refine Kd.C_drew ?_))); (case side2 => exact (Kd.R_reads' HO_379000.out).2.1); (case side3 => repeat (first | exact (Kd.R_reads' HO410.out).2.2 | (with_reducible refine Kd.C_alloc ?_ _) | (with_reducible refine Kd.C_drewN ?_ _) | (with_reducible refine Kd.C_drew ?_))); (case side4 => exact (Kd.R_reads' HO410.out).2.1); (case side5 => exact Kd.N_V (HO_7.out)); rintro e w95 ⟨v412, rfl, ho0, hb⟩; refine ⟨_, rfl, ?_⟩; have n0_ := Aside0.mk (Kd.N_elder' (by (with_reducible repeat (first | apply Kd.N_alloc | apply Kd.N_drewN | apply Kd.N_drew)); exact HO_7.out) (by first | exact Kd.N_base ho0 | exact Kd.S_base ho0) hb); have n1_ := Aside0.mk (Kd.N_elder' (by (with_reducible repeat (first | apply Kd.N_alloc | apply Kd.N_drewN | apply Kd.N_drew)); exact HO_10.out) (by first | exact Kd.N_base ho0 | exact Kd.S_base ho0) hb); have n2_ := Aside0.mk (Kd.R_below (by (with_reducible repeat (first | apply Kd.R_alloc | apply Kd.R_drewN | apply Kd.R_drew)); exact HO_379000.out) hb); have n3_ := Aside0.mk (Kd.R_below (by (with_reducible repeat (first | apply Kd.R_alloc | apply Kd.R_drewN | apply Kd.R_drew)); exact HO404.out) hb); have n4_ := Aside0.mk (Kd.N_elder' (by (with_reducible repeat (first | apply Kd.N_alloc | apply Kd.N_drewN | apply Kd.N_drew)); exact HO407.out) (by first | exact Kd.N_base ho0 | exact Kd.S_base ho0) hb); have n5_ := Aside0.mk (Kd.R_below (by (with_reducible repeat (first | apply Kd.R_alloc | apply Kd.R_drewN | apply Kd.R_drew)); exact HO410.out) hb); have n6_ := Aside0.mk (Kd.N_lower (Kd.N_mono (ok' := fun k_ => some k_ ≠ (v395 : Value).ownBlock ∧ some k_ ≠ (.slice Ao11 y375.length co11 : Value).ownBlock ∧ some k_ ≠ (.slice Ao88 y402.length co88 : Value).ownBlock ∧ some k_ ≠ (v406 : Value).ownBlock ∧ some k_ ≠ (.slice Ao94 y408.length co94 : Value).ownBlock ∧ k_ ≠ gb378 ∧ k_ ≠ gb390) ho0 (fun k_ hk_ => ⟨Or.elim hk_ (fun hs_ => hs_.1.1.1.1) (fun hn_ => (Kd.fresh' (Kd.N_lt (by (with_reducible repeat (first | apply Kd.N_alloc | apply Kd.N_drewN | apply Kd.N_drew)); exact HO_10.out)) k_ hn_)), Or.elim hk_ (fun hs_ => hs_.1.1.1.2.1) (fun hn_ => (Kd.fresh' (Kd.R_lt (by (with_reducible repeat (first | apply Kd.R_alloc | apply Kd.R_drewN | apply Kd.R_drew)); exact HO_379000.out)) k_ hn_)), Or.elim hk_ (fun hs_ => hs_.1.1.2) (fun hn_ => (Kd.fresh' (Kd.R_lt (by (with_reducible repeat (first | apply Kd.R_alloc | apply Kd.R_drewN | apply Kd.R_drew)); exact HO404.out)) k_ hn_)), Or.elim hk_ (fun hs_ => hs_.1.2) (fun hn_ => (Kd.fresh' (Kd.N_lt (by (with_reducible repeat (first | apply Kd.N_alloc | apply Kd.N_drewN | apply Kd.N_drew)); exact HO407.out)) k_ hn_)), Or.elim hk_ (fun hs_ => hs_.2) (fun hn_ => (Kd.fresh' (Kd.R_lt (by (with_reducible repeat (first | apply Kd.R_alloc | apply Kd.R_drewN | apply Kd.R_drew)); exact HO410.out)) k_ hn_)), Or.elim hk_ (fun hs_ => hs_.1.1.1.2.2.1) (fun hn_ => (Kd.freshB (g := gb378) (o := .cells #[.slice Ao11 y375.length co11, .int .i64 1, .int .i64 1, .int .i64 1] 32 (0, 0)) (by (with_reducible repeat (first | refine blk_drewN ?_ _ | refine blk_drew ?_ | refine blk_alloc ?_ _)); exact BK378.out) k_ hn_)), Or.elim hk_ (fun hs_ => hs_.1.1.1.2.2.2) (fun hn_ => (Kd.freshB (g := gb390) (o := .cells #[.int .i64 0, .int .i64 7, .int .i64 0, .string tx] 39 (0, 0)) (by (with_reducible repeat (first | refine blk_drewN ?_ _ | refine blk_drew ?_ | refine blk_alloc ?_ _)); exact BK390.out) k_ hn_))⟩)) (below_size (by repeat (first | (with_reducible first | exact HB.out | apply below_alloc | apply pw_below_drewN | apply below_drew1 | refine below_set ?_ GE378.out | refine below_set ?_ GE390.out) | exact HB.out)))); have n7_ := Aside0.mk (blk_below (g := gb378) (o := .cells #[.slice Ao11 y375.length co11, .int .i64 1, .int .i64 1, .int .i64 1] 32 (0, 0)) (by (with_reducible repeat (first | refine blk_drewN ?_ _ | refine blk_drew ?_ | refine blk_alloc ?_ _)); exact BK378.out) hb); have n8_ := Aside0.mk (blk_below (g := gb390) (o := .cells #[.int .i64 0, .int .i64 7, .int .i64 0, .string tx] 39 (0, 0)) (by (with_reducible repeat (first | refine blk_drewN ?_ _ | refine blk_drew ?_ | refine blk_alloc ?_ _)); exact BK390.out) hb); have n9_ := Aside0.mk (below_step (by repeat (first | (with_reducible first | exact HB.out | apply below_alloc | apply pw_below_drewN | apply below_drew1 | refine below_set ?_ GE378.out | refine below_set ?_ GE390.out) | exact HB.out)) hb); clear HO_7; clear HO_10; clear HO_379000; clear HO404; clear HO407; clear HO410; clear BK378; clear BK390; clear HB; have HO_7 := n0_; have HO_10 := n1_; have HO_379000 := n2_; have HO404 := n3_; have HO407 := n4_; have HO410 := n5_; have HO413 := n6_; have BK378 := n7_; have BK390 := n8_; have HB := n9_; clear n0_ n1_ n2_ n3_ n4_ n5_ n6_ n7_ n8_ n9_; (try clear hb); (try clear hb2); (try clear hk); (try clear hi); (try clear ho0); obtain ⟨Ao96, co96, eo96⟩ := Kd.N_slice HO_10.out; subst eo96; obtain ⟨Ao97, co97, eo97⟩ := Kd.N_slice HO407.out; subst eo97; obtain ⟨Ao98, co98, eo98⟩ := Kd.N_slice HO413.out; subst eo98))
                        go_ret
                        exact ⟨by first | rfl | (simp [errW_none, errW_some] <;> rfl) | (simp only [← hji4]; first | rfl | (simp [errW_none, errW_some] <;> rfl)) | (simp [*, errW_none, errW_some] <;> rfl), by repeat (first | (with_reducible first | exact HB.out | apply below_alloc | apply pw_below_drewN | apply below_drew1 | refine below_set ?_ GE378.out | refine below_set ?_ GE390.out) | exact HB.out)⟩
                    · rw [if_neg c60] at H
                      have c60b0 : ((t405.length : Int) == (x7_6.length : Int)) = false := beq_eq_false_iff_ne.mpr c60
                      have c60b1 : ((t405.length : Int) != (x7_6.length : Int)) = true := bne_iff_ne.mpr c60
                      have c60b2 : (t405.length == x7_6.length) = false := by first | simpa using c60 | (simp at c60 ⊢; omega)
                      obtain rfl := Option.some.inj H
                      have hnb99 := NB378_390.out
                      have hnc99 := NB390_378.out
                      have hcz100_0 : wr.cell? ⟨gb378, 0, none⟩ = some (.slice Ao11 y375.length co11) := (blk_cell BK378.out 0).trans rfl
                      have hcz100_1 : wr.cell? ⟨gb378, 1, none⟩ = some (.int .i64 1) := (blk_cell BK378.out 1).trans rfl
                      have hcz100_2 : wr.cell? ⟨gb378, 2, none⟩ = some (.int .i64 1) := (blk_cell BK378.out 2).trans rfl
                      have hcz100_3 : wr.cell? ⟨gb378, 3, none⟩ = some (.int .i64 1) := (blk_cell BK378.out 3).trans rfl
                      have hfz100_0 := blk_frozen BK378.out 0
                      have hfz100_1 := blk_frozen BK378.out 1
                      have hfz100_2 := blk_frozen BK378.out 2
                      have hfz100_3 := blk_frozen BK378.out 3
                      go_wp2_with (first | ((with_reducible refine gate_dst (N := 112) rfl ?_); (try (refine gate_guard (by rfl) ?_; dsimp only)); refine Kd.R_lit k39 _ 39 ?hg (N := 112) ?hd (xs := ([(⟨0, 7, (⟨0, (⟨#[]⟩ : ByteArray)⟩ : S37)⟩ : S39)] : List (S39))) (inner := [.int .i64 0, .int .i64 7, .int .i64 0, .string (⟨#[]⟩ : ByteArray)]) (ok := fun _ => True) (okp := fun _ => True) ?hr ?hp (fun _ hk => hk) trivial (Below.refl _ _) (Nat.le_refl _) (by simp) ?_; (case hd => rfl); (case hg => rfl); (case hr => first | (go_simp; done) | (go_simp; rfl)); (case hp => exact (Reps.c4 (show Kd.M k39 _ _ _ (⟨0, 7, (⟨0, (⟨#[]⟩ : ByteArray)⟩ : S37)⟩ : S39) [.int .i64 0, .int .i64 7, .int .i64 0, .string (⟨#[]⟩ : ByteArray)] from (k39_mkM _ _ _ (⟨0, 7, (⟨0, (⟨#[]⟩ : ByteArray)⟩ : S37)⟩ : S39) )) (Reps.none _ _))); intro v403 w101 ho102 hb hg_ hnew_; clear hg_ hnew_; (first | rw [← Ny402.out] at ho102 | (simp only [Int.reduceToNat] at ho102; rw [← Ny402.out] at ho102)); have n0_ := Aside0.mk (Kd.N_elder' (by (with_reducible repeat (first | apply Kd.N_alloc | apply Kd.N_drewN | apply Kd.N_drew)); exact HO_7.out) (Kd.R_base ho102) hb); have n1_ := Aside0.mk (Kd.N_elder' (by (with_reducible repeat (first | apply Kd.N_alloc | apply Kd.N_drewN | apply Kd.N_drew)); exact HO_10.out) (Kd.R_base ho102) hb); have n2_ := Aside0.mk (Kd.R_below (by (with_reducible repeat (first | apply Kd.R_alloc | apply Kd.R_drewN | apply Kd.R_drew)); exact HO_379000.out) hb); have n3_ := Aside0.mk (Kd.R_lower (Kd.R_newB ho102 (g := gb390) (o := .cells #[.int .i64 0, .int .i64 7, .int .i64 0, .string tx] 39 (0, 0)) (by (with_reducible repeat (first | refine blk_drewN ?_ _ | refine blk_drew ?_ | refine blk_alloc ?_ _)); exact BK390.out)) (below_size (by repeat (first | (with_reducible first | exact HB.out | apply below_alloc | apply pw_below_drewN | apply below_drew1 | refine below_set ?_ GE378.out | refine below_set ?_ GE390.out) | exact HB.out)))); have n4_ := Aside0.mk (blk_below (g := gb378) (o := .cells #[.slice Ao11 y375.length co11, .int .i64 1, .int .i64 1, .int .i64 1] 32 (0, 0)) (by (with_reducible repeat (first | refine blk_drewN ?_ _ | refine blk_drew ?_ | refine blk_alloc ?_ _)); exact BK378.out) hb); have n5_ := Aside0.mk (blk_below (g := gb390) (o := .cells #[.int .i64 0, .int .i64 7, .int .i64 0, .string tx] 39 (0, 0)) (by (with_reducible repeat (first | refine blk_drewN ?_ _ | refine blk_drew ?_ | refine blk_alloc ?_ _)); exact BK390.out) hb); have n6_ := Aside0.mk (below_step (by repeat (first | (with_reducible first | exact HB.out | apply below_alloc | apply pw_below_drewN | apply below_drew1 | refine below_set ?_ GE378.out | refine below_set ?_ GE390.out) | exact HB.out)) hb); clear HO_7; clear HO_10; clear HO_379000; clear BK378; clear BK390; clear HB; have HO_7 := n0_; have HO_10 := n1_; have HO_379000 := n2_; have HO404 := n3_; have BK378 := n4_; have BK390 := n5_; have HB := n6_; clear n0_ n1_ n2_ n3_ n4_ n5_ n6_; clear hb ho102; obtain ⟨Ao103, co103, eo103⟩ := Kd.R_slice HO404.out; subst eo103) | ((with_reducible refine gate_callee (f := 15) rfl ?_); refine goesL_ (some 114) rfl rfl Try.func15 (by kernel_rfl) rfl #[.agg #[.slice Ao11 y375.length co11, .int .i64 1, .int .i64 1, .int .i64 1], .slice Ao103 y402.length co103, .slice Ao36 x7_6.length co36] rfl (by (try simp only [List.map_toArray, List.map_cons, List.map_nil]); first | done | rfl | (simp only [List.length_drop, List.length_take]; rfl)) ?_; (with_reducible refine (filter_Keep.calls k2 _ _ y375 1 1 1 _ _ y402 (fun k_ => ((some k_ ≠ (v395 : Value).ownBlock ∧ (some k_ ≠ (.slice Ao11 y375.length co11 : Value).ownBlock ∧ (k_ ≠ gb378 ∧ k_ ≠ gb390))) ∧ some k_ ≠ (.slice Ao103 y402.length co103 : Value).ownBlock)) _ _ x7_6 t405 _ ?side1 ?side2 ?side3 ?side4 ?side5 A56.out).mono ?_); (case side1 => repeat (first | exact (Kd.R_reads' HO_379000.out).2.2 | (with_reducible refine Kd.C_alloc ?_ _) | (with_reducible refine Kd.C_drewN ?_ _) | (with_reducible refine Kd.C_drew ?_))); (case side2 => exact (Kd.R_reads' HO_379000.out).2.1); (case side3 => repeat (first | exact (Kd.R_reads' HO404.out).2.2 | (with_reducible refine Kd.C_alloc ?_ _) | (with_reducible refine Kd.C_drewN ?_ _) | (with_reducible refine Kd.C_drew ?_))); (case side4 => exact (Kd.R_reads' HO404.out).2.1); (case side5 => exact Kd.N_V (HO_7.out)); rintro e w104 ⟨v406, rfl, ho0, hb⟩; refine ⟨_, rfl, ?_⟩; have n0_ := Aside0.mk (Kd.N_elder' (by (with_reducible repeat (first | apply Kd.N_alloc | apply Kd.N_drewN | apply Kd.N_drew)); exact HO_7.out) (by first | exact Kd.N_base ho0 | exact Kd.S_base ho0) hb); have n1_ := Aside0.mk (Kd.N_elder' (by (with_reducible repeat (first | apply Kd.N_alloc | apply Kd.N_drewN | apply Kd.N_drew)); exact HO_10.out) (by first | exact Kd.N_base ho0 | exact Kd.S_base ho0) hb); have n2_ := Aside0.mk (Kd.R_below (by (with_reducible repeat (first | apply Kd.R_alloc | apply Kd.R_drewN | apply Kd.R_drew)); exact HO_379000.out) hb); have n3_ := Aside0.mk (Kd.R_below (by (with_reducible repeat (first | apply Kd.R_alloc | apply Kd.R_drewN | apply Kd.R_drew)); exact HO404.out) hb); have n4_ := Aside0.mk (Kd.N_lower (Kd.N_mono (ok' := fun k_ => some k_ ≠ (v395 : Value).ownBlock ∧ some k_ ≠ (.slice Ao11 y375.length co11 : Value).ownBlock ∧ some k_ ≠ (.slice Ao103 y402.length co103 : Value).ownBlock ∧ k_ ≠ gb378 ∧ k_ ≠ gb390) ho0 (fun k_ hk_ => ⟨Or.elim hk_ (fun hs_ => hs_.1.1) (fun hn_ => (Kd.fresh' (Kd.N_lt (by (with_reducible repeat (first | apply Kd.N_alloc | apply Kd.N_drewN | apply Kd.N_drew)); exact HO_10.out)) k_ hn_)), Or.elim hk_ (fun hs_ => hs_.1.2.1) (fun hn_ => (Kd.fresh' (Kd.R_lt (by (with_reducible repeat (first | apply Kd.R_alloc | apply Kd.R_drewN | apply Kd.R_drew)); exact HO_379000.out)) k_ hn_)), Or.elim hk_ (fun hs_ => hs_.2) (fun hn_ => (Kd.fresh' (Kd.R_lt (by (with_reducible repeat (first | apply Kd.R_alloc | apply Kd.R_drewN | apply Kd.R_drew)); exact HO404.out)) k_ hn_)), Or.elim hk_ (fun hs_ => hs_.1.2.2.1) (fun hn_ => (Kd.freshB (g := gb378) (o := .cells #[.slice Ao11 y375.length co11, .int .i64 1, .int .i64 1, .int .i64 1] 32 (0, 0)) (by (with_reducible repeat (first | refine blk_drewN ?_ _ | refine blk_drew ?_ | refine blk_alloc ?_ _)); exact BK378.out) k_ hn_)), Or.elim hk_ (fun hs_ => hs_.1.2.2.2) (fun hn_ => (Kd.freshB (g := gb390) (o := .cells #[.int .i64 0, .int .i64 7, .int .i64 0, .string tx] 39 (0, 0)) (by (with_reducible repeat (first | refine blk_drewN ?_ _ | refine blk_drew ?_ | refine blk_alloc ?_ _)); exact BK390.out) k_ hn_))⟩)) (below_size (by repeat (first | (with_reducible first | exact HB.out | apply below_alloc | apply pw_below_drewN | apply below_drew1 | refine below_set ?_ GE378.out | refine below_set ?_ GE390.out) | exact HB.out)))); have n5_ := Aside0.mk (blk_below (g := gb378) (o := .cells #[.slice Ao11 y375.length co11, .int .i64 1, .int .i64 1, .int .i64 1] 32 (0, 0)) (by (with_reducible repeat (first | refine blk_drewN ?_ _ | refine blk_drew ?_ | refine blk_alloc ?_ _)); exact BK378.out) hb); have n6_ := Aside0.mk (blk_below (g := gb390) (o := .cells #[.int .i64 0, .int .i64 7, .int .i64 0, .string tx] 39 (0, 0)) (by (with_reducible repeat (first | refine blk_drewN ?_ _ | refine blk_drew ?_ | refine blk_alloc ?_ _)); exact BK390.out) hb); have n7_ := Aside0.mk (below_step (by repeat (first | (with_reducible first | exact HB.out | apply below_alloc | apply pw_below_drewN | apply below_drew1 | refine below_set ?_ GE378.out | refine below_set ?_ GE390.out) | exact HB.out)) hb); clear HO_7; clear HO_10; clear HO_379000; clear HO404; clear BK378; clear BK390; clear HB; have HO_7 := n0_; have HO_10 := n1_; have HO_379000 := n2_; have HO404 := n3_; have HO407 := n4_; have BK378 := n5_; have BK390 := n6_; have HB := n7_; clear n0_ n1_ n2_ n3_ n4_ n5_ n6_ n7_; (try clear hb); (try clear hb2); (try clear hk); (try clear hi); (try clear ho0); have hcz105_0 : w104.cell? ⟨gb378, 0, none⟩ = some (.slice Ao11 y375.length co11) := (blk_cell BK378.out 0).trans rfl; have hcz105_1 : w104.cell? ⟨gb378, 1, none⟩ = some (.int .i64 1) := (blk_cell BK378.out 1).trans rfl; have hcz105_2 : w104.cell? ⟨gb378, 2, none⟩ = some (.int .i64 1) := (blk_cell BK378.out 2).trans rfl; have hcz105_3 : w104.cell? ⟨gb378, 3, none⟩ = some (.int .i64 1) := (blk_cell BK378.out 3).trans rfl; have hfz105_0 := blk_frozen BK378.out 0; have hfz105_1 := blk_frozen BK378.out 1; have hfz105_2 := blk_frozen BK378.out 2; have hfz105_3 := blk_frozen BK378.out 3; have hcz106_0 : w104.cell? ⟨gb390, 0, none⟩ = some (.int .i64 0) := (blk_cell BK390.out 0).trans rfl; have hcz106_1 : w104.cell? ⟨gb390, 1, none⟩ = some (.int .i64 7) := (blk_cell BK390.out 1).trans rfl; have hcz106_2 : w104.cell? ⟨gb390, 2, none⟩ = some (.int .i64 0) := (blk_cell BK390.out 2).trans rfl; have hcz106_3 : w104.cell? ⟨gb390, 3, none⟩ = some (.string tx) := (blk_cell BK390.out 3).trans rfl; have hfz106_0 := blk_frozen BK390.out 0; have hfz106_1 := blk_frozen BK390.out 1; have hfz106_2 := blk_frozen BK390.out 2; have hfz106_3 := blk_frozen BK390.out 3) | ((with_reducible refine gate_dst (N := 120) rfl ?_); (try (refine gate_guard (by rfl) ?_; dsimp only)); refine Kd.R_lit k39 _ 39 ?hg (N := 120) ?hd (xs := ([(⟨0, 7, (⟨0, tx⟩ : S37)⟩ : S39), (⟨0, 6, (⟨0, tx⟩ : S37)⟩ : S39)] : List (S39))) (inner := [.int .i64 0, .int .i64 7, .int .i64 0, .string tx, .int .i64 0, .int .i64 6, .int .i64 0, .string tx]) (ok := fun _ => True) (okp := fun _ => True) ?hr ?hp (fun _ hk => hk) trivial (Below.refl _ _) (Nat.le_refl _) (by simp) ?_; (case hd => rfl); (case hg => rfl); (case hr => first | (go_simp; done) | (go_simp; rfl)); (case hp => exact (Reps.c4 (show Kd.M k39 _ _ _ (⟨0, 7, (⟨0, tx⟩ : S37)⟩ : S39) [.int .i64 0, .int .i64 7, .int .i64 0, .string tx] from (k39_mkM _ _ _ (⟨0, 7, (⟨0, tx⟩ : S37)⟩ : S39) )) (Reps.c4 (show Kd.M k39 _ _ _ (⟨0, 6, (⟨0, tx⟩ : S37)⟩ : S39) [.int .i64 0, .int .i64 6, .int .i64 0, .string tx] from (k39_mkM _ _ _ (⟨0, 6, (⟨0, tx⟩ : S37)⟩ : S39) )) (Reps.none _ _)))); intro v409 w107 ho108 hb hg_ hnew_; clear hg_ hnew_; (first | rw [← Ny408.out] at ho108 | (simp only [Int.reduceToNat] at ho108; rw [← Ny408.out] at ho108)); have n0_ := Aside0.mk (Kd.N_elder' (by (with_reducible repeat (first | apply Kd.N_alloc | apply Kd.N_drewN | apply Kd.N_drew)); exact HO_7.out) (Kd.R_base ho108) hb); have n1_ := Aside0.mk (Kd.N_elder' (by (with_reducible repeat (first | apply Kd.N_alloc | apply Kd.N_drewN | apply Kd.N_drew)); exact HO_10.out) (Kd.R_base ho108) hb); have n2_ := Aside0.mk (Kd.R_below (by (with_reducible repeat (first | apply Kd.R_alloc | apply Kd.R_drewN | apply Kd.R_drew)); exact HO_379000.out) hb); have n3_ := Aside0.mk (Kd.R_elder' (by (with_reducible repeat (first | apply Kd.R_alloc | apply Kd.R_drewN | apply Kd.R_drew)); exact HO404.out) (Kd.R_base ho108) hb); have n4_ := Aside0.mk (Kd.N_elder' (by (with_reducible repeat (first | apply Kd.N_alloc | apply Kd.N_drewN | apply Kd.N_drew)); exact HO407.out) (Kd.R_base ho108) hb); have n5_ := Aside0.mk (Kd.R_lower (Kd.R_newB (Kd.R_new' ho108 (Kd.R_lt (by (with_reducible repeat (first | apply Kd.R_alloc | apply Kd.R_drewN | apply Kd.R_drew)); exact HO404.out))) (g := gb390) (o := .cells #[.int .i64 0, .int .i64 7, .int .i64 0, .string tx] 39 (0, 0)) (by (with_reducible repeat (first | refine blk_drewN ?_ _ | refine blk_drew ?_ | refine blk_alloc ?_ _)); exact BK390.out)) (below_size (by repeat (first | (with_reducible first | exact HB.out | apply below_alloc | apply pw_below_drewN | apply below_drew1 | refine below_set ?_ GE378.out | refine below_set ?_ GE390.out) | exact HB.out)))); have n6_ := Aside0.mk (blk_below (g := gb378) (o := .cells #[.slice Ao11 y375.length co11, .int .i64 1, .int .i64 1, .int .i64 1] 32 (0, 0)) (by (with_reducible repeat (first | refine blk_drewN ?_ _ | refine blk_drew ?_ | refine blk_alloc ?_ _)); exact BK378.out) hb); have n7_ := Aside0.mk (blk_below (g := gb390) (o := .cells #[.int .i64 0, .int .i64 7, .int .i64 0, .string tx] 39 (0, 0)) (by (with_reducible repeat (first | refine blk_drewN ?_ _ | refine blk_drew ?_ | refine blk_alloc ?_ _)); exact BK390.out) hb); have n8_ := Aside0.mk (below_step (by repeat (first | (with_reducible first | exact HB.out | apply below_alloc | apply pw_below_drewN | apply below_drew1 | refine below_set ?_ GE378.out | refine below_set ?_ GE390.out) | exact HB.out)) hb); clear HO_7; clear HO_10; clear HO_379000; clear HO404; clear HO407; clear BK378; clear BK390; clear HB; have HO_7 := n0_; have HO_10 := n1_; have HO_379000 := n2_; have HO404 := n3_; have HO407 := n4_; have HO410 := n5_; have BK378 := n6_; have BK390 := n7_; have HB := n8_; clear n0_ n1_ n2_ n3_ n4_ n5_ n6_ n7_ n8_; clear hb ho108; obtain ⟨Ao109, co109, eo109⟩ := Kd.R_slice HO410.out; subst eo109) | ((with_reducible refine gate_callee (f := 15) rfl ?_); refine goesL_ (some 122) rfl rfl Try.func15 (by kernel_rfl) rfl #[.agg #[.slice Ao11 y375.length co11, .int .i64 1, .int .i64 1, .int .i64 1], .slice Ao109 y408.length co109, .slice Ao36 x7_6.length co36] rfl (by (try simp only [List.map_toArray, List.map_cons, List.map_nil]); first | done | rfl | (simp only [List.length_drop, List.length_take]; rfl)) ?_; (with_reducible refine (filter_Keep.calls k2 _ _ y375 1 1 1 _ _ y408 (fun k_ => ((((some k_ ≠ (v395 : Value).ownBlock ∧ (some k_ ≠ (.slice Ao11 y375.length co11 : Value).ownBlock ∧ (k_ ≠ gb378 ∧ k_ ≠ gb390))) ∧ some k_ ≠ (.slice Ao103 y402.length co103 : Value).ownBlock) ∧ some k_ ≠ (v406 : Value).ownBlock) ∧ some k_ ≠ (.slice Ao109 y408.length co109 : Value).ownBlock)) _ _ x7_6 t411 _ ?side1 ?side2 ?side3 ?side4 ?side5 A57.out).mono ?_); (case side1 => repeat (first | exact (Kd.R_reads' HO_379000.out).2.2 | (with_reducible refine Kd.C_alloc ?_ _) | (with_reducible refine Kd.C_drewN ?_ _) | (with_reducible refine Kd.C_drew ?_))); (case side2 => exact (Kd.R_reads' HO_379000.out).2.1); (case side3 => repeat (first | exact (Kd.R_reads' HO410.out).2.2 | (with_reducible refine Kd.C_alloc ?_ _) | (with_reducible refine Kd.C_drewN ?_ _) | (with_reducible refine Kd.C_drew ?_))); (case side4 => exact (Kd.R_reads' HO410.out).2.1); (case side5 => exact Kd.N_V (HO_7.out)); rintro e w110 ⟨v412, rfl, ho0, hb⟩; refine ⟨_, rfl, ?_⟩; have n0_ := Aside0.mk (Kd.N_elder' (by (with_reducible repeat (first | apply Kd.N_alloc | apply Kd.N_drewN | apply Kd.N_drew)); exact HO_7.out) (by first | exact Kd.N_base ho0 | exact Kd.S_base ho0) hb); have n1_ := Aside0.mk (Kd.N_elder' (by (with_reducible repeat (first | apply Kd.N_alloc | apply Kd.N_drewN | apply Kd.N_drew)); exact HO_10.out) (by first | exact Kd.N_base ho0 | exact Kd.S_base ho0) hb); have n2_ := Aside0.mk (Kd.R_below (by (with_reducible repeat (first | apply Kd.R_alloc | apply Kd.R_drewN | apply Kd.R_drew)); exact HO_379000.out) hb); have n3_ := Aside0.mk (Kd.R_below (by (with_reducible repeat (first | apply Kd.R_alloc | apply Kd.R_drewN | apply Kd.R_drew)); exact HO404.out) hb); have n4_ := Aside0.mk (Kd.N_elder' (by (with_reducible repeat (first | apply Kd.N_alloc | apply Kd.N_drewN | apply Kd.N_drew)); exact HO407.out) (by first | exact Kd.N_base ho0 | exact Kd.S_base ho0) hb); have n5_ := Aside0.mk (Kd.R_below (by (with_reducible repeat (first | apply Kd.R_alloc | apply Kd.R_drewN | apply Kd.R_drew)); exact HO410.out) hb); have n6_ := Aside0.mk (Kd.N_lower (Kd.N_mono (ok' := fun k_ => some k_ ≠ (v395 : Value).ownBlock ∧ some k_ ≠ (.slice Ao11 y375.length co11 : Value).ownBlock ∧ some k_ ≠ (.slice Ao103 y402.length co103 : Value).ownBlock ∧ some k_ ≠ (v406 : Value).ownBlock ∧ some k_ ≠ (.slice Ao109 y408.length co109 : Value).ownBlock ∧ k_ ≠ gb378 ∧ k_ ≠ gb390) ho0 (fun k_ hk_ => ⟨Or.elim hk_ (fun hs_ => hs_.1.1.1.1) (fun hn_ => (Kd.fresh' (Kd.N_lt (by (with_reducible repeat (first | apply Kd.N_alloc | apply Kd.N_drewN | apply Kd.N_drew)); exact HO_10.out)) k_ hn_)), Or.elim hk_ (fun hs_ => hs_.1.1.1.2.1) (fun hn_ => (Kd.fresh' (Kd.R_lt (by (with_reducible repeat (first | apply Kd.R_alloc | apply Kd.R_drewN | apply Kd.R_drew)); exact HO_379000.out)) k_ hn_)), Or.elim hk_ (fun hs_ => hs_.1.1.2) (fun hn_ => (Kd.fresh' (Kd.R_lt (by (with_reducible repeat (first | apply Kd.R_alloc | apply Kd.R_drewN | apply Kd.R_drew)); exact HO404.out)) k_ hn_)), Or.elim hk_ (fun hs_ => hs_.1.2) (fun hn_ => (Kd.fresh' (Kd.N_lt (by (with_reducible repeat (first | apply Kd.N_alloc | apply Kd.N_drewN | apply Kd.N_drew)); exact HO407.out)) k_ hn_)), Or.elim hk_ (fun hs_ => hs_.2) (fun hn_ => (Kd.fresh' (Kd.R_lt (by (with_reducible repeat (first | apply Kd.R_alloc | apply Kd.R_drewN | apply Kd.R_drew)); exact HO410.out)) k_ hn_)), Or.elim hk_ (fun hs_ => hs_.1.1.1.2.2.1) (fun hn_ => (Kd.freshB (g := gb378) (o := .cells #[.slice Ao11 y375.length co11, .int .i64 1, .int .i64 1, .int .i64 1] 32 (0, 0)) (by (with_reducible repeat (first | refine blk_drewN ?_ _ | refine blk_drew ?_ | refine blk_alloc ?_ _)); exact BK378.out) k_ hn_)), Or.elim hk_ (fun hs_ => hs_.1.1.1.2.2.2) (fun hn_ => (Kd.freshB (g := gb390) (o := .cells #[.int .i64 0, .int .i64 7, .int .i64 0, .string tx] 39 (0, 0)) (by (with_reducible repeat (first | refine blk_drewN ?_ _ | refine blk_drew ?_ | refine blk_alloc ?_ _)); exact BK390.out) k_ hn_))⟩)) (below_size (by repeat (first | (with_reducible first | exact HB.out | apply below_alloc | apply pw_below_drewN | apply below_drew1 | refine below_set ?_ GE378.out | refine below_set ?_ GE390.out) | exact HB.out)))); have n7_ := Aside0.mk (blk_below (g := gb378) (o := .cells #[.slice Ao11 y375.length co11, .int .i64 1, .int .i64 1, .int .i64 1] 32 (0, 0)) (by (with_reducible repeat (first | refine blk_drewN ?_ _ | refine blk_drew ?_ | refine blk_alloc ?_ _)); exact BK378.out) hb); have n8_ := Aside0.mk (blk_below (g := gb390) (o := .cells #[.int .i64 0, .int .i64 7, .int .i64 0, .string tx] 39 (0, 0)) (by (with_reducible repeat (first | refine blk_drewN ?_ _ | refine blk_drew ?_ | refine blk_alloc ?_ _)); exact BK390.out) hb); have n9_ := Aside0.mk (below_step (by repeat (first | (with_reducible first | exact HB.out | apply below_alloc | apply pw_below_drewN | apply below_drew1 | refine below_set ?_ GE378.out | refine below_set ?_ GE390.out) | exact HB.out)) hb); clear HO_7; clear HO_10; clear HO_379000; clear HO404; clear HO407; clear HO410; clear BK378; clear BK390; clear HB; have HO_7 := n0_; have HO_10 := n1_; have HO_379000 := n2_; have HO404 := n3_; have HO407 := n4_; have HO410 := n5_; have HO413 := n6_; have BK378 := n7_; have BK390 := n8_; have HB := n9_; clear n0_ n1_ n2_ n3_ n4_ n5_ n6_ n7_ n8_ n9_; (try clear hb); (try clear hb2); (try clear hk); (try clear hi); (try clear ho0); obtain ⟨Ao111, co111, eo111⟩ := Kd.N_slice HO_10.out; subst eo111; obtain ⟨Ao112, co112, eo112⟩ := Kd.N_slice HO407.out; subst eo112))
                      go_ret
                      exact ⟨by first | rfl | (simp [errW_none, errW_some] <;> rfl) | (simp only [← hji4]; first | rfl | (simp [errW_none, errW_some] <;> rfl)) | (simp [*, errW_none, errW_some] <;> rfl), by repeat (first | (with_reducible first | exact HB.out | apply below_alloc | apply pw_below_drewN | apply below_drew1 | refine below_set ?_ GE378.out | refine below_set ?_ GE390.out) | exact HB.out)⟩
                  · rw [if_neg c59] at H
                    have c59b0 : (x11_2 == (t394.length : Int)) = false := beq_eq_false_iff_ne.mpr c59
                    have c59b1 : (x11_2 != (t394.length : Int)) = true := bne_iff_ne.mpr c59
                    obtain rfl := Option.some.inj H
                    have hnb113 := NB378_390.out
                    have hnc113 := NB390_378.out
                    have hcz114_0 : wr.cell? ⟨gb378, 0, none⟩ = some (.slice Ao11 y375.length co11) := (blk_cell BK378.out 0).trans rfl
                    have hcz114_1 : wr.cell? ⟨gb378, 1, none⟩ = some (.int .i64 1) := (blk_cell BK378.out 1).trans rfl
                    have hcz114_2 : wr.cell? ⟨gb378, 2, none⟩ = some (.int .i64 1) := (blk_cell BK378.out 2).trans rfl
                    have hcz114_3 : wr.cell? ⟨gb378, 3, none⟩ = some (.int .i64 1) := (blk_cell BK378.out 3).trans rfl
                    have hfz114_0 := blk_frozen BK378.out 0
                    have hfz114_1 := blk_frozen BK378.out 1
                    have hfz114_2 := blk_frozen BK378.out 2
                    have hfz114_3 := blk_frozen BK378.out 3
                    go_wp2_with (first | ((with_reducible refine gate_dst (N := 112) rfl ?_); (try (refine gate_guard (by rfl) ?_; dsimp only)); refine Kd.R_lit k39 _ 39 ?hg (N := 112) ?hd (xs := ([(⟨0, 7, (⟨0, (⟨#[]⟩ : ByteArray)⟩ : S37)⟩ : S39)] : List (S39))) (inner := [.int .i64 0, .int .i64 7, .int .i64 0, .string (⟨#[]⟩ : ByteArray)]) (ok := fun _ => True) (okp := fun _ => True) ?hr ?hp (fun _ hk => hk) trivial (Below.refl _ _) (Nat.le_refl _) (by simp) ?_; (case hd => rfl); (case hg => rfl); (case hr => first | (go_simp; done) | (go_simp; rfl)); (case hp => exact (Reps.c4 (show Kd.M k39 _ _ _ (⟨0, 7, (⟨0, (⟨#[]⟩ : ByteArray)⟩ : S37)⟩ : S39) [.int .i64 0, .int .i64 7, .int .i64 0, .string (⟨#[]⟩ : ByteArray)] from (k39_mkM _ _ _ (⟨0, 7, (⟨0, (⟨#[]⟩ : ByteArray)⟩ : S37)⟩ : S39) )) (Reps.none _ _))); intro v403 w115 ho116 hb hg_ hnew_; clear hg_ hnew_; (first | rw [← Ny402.out] at ho116 | (simp only [Int.reduceToNat] at ho116; rw [← Ny402.out] at ho116)); have n0_ := Aside0.mk (Kd.N_elder' (by (with_reducible repeat (first | apply Kd.N_alloc | apply Kd.N_drewN | apply Kd.N_drew)); exact HO_7.out) (Kd.R_base ho116) hb); have n1_ := Aside0.mk (Kd.N_elder' (by (with_reducible repeat (first | apply Kd.N_alloc | apply Kd.N_drewN | apply Kd.N_drew)); exact HO_10.out) (Kd.R_base ho116) hb); have n2_ := Aside0.mk (Kd.R_below (by (with_reducible repeat (first | apply Kd.R_alloc | apply Kd.R_drewN | apply Kd.R_drew)); exact HO_379000.out) hb); have n3_ := Aside0.mk (Kd.R_lower (Kd.R_newB ho116 (g := gb390) (o := .cells #[.int .i64 0, .int .i64 7, .int .i64 0, .string tx] 39 (0, 0)) (by (with_reducible repeat (first | refine blk_drewN ?_ _ | refine blk_drew ?_ | refine blk_alloc ?_ _)); exact BK390.out)) (below_size (by repeat (first | (with_reducible first | exact HB.out | apply below_alloc | apply pw_below_drewN | apply below_drew1 | refine below_set ?_ GE378.out | refine below_set ?_ GE390.out) | exact HB.out)))); have n4_ := Aside0.mk (blk_below (g := gb378) (o := .cells #[.slice Ao11 y375.length co11, .int .i64 1, .int .i64 1, .int .i64 1] 32 (0, 0)) (by (with_reducible repeat (first | refine blk_drewN ?_ _ | refine blk_drew ?_ | refine blk_alloc ?_ _)); exact BK378.out) hb); have n5_ := Aside0.mk (blk_below (g := gb390) (o := .cells #[.int .i64 0, .int .i64 7, .int .i64 0, .string tx] 39 (0, 0)) (by (with_reducible repeat (first | refine blk_drewN ?_ _ | refine blk_drew ?_ | refine blk_alloc ?_ _)); exact BK390.out) hb); have n6_ := Aside0.mk (below_step (by repeat (first | (with_reducible first | exact HB.out | apply below_alloc | apply pw_below_drewN | apply below_drew1 | refine below_set ?_ GE378.out | refine below_set ?_ GE390.out) | exact HB.out)) hb); clear HO_7; clear HO_10; clear HO_379000; clear BK378; clear BK390; clear HB; have HO_7 := n0_; have HO_10 := n1_; have HO_379000 := n2_; have HO404 := n3_; have BK378 := n4_; have BK390 := n5_; have HB := n6_; clear n0_ n1_ n2_ n3_ n4_ n5_ n6_; clear hb ho116; obtain ⟨Ao117, co117, eo117⟩ := Kd.R_slice HO404.out; subst eo117) | ((with_reducible refine gate_callee (f := 15) rfl ?_); refine goesL_ (some 114) rfl rfl Try.func15 (by kernel_rfl) rfl #[.agg #[.slice Ao11 y375.length co11, .int .i64 1, .int .i64 1, .int .i64 1], .slice Ao117 y402.length co117, .slice Ao36 x7_6.length co36] rfl (by (try simp only [List.map_toArray, List.map_cons, List.map_nil]); first | done | rfl | (simp only [List.length_drop, List.length_take]; rfl)) ?_; (with_reducible refine (filter_Keep.calls k2 _ _ y375 1 1 1 _ _ y402 (fun k_ => ((some k_ ≠ (v395 : Value).ownBlock ∧ (some k_ ≠ (.slice Ao11 y375.length co11 : Value).ownBlock ∧ (k_ ≠ gb378 ∧ k_ ≠ gb390))) ∧ some k_ ≠ (.slice Ao117 y402.length co117 : Value).ownBlock)) _ _ x7_6 t405 _ ?side1 ?side2 ?side3 ?side4 ?side5 A56.out).mono ?_); (case side1 => repeat (first | exact (Kd.R_reads' HO_379000.out).2.2 | (with_reducible refine Kd.C_alloc ?_ _) | (with_reducible refine Kd.C_drewN ?_ _) | (with_reducible refine Kd.C_drew ?_))); (case side2 => exact (Kd.R_reads' HO_379000.out).2.1); (case side3 => repeat (first | exact (Kd.R_reads' HO404.out).2.2 | (with_reducible refine Kd.C_alloc ?_ _) | (with_reducible refine Kd.C_drewN ?_ _) | (with_reducible refine Kd.C_drew ?_))); (case side4 => exact (Kd.R_reads' HO404.out).2.1); (case side5 => exact Kd.N_V (HO_7.out)); rintro e w118 ⟨v406, rfl, ho0, hb⟩; refine ⟨_, rfl, ?_⟩; have n0_ := Aside0.mk (Kd.N_elder' (by (with_reducible repeat (first | apply Kd.N_alloc | apply Kd.N_drewN | apply Kd.N_drew)); exact HO_7.out) (by first | exact Kd.N_base ho0 | exact Kd.S_base ho0) hb); have n1_ := Aside0.mk (Kd.N_elder' (by (with_reducible repeat (first | apply Kd.N_alloc | apply Kd.N_drewN | apply Kd.N_drew)); exact HO_10.out) (by first | exact Kd.N_base ho0 | exact Kd.S_base ho0) hb); have n2_ := Aside0.mk (Kd.R_below (by (with_reducible repeat (first | apply Kd.R_alloc | apply Kd.R_drewN | apply Kd.R_drew)); exact HO_379000.out) hb); have n3_ := Aside0.mk (Kd.R_below (by (with_reducible repeat (first | apply Kd.R_alloc | apply Kd.R_drewN | apply Kd.R_drew)); exact HO404.out) hb); have n4_ := Aside0.mk (Kd.N_lower (Kd.N_mono (ok' := fun k_ => some k_ ≠ (v395 : Value).ownBlock ∧ some k_ ≠ (.slice Ao11 y375.length co11 : Value).ownBlock ∧ some k_ ≠ (.slice Ao117 y402.length co117 : Value).ownBlock ∧ k_ ≠ gb378 ∧ k_ ≠ gb390) ho0 (fun k_ hk_ => ⟨Or.elim hk_ (fun hs_ => hs_.1.1) (fun hn_ => (Kd.fresh' (Kd.N_lt (by (with_reducible repeat (first | apply Kd.N_alloc | apply Kd.N_drewN | apply Kd.N_drew)); exact HO_10.out)) k_ hn_)), Or.elim hk_ (fun hs_ => hs_.1.2.1) (fun hn_ => (Kd.fresh' (Kd.R_lt (by (with_reducible repeat (first | apply Kd.R_alloc | apply Kd.R_drewN | apply Kd.R_drew)); exact HO_379000.out)) k_ hn_)), Or.elim hk_ (fun hs_ => hs_.2) (fun hn_ => (Kd.fresh' (Kd.R_lt (by (with_reducible repeat (first | apply Kd.R_alloc | apply Kd.R_drewN | apply Kd.R_drew)); exact HO404.out)) k_ hn_)), Or.elim hk_ (fun hs_ => hs_.1.2.2.1) (fun hn_ => (Kd.freshB (g := gb378) (o := .cells #[.slice Ao11 y375.length co11, .int .i64 1, .int .i64 1, .int .i64 1] 32 (0, 0)) (by (with_reducible repeat (first | refine blk_drewN ?_ _ | refine blk_drew ?_ | refine blk_alloc ?_ _)); exact BK378.out) k_ hn_)), Or.elim hk_ (fun hs_ => hs_.1.2.2.2) (fun hn_ => (Kd.freshB (g := gb390) (o := .cells #[.int .i64 0, .int .i64 7, .int .i64 0, .string tx] 39 (0, 0)) (by (with_reducible repeat (first | refine blk_drewN ?_ _ | refine blk_drew ?_ | refine blk_alloc ?_ _)); exact BK390.out) k_ hn_))⟩)) (below_size (by repeat (first | (with_reducible first | exact HB.out | apply below_alloc | apply pw_below_drewN | apply below_drew1 | refine below_set ?_ GE378.out | refine below_set ?_ GE390.out) | exact HB.out)))); have n5_ := Aside0.mk (blk_below (g := gb378) (o := .cells #[.slice Ao11 y375.length co11, .int .i64 1, .int .i64 1, .int .i64 1] 32 (0, 0)) (by (with_reducible repeat (first | refine blk_drewN ?_ _ | refine blk_drew ?_ | refine blk_alloc ?_ _)); exact BK378.out) hb); have n6_ := Aside0.mk (blk_below (g := gb390) (o := .cells #[.int .i64 0, .int .i64 7, .int .i64 0, .string tx] 39 (0, 0)) (by (with_reducible repeat (first | refine blk_drewN ?_ _ | refine blk_drew ?_ | refine blk_alloc ?_ _)); exact BK390.out) hb); have n7_ := Aside0.mk (below_step (by repeat (first | (with_reducible first | exact HB.out | apply below_alloc | apply pw_below_drewN | apply below_drew1 | refine below_set ?_ GE378.out | refine below_set ?_ GE390.out) | exact HB.out)) hb); clear HO_7; clear HO_10; clear HO_379000; clear HO404; clear BK378; clear BK390; clear HB; have HO_7 := n0_; have HO_10 := n1_; have HO_379000 := n2_; have HO404 := n3_; have HO407 := n4_; have BK378 := n5_; have BK390 := n6_; have HB := n7_; clear n0_ n1_ n2_ n3_ n4_ n5_ n6_ n7_; (try clear hb); (try clear hb2); (try clear hk); (try clear hi); (try clear ho0); have hcz119_0 : w118.cell? ⟨gb378, 0, none⟩ = some (.slice Ao11 y375.length co11) := (blk_cell BK378.out 0).trans rfl; have hcz119_1 : w118.cell? ⟨gb378, 1, none⟩ = some (.int .i64 1) := (blk_cell BK378.out 1).trans rfl; have hcz119_2 : w118.cell? ⟨gb378, 2, none⟩ = some (.int .i64 1) := (blk_cell BK378.out 2).trans rfl; have hcz119_3 : w118.cell? ⟨gb378, 3, none⟩ = some (.int .i64 1) := (blk_cell BK378.out 3).trans rfl; have hfz119_0 := blk_frozen BK378.out 0; have hfz119_1 := blk_frozen BK378.out 1; have hfz119_2 := blk_frozen BK378.out 2; have hfz119_3 := blk_frozen BK378.out 3; have hcz120_0 : w118.cell? ⟨gb390, 0, none⟩ = some (.int .i64 0) := (blk_cell BK390.out 0).trans rfl; have hcz120_1 : w118.cell? ⟨gb390, 1, none⟩ = some (.int .i64 7) := (blk_cell BK390.out 1).trans rfl; have hcz120_2 : w118.cell? ⟨gb390, 2, none⟩ = some (.int .i64 0) := (blk_cell BK390.out 2).trans rfl; have hcz120_3 : w118.cell? ⟨gb390, 3, none⟩ = some (.string tx) := (blk_cell BK390.out 3).trans rfl; have hfz120_0 := blk_frozen BK390.out 0; have hfz120_1 := blk_frozen BK390.out 1; have hfz120_2 := blk_frozen BK390.out 2; have hfz120_3 := blk_frozen BK390.out 3) | ((with_reducible refine gate_dst (N := 120) rfl ?_); (try (refine gate_guard (by rfl) ?_; dsimp only)); refine Kd.R_lit k39 _ 39 ?hg (N := 120) ?hd (xs := ([(⟨0, 7, (⟨0, tx⟩ : S37)⟩ : S39), (⟨0, 6, (⟨0, tx⟩ : S37)⟩ : S39)] : List (S39))) (inner := [.int .i64 0, .int .i64 7, .int .i64 0, .string tx, .int .i64 0, .int .i64 6, .int .i64 0, .string tx]) (ok := fun _ => True) (okp := fun _ => True) ?hr ?hp (fun _ hk => hk) trivial (Below.refl _ _) (Nat.le_refl _) (by simp) ?_; (case hd => rfl); (case hg => rfl); (case hr => first | (go_simp; done) | (go_simp; rfl)); (case hp => exact (Reps.c4 (show Kd.M k39 _ _ _ (⟨0, 7, (⟨0, tx⟩ : S37)⟩ : S39) [.int .i64 0, .int .i64 7, .int .i64 0, .string tx] from (k39_mkM _ _ _ (⟨0, 7, (⟨0, tx⟩ : S37)⟩ : S39) )) (Reps.c4 (show Kd.M k39 _ _ _ (⟨0, 6, (⟨0, tx⟩ : S37)⟩ : S39) [.int .i64 0, .int .i64 6, .int .i64 0, .string tx] from (k39_mkM _ _ _ (⟨0, 6, (⟨0, tx⟩ : S37)⟩ : S39) )) (Reps.none _ _)))); intro v409 w121 ho122 hb hg_ hnew_; clear hg_ hnew_; (first | rw [← Ny408.out] at ho122 | (simp only [Int.reduceToNat] at ho122; rw [← Ny408.out] at ho122)); have n0_ := Aside0.mk (Kd.N_elder' (by (with_reducible repeat (first | apply Kd.N_alloc | apply Kd.N_drewN | apply Kd.N_drew)); exact HO_7.out) (Kd.R_base ho122) hb); have n1_ := Aside0.mk (Kd.N_elder' (by (with_reducible repeat (first | apply Kd.N_alloc | apply Kd.N_drewN | apply Kd.N_drew)); exact HO_10.out) (Kd.R_base ho122) hb); have n2_ := Aside0.mk (Kd.R_below (by (with_reducible repeat (first | apply Kd.R_alloc | apply Kd.R_drewN | apply Kd.R_drew)); exact HO_379000.out) hb); have n3_ := Aside0.mk (Kd.R_elder' (by (with_reducible repeat (first | apply Kd.R_alloc | apply Kd.R_drewN | apply Kd.R_drew)); exact HO404.out) (Kd.R_base ho122) hb); have n4_ := Aside0.mk (Kd.N_elder' (by (with_reducible repeat (first | apply Kd.N_alloc | apply Kd.N_drewN | apply Kd.N_drew)); exact HO407.out) (Kd.R_base ho122) hb); have n5_ := Aside0.mk (Kd.R_lower (Kd.R_newB (Kd.R_new' ho122 (Kd.R_lt (by (with_reducible repeat (first | apply Kd.R_alloc | apply Kd.R_drewN | apply Kd.R_drew)); exact HO404.out))) (g := gb390) (o := .cells #[.int .i64 0, .int .i64 7, .int .i64 0, .string tx] 39 (0, 0)) (by (with_reducible repeat (first | refine blk_drewN ?_ _ | refine blk_drew ?_ | refine blk_alloc ?_ _)); exact BK390.out)) (below_size (by repeat (first | (with_reducible first | exact HB.out | apply below_alloc | apply pw_below_drewN | apply below_drew1 | refine below_set ?_ GE378.out | refine below_set ?_ GE390.out) | exact HB.out)))); have n6_ := Aside0.mk (blk_below (g := gb378) (o := .cells #[.slice Ao11 y375.length co11, .int .i64 1, .int .i64 1, .int .i64 1] 32 (0, 0)) (by (with_reducible repeat (first | refine blk_drewN ?_ _ | refine blk_drew ?_ | refine blk_alloc ?_ _)); exact BK378.out) hb); have n7_ := Aside0.mk (blk_below (g := gb390) (o := .cells #[.int .i64 0, .int .i64 7, .int .i64 0, .string tx] 39 (0, 0)) (by (with_reducible repeat (first | refine blk_drewN ?_ _ | refine blk_drew ?_ | refine blk_alloc ?_ _)); exact BK390.out) hb); have n8_ := Aside0.mk (below_step (by repeat (first | (with_reducible first | exact HB.out | apply below_alloc | apply pw_below_drewN | apply below_drew1 | refine below_set ?_ GE378.out | refine below_set ?_ GE390.out) | exact HB.out)) hb); clear HO_7; clear HO_10; clear HO_379000; clear HO404; clear HO407; clear BK378; clear BK390; clear HB; have HO_7 := n0_; have HO_10 := n1_; have HO_379000 := n2_; have HO404 := n3_; have HO407 := n4_; have HO410 := n5_; have BK378 := n6_; have BK390 := n7_; have HB := n8_; clear n0_ n1_ n2_ n3_ n4_ n5_ n6_ n7_ n8_; clear hb ho122; obtain ⟨Ao123, co123, eo123⟩ := Kd.R_slice HO410.out; subst eo123) | ((with_reducible refine gate_callee (f := 15) rfl ?_); refine goesL_ (some 122) rfl rfl Try.func15 (by kernel_rfl) rfl #[.agg #[.slice Ao11 y375.length co11, .int .i64 1, .int .i64 1, .int .i64 1], .slice Ao123 y408.length co123, .slice Ao36 x7_6.length co36] rfl (by (try simp only [List.map_toArray, List.map_cons, List.map_nil]); first | done | rfl | (simp only [List.length_drop, List.length_take]; rfl)) ?_; (with_reducible refine (filter_Keep.calls k2 _ _ y375 1 1 1 _ _ y408 (fun k_ => ((((some k_ ≠ (v395 : Value).ownBlock ∧ (some k_ ≠ (.slice Ao11 y375.length co11 : Value).ownBlock ∧ (k_ ≠ gb378 ∧ k_ ≠ gb390))) ∧ some k_ ≠ (.slice Ao117 y402.length co117 : Value).ownBlock) ∧ some k_ ≠ (v406 : Value).ownBlock) ∧ some k_ ≠ (.slice Ao123 y408.length co123 : Value).ownBlock)) _ _ x7_6 t411 _ ?side1 ?side2 ?side3 ?side4 ?side5 A57.out).mono ?_); (case side1 => repeat (first | exact (Kd.R_reads' HO_379000.out).2.2 | (with_reducible refine Kd.C_alloc ?_ _) | (with_reducible refine Kd.C_drewN ?_ _) | (with_reducible refine Kd.C_drew ?_))); (case side2 => exact (Kd.R_reads' HO_379000.out).2.1); (case side3 => repeat (first | exact (Kd.R_reads' HO410.out).2.2 | (with_reducible refine Kd.C_alloc ?_ _) | (with_reducible refine Kd.C_drewN ?_ _) | (with_reducible refine Kd.C_drew ?_))); (case side4 => exact (Kd.R_reads' HO410.out).2.1); (case side5 => exact Kd.N_V (HO_7.out)); rintro e w124 ⟨v412, rfl, ho0, hb⟩; refine ⟨_, rfl, ?_⟩; have n0_ := Aside0.mk (Kd.N_elder' (by (with_reducible repeat (first | apply Kd.N_alloc | apply Kd.N_drewN | apply Kd.N_drew)); exact HO_7.out) (by first | exact Kd.N_base ho0 | exact Kd.S_base ho0) hb); have n1_ := Aside0.mk (Kd.N_elder' (by (with_reducible repeat (first | apply Kd.N_alloc | apply Kd.N_drewN | apply Kd.N_drew)); exact HO_10.out) (by first | exact Kd.N_base ho0 | exact Kd.S_base ho0) hb); have n2_ := Aside0.mk (Kd.R_below (by (with_reducible repeat (first | apply Kd.R_alloc | apply Kd.R_drewN | apply Kd.R_drew)); exact HO_379000.out) hb); have n3_ := Aside0.mk (Kd.R_below (by (with_reducible repeat (first | apply Kd.R_alloc | apply Kd.R_drewN | apply Kd.R_drew)); exact HO404.out) hb); have n4_ := Aside0.mk (Kd.N_elder' (by (with_reducible repeat (first | apply Kd.N_alloc | apply Kd.N_drewN | apply Kd.N_drew)); exact HO407.out) (by first | exact Kd.N_base ho0 | exact Kd.S_base ho0) hb); have n5_ := Aside0.mk (Kd.R_below (by (with_reducible repeat (first | apply Kd.R_alloc | apply Kd.R_drewN | apply Kd.R_drew)); exact HO410.out) hb); have n6_ := Aside0.mk (Kd.N_lower (Kd.N_mono (ok' := fun k_ => some k_ ≠ (v395 : Value).ownBlock ∧ some k_ ≠ (.slice Ao11 y375.length co11 : Value).ownBlock ∧ some k_ ≠ (.slice Ao117 y402.length co117 : Value).ownBlock ∧ some k_ ≠ (v406 : Value).ownBlock ∧ some k_ ≠ (.slice Ao123 y408.length co123 : Value).ownBlock ∧ k_ ≠ gb378 ∧ k_ ≠ gb390) ho0 (fun k_ hk_ => ⟨Or.elim hk_ (fun hs_ => hs_.1.1.1.1) (fun hn_ => (Kd.fresh' (Kd.N_lt (by (with_reducible repeat (first | apply Kd.N_alloc | apply Kd.N_drewN | apply Kd.N_drew)); exact HO_10.out)) k_ hn_)), Or.elim hk_ (fun hs_ => hs_.1.1.1.2.1) (fun hn_ => (Kd.fresh' (Kd.R_lt (by (with_reducible repeat (first | apply Kd.R_alloc | apply Kd.R_drewN | apply Kd.R_drew)); exact HO_379000.out)) k_ hn_)), Or.elim hk_ (fun hs_ => hs_.1.1.2) (fun hn_ => (Kd.fresh' (Kd.R_lt (by (with_reducible repeat (first | apply Kd.R_alloc | apply Kd.R_drewN | apply Kd.R_drew)); exact HO404.out)) k_ hn_)), Or.elim hk_ (fun hs_ => hs_.1.2) (fun hn_ => (Kd.fresh' (Kd.N_lt (by (with_reducible repeat (first | apply Kd.N_alloc | apply Kd.N_drewN | apply Kd.N_drew)); exact HO407.out)) k_ hn_)), Or.elim hk_ (fun hs_ => hs_.2) (fun hn_ => (Kd.fresh' (Kd.R_lt (by (with_reducible repeat (first | apply Kd.R_alloc | apply Kd.R_drewN | apply Kd.R_drew)); exact HO410.out)) k_ hn_)), Or.elim hk_ (fun hs_ => hs_.1.1.1.2.2.1) (fun hn_ => (Kd.freshB (g := gb378) (o := .cells #[.slice Ao11 y375.length co11, .int .i64 1, .int .i64 1, .int .i64 1] 32 (0, 0)) (by (with_reducible repeat (first | refine blk_drewN ?_ _ | refine blk_drew ?_ | refine blk_alloc ?_ _)); exact BK378.out) k_ hn_)), Or.elim hk_ (fun hs_ => hs_.1.1.1.2.2.2) (fun hn_ => (Kd.freshB (g := gb390) (o := .cells #[.int .i64 0, .int .i64 7, .int .i64 0, .string tx] 39 (0, 0)) (by (with_reducible repeat (first | refine blk_drewN ?_ _ | refine blk_drew ?_ | refine blk_alloc ?_ _)); exact BK390.out) k_ hn_))⟩)) (below_size (by repeat (first | (with_reducible first | exact HB.out | apply below_alloc | apply pw_below_drewN | apply below_drew1 | refine below_set ?_ GE378.out | refine below_set ?_ GE390.out) | exact HB.out)))); have n7_ := Aside0.mk (blk_below (g := gb378) (o := .cells #[.slice Ao11 y375.length co11, .int .i64 1, .int .i64 1, .int .i64 1] 32 (0, 0)) (by (with_reducible repeat (first | refine blk_drewN ?_ _ | refine blk_drew ?_ | refine blk_alloc ?_ _)); exact BK378.out) hb); have n8_ := Aside0.mk (blk_below (g := gb390) (o := .cells #[.int .i64 0, .int .i64 7, .int .i64 0, .string tx] 39 (0, 0)) (by (with_reducible repeat (first | refine blk_drewN ?_ _ | refine blk_drew ?_ | refine blk_alloc ?_ _)); exact BK390.out) hb); have n9_ := Aside0.mk (below_step (by repeat (first | (with_reducible first | exact HB.out | apply below_alloc | apply pw_below_drewN | apply below_drew1 | refine below_set ?_ GE378.out | refine below_set ?_ GE390.out) | exact HB.out)) hb); clear HO_7; clear HO_10; clear HO_379000; clear HO404; clear HO407; clear HO410; clear BK378; clear BK390; clear HB; have HO_7 := n0_; have HO_10 := n1_; have HO_379000 := n2_; have HO404 := n3_; have HO407 := n4_; have HO410 := n5_; have HO413 := n6_; have BK378 := n7_; have BK390 := n8_; have HB := n9_; clear n0_ n1_ n2_ n3_ n4_ n5_ n6_ n7_ n8_ n9_; (try clear hb); (try clear hb2); (try clear hk); (try clear hi); (try clear ho0); obtain ⟨Ao125, co125, eo125⟩ := Kd.N_slice HO_10.out; subst eo125))
                    go_ret
                    exact ⟨by first | rfl | (simp [errW_none, errW_some] <;> rfl) | (simp only [← hji4]; first | rfl | (simp [errW_none, errW_some] <;> rfl)) | (simp [*, errW_none, errW_some] <;> rfl), by repeat (first | (with_reducible first | exact HB.out | apply below_alloc | apply pw_below_drewN | apply below_drew1 | refine below_set ?_ GE378.out | refine below_set ?_ GE390.out) | exact HB.out)⟩
                · replace c58 := Bool.eq_false_iff.mpr c58
                  subst c58
                  have H1 : (some false) = some r := by rw [if_neg (show ¬ (false = true) by decide)] at H; exact H
                  clear H
                  have H := H1
                  clear H1
                  obtain rfl := Option.some.inj H
                  have hnb126 := NB378_390.out
                  have hnc126 := NB390_378.out
                  have hcz127_0 : wr.cell? ⟨gb378, 0, none⟩ = some (.slice Ao11 y375.length co11) := (blk_cell BK378.out 0).trans rfl
                  have hcz127_1 : wr.cell? ⟨gb378, 1, none⟩ = some (.int .i64 1) := (blk_cell BK378.out 1).trans rfl
                  have hcz127_2 : wr.cell? ⟨gb378, 2, none⟩ = some (.int .i64 1) := (blk_cell BK378.out 2).trans rfl
                  have hcz127_3 : wr.cell? ⟨gb378, 3, none⟩ = some (.int .i64 1) := (blk_cell BK378.out 3).trans rfl
                  have hfz127_0 := blk_frozen BK378.out 0
                  have hfz127_1 := blk_frozen BK378.out 1
                  have hfz127_2 := blk_frozen BK378.out 2
                  have hfz127_3 := blk_frozen BK378.out 3
                  go_wp2_with (first | ((with_reducible refine gate_dst (N := 112) rfl ?_); (try (refine gate_guard (by rfl) ?_; dsimp only)); refine Kd.R_lit k39 _ 39 ?hg (N := 112) ?hd (xs := ([(⟨0, 7, (⟨0, (⟨#[]⟩ : ByteArray)⟩ : S37)⟩ : S39)] : List (S39))) (inner := [.int .i64 0, .int .i64 7, .int .i64 0, .string (⟨#[]⟩ : ByteArray)]) (ok := fun _ => True) (okp := fun _ => True) ?hr ?hp (fun _ hk => hk) trivial (Below.refl _ _) (Nat.le_refl _) (by simp) ?_; (case hd => rfl); (case hg => rfl); (case hr => first | (go_simp; done) | (go_simp; rfl)); (case hp => exact (Reps.c4 (show Kd.M k39 _ _ _ (⟨0, 7, (⟨0, (⟨#[]⟩ : ByteArray)⟩ : S37)⟩ : S39) [.int .i64 0, .int .i64 7, .int .i64 0, .string (⟨#[]⟩ : ByteArray)] from (k39_mkM _ _ _ (⟨0, 7, (⟨0, (⟨#[]⟩ : ByteArray)⟩ : S37)⟩ : S39) )) (Reps.none _ _))); intro v403 w128 ho129 hb hg_ hnew_; clear hg_ hnew_; (first | rw [← Ny402.out] at ho129 | (simp only [Int.reduceToNat] at ho129; rw [← Ny402.out] at ho129)); have n0_ := Aside0.mk (Kd.N_elder' (by (with_reducible repeat (first | apply Kd.N_alloc | apply Kd.N_drewN | apply Kd.N_drew)); exact HO_7.out) (Kd.R_base ho129) hb); have n1_ := Aside0.mk (Kd.N_elder' (by (with_reducible repeat (first | apply Kd.N_alloc | apply Kd.N_drewN | apply Kd.N_drew)); exact HO_10.out) (Kd.R_base ho129) hb); have n2_ := Aside0.mk (Kd.R_below (by (with_reducible repeat (first | apply Kd.R_alloc | apply Kd.R_drewN | apply Kd.R_drew)); exact HO_379000.out) hb); have n3_ := Aside0.mk (Kd.R_lower (Kd.R_newB ho129 (g := gb390) (o := .cells #[.int .i64 0, .int .i64 7, .int .i64 0, .string tx] 39 (0, 0)) (by (with_reducible repeat (first | refine blk_drewN ?_ _ | refine blk_drew ?_ | refine blk_alloc ?_ _)); exact BK390.out)) (below_size (by repeat (first | (with_reducible first | exact HB.out | apply below_alloc | apply pw_below_drewN | apply below_drew1 | refine below_set ?_ GE378.out | refine below_set ?_ GE390.out) | exact HB.out)))); have n4_ := Aside0.mk (blk_below (g := gb378) (o := .cells #[.slice Ao11 y375.length co11, .int .i64 1, .int .i64 1, .int .i64 1] 32 (0, 0)) (by (with_reducible repeat (first | refine blk_drewN ?_ _ | refine blk_drew ?_ | refine blk_alloc ?_ _)); exact BK378.out) hb); have n5_ := Aside0.mk (blk_below (g := gb390) (o := .cells #[.int .i64 0, .int .i64 7, .int .i64 0, .string tx] 39 (0, 0)) (by (with_reducible repeat (first | refine blk_drewN ?_ _ | refine blk_drew ?_ | refine blk_alloc ?_ _)); exact BK390.out) hb); have n6_ := Aside0.mk (below_step (by repeat (first | (with_reducible first | exact HB.out | apply below_alloc | apply pw_below_drewN | apply below_drew1 | refine below_set ?_ GE378.out | refine below_set ?_ GE390.out) | exact HB.out)) hb); clear HO_7; clear HO_10; clear HO_379000; clear BK378; clear BK390; clear HB; have HO_7 := n0_; have HO_10 := n1_; have HO_379000 := n2_; have HO404 := n3_; have BK378 := n4_; have BK390 := n5_; have HB := n6_; clear n0_ n1_ n2_ n3_ n4_ n5_ n6_; clear hb ho129; obtain ⟨Ao130, co130, eo130⟩ := Kd.R_slice HO404.out; subst eo130) | ((with_reducible refine gate_callee (f := 15) rfl ?_); refine goesL_ (some 114) rfl rfl Try.func15 (by kernel_rfl) rfl #[.agg #[.slice Ao11 y375.length co11, .int .i64 1, .int .i64 1, .int .i64 1], .slice Ao130 y402.length co130, .slice Ao36 x7_6.length co36] rfl (by (try simp only [List.map_toArray, List.map_cons, List.map_nil]); first | done | rfl | (simp only [List.length_drop, List.length_take]; rfl)) ?_; (with_reducible refine (filter_Keep.calls k2 _ _ y375 1 1 1 _ _ y402 (fun k_ => ((some k_ ≠ (v395 : Value).ownBlock ∧ (some k_ ≠ (.slice Ao11 y375.length co11 : Value).ownBlock ∧ (k_ ≠ gb378 ∧ k_ ≠ gb390))) ∧ some k_ ≠ (.slice Ao130 y402.length co130 : Value).ownBlock)) _ _ x7_6 t405 _ ?side1 ?side2 ?side3 ?side4 ?side5 A56.out).mono ?_); (case side1 => repeat (first | exact (Kd.R_reads' HO_379000.out).2.2 | (with_reducible refine Kd.C_alloc ?_ _) | (with_reducible refine Kd.C_drewN ?_ _) | (with_reducible refine Kd.C_drew ?_))); (case side2 => exact (Kd.R_reads' HO_379000.out).2.1); (case side3 => repeat (first | exact (Kd.R_reads' HO404.out).2.2 | (with_reducible refine Kd.C_alloc ?_ _) | (with_reducible refine Kd.C_drewN ?_ _) | (with_reducible refine Kd.C_drew ?_))); (case side4 => exact (Kd.R_reads' HO404.out).2.1); (case side5 => exact Kd.N_V (HO_7.out)); rintro e w131 ⟨v406, rfl, ho0, hb⟩; refine ⟨_, rfl, ?_⟩; have n0_ := Aside0.mk (Kd.N_elder' (by (with_reducible repeat (first | apply Kd.N_alloc | apply Kd.N_drewN | apply Kd.N_drew)); exact HO_7.out) (by first | exact Kd.N_base ho0 | exact Kd.S_base ho0) hb); have n1_ := Aside0.mk (Kd.N_elder' (by (with_reducible repeat (first | apply Kd.N_alloc | apply Kd.N_drewN | apply Kd.N_drew)); exact HO_10.out) (by first | exact Kd.N_base ho0 | exact Kd.S_base ho0) hb); have n2_ := Aside0.mk (Kd.R_below (by (with_reducible repeat (first | apply Kd.R_alloc | apply Kd.R_drewN | apply Kd.R_drew)); exact HO_379000.out) hb); have n3_ := Aside0.mk (Kd.R_below (by (with_reducible repeat (first | apply Kd.R_alloc | apply Kd.R_drewN | apply Kd.R_drew)); exact HO404.out) hb); have n4_ := Aside0.mk (Kd.N_lower (Kd.N_mono (ok' := fun k_ => some k_ ≠ (v395 : Value).ownBlock ∧ some k_ ≠ (.slice Ao11 y375.length co11 : Value).ownBlock ∧ some k_ ≠ (.slice Ao130 y402.length co130 : Value).ownBlock ∧ k_ ≠ gb378 ∧ k_ ≠ gb390) ho0 (fun k_ hk_ => ⟨Or.elim hk_ (fun hs_ => hs_.1.1) (fun hn_ => (Kd.fresh' (Kd.N_lt (by (with_reducible repeat (first | apply Kd.N_alloc | apply Kd.N_drewN | apply Kd.N_drew)); exact HO_10.out)) k_ hn_)), Or.elim hk_ (fun hs_ => hs_.1.2.1) (fun hn_ => (Kd.fresh' (Kd.R_lt (by (with_reducible repeat (first | apply Kd.R_alloc | apply Kd.R_drewN | apply Kd.R_drew)); exact HO_379000.out)) k_ hn_)), Or.elim hk_ (fun hs_ => hs_.2) (fun hn_ => (Kd.fresh' (Kd.R_lt (by (with_reducible repeat (first | apply Kd.R_alloc | apply Kd.R_drewN | apply Kd.R_drew)); exact HO404.out)) k_ hn_)), Or.elim hk_ (fun hs_ => hs_.1.2.2.1) (fun hn_ => (Kd.freshB (g := gb378) (o := .cells #[.slice Ao11 y375.length co11, .int .i64 1, .int .i64 1, .int .i64 1] 32 (0, 0)) (by (with_reducible repeat (first | refine blk_drewN ?_ _ | refine blk_drew ?_ | refine blk_alloc ?_ _)); exact BK378.out) k_ hn_)), Or.elim hk_ (fun hs_ => hs_.1.2.2.2) (fun hn_ => (Kd.freshB (g := gb390) (o := .cells #[.int .i64 0, .int .i64 7, .int .i64 0, .string tx] 39 (0, 0)) (by (with_reducible repeat (first | refine blk_drewN ?_ _ | refine blk_drew ?_ | refine blk_alloc ?_ _)); exact BK390.out) k_ hn_))⟩)) (below_size (by repeat (first | (with_reducible first | exact HB.out | apply below_alloc | apply pw_below_drewN | apply below_drew1 | refine below_set ?_ GE378.out | refine below_set ?_ GE390.out) | exact HB.out)))); have n5_ := Aside0.mk (blk_below (g := gb378) (o := .cells #[.slice Ao11 y375.length co11, .int .i64 1, .int .i64 1, .int .i64 1] 32 (0, 0)) (by (with_reducible repeat (first | refine blk_drewN ?_ _ | refine blk_drew ?_ | refine blk_alloc ?_ _)); exact BK378.out) hb); have n6_ := Aside0.mk (blk_below (g := gb390) (o := .cells #[.int .i64 0, .int .i64 7, .int .i64 0, .string tx] 39 (0, 0)) (by (with_reducible repeat (first | refine blk_drewN ?_ _ | refine blk_drew ?_ | refine blk_alloc ?_ _)); exact BK390.out) hb); have n7_ := Aside0.mk (below_step (by repeat (first | (with_reducible first | exact HB.out | apply below_alloc | apply pw_below_drewN | apply below_drew1 | refine below_set ?_ GE378.out | refine below_set ?_ GE390.out) | exact HB.out)) hb); clear HO_7; clear HO_10; clear HO_379000; clear HO404; clear BK378; clear BK390; clear HB; have HO_7 := n0_; have HO_10 := n1_; have HO_379000 := n2_; have HO404 := n3_; have HO407 := n4_; have BK378 := n5_; have BK390 := n6_; have HB := n7_; clear n0_ n1_ n2_ n3_ n4_ n5_ n6_ n7_; (try clear hb); (try clear hb2); (try clear hk); (try clear hi); (try clear ho0); have hcz132_0 : w131.cell? ⟨gb378, 0, none⟩ = some (.slice Ao11 y375.length co11) := (blk_cell BK378.out 0).trans rfl; have hcz132_1 : w131.cell? ⟨gb378, 1, none⟩ = some (.int .i64 1) := (blk_cell BK378.out 1).trans rfl; have hcz132_2 : w131.cell? ⟨gb378, 2, none⟩ = some (.int .i64 1) := (blk_cell BK378.out 2).trans rfl; have hcz132_3 : w131.cell? ⟨gb378, 3, none⟩ = some (.int .i64 1) := (blk_cell BK378.out 3).trans rfl; have hfz132_0 := blk_frozen BK378.out 0; have hfz132_1 := blk_frozen BK378.out 1; have hfz132_2 := blk_frozen BK378.out 2; have hfz132_3 := blk_frozen BK378.out 3; have hcz133_0 : w131.cell? ⟨gb390, 0, none⟩ = some (.int .i64 0) := (blk_cell BK390.out 0).trans rfl; have hcz133_1 : w131.cell? ⟨gb390, 1, none⟩ = some (.int .i64 7) := (blk_cell BK390.out 1).trans rfl; have hcz133_2 : w131.cell? ⟨gb390, 2, none⟩ = some (.int .i64 0) := (blk_cell BK390.out 2).trans rfl; have hcz133_3 : w131.cell? ⟨gb390, 3, none⟩ = some (.string tx) := (blk_cell BK390.out 3).trans rfl; have hfz133_0 := blk_frozen BK390.out 0; have hfz133_1 := blk_frozen BK390.out 1; have hfz133_2 := blk_frozen BK390.out 2; have hfz133_3 := blk_frozen BK390.out 3) | ((with_reducible refine gate_dst (N := 120) rfl ?_); (try (refine gate_guard (by rfl) ?_; dsimp only)); refine Kd.R_lit k39 _ 39 ?hg (N := 120) ?hd (xs := ([(⟨0, 7, (⟨0, tx⟩ : S37)⟩ : S39), (⟨0, 6, (⟨0, tx⟩ : S37)⟩ : S39)] : List (S39))) (inner := [.int .i64 0, .int .i64 7, .int .i64 0, .string tx, .int .i64 0, .int .i64 6, .int .i64 0, .string tx]) (ok := fun _ => True) (okp := fun _ => True) ?hr ?hp (fun _ hk => hk) trivial (Below.refl _ _) (Nat.le_refl _) (by simp) ?_; (case hd => rfl); (case hg => rfl); (case hr => first | (go_simp; done) | (go_simp; rfl)); (case hp => exact (Reps.c4 (show Kd.M k39 _ _ _ (⟨0, 7, (⟨0, tx⟩ : S37)⟩ : S39) [.int .i64 0, .int .i64 7, .int .i64 0, .string tx] from (k39_mkM _ _ _ (⟨0, 7, (⟨0, tx⟩ : S37)⟩ : S39) )) (Reps.c4 (show Kd.M k39 _ _ _ (⟨0, 6, (⟨0, tx⟩ : S37)⟩ : S39) [.int .i64 0, .int .i64 6, .int .i64 0, .string tx] from (k39_mkM _ _ _ (⟨0, 6, (⟨0, tx⟩ : S37)⟩ : S39) )) (Reps.none _ _)))); intro v409 w134 ho135 hb hg_ hnew_; clear hg_ hnew_; (first | rw [← Ny408.out] at ho135 | (simp only [Int.reduceToNat] at ho135; rw [← Ny408.out] at ho135)); have n0_ := Aside0.mk (Kd.N_elder' (by (with_reducible repeat (first | apply Kd.N_alloc | apply Kd.N_drewN | apply Kd.N_drew)); exact HO_7.out) (Kd.R_base ho135) hb); have n1_ := Aside0.mk (Kd.N_elder' (by (with_reducible repeat (first | apply Kd.N_alloc | apply Kd.N_drewN | apply Kd.N_drew)); exact HO_10.out) (Kd.R_base ho135) hb); have n2_ := Aside0.mk (Kd.R_below (by (with_reducible repeat (first | apply Kd.R_alloc | apply Kd.R_drewN | apply Kd.R_drew)); exact HO_379000.out) hb); have n3_ := Aside0.mk (Kd.R_elder' (by (with_reducible repeat (first | apply Kd.R_alloc | apply Kd.R_drewN | apply Kd.R_drew)); exact HO404.out) (Kd.R_base ho135) hb); have n4_ := Aside0.mk (Kd.N_elder' (by (with_reducible repeat (first | apply Kd.N_alloc | apply Kd.N_drewN | apply Kd.N_drew)); exact HO407.out) (Kd.R_base ho135) hb); have n5_ := Aside0.mk (Kd.R_lower (Kd.R_newB (Kd.R_new' ho135 (Kd.R_lt (by (with_reducible repeat (first | apply Kd.R_alloc | apply Kd.R_drewN | apply Kd.R_drew)); exact HO404.out))) (g := gb390) (o := .cells #[.int .i64 0, .int .i64 7, .int .i64 0, .string tx] 39 (0, 0)) (by (with_reducible repeat (first | refine blk_drewN ?_ _ | refine blk_drew ?_ | refine blk_alloc ?_ _)); exact BK390.out)) (below_size (by repeat (first | (with_reducible first | exact HB.out | apply below_alloc | apply pw_below_drewN | apply below_drew1 | refine below_set ?_ GE378.out | refine below_set ?_ GE390.out) | exact HB.out)))); have n6_ := Aside0.mk (blk_below (g := gb378) (o := .cells #[.slice Ao11 y375.length co11, .int .i64 1, .int .i64 1, .int .i64 1] 32 (0, 0)) (by (with_reducible repeat (first | refine blk_drewN ?_ _ | refine blk_drew ?_ | refine blk_alloc ?_ _)); exact BK378.out) hb); have n7_ := Aside0.mk (blk_below (g := gb390) (o := .cells #[.int .i64 0, .int .i64 7, .int .i64 0, .string tx] 39 (0, 0)) (by (with_reducible repeat (first | refine blk_drewN ?_ _ | refine blk_drew ?_ | refine blk_alloc ?_ _)); exact BK390.out) hb); have n8_ := Aside0.mk (below_step (by repeat (first | (with_reducible first | exact HB.out | apply below_alloc | apply pw_below_drewN | apply below_drew1 | refine below_set ?_ GE378.out | refine below_set ?_ GE390.out) | exact HB.out)) hb); clear HO_7; clear HO_10; clear HO_379000; clear HO404; clear HO407; clear BK378; clear BK390; clear HB; have HO_7 := n0_; have HO_10 := n1_; have HO_379000 := n2_; have HO404 := n3_; have HO407 := n4_; have HO410 := n5_; have BK378 := n6_; have BK390 := n7_; have HB := n8_; clear n0_ n1_ n2_ n3_ n4_ n5_ n6_ n7_ n8_; clear hb ho135; obtain ⟨Ao136, co136, eo136⟩ := Kd.R_slice HO410.out; subst eo136) | ((with_reducible refine gate_callee (f := 15) rfl ?_); refine goesL_ (some 122) rfl rfl Try.func15 (by kernel_rfl) rfl #[.agg #[.slice Ao11 y375.length co11, .int .i64 1, .int .i64 1, .int .i64 1], .slice Ao136 y408.length co136, .slice Ao36 x7_6.length co36] rfl (by (try simp only [List.map_toArray, List.map_cons, List.map_nil]); first | done | rfl | (simp only [List.length_drop, List.length_take]; rfl)) ?_; (with_reducible refine (filter_Keep.calls k2 _ _ y375 1 1 1 _ _ y408 (fun k_ => ((((some k_ ≠ (v395 : Value).ownBlock ∧ (some k_ ≠ (.slice Ao11 y375.length co11 : Value).ownBlock ∧ (k_ ≠ gb378 ∧ k_ ≠ gb390))) ∧ some k_ ≠ (.slice Ao130 y402.length co130 : Value).ownBlock) ∧ some k_ ≠ (v406 : Value).ownBlock) ∧ some k_ ≠ (.slice Ao136 y408.length co136 : Value).ownBlock)) _ _ x7_6 t411 _ ?side1 ?side2 ?side3 ?side4 ?side5 A57.out).mono ?_); (case side1 => repeat (first | exact (Kd.R_reads' HO_379000.out).2.2 | (with_reducible refine Kd.C_alloc ?_ _) | (with_reducible refine Kd.C_drewN ?_ _) | (with_reducible refine Kd.C_drew ?_))); (case side2 => exact (Kd.R_reads' HO_379000.out).2.1); (case side3 => repeat (first | exact (Kd.R_reads' HO410.out).2.2 | (with_reducible refine Kd.C_alloc ?_ _) | (with_reducible refine Kd.C_drewN ?_ _) | (with_reducible refine Kd.C_drew ?_))); (case side4 => exact (Kd.R_reads' HO410.out).2.1); (case side5 => exact Kd.N_V (HO_7.out)); rintro e w137 ⟨v412, rfl, ho0, hb⟩; refine ⟨_, rfl, ?_⟩; have n0_ := Aside0.mk (Kd.N_elder' (by (with_reducible repeat (first | apply Kd.N_alloc | apply Kd.N_drewN | apply Kd.N_drew)); exact HO_7.out) (by first | exact Kd.N_base ho0 | exact Kd.S_base ho0) hb); have n1_ := Aside0.mk (Kd.N_elder' (by (with_reducible repeat (first | apply Kd.N_alloc | apply Kd.N_drewN | apply Kd.N_drew)); exact HO_10.out) (by first | exact Kd.N_base ho0 | exact Kd.S_base ho0) hb); have n2_ := Aside0.mk (Kd.R_below (by (with_reducible repeat (first | apply Kd.R_alloc | apply Kd.R_drewN | apply Kd.R_drew)); exact HO_379000.out) hb); have n3_ := Aside0.mk (Kd.R_below (by (with_reducible repeat (first | apply Kd.R_alloc | apply Kd.R_drewN | apply Kd.R_drew)); exact HO404.out) hb); have n4_ := Aside0.mk (Kd.N_elder' (by (with_reducible repeat (first | apply Kd.N_alloc | apply Kd.N_drewN | apply Kd.N_drew)); exact HO407.out) (by first | exact Kd.N_base ho0 | exact Kd.S_base ho0) hb); have n5_ := Aside0.mk (Kd.R_below (by (with_reducible repeat (first | apply Kd.R_alloc | apply Kd.R_drewN | apply Kd.R_drew)); exact HO410.out) hb); have n6_ := Aside0.mk (Kd.N_lower (Kd.N_mono (ok' := fun k_ => some k_ ≠ (v395 : Value).ownBlock ∧ some k_ ≠ (.slice Ao11 y375.length co11 : Value).ownBlock ∧ some k_ ≠ (.slice Ao130 y402.length co130 : Value).ownBlock ∧ some k_ ≠ (v406 : Value).ownBlock ∧ some k_ ≠ (.slice Ao136 y408.length co136 : Value).ownBlock ∧ k_ ≠ gb378 ∧ k_ ≠ gb390) ho0 (fun k_ hk_ => ⟨Or.elim hk_ (fun hs_ => hs_.1.1.1.1) (fun hn_ => (Kd.fresh' (Kd.N_lt (by (with_reducible repeat (first | apply Kd.N_alloc | apply Kd.N_drewN | apply Kd.N_drew)); exact HO_10.out)) k_ hn_)), Or.elim hk_ (fun hs_ => hs_.1.1.1.2.1) (fun hn_ => (Kd.fresh' (Kd.R_lt (by (with_reducible repeat (first | apply Kd.R_alloc | apply Kd.R_drewN | apply Kd.R_drew)); exact HO_379000.out)) k_ hn_)), Or.elim hk_ (fun hs_ => hs_.1.1.2) (fun hn_ => (Kd.fresh' (Kd.R_lt (by (with_reducible repeat (first | apply Kd.R_alloc | apply Kd.R_drewN | apply Kd.R_drew)); exact HO404.out)) k_ hn_)), Or.elim hk_ (fun hs_ => hs_.1.2) (fun hn_ => (Kd.fresh' (Kd.N_lt (by (with_reducible repeat (first | apply Kd.N_alloc | apply Kd.N_drewN | apply Kd.N_drew)); exact HO407.out)) k_ hn_)), Or.elim hk_ (fun hs_ => hs_.2) (fun hn_ => (Kd.fresh' (Kd.R_lt (by (with_reducible repeat (first | apply Kd.R_alloc | apply Kd.R_drewN | apply Kd.R_drew)); exact HO410.out)) k_ hn_)), Or.elim hk_ (fun hs_ => hs_.1.1.1.2.2.1) (fun hn_ => (Kd.freshB (g := gb378) (o := .cells #[.slice Ao11 y375.length co11, .int .i64 1, .int .i64 1, .int .i64 1] 32 (0, 0)) (by (with_reducible repeat (first | refine blk_drewN ?_ _ | refine blk_drew ?_ | refine blk_alloc ?_ _)); exact BK378.out) k_ hn_)), Or.elim hk_ (fun hs_ => hs_.1.1.1.2.2.2) (fun hn_ => (Kd.freshB (g := gb390) (o := .cells #[.int .i64 0, .int .i64 7, .int .i64 0, .string tx] 39 (0, 0)) (by (with_reducible repeat (first | refine blk_drewN ?_ _ | refine blk_drew ?_ | refine blk_alloc ?_ _)); exact BK390.out) k_ hn_))⟩)) (below_size (by repeat (first | (with_reducible first | exact HB.out | apply below_alloc | apply pw_below_drewN | apply below_drew1 | refine below_set ?_ GE378.out | refine below_set ?_ GE390.out) | exact HB.out)))); have n7_ := Aside0.mk (blk_below (g := gb378) (o := .cells #[.slice Ao11 y375.length co11, .int .i64 1, .int .i64 1, .int .i64 1] 32 (0, 0)) (by (with_reducible repeat (first | refine blk_drewN ?_ _ | refine blk_drew ?_ | refine blk_alloc ?_ _)); exact BK378.out) hb); have n8_ := Aside0.mk (blk_below (g := gb390) (o := .cells #[.int .i64 0, .int .i64 7, .int .i64 0, .string tx] 39 (0, 0)) (by (with_reducible repeat (first | refine blk_drewN ?_ _ | refine blk_drew ?_ | refine blk_alloc ?_ _)); exact BK390.out) hb); have n9_ := Aside0.mk (below_step (by repeat (first | (with_reducible first | exact HB.out | apply below_alloc | apply pw_below_drewN | apply below_drew1 | refine below_set ?_ GE378.out | refine below_set ?_ GE390.out) | exact HB.out)) hb); clear HO_7; clear HO_10; clear HO_379000; clear HO404; clear HO407; clear HO410; clear BK378; clear BK390; clear HB; have HO_7 := n0_; have HO_10 := n1_; have HO_379000 := n2_; have HO404 := n3_; have HO407 := n4_; have HO410 := n5_; have HO413 := n6_; have BK378 := n7_; have BK390 := n8_; have HB := n9_; clear n0_ n1_ n2_ n3_ n4_ n5_ n6_ n7_ n8_ n9_; (try clear hb); (try clear hb2); (try clear hk); (try clear hi); (try clear ho0)))
                  go_ret
                  exact ⟨by first | rfl | (simp [errW_none, errW_some] <;> rfl) | (simp only [← hji4]; first | rfl | (simp [errW_none, errW_some] <;> rfl)) | (simp [*, errW_none, errW_some] <;> rfl), by repeat (first | (with_reducible first | exact HB.out | apply below_alloc | apply pw_below_drewN | apply below_drew1 | refine below_set ?_ GE378.out | refine below_set ?_ GE390.out) | exact HB.out)⟩
    · rw [if_neg c6] at H
      exact absurd H (by simp)
  · rw [if_neg c5] at H
    exact absurd H (by simp)

end Go.Proofs.Ytbkpifcjgedjaaa.P
