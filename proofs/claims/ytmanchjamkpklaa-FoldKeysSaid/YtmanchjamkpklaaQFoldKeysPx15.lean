/- Texts of FoldKeys. Merged: Px15. -/
import Derived.Test.YtmanchjamkpklaaQFoldKeysPx0
import Derived.Test.YtmanchjamkpklaaQFoldKeysPx4
import Derived.Test.YtmanchjamkpklaaQFoldKeysPx5
import Derived.Test.YtmanchjamkpklaaQFoldKeysPx6
import Derived.Test.YtmanchjamkpklaaQFoldKeysPx8
import Derived.Test.YtmanchjamkpklaaQFoldKeysPx9
import Derived.Test.YtmanchjamkpklaaQFoldKeysPx10
import Derived.Test.YtmanchjamkpklaaQFoldKeysPx11
namespace Go.Proofs.Ytmanchjamkpklaa.P
open Go.RowKit Go.Proofs.YtmanchjamkpklaaW.PrintWords Go.Proofs.YtmanchjamkpklaaW.PrintLast Go.Proofs.YtmanchjamkpklaaW.PrintMore
attribute [local go_sem] max2_int min2_int max_two min_two max_three min_three max_four min_four   -- for this text's walks alone
set_option linter.unusedVariables false
set_option linter.unusedSimpArgs false
mutual
def thresherlaw13_FoldKeys.l0 : Nat→Bool→List (List (S45))→List (List (S45))→Int→Int→List Int→Int→Int→Int→Option (Bool)
 | 0,_,_,_,_,_,_,_,_,_=>none
 | k + 1,x5,x7,x8,x10,x11,x412000,x412001,x412002,x412003=>if x11 < (x7.length : Int) then (if x11 > 0 then (if 0≤(wrap64 (x11 - 1)) then (if (wrap64 (x11 - 1)) < (x7.length : Int) then (if 0≤x11 then ((thresherref04_Compare.f k x412000 x412001 x412002 x412003 (rd_L5 x7 (wrap64 (x11 - 1))) (rd_L5 x7 x11)).bind fun t424=>(thresherlaw13_FoldKeys.j1 k x5 x7 x8 x10 x11 (t424 != 0) x412000 x412001 x412002 x412003)) else (none)) else (none)) else (none)) else (thresherlaw13_FoldKeys.j1 k x5 x7 x8 x10 x11 false x412000 x412001 x412002 x412003)) else (if x5=true then (if (x7.length : Int)=0 then (if (x8.length : Int)=0 then (some true) else (some ((x8.length : Int) == (wrap64 (x10 + 1))))) else (some ((x8.length : Int) == (wrap64 (x10 + 1))))) else (some false))
def thresherlaw13_FoldKeys.j1 : Nat→Bool→List (List (S45))→List (List (S45))→Int→Int→Bool→List Int→Int→Int→Int→Option (Bool)
 | 0,_,_,_,_,_,_,_,_,_,_=>none
 | k + 1,x5,x7,x8,x10,x11,x54,x412000,x412001,x412002,x412003=>if x54=true then (thresherlaw13_FoldKeys.j2 k x5 x7 x8 (wrap64 (x10 + 1)) x11 x412000 x412001 x412002 x412003) else (thresherlaw13_FoldKeys.j2 k x5 x7 x8 x10 x11 x412000 x412001 x412002 x412003)
def thresherlaw13_FoldKeys.j2 : Nat→Bool→List (List (S45))→List (List (S45))→Int→Int→List Int→Int→Int→Int→Option (Bool)
 | 0,_,_,_,_,_,_,_,_,_=>none
 | k + 1,x5,x7,x8,x10,x11,x412000,x412001,x412002,x412003=>if x10 ≥ (x8.length : Int) then (thresherlaw13_FoldKeys.j3 k x5 x7 x8 x10 x11 true x412000 x412001 x412002 x412003) else (if 0≤x10 then (if x10 < (x8.length : Int) then (if 0≤x11 then (if x11 < (x7.length : Int) then ((thresherref04_Compare.f k x412000 x412001 x412002 x412003 (rd_L5 x8 x10) (rd_L5 x7 x11)).bind fun t427=>(if t427=0 then (thresherlaw13_FoldKeys.j3 k x5 x7 x8 x10 x11 (((rd_L5 x8 x10).length : Int) != (x412000.length : Int)) x412000 x412001 x412002 x412003) else (thresherlaw13_FoldKeys.j3 k x5 x7 x8 x10 x11 true x412000 x412001 x412002 x412003))) else (none)) else (none)) else (none)) else (none))
def thresherlaw13_FoldKeys.j3 : Nat→Bool→List (List (S45))→List (List (S45))→Int→Int→Bool→List Int→Int→Int→Int→Option (Bool)
 | 0,_,_,_,_,_,_,_,_,_,_=>none
 | k + 1,x5,x7,x8,x10,x11,x84,x412000,x412001,x412002,x412003=>if x84=true then (some false) else (thresherlaw13_FoldKeys.l0 k x5 x7 x8 x10 (wrap64 (x11 + 1)) x412000 x412001 x412002 x412003)
end
def thresherlaw13_FoldKeys.f (k : Nat) (a0_0 : Int) (a0_1 : Int) (a0_2 : Int) (a0_3 : Int) (a0_4 : Int) (a0_5 : Int) (a0_6 : Int) (a0_7 : Int) (a0_8 : Int) (a0_9 : Int) (a0_10 : Int) (a0_11 : Int) (l1 : List (List (S45))) : Option (Bool):=(thresherlaw13_shown.f k).bind fun t404=>((thresherlaw13_made.f k a0_0 a0_1 a0_2 a0_3 a0_4 a0_5 a0_6 a0_7 a0_8 a0_9 a0_10 a0_11).bind fun bt405=>((thresherref04_Fits.f k bt405.1 bt405.2.1 bt405.2.2.1 bt405.2.2.2 l1 60).bind fun t412=>((thresherref09_Sort.f k bt405.1 bt405.2.1 bt405.2.2.1 bt405.2.2.2 t412).bind fun t415=>((fold_Rows.f k bt405.1 bt405.2.1 bt405.2.2.1 bt405.2.2.2 t415).bind fun t418=>(if bt405.2.2.1=1 then ((thresherref04_Rows.f k t418 t415).bind fun t421=>(if t404=true then (some t421) else (some false))) else (thresherlaw13_FoldKeys.l0 k t404 t415 t418 0 0 bt405.1 bt405.2.1 bt405.2.2.1 bt405.2.2.2))))))
theorem thresherlaw13_FoldKeys.mono_l : ∀ k,(∀ y0 y1 y2 y3 y4 y5 y6 y7 y8,LeO (thresherlaw13_FoldKeys.l0 k y0 y1 y2 y3 y4 y5 y6 y7 y8) (thresherlaw13_FoldKeys.l0 (k + 1) y0 y1 y2 y3 y4 y5 y6 y7 y8))∧(∀ y0 y1 y2 y3 y4 y5 y6 y7 y8 y9,LeO (thresherlaw13_FoldKeys.j1 k y0 y1 y2 y3 y4 y5 y6 y7 y8 y9) (thresherlaw13_FoldKeys.j1 (k + 1) y0 y1 y2 y3 y4 y5 y6 y7 y8 y9))∧(∀ y0 y1 y2 y3 y4 y5 y6 y7 y8,LeO (thresherlaw13_FoldKeys.j2 k y0 y1 y2 y3 y4 y5 y6 y7 y8) (thresherlaw13_FoldKeys.j2 (k + 1) y0 y1 y2 y3 y4 y5 y6 y7 y8))∧(∀ y0 y1 y2 y3 y4 y5 y6 y7 y8 y9,LeO (thresherlaw13_FoldKeys.j3 k y0 y1 y2 y3 y4 y5 y6 y7 y8 y9) (thresherlaw13_FoldKeys.j3 (k + 1) y0 y1 y2 y3 y4 y5 y6 y7 y8 y9))
 | 0=>⟨fun _ _ _ _ _ _ _ _ _ r h=>by simp [thresherlaw13_FoldKeys.l0] at h,fun _ _ _ _ _ _ _ _ _ _ r h=>by simp [thresherlaw13_FoldKeys.j1] at h,fun _ _ _ _ _ _ _ _ _ r h=>by simp [thresherlaw13_FoldKeys.j2] at h,fun _ _ _ _ _ _ _ _ _ _ r h=>by simp [thresherlaw13_FoldKeys.j3] at h⟩
 | k + 1=>by
  obtain ⟨ih0,ih1,ih2,ih3⟩:=thresherlaw13_FoldKeys.mono_l k
  refine ⟨?_,?_,?_,?_⟩
  ·intro y0 y1 y2 y3 y4 y5 y6 y7 y8
   unfold thresherlaw13_FoldKeys.l0
   repeat' first
   | (with_reducible exact ih0 _ _ _ _ _ _ _ _ _)
   | (with_reducible exact ih1 _ _ _ _ _ _ _ _ _ _)
   | (with_reducible exact ih2 _ _ _ _ _ _ _ _ _)
   | (with_reducible exact ih3 _ _ _ _ _ _ _ _ _ _)
   | (with_reducible exact fold_Rows.mono _ _ _ _ _ _)
   | (with_reducible exact thresherlaw13_made.mono _ _ _ _ _ _ _ _ _ _ _ _ _)
   | (with_reducible exact thresherlaw13_shown.mono _)
   | (with_reducible exact thresherref04_Compare.mono _ _ _ _ _ _ _)
   | (with_reducible exact thresherref04_Fits.mono _ _ _ _ _ _ _)
   | (with_reducible exact thresherref04_Rows.mono _ _ _)
   | (with_reducible exact thresherref09_Sort.mono _ _ _ _ _ _)
   | (with_reducible exact LeO.refl _)
   | (with_reducible exact LeO.none _)
   | (with_reducible refine LeO.ite ?_ ?_)
   | (with_reducible refine LeO.bind ?_ (fun _=>?_))
   | exact ih0 _ _ _ _ _ _ _ _ _
   | exact ih1 _ _ _ _ _ _ _ _ _ _
   | exact ih2 _ _ _ _ _ _ _ _ _
   | exact ih3 _ _ _ _ _ _ _ _ _ _
   | exact fold_Rows.mono _ _ _ _ _ _
   | exact thresherlaw13_made.mono _ _ _ _ _ _ _ _ _ _ _ _ _
   | exact thresherlaw13_shown.mono _
   | exact thresherref04_Compare.mono _ _ _ _ _ _ _
   | exact thresherref04_Fits.mono _ _ _ _ _ _ _
   | exact thresherref04_Rows.mono _ _ _
   | exact thresherref09_Sort.mono _ _ _ _ _ _
   | exact LeO.none _
   | refine LeO.ite ?_ ?_
   | refine LeO.bind ?_ (fun _=>?_)
  ·intro y0 y1 y2 y3 y4 y5 y6 y7 y8 y9
   unfold thresherlaw13_FoldKeys.j1
   repeat' first
   | (with_reducible exact ih0 _ _ _ _ _ _ _ _ _)
   | (with_reducible exact ih1 _ _ _ _ _ _ _ _ _ _)
   | (with_reducible exact ih2 _ _ _ _ _ _ _ _ _)
   | (with_reducible exact ih3 _ _ _ _ _ _ _ _ _ _)
   | (with_reducible exact fold_Rows.mono _ _ _ _ _ _)
   | (with_reducible exact thresherlaw13_made.mono _ _ _ _ _ _ _ _ _ _ _ _ _)
   | (with_reducible exact thresherlaw13_shown.mono _)
   | (with_reducible exact thresherref04_Compare.mono _ _ _ _ _ _ _)
   | (with_reducible exact thresherref04_Fits.mono _ _ _ _ _ _ _)
   | (with_reducible exact thresherref04_Rows.mono _ _ _)
   | (with_reducible exact thresherref09_Sort.mono _ _ _ _ _ _)
   | (with_reducible exact LeO.refl _)
   | (with_reducible exact LeO.none _)
   | (with_reducible refine LeO.ite ?_ ?_)
   | (with_reducible refine LeO.bind ?_ (fun _=>?_))
   | exact ih0 _ _ _ _ _ _ _ _ _
   | exact ih1 _ _ _ _ _ _ _ _ _ _
   | exact ih2 _ _ _ _ _ _ _ _ _
   | exact ih3 _ _ _ _ _ _ _ _ _ _
   | exact fold_Rows.mono _ _ _ _ _ _
   | exact thresherlaw13_made.mono _ _ _ _ _ _ _ _ _ _ _ _ _
   | exact thresherlaw13_shown.mono _
   | exact thresherref04_Compare.mono _ _ _ _ _ _ _
   | exact thresherref04_Fits.mono _ _ _ _ _ _ _
   | exact thresherref04_Rows.mono _ _ _
   | exact thresherref09_Sort.mono _ _ _ _ _ _
   | exact LeO.none _
   | refine LeO.ite ?_ ?_
   | refine LeO.bind ?_ (fun _=>?_)
  ·intro y0 y1 y2 y3 y4 y5 y6 y7 y8
   unfold thresherlaw13_FoldKeys.j2
   repeat' first
   | (with_reducible exact ih0 _ _ _ _ _ _ _ _ _)
   | (with_reducible exact ih1 _ _ _ _ _ _ _ _ _ _)
   | (with_reducible exact ih2 _ _ _ _ _ _ _ _ _)
   | (with_reducible exact ih3 _ _ _ _ _ _ _ _ _ _)
   | (with_reducible exact fold_Rows.mono _ _ _ _ _ _)
   | (with_reducible exact thresherlaw13_made.mono _ _ _ _ _ _ _ _ _ _ _ _ _)
   | (with_reducible exact thresherlaw13_shown.mono _)
   | (with_reducible exact thresherref04_Compare.mono _ _ _ _ _ _ _)
   | (with_reducible exact thresherref04_Fits.mono _ _ _ _ _ _ _)
   | (with_reducible exact thresherref04_Rows.mono _ _ _)
   | (with_reducible exact thresherref09_Sort.mono _ _ _ _ _ _)
   | (with_reducible exact LeO.refl _)
   | (with_reducible exact LeO.none _)
   | (with_reducible refine LeO.ite ?_ ?_)
   | (with_reducible refine LeO.bind ?_ (fun _=>?_))
   | exact ih0 _ _ _ _ _ _ _ _ _
   | exact ih1 _ _ _ _ _ _ _ _ _ _
   | exact ih2 _ _ _ _ _ _ _ _ _
   | exact ih3 _ _ _ _ _ _ _ _ _ _
   | exact fold_Rows.mono _ _ _ _ _ _
   | exact thresherlaw13_made.mono _ _ _ _ _ _ _ _ _ _ _ _ _
   | exact thresherlaw13_shown.mono _
   | exact thresherref04_Compare.mono _ _ _ _ _ _ _
   | exact thresherref04_Fits.mono _ _ _ _ _ _ _
   | exact thresherref04_Rows.mono _ _ _
   | exact thresherref09_Sort.mono _ _ _ _ _ _
   | exact LeO.none _
   | refine LeO.ite ?_ ?_
   | refine LeO.bind ?_ (fun _=>?_)
  ·intro y0 y1 y2 y3 y4 y5 y6 y7 y8 y9
   unfold thresherlaw13_FoldKeys.j3
   repeat' first
   | (with_reducible exact ih0 _ _ _ _ _ _ _ _ _)
   | (with_reducible exact ih1 _ _ _ _ _ _ _ _ _ _)
   | (with_reducible exact ih2 _ _ _ _ _ _ _ _ _)
   | (with_reducible exact ih3 _ _ _ _ _ _ _ _ _ _)
   | (with_reducible exact fold_Rows.mono _ _ _ _ _ _)
   | (with_reducible exact thresherlaw13_made.mono _ _ _ _ _ _ _ _ _ _ _ _ _)
   | (with_reducible exact thresherlaw13_shown.mono _)
   | (with_reducible exact thresherref04_Compare.mono _ _ _ _ _ _ _)
   | (with_reducible exact thresherref04_Fits.mono _ _ _ _ _ _ _)
   | (with_reducible exact thresherref04_Rows.mono _ _ _)
   | (with_reducible exact thresherref09_Sort.mono _ _ _ _ _ _)
   | (with_reducible exact LeO.refl _)
   | (with_reducible exact LeO.none _)
   | (with_reducible refine LeO.ite ?_ ?_)
   | (with_reducible refine LeO.bind ?_ (fun _=>?_))
   | exact ih0 _ _ _ _ _ _ _ _ _
   | exact ih1 _ _ _ _ _ _ _ _ _ _
   | exact ih2 _ _ _ _ _ _ _ _ _
   | exact ih3 _ _ _ _ _ _ _ _ _ _
   | exact fold_Rows.mono _ _ _ _ _ _
   | exact thresherlaw13_made.mono _ _ _ _ _ _ _ _ _ _ _ _ _
   | exact thresherlaw13_shown.mono _
   | exact thresherref04_Compare.mono _ _ _ _ _ _ _
   | exact thresherref04_Fits.mono _ _ _ _ _ _ _
   | exact thresherref04_Rows.mono _ _ _
   | exact thresherref09_Sort.mono _ _ _ _ _ _
   | exact LeO.none _
   | refine LeO.ite ?_ ?_
   | refine LeO.bind ?_ (fun _=>?_)
theorem thresherlaw13_FoldKeys.mono : ∀ a0 a1 a2 a3 a4 a5 a6 a7 a8 a9 a10 a11 a12 k,LeO (thresherlaw13_FoldKeys.f k a0 a1 a2 a3 a4 a5 a6 a7 a8 a9 a10 a11 a12) (thresherlaw13_FoldKeys.f (k + 1) a0 a1 a2 a3 a4 a5 a6 a7 a8 a9 a10 a11 a12):=by
 intro a0 a1 a2 a3 a4 a5 a6 a7 a8 a9 a10 a11 a12 k
 obtain ⟨ih0,ih1,ih2,ih3⟩:=thresherlaw13_FoldKeys.mono_l k
 unfold thresherlaw13_FoldKeys.f
 repeat' first
   | (with_reducible exact ih0 _ _ _ _ _ _ _ _ _)
   | (with_reducible exact ih1 _ _ _ _ _ _ _ _ _ _)
   | (with_reducible exact ih2 _ _ _ _ _ _ _ _ _)
   | (with_reducible exact ih3 _ _ _ _ _ _ _ _ _ _)
   | (with_reducible exact fold_Rows.mono _ _ _ _ _ _)
   | (with_reducible exact thresherlaw13_made.mono _ _ _ _ _ _ _ _ _ _ _ _ _)
   | (with_reducible exact thresherlaw13_shown.mono _)
   | (with_reducible exact thresherref04_Compare.mono _ _ _ _ _ _ _)
   | (with_reducible exact thresherref04_Fits.mono _ _ _ _ _ _ _)
   | (with_reducible exact thresherref04_Rows.mono _ _ _)
   | (with_reducible exact thresherref09_Sort.mono _ _ _ _ _ _)
   | (with_reducible exact LeO.refl _)
   | (with_reducible exact LeO.none _)
   | (with_reducible refine LeO.ite ?_ ?_)
   | (with_reducible refine LeO.bind ?_ (fun _=>?_))
   | exact ih0 _ _ _ _ _ _ _ _ _
   | exact ih1 _ _ _ _ _ _ _ _ _ _
   | exact ih2 _ _ _ _ _ _ _ _ _
   | exact ih3 _ _ _ _ _ _ _ _ _ _
   | exact fold_Rows.mono _ _ _ _ _ _
   | exact thresherlaw13_made.mono _ _ _ _ _ _ _ _ _ _ _ _ _
   | exact thresherlaw13_shown.mono _
   | exact thresherref04_Compare.mono _ _ _ _ _ _ _
   | exact thresherref04_Fits.mono _ _ _ _ _ _ _
   | exact thresherref04_Rows.mono _ _ _
   | exact thresherref09_Sort.mono _ _ _ _ _ _
   | exact LeO.none _
   | refine LeO.ite ?_ ?_
   | refine LeO.bind ?_ (fun _=>?_)
def thresherlaw13_FoldKeys.T12 : Bool × List (List Nat × List Nat):=(true,[([],[]),([0],[0]),([1],[1]),([2],[2]),([2],[2]),([2],[2]),([5,2],[2,5]),([4,6,2],[2,4,6]),([7,2],[2,7]),([2],[2]),([2],[2]),([9,10,2],[2,9,10]),([11,2],[2,11]),([3,8,12,2,2],[2,3,8,12]),([13,2],[2,13]),([2,14],[2,14])])
def thresherlaw13_FoldKeys.B12 : List Nat:=[0,1,3,7,7,7,39,119,247,7,7,1543,3591,8191,16383,32767]
theorem thresherlaw13_FoldKeys.tab12 : rtab .any (opsOf Try.f5 12)=thresherlaw13_FoldKeys.T12:=by kernel_rfl
theorem thresherlaw13_FoldKeys.bits12 : waitsOk thresherlaw13_FoldKeys.T12.2 thresherlaw13_FoldKeys.B12=true:=by kernel_rfl
def thresherlaw13_FoldKeys.T14 : Bool × List (List Nat × List Nat):=(true,[([],[]),([],[]),([1],[1]),([0,2],[0,2]),([3],[3]),([4],[4]),([4],[4]),([4],[4]),([6,7,4],[4,6,7]),([8,4],[4,8]),([4],[4]),([4],[4]),([10,11,4],[4,10,11]),([12,4],[4,12]),([5,9,13,4,4],[4,5,9,13]),([14,4],[4,14]),([4,15],[4,15]),([16,14],[16]),([17],[17]),([17],[17]),([18,19,17],[17,18,19]),([20,17],[17,20]),([21,17],[17,21]),([17],[17]),([23,17],[17,23]),([24,17],[17,24]),([22,25,17],[17,22,25]),([17,26],[17,26])])
def thresherlaw13_FoldKeys.B14 : List Nat:=[0,0,2,7,15,31,31,31,223,479,31,31,3103,7199,16383,32767,65535,131071,262143,262143,1048575,2097151,4194303,262143,8650751,25427967,67108863,134217727]
theorem thresherlaw13_FoldKeys.tab14 : rtab .any (opsOf Try.f5 14)=thresherlaw13_FoldKeys.T14:=by kernel_rfl
theorem thresherlaw13_FoldKeys.bits14 : waitsOk thresherlaw13_FoldKeys.T14.2 thresherlaw13_FoldKeys.B14=true:=by kernel_rfl
set_option maxHeartbeats 8000000 in
set_option maxRecDepth 100000 in
theorem thresherlaw13_FoldKeys.calls (k : Nat) (a0_0 : Int) (a0_1 : Int) (a0_2 : Int) (a0_3 : Int) (a0_4 : Int) (a0_5 : Int) (a0_6 : Int) (a0_7 : Int) (a0_8 : Int) (a0_9 : Int) (a0_10 : Int) (a0_11 : Int) (A1 : Option Addr) (c1 : Nat) (l1 : List (List (S45))) (r : Bool) (w : World) (hr1 : Kd.C (Kd.slice 45 k45) w A1 l1.length l1) (hc1 : l1.length≤c1) (h : thresherlaw13_FoldKeys.f k a0_0 a0_1 a0_2 a0_3 a0_4 a0_5 a0_6 a0_7 a0_8 a0_9 a0_10 a0_11 l1=some r) :
  Calls Try.prog 5 #[.agg #[.int .u8 a0_0,.int .u8 a0_1,.int .u8 a0_2,.int .u8 a0_3,.int .u8 a0_4,.int .u8 a0_5,.int .u8 a0_6,.int .u8 a0_7,.int .u8 a0_8,.int .u8 a0_9,.int .u8 a0_10,.int .u8 a0_11],.slice A1 l1.length c1] w fun e w'=>e=.returned (.bool r)∧Below w.heap.size w w':=by
 have hu24:=Try.underlying24
 have hu29:=Try.underlying29
 have HR1:=Aside0.mk hr1
 have HC1:=Aside0.mk hc1
 clear hr1 hc1
 have HB:=Aside0.mk (Below.refl w.heap.size w)
 have H : ((thresherlaw13_shown.f k).bind fun t404=>((thresherlaw13_made.f k a0_0 a0_1 a0_2 a0_3 a0_4 a0_5 a0_6 a0_7 a0_8 a0_9 a0_10 a0_11).bind fun bt405=>((thresherref04_Fits.f k bt405.1 bt405.2.1 bt405.2.2.1 bt405.2.2.2 l1 60).bind fun t412=>((thresherref09_Sort.f k bt405.1 bt405.2.1 bt405.2.2.1 bt405.2.2.2 t412).bind fun t415=>((fold_Rows.f k bt405.1 bt405.2.1 bt405.2.2.1 bt405.2.2.2 t415).bind fun t418=>(if bt405.2.2.1=1 then ((thresherref04_Rows.f k t418 t415).bind fun t421=>(if t404=true then (some t421) else (some false))) else (thresherlaw13_FoldKeys.l0 k t404 t415 t418 0 0 bt405.1 bt405.2.1 bt405.2.2.1 bt405.2.2.2)))))))=some r:=h
 clear h
 replace H:=Option.bind_eq_some_iff.mp H
 obtain ⟨t404,A30,H⟩:=H
 replace H : ((thresherlaw13_made.f k a0_0 a0_1 a0_2 a0_3 a0_4 a0_5 a0_6 a0_7 a0_8 a0_9 a0_10 a0_11).bind fun bt405=>((thresherref04_Fits.f k bt405.1 bt405.2.1 bt405.2.2.1 bt405.2.2.2 l1 60).bind fun t412=>((thresherref09_Sort.f k bt405.1 bt405.2.1 bt405.2.2.1 bt405.2.2.2 t412).bind fun t415=>((fold_Rows.f k bt405.1 bt405.2.1 bt405.2.2.1 bt405.2.2.2 t415).bind fun t418=>(if bt405.2.2.1=1 then ((thresherref04_Rows.f k t418 t415).bind fun t421=>(if t404=true then (some t421) else (some false))) else (thresherlaw13_FoldKeys.l0 k t404 t415 t418 0 0 bt405.1 bt405.2.1 bt405.2.2.1 bt405.2.2.2))))))=some r:=H
 have A3:=Aside0.mk A30
 clear A30
 replace H:=Option.bind_eq_some_iff.mp H
 obtain ⟨⟨t405,t408,t409,t410⟩,A40,H⟩:=H
 replace H : ((thresherref04_Fits.f k t405 t408 t409 t410 l1 60).bind fun t412=>((thresherref09_Sort.f k t405 t408 t409 t410 t412).bind fun t415=>((fold_Rows.f k t405 t408 t409 t410 t415).bind fun t418=>(if t409=1 then ((thresherref04_Rows.f k t418 t415).bind fun t421=>(if t404=true then (some t421) else (some false))) else (thresherlaw13_FoldKeys.l0 k t404 t415 t418 0 0 t405 t408 t409 t410)))))=some r:=H
 have A4:=Aside0.mk A40
 clear A40
 replace H:=Option.bind_eq_some_iff.mp H
 obtain ⟨t412,A50,H⟩:=H
 replace H : ((thresherref09_Sort.f k t405 t408 t409 t410 t412).bind fun t415=>((fold_Rows.f k t405 t408 t409 t410 t415).bind fun t418=>(if t409=1 then ((thresherref04_Rows.f k t418 t415).bind fun t421=>(if t404=true then (some t421) else (some false))) else (thresherlaw13_FoldKeys.l0 k t404 t415 t418 0 0 t405 t408 t409 t410))))=some r:=H
 have A5:=Aside0.mk A50
 clear A50
 replace H:=Option.bind_eq_some_iff.mp H
 obtain ⟨t415,A60,H⟩:=H
 replace H : ((fold_Rows.f k t405 t408 t409 t410 t415).bind fun t418=>(if t409=1 then ((thresherref04_Rows.f k t418 t415).bind fun t421=>(if t404=true then (some t421) else (some false))) else (thresherlaw13_FoldKeys.l0 k t404 t415 t418 0 0 t405 t408 t409 t410)))=some r:=H
 have A6:=Aside0.mk A60
 clear A60
 replace H:=Option.bind_eq_some_iff.mp H
 obtain ⟨t418,A70,H⟩:=H
 replace H : (if t409=1 then ((thresherref04_Rows.f k t418 t415).bind fun t421=>(if t404=true then (some t421) else (some false))) else (thresherlaw13_FoldKeys.l0 k t404 t415 t418 0 0 t405 t408 t409 t410))=some r:=H
 have A7:=Aside0.mk A70
 clear A70
 by_cases c8 : t409=1
 ·rw [if_pos c8] at H
  have c8b0 : (t409 == 1)=true:=beq_iff_eq.mpr c8
  have c8b1 : (t409 != 1)=false:=bne_eq_false_iff_eq.mpr c8
  clear c8
  replace H:=Option.bind_eq_some_iff.mp H
  obtain ⟨t421,A90,H⟩:=H
  replace H : (if t404=true then (some t421) else (some false))=some r:=H
  have A9:=Aside0.mk A90
  clear A90
  by_cases c10 : t404=true
  ·subst c10
   have H1 : (some t421)=some r:=by rw [if_pos rfl] at H;exact H
   clear H
   have H:=H1
   clear H1
   obtain rfl:=Option.some.inj H
   go_enter Try.func5,Try.ntmps5
   try go_wp2_with (first|((with_reducible refine gate_dst (N:=2) rfl ?_);(try (refine gate_guard (by rfl) ?_;dsimp only));refine box_event ?hg (N:=2) ?hd (cs:=#[.int .u8 a0_0,.int .u8 a0_1,.int .u8 a0_2,.int .u8 a0_3,.int .u8 a0_4,.int .u8 a0_5,.int .u8 a0_6,.int .u8 a0_7,.int .u8 a0_8,.int .u8 a0_9,.int .u8 a0_10,.int .u8 a0_11]) (t:=24) ?hr ?_;(case hd=>rfl);(case hg=>rfl);(case hr=>first|(go_simp;done)|(go_simp;rfl));intro gb403 hg w11 hbox hb;have n0_:=Aside0.mk (below_step (by repeat (first|(with_reducible first|exact HB.out|apply below_alloc|apply pw_below_drewN|apply below_drew1)|exact HB.out)) hb);have n1_:=Aside0.mk (hbox);have n2_:=Aside0.mk ((by rw [hg];exact (below_size (by repeat (first|(with_reducible first|exact HB.out|apply below_alloc|apply pw_below_drewN|apply below_drew1)|exact HB.out))) : w.heap.size≤gb403));have n3_:=Aside0.mk ((by rw [hg];exact (below_size (by repeat (first|(with_reducible first|exact HB.out|apply below_alloc|apply pw_below_drewN|apply below_drew1)|exact HB.out))) : w.heap.size≤gb403));clear HB;have HB:=n0_;have BK403:=n1_;have GW403:=n2_;have GE403:=n3_;clear n0_ n1_ n2_ n3_;clear hb hbox hg)|((with_reducible refine gate_callee (f:=8) rfl ?_);refine goesL_ (some 12) rfl rfl Try.func8 (by kernel_rfl) rfl #[] rfl (by (try simp only [List.map_toArray,List.map_cons,List.map_nil]);first|done|rfl|(simp only [List.length_drop,List.length_take];rfl)) ?_;(with_reducible refine (thresherlaw13_shown.calls k  true _ A3.out).mono ?_);rintro e w12 ⟨rfl,hb⟩;refine ⟨_,rfl,?_⟩;have n0_:=Aside0.mk (blk_below (g:=gb403) (o:=.cells #[.int .u8 a0_0,.int .u8 a0_1,.int .u8 a0_2,.int .u8 a0_3,.int .u8 a0_4,.int .u8 a0_5,.int .u8 a0_6,.int .u8 a0_7,.int .u8 a0_8,.int .u8 a0_9,.int .u8 a0_10,.int .u8 a0_11] 24 (0,0)) (by (with_reducible repeat (first|refine blk_drewN ?_ _|refine blk_drew ?_|refine blk_alloc ?_ _));exact BK403.out) hb);have n1_:=Aside0.mk (below_step (by repeat (first|(with_reducible first|exact HB.out|apply below_alloc|apply pw_below_drewN|apply below_drew1|refine below_set ?_ GE403.out)|exact HB.out)) hb);clear BK403;clear HB;have BK403:=n0_;have HB:=n1_;clear n0_ n1_;(try clear hb);(try clear hb2);(try clear hk);(try clear hi);have hcz13_0 : w12.cell? ⟨gb403,0,none⟩=some (.int .u8 a0_0):=(blk_cell BK403.out 0).trans rfl;have hcz13_1 : w12.cell? ⟨gb403,1,none⟩=some (.int .u8 a0_1):=(blk_cell BK403.out 1).trans rfl;have hcz13_2 : w12.cell? ⟨gb403,2,none⟩=some (.int .u8 a0_2):=(blk_cell BK403.out 2).trans rfl;have hcz13_3 : w12.cell? ⟨gb403,3,none⟩=some (.int .u8 a0_3):=(blk_cell BK403.out 3).trans rfl;have hcz13_4 : w12.cell? ⟨gb403,4,none⟩=some (.int .u8 a0_4):=(blk_cell BK403.out 4).trans rfl;have hcz13_5 : w12.cell? ⟨gb403,5,none⟩=some (.int .u8 a0_5):=(blk_cell BK403.out 5).trans rfl;have hcz13_6 : w12.cell? ⟨gb403,6,none⟩=some (.int .u8 a0_6):=(blk_cell BK403.out 6).trans rfl;have hcz13_7 : w12.cell? ⟨gb403,7,none⟩=some (.int .u8 a0_7):=(blk_cell BK403.out 7).trans rfl;have hcz13_8 : w12.cell? ⟨gb403,8,none⟩=some (.int .u8 a0_8):=(blk_cell BK403.out 8).trans rfl;have hcz13_9 : w12.cell? ⟨gb403,9,none⟩=some (.int .u8 a0_9):=(blk_cell BK403.out 9).trans rfl;have hcz13_10 : w12.cell? ⟨gb403,10,none⟩=some (.int .u8 a0_10):=(blk_cell BK403.out 10).trans rfl;have hcz13_11 : w12.cell? ⟨gb403,11,none⟩=some (.int .u8 a0_11):=(blk_cell BK403.out 11).trans rfl;have hfz13_0:=blk_frozen BK403.out 0;have hfz13_1:=blk_frozen BK403.out 1;have hfz13_2:=blk_frozen BK403.out 2;have hfz13_3:=blk_frozen BK403.out 3;have hfz13_4:=blk_frozen BK403.out 4;have hfz13_5:=blk_frozen BK403.out 5;have hfz13_6:=blk_frozen BK403.out 6;have hfz13_7:=blk_frozen BK403.out 7;have hfz13_8:=blk_frozen BK403.out 8;have hfz13_9:=blk_frozen BK403.out 9;have hfz13_10:=blk_frozen BK403.out 10;have hfz13_11:=blk_frozen BK403.out 11)|((with_reducible refine gate_callee (f:=9) rfl ?_);refine goesL_ (some 14) rfl rfl Try.func9 (by kernel_rfl) rfl #[.agg #[.int .u8 a0_0,.int .u8 a0_1,.int .u8 a0_2,.int .u8 a0_3,.int .u8 a0_4,.int .u8 a0_5,.int .u8 a0_6,.int .u8 a0_7,.int .u8 a0_8,.int .u8 a0_9,.int .u8 a0_10,.int .u8 a0_11]] rfl (by (try simp only [List.map_toArray,List.map_cons,List.map_nil]);first|done|rfl|(simp only [List.length_drop,List.length_take];rfl)) ?_;(with_reducible refine (thresherlaw13_made.calls k a0_0 a0_1 a0_2 a0_3 a0_4 a0_5 a0_6 a0_7 a0_8 a0_9 a0_10 a0_11 t405 t408 t409 t410 _ A4.out).mono ?_);rintro e w14 ⟨v406,rfl,ho0,hb⟩;refine ⟨_,rfl,?_⟩;have n0_:=Aside0.mk (Kd.R_lower ho0 (below_size (by repeat (first|(with_reducible first|exact HB.out|apply below_alloc|apply pw_below_drewN|apply below_drew1|refine below_set ?_ GE403.out)|exact HB.out))));have n1_:=Aside0.mk (blk_below (g:=gb403) (o:=.cells #[.int .u8 a0_0,.int .u8 a0_1,.int .u8 a0_2,.int .u8 a0_3,.int .u8 a0_4,.int .u8 a0_5,.int .u8 a0_6,.int .u8 a0_7,.int .u8 a0_8,.int .u8 a0_9,.int .u8 a0_10,.int .u8 a0_11] 24 (0,0)) (by (with_reducible repeat (first|refine blk_drewN ?_ _|refine blk_drew ?_|refine blk_alloc ?_ _));exact BK403.out) hb);have n2_:=Aside0.mk (below_step (by repeat (first|(with_reducible first|exact HB.out|apply below_alloc|apply pw_below_drewN|apply below_drew1|refine below_set ?_ GE403.out)|exact HB.out)) hb);clear BK403;clear HB;have HO407:=n0_;have BK403:=n1_;have HB:=n2_;clear n0_ n1_ n2_;(try clear hb);(try clear hb2);(try clear hk);(try clear hi);(try clear ho0))|((with_reducible refine gate_dst (N:=6) rfl ?_);(try (refine gate_guard (by rfl) ?_;dsimp only));refine box_event ?hg (N:=6) ?hd (cs:=#[.slice none 0 0,.int .i64 0,.int .i64 0,.int .i64 0]) (t:=29) ?hr ?_;(case hd=>rfl);(case hg=>rfl);(case hr=>first|(go_simp;done)|(go_simp;rfl));intro gb411 hg w15 hbox hb;have n0_:=Aside0.mk (Kd.R_below (by (with_reducible repeat (first|apply Kd.R_alloc|apply Kd.R_drewN|apply Kd.R_drew));exact HO407.out) hb);have n1_:=Aside0.mk (blk_below (g:=gb403) (o:=.cells #[.int .u8 a0_0,.int .u8 a0_1,.int .u8 a0_2,.int .u8 a0_3,.int .u8 a0_4,.int .u8 a0_5,.int .u8 a0_6,.int .u8 a0_7,.int .u8 a0_8,.int .u8 a0_9,.int .u8 a0_10,.int .u8 a0_11] 24 (0,0)) (by (with_reducible repeat (first|refine blk_drewN ?_ _|refine blk_drew ?_|refine blk_alloc ?_ _));exact BK403.out) hb);have n2_:=Aside0.mk (below_step (by repeat (first|(with_reducible first|exact HB.out|apply below_alloc|apply pw_below_drewN|apply below_drew1|refine below_set ?_ GE403.out)|exact HB.out)) hb);have n3_:=Aside0.mk (hbox);have n4_:=Aside0.mk ((by rw [hg];exact (below_size (by repeat (first|(with_reducible first|exact HB.out|apply below_alloc|apply pw_below_drewN|apply below_drew1|refine below_set ?_ GE403.out)|exact HB.out))) : w.heap.size≤gb411));have n5_:=Aside0.mk ((by rw [hg];exact (below_size (by repeat (first|(with_reducible first|exact HB.out|apply below_alloc|apply pw_below_drewN|apply below_drew1|refine below_set ?_ GE403.out)|exact HB.out))) : w.heap.size≤gb411));have n6_:=Aside0.mk ((by rw [hg];exact Nat.ne_of_lt (blk_lt (g:=gb403) (o:=.cells #[.int .u8 a0_0,.int .u8 a0_1,.int .u8 a0_2,.int .u8 a0_3,.int .u8 a0_4,.int .u8 a0_5,.int .u8 a0_6,.int .u8 a0_7,.int .u8 a0_8,.int .u8 a0_9,.int .u8 a0_10,.int .u8 a0_11] 24 (0,0)) (by (with_reducible repeat (first|refine blk_drewN ?_ _|refine blk_drew ?_|refine blk_alloc ?_ _));exact BK403.out)) : gb403≠gb411));have n7_:=Aside0.mk ((by rw [hg];exact Nat.ne_of_gt (blk_lt (g:=gb403) (o:=.cells #[.int .u8 a0_0,.int .u8 a0_1,.int .u8 a0_2,.int .u8 a0_3,.int .u8 a0_4,.int .u8 a0_5,.int .u8 a0_6,.int .u8 a0_7,.int .u8 a0_8,.int .u8 a0_9,.int .u8 a0_10,.int .u8 a0_11] 24 (0,0)) (by (with_reducible repeat (first|refine blk_drewN ?_ _|refine blk_drew ?_|refine blk_alloc ?_ _));exact BK403.out)) : gb411≠gb403));clear HO407;clear BK403;clear HB;have HO407:=n0_;have BK403:=n1_;have HB:=n2_;have BK411:=n3_;have GW411:=n4_;have GE411:=n5_;have NB403_411:=n6_;have NB411_403:=n7_;clear n0_ n1_ n2_ n3_ n4_ n5_ n6_ n7_;clear hb hbox hg;obtain ⟨Ao16,co16,eo16⟩:=Kd.R_slice HO407.out;subst eo16;have hnb17:=NB411_403.out;have hnc17:=NB403_411.out;have hcz18_0 : w15.cell? ⟨gb411,0,none⟩=some (.slice none 0 0):=(blk_cell BK411.out 0).trans rfl;have hcz18_1 : w15.cell? ⟨gb411,1,none⟩=some (.int .i64 0):=(blk_cell BK411.out 1).trans rfl;have hcz18_2 : w15.cell? ⟨gb411,2,none⟩=some (.int .i64 0):=(blk_cell BK411.out 2).trans rfl;have hcz18_3 : w15.cell? ⟨gb411,3,none⟩=some (.int .i64 0):=(blk_cell BK411.out 3).trans rfl;have hfz18_0:=blk_frozen BK411.out 0;have hfz18_1:=blk_frozen BK411.out 1;have hfz18_2:=blk_frozen BK411.out 2;have hfz18_3:=blk_frozen BK411.out 3))
   have n0_ : Aside0 (Kd.R (Kd.int .i64) 3 ((((w15.setCell ⟨gb411,0,none⟩ (.slice Ao16 t405.length co16)).setCell ⟨gb411,1,none⟩ (.int .i64 t408)).setCell ⟨gb411,2,none⟩ (.int .i64 t409)).setCell ⟨gb411,3,none⟩ (.int .i64 t410)) w.heap.size (fun _=>True) (.slice Ao16 t405.length co16) t405):=⟨by (with_reducible repeat (first|apply Kd.R_alloc|apply Kd.R_drewN|apply Kd.R_drew));exact Kd.R_mono (Kd.R_far (p:=⟨gb411,3,none⟩) (Kd.R_far (p:=⟨gb411,2,none⟩) (Kd.R_far (p:=⟨gb411,1,none⟩) (Kd.R_far (p:=⟨gb411,0,none⟩) (Kd.R_types HO407.out BK411.out (by decide)) (fun _ hk=>hk.2) (.slice Ao16 t405.length co16)) (fun _ hk=>hk.2) (.int .i64 t408)) (fun _ hk=>hk.2) (.int .i64 t409)) (fun _ hk=>hk.2) (.int .i64 t410)) (fun _ hk=>trivial)⟩
   have n1_ : Aside0 (((((w15.setCell ⟨gb411,0,none⟩ (.slice Ao16 t405.length co16)).setCell ⟨gb411,1,none⟩ (.int .i64 t408)).setCell ⟨gb411,2,none⟩ (.int .i64 t409)).setCell ⟨gb411,3,none⟩ (.int .i64 t410)).heap[gb403]?=some (.cells #[.int .u8 a0_0,.int .u8 a0_1,.int .u8 a0_2,.int .u8 a0_3,.int .u8 a0_4,.int .u8 a0_5,.int .u8 a0_6,.int .u8 a0_7,.int .u8 a0_8,.int .u8 a0_9,.int .u8 a0_10,.int .u8 a0_11] 24 (0,0))):=⟨by (with_reducible repeat (first|refine blk_drewN ?_ _|refine blk_drew ?_|refine blk_alloc ?_ _));refine blk_far ?_ NB403_411.out _;(with_reducible repeat (first|refine blk_drewN ?_ _|refine blk_drew ?_|refine blk_alloc ?_ _));refine blk_far ?_ NB403_411.out _;(with_reducible repeat (first|refine blk_drewN ?_ _|refine blk_drew ?_|refine blk_alloc ?_ _));refine blk_far ?_ NB403_411.out _;(with_reducible repeat (first|refine blk_drewN ?_ _|refine blk_drew ?_|refine blk_alloc ?_ _));refine blk_far ?_ NB403_411.out _;(with_reducible repeat (first|refine blk_drewN ?_ _|refine blk_drew ?_|refine blk_alloc ?_ _));exact BK403.out⟩
   have n2_ : Aside0 (((((w15.setCell ⟨gb411,0,none⟩ (.slice Ao16 t405.length co16)).setCell ⟨gb411,1,none⟩ (.int .i64 t408)).setCell ⟨gb411,2,none⟩ (.int .i64 t409)).setCell ⟨gb411,3,none⟩ (.int .i64 t410)).heap[gb411]?=some (.cells #[.slice Ao16 t405.length co16,.int .i64 t408,.int .i64 t409,.int .i64 t410] 29 (0,0))):=⟨by (with_reducible repeat (first|refine blk_drewN ?_ _|refine blk_drew ?_|refine blk_alloc ?_ _));refine blk_put (cs:=#[.slice Ao16 t405.length co16,.int .i64 t408,.int .i64 t409,.int .i64 0]) ?_ 3 _ rfl;(with_reducible repeat (first|refine blk_drewN ?_ _|refine blk_drew ?_|refine blk_alloc ?_ _));refine blk_put (cs:=#[.slice Ao16 t405.length co16,.int .i64 t408,.int .i64 0,.int .i64 0]) ?_ 2 _ rfl;(with_reducible repeat (first|refine blk_drewN ?_ _|refine blk_drew ?_|refine blk_alloc ?_ _));refine blk_put (cs:=#[.slice Ao16 t405.length co16,.int .i64 0,.int .i64 0,.int .i64 0]) ?_ 1 _ rfl;(with_reducible repeat (first|refine blk_drewN ?_ _|refine blk_drew ?_|refine blk_alloc ?_ _));refine blk_put (cs:=#[.slice none 0 0,.int .i64 0,.int .i64 0,.int .i64 0]) ?_ 0 _ rfl;(with_reducible repeat (first|refine blk_drewN ?_ _|refine blk_drew ?_|refine blk_alloc ?_ _));exact BK411.out⟩
   have n3_ : Aside0 (Below w.heap.size w ((((w15.setCell ⟨gb411,0,none⟩ (.slice Ao16 t405.length co16)).setCell ⟨gb411,1,none⟩ (.int .i64 t408)).setCell ⟨gb411,2,none⟩ (.int .i64 t409)).setCell ⟨gb411,3,none⟩ (.int .i64 t410))):=⟨by repeat (first|(with_reducible first|exact HB.out|apply below_alloc|apply pw_below_drewN|apply below_drew1|refine below_set ?_ GE403.out|refine below_set ?_ GE411.out)|exact HB.out)⟩
   (try clear HO407)
   (try clear BK403)
   (try clear BK411)
   (try clear HB)
   generalize ((((w15.setCell ⟨gb411,0,none⟩ (.slice Ao16 t405.length co16)).setCell ⟨gb411,1,none⟩ (.int .i64 t408)).setCell ⟨gb411,2,none⟩ (.int .i64 t409)).setCell ⟨gb411,3,none⟩ (.int .i64 t410))=w19 at n0_ n1_ n2_ n3_ ⊢
   have HO407:=n0_
   have BK403:=n1_
   have BK411:=n2_
   have HB:=n3_
   clear n0_ n1_ n2_ n3_
   have n0_:=Aside0.mk (Kd.R_drew HO407.out)
   have n1_:=Aside0.mk (blk_drew BK403.out)
   have n2_:=Aside0.mk (blk_drew BK411.out)
   have n3_:=Aside0.mk (below_drew1 HB.out)
   clear HO407
   clear BK403
   clear BK411
   clear HB
   have HO407:=n0_
   have BK403:=n1_
   have BK411:=n2_
   have HB:=n3_
   clear n0_ n1_ n2_ n3_
   refine start_ (n:=6) (S:=fun w'=>w'.cell? ⟨gb411,0,none⟩=some (.slice Ao16 t405.length co16)∧w'.cell? ⟨gb411,1,none⟩=some (.int .i64 t408)∧w'.cell? ⟨gb411,2,none⟩=some (.int .i64 t409)∧w'.cell? ⟨gb411,3,none⟩=some (.int .i64 t410)) (ds:=[]) #[false,false,false,false,false,false] (by kernel_rfl) rfl rfl ⟨(blk_cell BK411.out 0).trans rfl,(blk_cell BK411.out 1).trans rfl,(blk_cell BK411.out 2).trans rfl,(blk_cell BK411.out 3).trans rfl⟩ (fun hHeld=>?_)
   generalize w19.drew=w20 at HO407 BK403 BK411 HB hHeld ⊢
   refine pure_ (i:=2) (N:=some 17) (v:=?_) (a':=?_) #[false,false,true,false,false,false] rfl rfl (by kernel_rfl) (fun _ _ _ h=>h) (Or.inl ⟨by rfl,?_⟩) ?_ ?_
   rotate_left;(intro w';go_simp;with_reducible rfl);rotate_left;(simp only [Act.put,List.setIfInBounds_toArray,List.set_cons_zero,List.set_cons_succ,i64_w,i32_w];rfl)
   refine take_ (i:=0) (N:=some 15) (v:=?_) (a':=?_) #[true,false,true,false,false,false] rfl rfl (by kernel_rfl) (fun _ _ _ h=>h) (Or.inl ⟨by rfl,?_⟩) hHeld ?_ ?_
   rotate_left;(rintro w' ⟨s0,s1,s2,s3⟩;go_simp;with_reducible rfl);rotate_left;(simp only [Act.put,List.setIfInBounds_toArray,List.set_cons_zero,List.set_cons_succ,i64_w,i32_w];rfl)
   refine take_ (i:=1) (N:=some 16) (v:=?_) (a':=?_) #[true,true,true,false,false,false] rfl rfl (by kernel_rfl) (fun _ _ _ h=>h) (Or.inl ⟨by rfl,?_⟩) hHeld ?_ ?_
   rotate_left;(rintro w' ⟨s0,s1,s2,s3⟩;go_simp;with_reducible rfl);rotate_left;(simp only [Act.put,List.setIfInBounds_toArray,List.set_cons_zero,List.set_cons_succ,i64_w,i32_w];rfl)
   refine one_ (i:=3) (N:=some 18) #[true,true,true,true,false,false] rfl rfl (by kernel_rfl) (by decide) (fun K hK=>?_)
   refine goes_ Try.func11 (by kernel_rfl) rfl #[.agg #[.slice Ao16 t405.length co16,.int .i64 t408,.int .i64 t409,.int .i64 t410],.slice A1 l1.length c1,.int .i64 60] (by rfl) rfl rfl (by (try simp only [List.map_toArray,List.map_cons,List.map_nil]);first|done|rfl|(simp only [List.length_drop,List.length_take];rfl)) ?_
   with_reducible refine (thresherref04_Fits.calls k _ _ t405 t408 t409 t410 _ _ l1 60 t412 _ ?side1 ?side2 ?side3 ?side4 A5.out).mono ?_
   (case side1=>repeat (first|exact (Kd.R_reads' HO407.out).2.2|(with_reducible refine Kd.C_alloc ?_ _)|(with_reducible refine Kd.C_drewN ?_ _)|(with_reducible refine Kd.C_drew ?_)))
   (case side2=>exact (Kd.R_reads' HO407.out).2.1)
   (case side3=>repeat (first|exact (Kd.C_below HR1.out HB.out)|(with_reducible refine Kd.C_alloc ?_ _)|(with_reducible refine Kd.C_drewN ?_ _)|(with_reducible refine Kd.C_drew ?_)))
   (case side4=>exact HC1.out)
   rintro e w21 ⟨v413,rfl,ho0,hb⟩
   refine ⟨_,rfl,?_⟩
   have n0_:=Aside0.mk (Kd.R_below (by (with_reducible repeat (first|apply Kd.R_alloc|apply Kd.R_drewN|apply Kd.R_drew));exact HO407.out) hb)
   have n1_:=Aside0.mk (Kd.N_lower (Kd.N_mono (ok':=fun k_=>some k_≠(.slice Ao16 t405.length co16 : Value).ownBlock∧k_≠gb403∧k_≠gb411) (Kd.S_N (Kd.S_bound ho0)) (fun k_ hk_=>⟨(Kd.fresh' (Kd.R_lt (by (with_reducible repeat (first|apply Kd.R_alloc|apply Kd.R_drewN|apply Kd.R_drew));exact HO407.out)) k_ hk_.2.1),(Kd.freshB (g:=gb403) (o:=.cells #[.int .u8 a0_0,.int .u8 a0_1,.int .u8 a0_2,.int .u8 a0_3,.int .u8 a0_4,.int .u8 a0_5,.int .u8 a0_6,.int .u8 a0_7,.int .u8 a0_8,.int .u8 a0_9,.int .u8 a0_10,.int .u8 a0_11] 24 (0,0)) (by (with_reducible repeat (first|refine blk_drewN ?_ _|refine blk_drew ?_|refine blk_alloc ?_ _));exact BK403.out) k_ hk_.2.1),(Kd.freshB (g:=gb411) (o:=.cells #[.slice Ao16 t405.length co16,.int .i64 t408,.int .i64 t409,.int .i64 t410] 29 (0,0)) (by (with_reducible repeat (first|refine blk_drewN ?_ _|refine blk_drew ?_|refine blk_alloc ?_ _));exact BK411.out) k_ hk_.2.1)⟩)) (below_size (by repeat (first|(with_reducible first|exact HB.out|apply below_alloc|apply pw_below_drewN|apply below_drew1|refine below_set ?_ GE403.out|refine below_set ?_ GE411.out)|exact HB.out))))
   have n2_:=Aside0.mk (blk_below (g:=gb403) (o:=.cells #[.int .u8 a0_0,.int .u8 a0_1,.int .u8 a0_2,.int .u8 a0_3,.int .u8 a0_4,.int .u8 a0_5,.int .u8 a0_6,.int .u8 a0_7,.int .u8 a0_8,.int .u8 a0_9,.int .u8 a0_10,.int .u8 a0_11] 24 (0,0)) (by (with_reducible repeat (first|refine blk_drewN ?_ _|refine blk_drew ?_|refine blk_alloc ?_ _));exact BK403.out) hb)
   have n3_:=Aside0.mk (blk_below (g:=gb411) (o:=.cells #[.slice Ao16 t405.length co16,.int .i64 t408,.int .i64 t409,.int .i64 t410] 29 (0,0)) (by (with_reducible repeat (first|refine blk_drewN ?_ _|refine blk_drew ?_|refine blk_alloc ?_ _));exact BK411.out) hb)
   have n4_:=Aside0.mk (below_step (by repeat (first|(with_reducible first|exact HB.out|apply below_alloc|apply pw_below_drewN|apply below_drew1|refine below_set ?_ GE403.out|refine below_set ?_ GE411.out)|exact HB.out)) hb)
   clear HO407
   clear BK403
   clear BK411
   clear HB
   have HO407:=n0_
   have HO414:=n1_
   have BK403:=n2_
   have BK411:=n3_
   have HB:=n4_
   clear n0_ n1_ n2_ n3_ n4_
   (try clear hb)
   (try clear hb2)
   (try clear hk)
   (try clear hi)
   (try clear ho0)
   obtain ⟨Ao22,co22,eo22⟩:=Kd.N_slice HO414.out
   (first|subst eo22|(injection eo22 with f1_ f2_ f3_;have f4_:=f1_.symm;have f5_:=f3_.symm;clear f1_ f2_ f3_;subst f4_;subst f5_))
   refine hK.out _ _ ⟨(blk_cell BK411.out 0).trans rfl,(blk_cell BK411.out 1).trans rfl,(blk_cell BK411.out 2).trans rfl,(blk_cell BK411.out 3).trans rfl⟩ (fun hHeld=>?_)
   clear hK K
   refine norm_ (a':=?_) ?_ ?_
   rotate_left
   ·show Act.put _ (some 18) _=_
    simp only [Act.put,List.setIfInBounds_toArray,List.set_cons_zero,List.set_cons_succ,i64_w,i32_w]
    rfl
   refine one_ (i:=4) (N:=some 19) #[true,true,true,true,true,false] rfl rfl (by kernel_rfl) (by decide) (fun K hK=>?_)
   refine goes_ Try.func10 (by kernel_rfl) rfl #[.agg #[.slice Ao16 t405.length co16,.int .i64 t408,.int .i64 t409,.int .i64 t410],.slice Ao22 t412.length co22] (by rfl) rfl rfl (by (try simp only [List.map_toArray,List.map_cons,List.map_nil]);first|done|rfl|(simp only [List.length_drop,List.length_take];rfl)) ?_
   with_reducible refine (thresherref09_Sort.calls k _ _ t405 t408 t409 t410 (fun k_=>(some k_≠(.slice Ao16 t405.length co16 : Value).ownBlock∧(k_≠gb403∧k_≠gb411))) _ _ t412 t415 _ ?side1 ?side2 ?side3 A6.out).mono ?_
   (case side1=>repeat (first|exact (Kd.R_reads' HO407.out).2.2|(with_reducible refine Kd.C_alloc ?_ _)|(with_reducible refine Kd.C_drewN ?_ _)|(with_reducible refine Kd.C_drew ?_)))
   (case side2=>exact (Kd.R_reads' HO407.out).2.1)
   (case side3=>exact Kd.N_V (HO414.out))
   rintro e w23 ⟨v416,rfl,ho0,hb⟩
   refine ⟨_,rfl,?_⟩
   have n0_:=Aside0.mk (Kd.R_below (by (with_reducible repeat (first|apply Kd.R_alloc|apply Kd.R_drewN|apply Kd.R_drew));exact HO407.out) hb)
   have n1_:=Aside0.mk (Kd.N_elder' (by (with_reducible repeat (first|apply Kd.N_alloc|apply Kd.N_drewN|apply Kd.N_drew));exact HO414.out) (by first|exact Kd.N_base ho0|exact Kd.S_base ho0) hb)
   have n2_:=Aside0.mk (Kd.N_lower (Kd.N_mono (ok':=fun k_=>some k_≠(.slice Ao16 t405.length co16 : Value).ownBlock∧k_≠gb403∧k_≠gb411) ho0 (fun k_ hk_=>⟨Or.elim hk_ (fun hs_=>hs_.1) (fun hn_=>(Kd.fresh' (Kd.R_lt (by (with_reducible repeat (first|apply Kd.R_alloc|apply Kd.R_drewN|apply Kd.R_drew));exact HO407.out)) k_ hn_)),Or.elim hk_ (fun hs_=>hs_.2.1) (fun hn_=>(Kd.freshB (g:=gb403) (o:=.cells #[.int .u8 a0_0,.int .u8 a0_1,.int .u8 a0_2,.int .u8 a0_3,.int .u8 a0_4,.int .u8 a0_5,.int .u8 a0_6,.int .u8 a0_7,.int .u8 a0_8,.int .u8 a0_9,.int .u8 a0_10,.int .u8 a0_11] 24 (0,0)) (by (with_reducible repeat (first|refine blk_drewN ?_ _|refine blk_drew ?_|refine blk_alloc ?_ _));exact BK403.out) k_ hn_)),Or.elim hk_ (fun hs_=>hs_.2.2) (fun hn_=>(Kd.freshB (g:=gb411) (o:=.cells #[.slice Ao16 t405.length co16,.int .i64 t408,.int .i64 t409,.int .i64 t410] 29 (0,0)) (by (with_reducible repeat (first|refine blk_drewN ?_ _|refine blk_drew ?_|refine blk_alloc ?_ _));exact BK411.out) k_ hn_))⟩)) (below_size (by repeat (first|(with_reducible first|exact HB.out|apply below_alloc|apply pw_below_drewN|apply below_drew1|refine below_set ?_ GE403.out|refine below_set ?_ GE411.out)|exact HB.out))))
   have n3_:=Aside0.mk (blk_below (g:=gb403) (o:=.cells #[.int .u8 a0_0,.int .u8 a0_1,.int .u8 a0_2,.int .u8 a0_3,.int .u8 a0_4,.int .u8 a0_5,.int .u8 a0_6,.int .u8 a0_7,.int .u8 a0_8,.int .u8 a0_9,.int .u8 a0_10,.int .u8 a0_11] 24 (0,0)) (by (with_reducible repeat (first|refine blk_drewN ?_ _|refine blk_drew ?_|refine blk_alloc ?_ _));exact BK403.out) hb)
   have n4_:=Aside0.mk (blk_below (g:=gb411) (o:=.cells #[.slice Ao16 t405.length co16,.int .i64 t408,.int .i64 t409,.int .i64 t410] 29 (0,0)) (by (with_reducible repeat (first|refine blk_drewN ?_ _|refine blk_drew ?_|refine blk_alloc ?_ _));exact BK411.out) hb)
   have n5_:=Aside0.mk (below_step (by repeat (first|(with_reducible first|exact HB.out|apply below_alloc|apply pw_below_drewN|apply below_drew1|refine below_set ?_ GE403.out|refine below_set ?_ GE411.out)|exact HB.out)) hb)
   clear HO407
   clear HO414
   clear BK403
   clear BK411
   clear HB
   have HO407:=n0_
   have HO414:=n1_
   have HO417:=n2_
   have BK403:=n3_
   have BK411:=n4_
   have HB:=n5_
   clear n0_ n1_ n2_ n3_ n4_ n5_
   (try clear hb)
   (try clear hb2)
   (try clear hk)
   (try clear hi)
   (try clear ho0)
   refine hK.out _ _ ⟨(blk_cell BK411.out 0).trans rfl,(blk_cell BK411.out 1).trans rfl,(blk_cell BK411.out 2).trans rfl,(blk_cell BK411.out 3).trans rfl⟩ (fun hHeld=>?_)
   clear hK K
   refine norm_ (a':=?_) ?_ ?_
   rotate_left
   ·show Act.put _ (some 19) _=_
    simp only [Act.put,List.setIfInBounds_toArray,List.set_cons_zero,List.set_cons_succ,i64_w,i32_w]
    rfl
   refine pure_ (i:=5) (N:=some 7) (v:=?_) (a':=?_) #[true,true,true,true,true,true] rfl rfl (by kernel_rfl) (fun _ _ _ h=>h) (Or.inl ⟨by rfl,?_⟩) ?_ ?_
   rotate_left;(intro w';go_simp;with_reducible rfl);rotate_left;(simp only [Act.put,List.setIfInBounds_toArray,List.set_cons_zero,List.set_cons_succ,i64_w,i32_w];rfl)
   refine done_ (by kernel_rfl) ?_
   have hcz24_0 : w23.cell? ⟨gb411,0,none⟩=some (.slice Ao16 t405.length co16):=(blk_cell BK411.out 0).trans rfl
   have hcz24_1 : w23.cell? ⟨gb411,1,none⟩=some (.int .i64 t408):=(blk_cell BK411.out 1).trans rfl
   have hcz24_2 : w23.cell? ⟨gb411,2,none⟩=some (.int .i64 t409):=(blk_cell BK411.out 2).trans rfl
   have hcz24_3 : w23.cell? ⟨gb411,3,none⟩=some (.int .i64 t410):=(blk_cell BK411.out 3).trans rfl
   have hfz24_0:=blk_frozen BK411.out 0
   have hfz24_1:=blk_frozen BK411.out 1
   have hfz24_2:=blk_frozen BK411.out 2
   have hfz24_3:=blk_frozen BK411.out 3
   obtain ⟨Ao25,co25,eo25⟩:=Kd.N_slice HO417.out
   subst eo25
   try go_wp2_with (first|((with_reducible refine gate_callee (f:=13) rfl ?_);refine goesL_ (some 22) rfl rfl Try.func13 (by kernel_rfl) rfl #[.agg #[.slice Ao16 t405.length co16,.int .i64 t408,.int .i64 t409,.int .i64 t410],.slice Ao25 t415.length co25] rfl (by (try simp only [List.map_toArray,List.map_cons,List.map_nil]);first|done|rfl|(simp only [List.length_drop,List.length_take];rfl)) ?_;(with_reducible refine (fold_Rows.calls k _ _ t405 t408 t409 t410 (fun k_=>(some k_≠(.slice Ao16 t405.length co16 : Value).ownBlock∧(k_≠gb403∧k_≠gb411))) _ _ t415 t418 _ ?side1 ?side2 ?side3 A7.out).mono ?_);(case side1=>repeat (first|exact (Kd.R_reads' HO407.out).2.2|(with_reducible refine Kd.C_alloc ?_ _)|(with_reducible refine Kd.C_drewN ?_ _)|(with_reducible refine Kd.C_drew ?_)));(case side2=>exact (Kd.R_reads' HO407.out).2.1);(case side3=>exact Kd.N_V (HO417.out));rintro e w26 ⟨v419,rfl,ho0,hb⟩;refine ⟨_,rfl,?_⟩;have n0_:=Aside0.mk (Kd.R_below (by (with_reducible repeat (first|apply Kd.R_alloc|apply Kd.R_drewN|apply Kd.R_drew));exact HO407.out) hb);have n1_:=Aside0.mk (Kd.N_elder' (by (with_reducible repeat (first|apply Kd.N_alloc|apply Kd.N_drewN|apply Kd.N_drew));exact HO414.out) (by first|exact Kd.N_base ho0|exact Kd.S_base ho0) hb);have n2_:=Aside0.mk (Kd.N_elder' (by (with_reducible repeat (first|apply Kd.N_alloc|apply Kd.N_drewN|apply Kd.N_drew));exact HO417.out) (by first|exact Kd.N_base ho0|exact Kd.S_base ho0) hb);have n3_:=Aside0.mk (Kd.N_lower (Kd.N_mono (ok':=fun k_=>some k_≠(.slice Ao16 t405.length co16 : Value).ownBlock∧k_≠gb403∧k_≠gb411) ho0 (fun k_ hk_=>⟨Or.elim hk_ (fun hs_=>hs_.1) (fun hn_=>(Kd.fresh' (Kd.R_lt (by (with_reducible repeat (first|apply Kd.R_alloc|apply Kd.R_drewN|apply Kd.R_drew));exact HO407.out)) k_ hn_)),Or.elim hk_ (fun hs_=>hs_.2.1) (fun hn_=>(Kd.freshB (g:=gb403) (o:=.cells #[.int .u8 a0_0,.int .u8 a0_1,.int .u8 a0_2,.int .u8 a0_3,.int .u8 a0_4,.int .u8 a0_5,.int .u8 a0_6,.int .u8 a0_7,.int .u8 a0_8,.int .u8 a0_9,.int .u8 a0_10,.int .u8 a0_11] 24 (0,0)) (by (with_reducible repeat (first|refine blk_drewN ?_ _|refine blk_drew ?_|refine blk_alloc ?_ _));exact BK403.out) k_ hn_)),Or.elim hk_ (fun hs_=>hs_.2.2) (fun hn_=>(Kd.freshB (g:=gb411) (o:=.cells #[.slice Ao16 t405.length co16,.int .i64 t408,.int .i64 t409,.int .i64 t410] 29 (0,0)) (by (with_reducible repeat (first|refine blk_drewN ?_ _|refine blk_drew ?_|refine blk_alloc ?_ _));exact BK411.out) k_ hn_))⟩)) (below_size (by repeat (first|(with_reducible first|exact HB.out|apply below_alloc|apply pw_below_drewN|apply below_drew1|refine below_set ?_ GE403.out|refine below_set ?_ GE411.out)|exact HB.out))));have n4_:=Aside0.mk (blk_below (g:=gb403) (o:=.cells #[.int .u8 a0_0,.int .u8 a0_1,.int .u8 a0_2,.int .u8 a0_3,.int .u8 a0_4,.int .u8 a0_5,.int .u8 a0_6,.int .u8 a0_7,.int .u8 a0_8,.int .u8 a0_9,.int .u8 a0_10,.int .u8 a0_11] 24 (0,0)) (by (with_reducible repeat (first|refine blk_drewN ?_ _|refine blk_drew ?_|refine blk_alloc ?_ _));exact BK403.out) hb);have n5_:=Aside0.mk (blk_below (g:=gb411) (o:=.cells #[.slice Ao16 t405.length co16,.int .i64 t408,.int .i64 t409,.int .i64 t410] 29 (0,0)) (by (with_reducible repeat (first|refine blk_drewN ?_ _|refine blk_drew ?_|refine blk_alloc ?_ _));exact BK411.out) hb);have n6_:=Aside0.mk (below_step (by repeat (first|(with_reducible first|exact HB.out|apply below_alloc|apply pw_below_drewN|apply below_drew1|refine below_set ?_ GE403.out|refine below_set ?_ GE411.out)|exact HB.out)) hb);clear HO407;clear HO414;clear HO417;clear BK403;clear BK411;clear HB;have HO407:=n0_;have HO414:=n1_;have HO417:=n2_;have HO420:=n3_;have BK403:=n4_;have BK411:=n5_;have HB:=n6_;clear n0_ n1_ n2_ n3_ n4_ n5_ n6_;(try clear hb);(try clear hb2);(try clear hk);(try clear hi);(try clear ho0);have hcz27_0 : w26.cell? ⟨gb411,0,none⟩=some (.slice Ao16 t405.length co16):=(blk_cell BK411.out 0).trans rfl;have hcz27_1 : w26.cell? ⟨gb411,1,none⟩=some (.int .i64 t408):=(blk_cell BK411.out 1).trans rfl;have hcz27_2 : w26.cell? ⟨gb411,2,none⟩=some (.int .i64 t409):=(blk_cell BK411.out 2).trans rfl;have hcz27_3 : w26.cell? ⟨gb411,3,none⟩=some (.int .i64 t410):=(blk_cell BK411.out 3).trans rfl;have hfz27_0:=blk_frozen BK411.out 0;have hfz27_1:=blk_frozen BK411.out 1;have hfz27_2:=blk_frozen BK411.out 2;have hfz27_3:=blk_frozen BK411.out 3;obtain ⟨Ao28,co28,eo28⟩:=Kd.N_slice HO420.out;subst eo28)|((with_reducible refine gate_callee (f:=12) rfl ?_);refine goesL_ (some 28) rfl rfl Try.func12 (by kernel_rfl) rfl #[.slice Ao28 t418.length co28,.slice Ao25 t415.length co25] rfl (by (try simp only [List.map_toArray,List.map_cons,List.map_nil]);first|done|rfl|(simp only [List.length_drop,List.length_take];rfl)) ?_;(with_reducible refine (thresherref04_Rows.calls k _ _ t418 _ _ t415 t421 _ ?side1 ?side2 ?side3 ?side4 A9.out).mono ?_);(case side1=>repeat (first|exact (Kd.N_reads' HO420.out).2.2|(with_reducible refine Kd.C_alloc ?_ _)|(with_reducible refine Kd.C_drewN ?_ _)|(with_reducible refine Kd.C_drew ?_)));(case side2=>exact (Kd.N_reads' HO420.out).2.1);(case side3=>repeat (first|exact (Kd.N_reads' HO417.out).2.2|(with_reducible refine Kd.C_alloc ?_ _)|(with_reducible refine Kd.C_drewN ?_ _)|(with_reducible refine Kd.C_drew ?_)));(case side4=>exact (Kd.N_reads' HO417.out).2.1);rintro e w' ⟨rfl,⟨nd,rfl⟩⟩;refine ⟨_,rfl,?_⟩))
   go_ret
   exact ⟨by first|rfl|(simp [errW_none,errW_some] <;> rfl)|(simp [*,errW_none,errW_some] <;> rfl),by repeat (first|(with_reducible first|exact HB.out|apply below_alloc|apply pw_below_drewN|apply below_drew1|refine below_set ?_ GE403.out|refine below_set ?_ GE411.out)|exact HB.out)⟩
  ·replace c10:=Bool.eq_false_iff.mpr c10
   subst c10
   have H1 : (some false)=some r:=by rw [if_neg (show ¬ (false=true) by decide)] at H;exact H
   clear H
   have H:=H1
   clear H1
   obtain rfl:=Option.some.inj H
   go_enter Try.func5,Try.ntmps5
   try go_wp2_with (first|((with_reducible refine gate_dst (N:=2) rfl ?_);(try (refine gate_guard (by rfl) ?_;dsimp only));refine box_event ?hg (N:=2) ?hd (cs:=#[.int .u8 a0_0,.int .u8 a0_1,.int .u8 a0_2,.int .u8 a0_3,.int .u8 a0_4,.int .u8 a0_5,.int .u8 a0_6,.int .u8 a0_7,.int .u8 a0_8,.int .u8 a0_9,.int .u8 a0_10,.int .u8 a0_11]) (t:=24) ?hr ?_;(case hd=>rfl);(case hg=>rfl);(case hr=>first|(go_simp;done)|(go_simp;rfl));intro gb403 hg w29 hbox hb;have n0_:=Aside0.mk (below_step (by repeat (first|(with_reducible first|exact HB.out|apply below_alloc|apply pw_below_drewN|apply below_drew1)|exact HB.out)) hb);have n1_:=Aside0.mk (hbox);have n2_:=Aside0.mk ((by rw [hg];exact (below_size (by repeat (first|(with_reducible first|exact HB.out|apply below_alloc|apply pw_below_drewN|apply below_drew1)|exact HB.out))) : w.heap.size≤gb403));have n3_:=Aside0.mk ((by rw [hg];exact (below_size (by repeat (first|(with_reducible first|exact HB.out|apply below_alloc|apply pw_below_drewN|apply below_drew1)|exact HB.out))) : w.heap.size≤gb403));clear HB;have HB:=n0_;have BK403:=n1_;have GW403:=n2_;have GE403:=n3_;clear n0_ n1_ n2_ n3_;clear hb hbox hg)|((with_reducible refine gate_callee (f:=8) rfl ?_);refine goesL_ (some 12) rfl rfl Try.func8 (by kernel_rfl) rfl #[] rfl (by (try simp only [List.map_toArray,List.map_cons,List.map_nil]);first|done|rfl|(simp only [List.length_drop,List.length_take];rfl)) ?_;(with_reducible refine (thresherlaw13_shown.calls k  false _ A3.out).mono ?_);rintro e w30 ⟨rfl,hb⟩;refine ⟨_,rfl,?_⟩;have n0_:=Aside0.mk (blk_below (g:=gb403) (o:=.cells #[.int .u8 a0_0,.int .u8 a0_1,.int .u8 a0_2,.int .u8 a0_3,.int .u8 a0_4,.int .u8 a0_5,.int .u8 a0_6,.int .u8 a0_7,.int .u8 a0_8,.int .u8 a0_9,.int .u8 a0_10,.int .u8 a0_11] 24 (0,0)) (by (with_reducible repeat (first|refine blk_drewN ?_ _|refine blk_drew ?_|refine blk_alloc ?_ _));exact BK403.out) hb);have n1_:=Aside0.mk (below_step (by repeat (first|(with_reducible first|exact HB.out|apply below_alloc|apply pw_below_drewN|apply below_drew1|refine below_set ?_ GE403.out)|exact HB.out)) hb);clear BK403;clear HB;have BK403:=n0_;have HB:=n1_;clear n0_ n1_;(try clear hb);(try clear hb2);(try clear hk);(try clear hi);have hcz31_0 : w30.cell? ⟨gb403,0,none⟩=some (.int .u8 a0_0):=(blk_cell BK403.out 0).trans rfl;have hcz31_1 : w30.cell? ⟨gb403,1,none⟩=some (.int .u8 a0_1):=(blk_cell BK403.out 1).trans rfl;have hcz31_2 : w30.cell? ⟨gb403,2,none⟩=some (.int .u8 a0_2):=(blk_cell BK403.out 2).trans rfl;have hcz31_3 : w30.cell? ⟨gb403,3,none⟩=some (.int .u8 a0_3):=(blk_cell BK403.out 3).trans rfl;have hcz31_4 : w30.cell? ⟨gb403,4,none⟩=some (.int .u8 a0_4):=(blk_cell BK403.out 4).trans rfl;have hcz31_5 : w30.cell? ⟨gb403,5,none⟩=some (.int .u8 a0_5):=(blk_cell BK403.out 5).trans rfl;have hcz31_6 : w30.cell? ⟨gb403,6,none⟩=some (.int .u8 a0_6):=(blk_cell BK403.out 6).trans rfl;have hcz31_7 : w30.cell? ⟨gb403,7,none⟩=some (.int .u8 a0_7):=(blk_cell BK403.out 7).trans rfl;have hcz31_8 : w30.cell? ⟨gb403,8,none⟩=some (.int .u8 a0_8):=(blk_cell BK403.out 8).trans rfl;have hcz31_9 : w30.cell? ⟨gb403,9,none⟩=some (.int .u8 a0_9):=(blk_cell BK403.out 9).trans rfl;have hcz31_10 : w30.cell? ⟨gb403,10,none⟩=some (.int .u8 a0_10):=(blk_cell BK403.out 10).trans rfl;have hcz31_11 : w30.cell? ⟨gb403,11,none⟩=some (.int .u8 a0_11):=(blk_cell BK403.out 11).trans rfl;have hfz31_0:=blk_frozen BK403.out 0;have hfz31_1:=blk_frozen BK403.out 1;have hfz31_2:=blk_frozen BK403.out 2;have hfz31_3:=blk_frozen BK403.out 3;have hfz31_4:=blk_frozen BK403.out 4;have hfz31_5:=blk_frozen BK403.out 5;have hfz31_6:=blk_frozen BK403.out 6;have hfz31_7:=blk_frozen BK403.out 7;have hfz31_8:=blk_frozen BK403.out 8;have hfz31_9:=blk_frozen BK403.out 9;have hfz31_10:=blk_frozen BK403.out 10;have hfz31_11:=blk_frozen BK403.out 11)|((with_reducible refine gate_callee (f:=9) rfl ?_);refine goesL_ (some 14) rfl rfl Try.func9 (by kernel_rfl) rfl #[.agg #[.int .u8 a0_0,.int .u8 a0_1,.int .u8 a0_2,.int .u8 a0_3,.int .u8 a0_4,.int .u8 a0_5,.int .u8 a0_6,.int .u8 a0_7,.int .u8 a0_8,.int .u8 a0_9,.int .u8 a0_10,.int .u8 a0_11]] rfl (by (try simp only [List.map_toArray,List.map_cons,List.map_nil]);first|done|rfl|(simp only [List.length_drop,List.length_take];rfl)) ?_;(with_reducible refine (thresherlaw13_made.calls k a0_0 a0_1 a0_2 a0_3 a0_4 a0_5 a0_6 a0_7 a0_8 a0_9 a0_10 a0_11 t405 t408 t409 t410 _ A4.out).mono ?_);rintro e w32 ⟨v406,rfl,ho0,hb⟩;refine ⟨_,rfl,?_⟩;have n0_:=Aside0.mk (Kd.R_lower ho0 (below_size (by repeat (first|(with_reducible first|exact HB.out|apply below_alloc|apply pw_below_drewN|apply below_drew1|refine below_set ?_ GE403.out)|exact HB.out))));have n1_:=Aside0.mk (blk_below (g:=gb403) (o:=.cells #[.int .u8 a0_0,.int .u8 a0_1,.int .u8 a0_2,.int .u8 a0_3,.int .u8 a0_4,.int .u8 a0_5,.int .u8 a0_6,.int .u8 a0_7,.int .u8 a0_8,.int .u8 a0_9,.int .u8 a0_10,.int .u8 a0_11] 24 (0,0)) (by (with_reducible repeat (first|refine blk_drewN ?_ _|refine blk_drew ?_|refine blk_alloc ?_ _));exact BK403.out) hb);have n2_:=Aside0.mk (below_step (by repeat (first|(with_reducible first|exact HB.out|apply below_alloc|apply pw_below_drewN|apply below_drew1|refine below_set ?_ GE403.out)|exact HB.out)) hb);clear BK403;clear HB;have HO407:=n0_;have BK403:=n1_;have HB:=n2_;clear n0_ n1_ n2_;(try clear hb);(try clear hb2);(try clear hk);(try clear hi);(try clear ho0))|((with_reducible refine gate_dst (N:=6) rfl ?_);(try (refine gate_guard (by rfl) ?_;dsimp only));refine box_event ?hg (N:=6) ?hd (cs:=#[.slice none 0 0,.int .i64 0,.int .i64 0,.int .i64 0]) (t:=29) ?hr ?_;(case hd=>rfl);(case hg=>rfl);(case hr=>first|(go_simp;done)|(go_simp;rfl));intro gb411 hg w33 hbox hb;have n0_:=Aside0.mk (Kd.R_below (by (with_reducible repeat (first|apply Kd.R_alloc|apply Kd.R_drewN|apply Kd.R_drew));exact HO407.out) hb);have n1_:=Aside0.mk (blk_below (g:=gb403) (o:=.cells #[.int .u8 a0_0,.int .u8 a0_1,.int .u8 a0_2,.int .u8 a0_3,.int .u8 a0_4,.int .u8 a0_5,.int .u8 a0_6,.int .u8 a0_7,.int .u8 a0_8,.int .u8 a0_9,.int .u8 a0_10,.int .u8 a0_11] 24 (0,0)) (by (with_reducible repeat (first|refine blk_drewN ?_ _|refine blk_drew ?_|refine blk_alloc ?_ _));exact BK403.out) hb);have n2_:=Aside0.mk (below_step (by repeat (first|(with_reducible first|exact HB.out|apply below_alloc|apply pw_below_drewN|apply below_drew1|refine below_set ?_ GE403.out)|exact HB.out)) hb);have n3_:=Aside0.mk (hbox);have n4_:=Aside0.mk ((by rw [hg];exact (below_size (by repeat (first|(with_reducible first|exact HB.out|apply below_alloc|apply pw_below_drewN|apply below_drew1|refine below_set ?_ GE403.out)|exact HB.out))) : w.heap.size≤gb411));have n5_:=Aside0.mk ((by rw [hg];exact (below_size (by repeat (first|(with_reducible first|exact HB.out|apply below_alloc|apply pw_below_drewN|apply below_drew1|refine below_set ?_ GE403.out)|exact HB.out))) : w.heap.size≤gb411));have n6_:=Aside0.mk ((by rw [hg];exact Nat.ne_of_lt (blk_lt (g:=gb403) (o:=.cells #[.int .u8 a0_0,.int .u8 a0_1,.int .u8 a0_2,.int .u8 a0_3,.int .u8 a0_4,.int .u8 a0_5,.int .u8 a0_6,.int .u8 a0_7,.int .u8 a0_8,.int .u8 a0_9,.int .u8 a0_10,.int .u8 a0_11] 24 (0,0)) (by (with_reducible repeat (first|refine blk_drewN ?_ _|refine blk_drew ?_|refine blk_alloc ?_ _));exact BK403.out)) : gb403≠gb411));have n7_:=Aside0.mk ((by rw [hg];exact Nat.ne_of_gt (blk_lt (g:=gb403) (o:=.cells #[.int .u8 a0_0,.int .u8 a0_1,.int .u8 a0_2,.int .u8 a0_3,.int .u8 a0_4,.int .u8 a0_5,.int .u8 a0_6,.int .u8 a0_7,.int .u8 a0_8,.int .u8 a0_9,.int .u8 a0_10,.int .u8 a0_11] 24 (0,0)) (by (with_reducible repeat (first|refine blk_drewN ?_ _|refine blk_drew ?_|refine blk_alloc ?_ _));exact BK403.out)) : gb411≠gb403));clear HO407;clear BK403;clear HB;have HO407:=n0_;have BK403:=n1_;have HB:=n2_;have BK411:=n3_;have GW411:=n4_;have GE411:=n5_;have NB403_411:=n6_;have NB411_403:=n7_;clear n0_ n1_ n2_ n3_ n4_ n5_ n6_ n7_;clear hb hbox hg;obtain ⟨Ao34,co34,eo34⟩:=Kd.R_slice HO407.out;subst eo34;have hnb35:=NB411_403.out;have hnc35:=NB403_411.out;have hcz36_0 : w33.cell? ⟨gb411,0,none⟩=some (.slice none 0 0):=(blk_cell BK411.out 0).trans rfl;have hcz36_1 : w33.cell? ⟨gb411,1,none⟩=some (.int .i64 0):=(blk_cell BK411.out 1).trans rfl;have hcz36_2 : w33.cell? ⟨gb411,2,none⟩=some (.int .i64 0):=(blk_cell BK411.out 2).trans rfl;have hcz36_3 : w33.cell? ⟨gb411,3,none⟩=some (.int .i64 0):=(blk_cell BK411.out 3).trans rfl;have hfz36_0:=blk_frozen BK411.out 0;have hfz36_1:=blk_frozen BK411.out 1;have hfz36_2:=blk_frozen BK411.out 2;have hfz36_3:=blk_frozen BK411.out 3))
   have n0_ : Aside0 (Kd.R (Kd.int .i64) 3 ((((w33.setCell ⟨gb411,0,none⟩ (.slice Ao34 t405.length co34)).setCell ⟨gb411,1,none⟩ (.int .i64 t408)).setCell ⟨gb411,2,none⟩ (.int .i64 t409)).setCell ⟨gb411,3,none⟩ (.int .i64 t410)) w.heap.size (fun _=>True) (.slice Ao34 t405.length co34) t405):=⟨by (with_reducible repeat (first|apply Kd.R_alloc|apply Kd.R_drewN|apply Kd.R_drew));exact Kd.R_mono (Kd.R_far (p:=⟨gb411,3,none⟩) (Kd.R_far (p:=⟨gb411,2,none⟩) (Kd.R_far (p:=⟨gb411,1,none⟩) (Kd.R_far (p:=⟨gb411,0,none⟩) (Kd.R_types HO407.out BK411.out (by decide)) (fun _ hk=>hk.2) (.slice Ao34 t405.length co34)) (fun _ hk=>hk.2) (.int .i64 t408)) (fun _ hk=>hk.2) (.int .i64 t409)) (fun _ hk=>hk.2) (.int .i64 t410)) (fun _ hk=>trivial)⟩
   have n1_ : Aside0 (((((w33.setCell ⟨gb411,0,none⟩ (.slice Ao34 t405.length co34)).setCell ⟨gb411,1,none⟩ (.int .i64 t408)).setCell ⟨gb411,2,none⟩ (.int .i64 t409)).setCell ⟨gb411,3,none⟩ (.int .i64 t410)).heap[gb403]?=some (.cells #[.int .u8 a0_0,.int .u8 a0_1,.int .u8 a0_2,.int .u8 a0_3,.int .u8 a0_4,.int .u8 a0_5,.int .u8 a0_6,.int .u8 a0_7,.int .u8 a0_8,.int .u8 a0_9,.int .u8 a0_10,.int .u8 a0_11] 24 (0,0))):=⟨by (with_reducible repeat (first|refine blk_drewN ?_ _|refine blk_drew ?_|refine blk_alloc ?_ _));refine blk_far ?_ NB403_411.out _;(with_reducible repeat (first|refine blk_drewN ?_ _|refine blk_drew ?_|refine blk_alloc ?_ _));refine blk_far ?_ NB403_411.out _;(with_reducible repeat (first|refine blk_drewN ?_ _|refine blk_drew ?_|refine blk_alloc ?_ _));refine blk_far ?_ NB403_411.out _;(with_reducible repeat (first|refine blk_drewN ?_ _|refine blk_drew ?_|refine blk_alloc ?_ _));refine blk_far ?_ NB403_411.out _;(with_reducible repeat (first|refine blk_drewN ?_ _|refine blk_drew ?_|refine blk_alloc ?_ _));exact BK403.out⟩
   have n2_ : Aside0 (((((w33.setCell ⟨gb411,0,none⟩ (.slice Ao34 t405.length co34)).setCell ⟨gb411,1,none⟩ (.int .i64 t408)).setCell ⟨gb411,2,none⟩ (.int .i64 t409)).setCell ⟨gb411,3,none⟩ (.int .i64 t410)).heap[gb411]?=some (.cells #[.slice Ao34 t405.length co34,.int .i64 t408,.int .i64 t409,.int .i64 t410] 29 (0,0))):=⟨by (with_reducible repeat (first|refine blk_drewN ?_ _|refine blk_drew ?_|refine blk_alloc ?_ _));refine blk_put (cs:=#[.slice Ao34 t405.length co34,.int .i64 t408,.int .i64 t409,.int .i64 0]) ?_ 3 _ rfl;(with_reducible repeat (first|refine blk_drewN ?_ _|refine blk_drew ?_|refine blk_alloc ?_ _));refine blk_put (cs:=#[.slice Ao34 t405.length co34,.int .i64 t408,.int .i64 0,.int .i64 0]) ?_ 2 _ rfl;(with_reducible repeat (first|refine blk_drewN ?_ _|refine blk_drew ?_|refine blk_alloc ?_ _));refine blk_put (cs:=#[.slice Ao34 t405.length co34,.int .i64 0,.int .i64 0,.int .i64 0]) ?_ 1 _ rfl;(with_reducible repeat (first|refine blk_drewN ?_ _|refine blk_drew ?_|refine blk_alloc ?_ _));refine blk_put (cs:=#[.slice none 0 0,.int .i64 0,.int .i64 0,.int .i64 0]) ?_ 0 _ rfl;(with_reducible repeat (first|refine blk_drewN ?_ _|refine blk_drew ?_|refine blk_alloc ?_ _));exact BK411.out⟩
   have n3_ : Aside0 (Below w.heap.size w ((((w33.setCell ⟨gb411,0,none⟩ (.slice Ao34 t405.length co34)).setCell ⟨gb411,1,none⟩ (.int .i64 t408)).setCell ⟨gb411,2,none⟩ (.int .i64 t409)).setCell ⟨gb411,3,none⟩ (.int .i64 t410))):=⟨by repeat (first|(with_reducible first|exact HB.out|apply below_alloc|apply pw_below_drewN|apply below_drew1|refine below_set ?_ GE403.out|refine below_set ?_ GE411.out)|exact HB.out)⟩
   (try clear HO407)
   (try clear BK403)
   (try clear BK411)
   (try clear HB)
   generalize ((((w33.setCell ⟨gb411,0,none⟩ (.slice Ao34 t405.length co34)).setCell ⟨gb411,1,none⟩ (.int .i64 t408)).setCell ⟨gb411,2,none⟩ (.int .i64 t409)).setCell ⟨gb411,3,none⟩ (.int .i64 t410))=w37 at n0_ n1_ n2_ n3_ ⊢
   have HO407:=n0_
   have BK403:=n1_
   have BK411:=n2_
   have HB:=n3_
   clear n0_ n1_ n2_ n3_
   have n0_:=Aside0.mk (Kd.R_drew HO407.out)
   have n1_:=Aside0.mk (blk_drew BK403.out)
   have n2_:=Aside0.mk (blk_drew BK411.out)
   have n3_:=Aside0.mk (below_drew1 HB.out)
   clear HO407
   clear BK403
   clear BK411
   clear HB
   have HO407:=n0_
   have BK403:=n1_
   have BK411:=n2_
   have HB:=n3_
   clear n0_ n1_ n2_ n3_
   refine start_ (n:=6) (S:=fun w'=>w'.cell? ⟨gb411,0,none⟩=some (.slice Ao34 t405.length co34)∧w'.cell? ⟨gb411,1,none⟩=some (.int .i64 t408)∧w'.cell? ⟨gb411,2,none⟩=some (.int .i64 t409)∧w'.cell? ⟨gb411,3,none⟩=some (.int .i64 t410)) (ds:=[]) #[false,false,false,false,false,false] (by kernel_rfl) rfl rfl ⟨(blk_cell BK411.out 0).trans rfl,(blk_cell BK411.out 1).trans rfl,(blk_cell BK411.out 2).trans rfl,(blk_cell BK411.out 3).trans rfl⟩ (fun hHeld=>?_)
   generalize w37.drew=w38 at HO407 BK403 BK411 HB hHeld ⊢
   refine pure_ (i:=2) (N:=some 17) (v:=?_) (a':=?_) #[false,false,true,false,false,false] rfl rfl (by kernel_rfl) (fun _ _ _ h=>h) (Or.inl ⟨by rfl,?_⟩) ?_ ?_
   rotate_left;(intro w';go_simp;with_reducible rfl);rotate_left;(simp only [Act.put,List.setIfInBounds_toArray,List.set_cons_zero,List.set_cons_succ,i64_w,i32_w];rfl)
   refine take_ (i:=0) (N:=some 15) (v:=?_) (a':=?_) #[true,false,true,false,false,false] rfl rfl (by kernel_rfl) (fun _ _ _ h=>h) (Or.inl ⟨by rfl,?_⟩) hHeld ?_ ?_
   rotate_left;(rintro w' ⟨s0,s1,s2,s3⟩;go_simp;with_reducible rfl);rotate_left;(simp only [Act.put,List.setIfInBounds_toArray,List.set_cons_zero,List.set_cons_succ,i64_w,i32_w];rfl)
   refine take_ (i:=1) (N:=some 16) (v:=?_) (a':=?_) #[true,true,true,false,false,false] rfl rfl (by kernel_rfl) (fun _ _ _ h=>h) (Or.inl ⟨by rfl,?_⟩) hHeld ?_ ?_
   rotate_left;(rintro w' ⟨s0,s1,s2,s3⟩;go_simp;with_reducible rfl);rotate_left;(simp only [Act.put,List.setIfInBounds_toArray,List.set_cons_zero,List.set_cons_succ,i64_w,i32_w];rfl)
   refine one_ (i:=3) (N:=some 18) #[true,true,true,true,false,false] rfl rfl (by kernel_rfl) (by decide) (fun K hK=>?_)
   refine goes_ Try.func11 (by kernel_rfl) rfl #[.agg #[.slice Ao34 t405.length co34,.int .i64 t408,.int .i64 t409,.int .i64 t410],.slice A1 l1.length c1,.int .i64 60] (by rfl) rfl rfl (by (try simp only [List.map_toArray,List.map_cons,List.map_nil]);first|done|rfl|(simp only [List.length_drop,List.length_take];rfl)) ?_
   with_reducible refine (thresherref04_Fits.calls k _ _ t405 t408 t409 t410 _ _ l1 60 t412 _ ?side1 ?side2 ?side3 ?side4 A5.out).mono ?_
   (case side1=>repeat (first|exact (Kd.R_reads' HO407.out).2.2|(with_reducible refine Kd.C_alloc ?_ _)|(with_reducible refine Kd.C_drewN ?_ _)|(with_reducible refine Kd.C_drew ?_)))
   (case side2=>exact (Kd.R_reads' HO407.out).2.1)
   (case side3=>repeat (first|exact (Kd.C_below HR1.out HB.out)|(with_reducible refine Kd.C_alloc ?_ _)|(with_reducible refine Kd.C_drewN ?_ _)|(with_reducible refine Kd.C_drew ?_)))
   (case side4=>exact HC1.out)
   rintro e w39 ⟨v413,rfl,ho0,hb⟩
   refine ⟨_,rfl,?_⟩
   have n0_:=Aside0.mk (Kd.R_below (by (with_reducible repeat (first|apply Kd.R_alloc|apply Kd.R_drewN|apply Kd.R_drew));exact HO407.out) hb)
   have n1_:=Aside0.mk (Kd.N_lower (Kd.N_mono (ok':=fun k_=>some k_≠(.slice Ao34 t405.length co34 : Value).ownBlock∧k_≠gb403∧k_≠gb411) (Kd.S_N (Kd.S_bound ho0)) (fun k_ hk_=>⟨(Kd.fresh' (Kd.R_lt (by (with_reducible repeat (first|apply Kd.R_alloc|apply Kd.R_drewN|apply Kd.R_drew));exact HO407.out)) k_ hk_.2.1),(Kd.freshB (g:=gb403) (o:=.cells #[.int .u8 a0_0,.int .u8 a0_1,.int .u8 a0_2,.int .u8 a0_3,.int .u8 a0_4,.int .u8 a0_5,.int .u8 a0_6,.int .u8 a0_7,.int .u8 a0_8,.int .u8 a0_9,.int .u8 a0_10,.int .u8 a0_11] 24 (0,0)) (by (with_reducible repeat (first|refine blk_drewN ?_ _|refine blk_drew ?_|refine blk_alloc ?_ _));exact BK403.out) k_ hk_.2.1),(Kd.freshB (g:=gb411) (o:=.cells #[.slice Ao34 t405.length co34,.int .i64 t408,.int .i64 t409,.int .i64 t410] 29 (0,0)) (by (with_reducible repeat (first|refine blk_drewN ?_ _|refine blk_drew ?_|refine blk_alloc ?_ _));exact BK411.out) k_ hk_.2.1)⟩)) (below_size (by repeat (first|(with_reducible first|exact HB.out|apply below_alloc|apply pw_below_drewN|apply below_drew1|refine below_set ?_ GE403.out|refine below_set ?_ GE411.out)|exact HB.out))))
   have n2_:=Aside0.mk (blk_below (g:=gb403) (o:=.cells #[.int .u8 a0_0,.int .u8 a0_1,.int .u8 a0_2,.int .u8 a0_3,.int .u8 a0_4,.int .u8 a0_5,.int .u8 a0_6,.int .u8 a0_7,.int .u8 a0_8,.int .u8 a0_9,.int .u8 a0_10,.int .u8 a0_11] 24 (0,0)) (by (with_reducible repeat (first|refine blk_drewN ?_ _|refine blk_drew ?_|refine blk_alloc ?_ _));exact BK403.out) hb)
   have n3_:=Aside0.mk (blk_below (g:=gb411) (o:=.cells #[.slice Ao34 t405.length co34,.int .i64 t408,.int .i64 t409,.int .i64 t410] 29 (0,0)) (by (with_reducible repeat (first|refine blk_drewN ?_ _|refine blk_drew ?_|refine blk_alloc ?_ _));exact BK411.out) hb)
   have n4_:=Aside0.mk (below_step (by repeat (first|(with_reducible first|exact HB.out|apply below_alloc|apply pw_below_drewN|apply below_drew1|refine below_set ?_ GE403.out|refine below_set ?_ GE411.out)|exact HB.out)) hb)
   clear HO407
   clear BK403
   clear BK411
   clear HB
   have HO407:=n0_
   have HO414:=n1_
   have BK403:=n2_
   have BK411:=n3_
   have HB:=n4_
   clear n0_ n1_ n2_ n3_ n4_
   (try clear hb)
   (try clear hb2)
   (try clear hk)
   (try clear hi)
   (try clear ho0)
   obtain ⟨Ao40,co40,eo40⟩:=Kd.N_slice HO414.out
   (first|subst eo40|(injection eo40 with f1_ f2_ f3_;have f4_:=f1_.symm;have f5_:=f3_.symm;clear f1_ f2_ f3_;subst f4_;subst f5_))
   refine hK.out _ _ ⟨(blk_cell BK411.out 0).trans rfl,(blk_cell BK411.out 1).trans rfl,(blk_cell BK411.out 2).trans rfl,(blk_cell BK411.out 3).trans rfl⟩ (fun hHeld=>?_)
   clear hK K
   refine norm_ (a':=?_) ?_ ?_
   rotate_left
   ·show Act.put _ (some 18) _=_
    simp only [Act.put,List.setIfInBounds_toArray,List.set_cons_zero,List.set_cons_succ,i64_w,i32_w]
    rfl
   refine one_ (i:=4) (N:=some 19) #[true,true,true,true,true,false] rfl rfl (by kernel_rfl) (by decide) (fun K hK=>?_)
   refine goes_ Try.func10 (by kernel_rfl) rfl #[.agg #[.slice Ao34 t405.length co34,.int .i64 t408,.int .i64 t409,.int .i64 t410],.slice Ao40 t412.length co40] (by rfl) rfl rfl (by (try simp only [List.map_toArray,List.map_cons,List.map_nil]);first|done|rfl|(simp only [List.length_drop,List.length_take];rfl)) ?_
   with_reducible refine (thresherref09_Sort.calls k _ _ t405 t408 t409 t410 (fun k_=>(some k_≠(.slice Ao34 t405.length co34 : Value).ownBlock∧(k_≠gb403∧k_≠gb411))) _ _ t412 t415 _ ?side1 ?side2 ?side3 A6.out).mono ?_
   (case side1=>repeat (first|exact (Kd.R_reads' HO407.out).2.2|(with_reducible refine Kd.C_alloc ?_ _)|(with_reducible refine Kd.C_drewN ?_ _)|(with_reducible refine Kd.C_drew ?_)))
   (case side2=>exact (Kd.R_reads' HO407.out).2.1)
   (case side3=>exact Kd.N_V (HO414.out))
   rintro e w41 ⟨v416,rfl,ho0,hb⟩
   refine ⟨_,rfl,?_⟩
   have n0_:=Aside0.mk (Kd.R_below (by (with_reducible repeat (first|apply Kd.R_alloc|apply Kd.R_drewN|apply Kd.R_drew));exact HO407.out) hb)
   have n1_:=Aside0.mk (Kd.N_elder' (by (with_reducible repeat (first|apply Kd.N_alloc|apply Kd.N_drewN|apply Kd.N_drew));exact HO414.out) (by first|exact Kd.N_base ho0|exact Kd.S_base ho0) hb)
   have n2_:=Aside0.mk (Kd.N_lower (Kd.N_mono (ok':=fun k_=>some k_≠(.slice Ao34 t405.length co34 : Value).ownBlock∧k_≠gb403∧k_≠gb411) ho0 (fun k_ hk_=>⟨Or.elim hk_ (fun hs_=>hs_.1) (fun hn_=>(Kd.fresh' (Kd.R_lt (by (with_reducible repeat (first|apply Kd.R_alloc|apply Kd.R_drewN|apply Kd.R_drew));exact HO407.out)) k_ hn_)),Or.elim hk_ (fun hs_=>hs_.2.1) (fun hn_=>(Kd.freshB (g:=gb403) (o:=.cells #[.int .u8 a0_0,.int .u8 a0_1,.int .u8 a0_2,.int .u8 a0_3,.int .u8 a0_4,.int .u8 a0_5,.int .u8 a0_6,.int .u8 a0_7,.int .u8 a0_8,.int .u8 a0_9,.int .u8 a0_10,.int .u8 a0_11] 24 (0,0)) (by (with_reducible repeat (first|refine blk_drewN ?_ _|refine blk_drew ?_|refine blk_alloc ?_ _));exact BK403.out) k_ hn_)),Or.elim hk_ (fun hs_=>hs_.2.2) (fun hn_=>(Kd.freshB (g:=gb411) (o:=.cells #[.slice Ao34 t405.length co34,.int .i64 t408,.int .i64 t409,.int .i64 t410] 29 (0,0)) (by (with_reducible repeat (first|refine blk_drewN ?_ _|refine blk_drew ?_|refine blk_alloc ?_ _));exact BK411.out) k_ hn_))⟩)) (below_size (by repeat (first|(with_reducible first|exact HB.out|apply below_alloc|apply pw_below_drewN|apply below_drew1|refine below_set ?_ GE403.out|refine below_set ?_ GE411.out)|exact HB.out))))
   have n3_:=Aside0.mk (blk_below (g:=gb403) (o:=.cells #[.int .u8 a0_0,.int .u8 a0_1,.int .u8 a0_2,.int .u8 a0_3,.int .u8 a0_4,.int .u8 a0_5,.int .u8 a0_6,.int .u8 a0_7,.int .u8 a0_8,.int .u8 a0_9,.int .u8 a0_10,.int .u8 a0_11] 24 (0,0)) (by (with_reducible repeat (first|refine blk_drewN ?_ _|refine blk_drew ?_|refine blk_alloc ?_ _));exact BK403.out) hb)
   have n4_:=Aside0.mk (blk_below (g:=gb411) (o:=.cells #[.slice Ao34 t405.length co34,.int .i64 t408,.int .i64 t409,.int .i64 t410] 29 (0,0)) (by (with_reducible repeat (first|refine blk_drewN ?_ _|refine blk_drew ?_|refine blk_alloc ?_ _));exact BK411.out) hb)
   have n5_:=Aside0.mk (below_step (by repeat (first|(with_reducible first|exact HB.out|apply below_alloc|apply pw_below_drewN|apply below_drew1|refine below_set ?_ GE403.out|refine below_set ?_ GE411.out)|exact HB.out)) hb)
   clear HO407
   clear HO414
   clear BK403
   clear BK411
   clear HB
   have HO407:=n0_
   have HO414:=n1_
   have HO417:=n2_
   have BK403:=n3_
   have BK411:=n4_
   have HB:=n5_
   clear n0_ n1_ n2_ n3_ n4_ n5_
   (try clear hb)
   (try clear hb2)
   (try clear hk)
   (try clear hi)
   (try clear ho0)
   refine hK.out _ _ ⟨(blk_cell BK411.out 0).trans rfl,(blk_cell BK411.out 1).trans rfl,(blk_cell BK411.out 2).trans rfl,(blk_cell BK411.out 3).trans rfl⟩ (fun hHeld=>?_)
   clear hK K
   refine norm_ (a':=?_) ?_ ?_
   rotate_left
   ·show Act.put _ (some 19) _=_
    simp only [Act.put,List.setIfInBounds_toArray,List.set_cons_zero,List.set_cons_succ,i64_w,i32_w]
    rfl
   refine pure_ (i:=5) (N:=some 7) (v:=?_) (a':=?_) #[true,true,true,true,true,true] rfl rfl (by kernel_rfl) (fun _ _ _ h=>h) (Or.inl ⟨by rfl,?_⟩) ?_ ?_
   rotate_left;(intro w';go_simp;with_reducible rfl);rotate_left;(simp only [Act.put,List.setIfInBounds_toArray,List.set_cons_zero,List.set_cons_succ,i64_w,i32_w];rfl)
   refine done_ (by kernel_rfl) ?_
   have hcz42_0 : w41.cell? ⟨gb411,0,none⟩=some (.slice Ao34 t405.length co34):=(blk_cell BK411.out 0).trans rfl
   have hcz42_1 : w41.cell? ⟨gb411,1,none⟩=some (.int .i64 t408):=(blk_cell BK411.out 1).trans rfl
   have hcz42_2 : w41.cell? ⟨gb411,2,none⟩=some (.int .i64 t409):=(blk_cell BK411.out 2).trans rfl
   have hcz42_3 : w41.cell? ⟨gb411,3,none⟩=some (.int .i64 t410):=(blk_cell BK411.out 3).trans rfl
   have hfz42_0:=blk_frozen BK411.out 0
   have hfz42_1:=blk_frozen BK411.out 1
   have hfz42_2:=blk_frozen BK411.out 2
   have hfz42_3:=blk_frozen BK411.out 3
   obtain ⟨Ao43,co43,eo43⟩:=Kd.N_slice HO417.out
   subst eo43
   try go_wp2_with (first|((with_reducible refine gate_callee (f:=13) rfl ?_);refine goesL_ (some 22) rfl rfl Try.func13 (by kernel_rfl) rfl #[.agg #[.slice Ao34 t405.length co34,.int .i64 t408,.int .i64 t409,.int .i64 t410],.slice Ao43 t415.length co43] rfl (by (try simp only [List.map_toArray,List.map_cons,List.map_nil]);first|done|rfl|(simp only [List.length_drop,List.length_take];rfl)) ?_;(with_reducible refine (fold_Rows.calls k _ _ t405 t408 t409 t410 (fun k_=>(some k_≠(.slice Ao34 t405.length co34 : Value).ownBlock∧(k_≠gb403∧k_≠gb411))) _ _ t415 t418 _ ?side1 ?side2 ?side3 A7.out).mono ?_);(case side1=>repeat (first|exact (Kd.R_reads' HO407.out).2.2|(with_reducible refine Kd.C_alloc ?_ _)|(with_reducible refine Kd.C_drewN ?_ _)|(with_reducible refine Kd.C_drew ?_)));(case side2=>exact (Kd.R_reads' HO407.out).2.1);(case side3=>exact Kd.N_V (HO417.out));rintro e w44 ⟨v419,rfl,ho0,hb⟩;refine ⟨_,rfl,?_⟩;have n0_:=Aside0.mk (Kd.R_below (by (with_reducible repeat (first|apply Kd.R_alloc|apply Kd.R_drewN|apply Kd.R_drew));exact HO407.out) hb);have n1_:=Aside0.mk (Kd.N_elder' (by (with_reducible repeat (first|apply Kd.N_alloc|apply Kd.N_drewN|apply Kd.N_drew));exact HO414.out) (by first|exact Kd.N_base ho0|exact Kd.S_base ho0) hb);have n2_:=Aside0.mk (Kd.N_elder' (by (with_reducible repeat (first|apply Kd.N_alloc|apply Kd.N_drewN|apply Kd.N_drew));exact HO417.out) (by first|exact Kd.N_base ho0|exact Kd.S_base ho0) hb);have n3_:=Aside0.mk (Kd.N_lower (Kd.N_mono (ok':=fun k_=>some k_≠(.slice Ao34 t405.length co34 : Value).ownBlock∧k_≠gb403∧k_≠gb411) ho0 (fun k_ hk_=>⟨Or.elim hk_ (fun hs_=>hs_.1) (fun hn_=>(Kd.fresh' (Kd.R_lt (by (with_reducible repeat (first|apply Kd.R_alloc|apply Kd.R_drewN|apply Kd.R_drew));exact HO407.out)) k_ hn_)),Or.elim hk_ (fun hs_=>hs_.2.1) (fun hn_=>(Kd.freshB (g:=gb403) (o:=.cells #[.int .u8 a0_0,.int .u8 a0_1,.int .u8 a0_2,.int .u8 a0_3,.int .u8 a0_4,.int .u8 a0_5,.int .u8 a0_6,.int .u8 a0_7,.int .u8 a0_8,.int .u8 a0_9,.int .u8 a0_10,.int .u8 a0_11] 24 (0,0)) (by (with_reducible repeat (first|refine blk_drewN ?_ _|refine blk_drew ?_|refine blk_alloc ?_ _));exact BK403.out) k_ hn_)),Or.elim hk_ (fun hs_=>hs_.2.2) (fun hn_=>(Kd.freshB (g:=gb411) (o:=.cells #[.slice Ao34 t405.length co34,.int .i64 t408,.int .i64 t409,.int .i64 t410] 29 (0,0)) (by (with_reducible repeat (first|refine blk_drewN ?_ _|refine blk_drew ?_|refine blk_alloc ?_ _));exact BK411.out) k_ hn_))⟩)) (below_size (by repeat (first|(with_reducible first|exact HB.out|apply below_alloc|apply pw_below_drewN|apply below_drew1|refine below_set ?_ GE403.out|refine below_set ?_ GE411.out)|exact HB.out))));have n4_:=Aside0.mk (blk_below (g:=gb403) (o:=.cells #[.int .u8 a0_0,.int .u8 a0_1,.int .u8 a0_2,.int .u8 a0_3,.int .u8 a0_4,.int .u8 a0_5,.int .u8 a0_6,.int .u8 a0_7,.int .u8 a0_8,.int .u8 a0_9,.int .u8 a0_10,.int .u8 a0_11] 24 (0,0)) (by (with_reducible repeat (first|refine blk_drewN ?_ _|refine blk_drew ?_|refine blk_alloc ?_ _));exact BK403.out) hb);have n5_:=Aside0.mk (blk_below (g:=gb411) (o:=.cells #[.slice Ao34 t405.length co34,.int .i64 t408,.int .i64 t409,.int .i64 t410] 29 (0,0)) (by (with_reducible repeat (first|refine blk_drewN ?_ _|refine blk_drew ?_|refine blk_alloc ?_ _));exact BK411.out) hb);have n6_:=Aside0.mk (below_step (by repeat (first|(with_reducible first|exact HB.out|apply below_alloc|apply pw_below_drewN|apply below_drew1|refine below_set ?_ GE403.out|refine below_set ?_ GE411.out)|exact HB.out)) hb);clear HO407;clear HO414;clear HO417;clear BK403;clear BK411;clear HB;have HO407:=n0_;have HO414:=n1_;have HO417:=n2_;have HO420:=n3_;have BK403:=n4_;have BK411:=n5_;have HB:=n6_;clear n0_ n1_ n2_ n3_ n4_ n5_ n6_;(try clear hb);(try clear hb2);(try clear hk);(try clear hi);(try clear ho0);have hcz45_0 : w44.cell? ⟨gb411,0,none⟩=some (.slice Ao34 t405.length co34):=(blk_cell BK411.out 0).trans rfl;have hcz45_1 : w44.cell? ⟨gb411,1,none⟩=some (.int .i64 t408):=(blk_cell BK411.out 1).trans rfl;have hcz45_2 : w44.cell? ⟨gb411,2,none⟩=some (.int .i64 t409):=(blk_cell BK411.out 2).trans rfl;have hcz45_3 : w44.cell? ⟨gb411,3,none⟩=some (.int .i64 t410):=(blk_cell BK411.out 3).trans rfl;have hfz45_0:=blk_frozen BK411.out 0;have hfz45_1:=blk_frozen BK411.out 1;have hfz45_2:=blk_frozen BK411.out 2;have hfz45_3:=blk_frozen BK411.out 3;obtain ⟨Ao46,co46,eo46⟩:=Kd.N_slice HO420.out;subst eo46)|((with_reducible refine gate_callee (f:=12) rfl ?_);refine goesL_ (some 28) rfl rfl Try.func12 (by kernel_rfl) rfl #[.slice Ao46 t418.length co46,.slice Ao43 t415.length co43] rfl (by (try simp only [List.map_toArray,List.map_cons,List.map_nil]);first|done|rfl|(simp only [List.length_drop,List.length_take];rfl)) ?_;(with_reducible refine (thresherref04_Rows.calls k _ _ t418 _ _ t415 t421 _ ?side1 ?side2 ?side3 ?side4 A9.out).mono ?_);(case side1=>repeat (first|exact (Kd.N_reads' HO420.out).2.2|(with_reducible refine Kd.C_alloc ?_ _)|(with_reducible refine Kd.C_drewN ?_ _)|(with_reducible refine Kd.C_drew ?_)));(case side2=>exact (Kd.N_reads' HO420.out).2.1);(case side3=>repeat (first|exact (Kd.N_reads' HO417.out).2.2|(with_reducible refine Kd.C_alloc ?_ _)|(with_reducible refine Kd.C_drewN ?_ _)|(with_reducible refine Kd.C_drew ?_)));(case side4=>exact (Kd.N_reads' HO417.out).2.1);rintro e w' ⟨rfl,⟨nd,rfl⟩⟩;refine ⟨_,rfl,?_⟩))
   go_ret
   exact ⟨by first|rfl|(simp [errW_none,errW_some] <;> rfl)|(simp [*,errW_none,errW_some] <;> rfl),by repeat (first|(with_reducible first|exact HB.out|apply below_alloc|apply pw_below_drewN|apply below_drew1|refine below_set ?_ GE403.out|refine below_set ?_ GE411.out)|exact HB.out)⟩
 ·rw [if_neg c8] at H
  have c8b0 : (t409 == 1)=false:=beq_eq_false_iff_ne.mpr c8
  have c8b1 : (t409 != 1)=true:=bne_iff_ne.mpr c8
  have H':=Aside0.mk H
  clear H
  go_enter Try.func5,Try.ntmps5
  try go_wp2_with (first|((with_reducible refine gate_dst (N:=2) rfl ?_);(try (refine gate_guard (by rfl) ?_;dsimp only));refine box_event ?hg (N:=2) ?hd (cs:=#[.int .u8 a0_0,.int .u8 a0_1,.int .u8 a0_2,.int .u8 a0_3,.int .u8 a0_4,.int .u8 a0_5,.int .u8 a0_6,.int .u8 a0_7,.int .u8 a0_8,.int .u8 a0_9,.int .u8 a0_10,.int .u8 a0_11]) (t:=24) ?hr ?_;(case hd=>rfl);(case hg=>rfl);(case hr=>first|(go_simp;done)|(go_simp;rfl));intro gb403 hg w47 hbox hb;have n0_:=Aside0.mk (below_step (by repeat (first|(with_reducible first|exact HB.out|apply below_alloc|apply pw_below_drewN|apply below_drew1)|exact HB.out)) hb);have n1_:=Aside0.mk (hbox);have n2_:=Aside0.mk ((by rw [hg];exact (below_size (by repeat (first|(with_reducible first|exact HB.out|apply below_alloc|apply pw_below_drewN|apply below_drew1)|exact HB.out))) : w.heap.size≤gb403));have n3_:=Aside0.mk ((by rw [hg];exact (below_size (by repeat (first|(with_reducible first|exact HB.out|apply below_alloc|apply pw_below_drewN|apply below_drew1)|exact HB.out))) : w.heap.size≤gb403));clear HB;have HB:=n0_;have BK403:=n1_;have GW403:=n2_;have GE403:=n3_;clear n0_ n1_ n2_ n3_;clear hb hbox hg)|((with_reducible refine gate_callee (f:=8) rfl ?_);refine goesL_ (some 12) rfl rfl Try.func8 (by kernel_rfl) rfl #[] rfl (by (try simp only [List.map_toArray,List.map_cons,List.map_nil]);first|done|rfl|(simp only [List.length_drop,List.length_take];rfl)) ?_;(with_reducible refine (thresherlaw13_shown.calls k  t404 _ A3.out).mono ?_);rintro e w48 ⟨rfl,hb⟩;refine ⟨_,rfl,?_⟩;have n0_:=Aside0.mk (blk_below (g:=gb403) (o:=.cells #[.int .u8 a0_0,.int .u8 a0_1,.int .u8 a0_2,.int .u8 a0_3,.int .u8 a0_4,.int .u8 a0_5,.int .u8 a0_6,.int .u8 a0_7,.int .u8 a0_8,.int .u8 a0_9,.int .u8 a0_10,.int .u8 a0_11] 24 (0,0)) (by (with_reducible repeat (first|refine blk_drewN ?_ _|refine blk_drew ?_|refine blk_alloc ?_ _));exact BK403.out) hb);have n1_:=Aside0.mk (below_step (by repeat (first|(with_reducible first|exact HB.out|apply below_alloc|apply pw_below_drewN|apply below_drew1|refine below_set ?_ GE403.out)|exact HB.out)) hb);clear BK403;clear HB;have BK403:=n0_;have HB:=n1_;clear n0_ n1_;(try clear hb);(try clear hb2);(try clear hk);(try clear hi);have hcz49_0 : w48.cell? ⟨gb403,0,none⟩=some (.int .u8 a0_0):=(blk_cell BK403.out 0).trans rfl;have hcz49_1 : w48.cell? ⟨gb403,1,none⟩=some (.int .u8 a0_1):=(blk_cell BK403.out 1).trans rfl;have hcz49_2 : w48.cell? ⟨gb403,2,none⟩=some (.int .u8 a0_2):=(blk_cell BK403.out 2).trans rfl;have hcz49_3 : w48.cell? ⟨gb403,3,none⟩=some (.int .u8 a0_3):=(blk_cell BK403.out 3).trans rfl;have hcz49_4 : w48.cell? ⟨gb403,4,none⟩=some (.int .u8 a0_4):=(blk_cell BK403.out 4).trans rfl;have hcz49_5 : w48.cell? ⟨gb403,5,none⟩=some (.int .u8 a0_5):=(blk_cell BK403.out 5).trans rfl;have hcz49_6 : w48.cell? ⟨gb403,6,none⟩=some (.int .u8 a0_6):=(blk_cell BK403.out 6).trans rfl;have hcz49_7 : w48.cell? ⟨gb403,7,none⟩=some (.int .u8 a0_7):=(blk_cell BK403.out 7).trans rfl;have hcz49_8 : w48.cell? ⟨gb403,8,none⟩=some (.int .u8 a0_8):=(blk_cell BK403.out 8).trans rfl;have hcz49_9 : w48.cell? ⟨gb403,9,none⟩=some (.int .u8 a0_9):=(blk_cell BK403.out 9).trans rfl;have hcz49_10 : w48.cell? ⟨gb403,10,none⟩=some (.int .u8 a0_10):=(blk_cell BK403.out 10).trans rfl;have hcz49_11 : w48.cell? ⟨gb403,11,none⟩=some (.int .u8 a0_11):=(blk_cell BK403.out 11).trans rfl;have hfz49_0:=blk_frozen BK403.out 0;have hfz49_1:=blk_frozen BK403.out 1;have hfz49_2:=blk_frozen BK403.out 2;have hfz49_3:=blk_frozen BK403.out 3;have hfz49_4:=blk_frozen BK403.out 4;have hfz49_5:=blk_frozen BK403.out 5;have hfz49_6:=blk_frozen BK403.out 6;have hfz49_7:=blk_frozen BK403.out 7;have hfz49_8:=blk_frozen BK403.out 8;have hfz49_9:=blk_frozen BK403.out 9;have hfz49_10:=blk_frozen BK403.out 10;have hfz49_11:=blk_frozen BK403.out 11)|((with_reducible refine gate_callee (f:=9) rfl ?_);refine goesL_ (some 14) rfl rfl Try.func9 (by kernel_rfl) rfl #[.agg #[.int .u8 a0_0,.int .u8 a0_1,.int .u8 a0_2,.int .u8 a0_3,.int .u8 a0_4,.int .u8 a0_5,.int .u8 a0_6,.int .u8 a0_7,.int .u8 a0_8,.int .u8 a0_9,.int .u8 a0_10,.int .u8 a0_11]] rfl (by (try simp only [List.map_toArray,List.map_cons,List.map_nil]);first|done|rfl|(simp only [List.length_drop,List.length_take];rfl)) ?_;(with_reducible refine (thresherlaw13_made.calls k a0_0 a0_1 a0_2 a0_3 a0_4 a0_5 a0_6 a0_7 a0_8 a0_9 a0_10 a0_11 t405 t408 t409 t410 _ A4.out).mono ?_);rintro e w50 ⟨v406,rfl,ho0,hb⟩;refine ⟨_,rfl,?_⟩;have n0_:=Aside0.mk (Kd.R_lower ho0 (below_size (by repeat (first|(with_reducible first|exact HB.out|apply below_alloc|apply pw_below_drewN|apply below_drew1|refine below_set ?_ GE403.out)|exact HB.out))));have n1_:=Aside0.mk (blk_below (g:=gb403) (o:=.cells #[.int .u8 a0_0,.int .u8 a0_1,.int .u8 a0_2,.int .u8 a0_3,.int .u8 a0_4,.int .u8 a0_5,.int .u8 a0_6,.int .u8 a0_7,.int .u8 a0_8,.int .u8 a0_9,.int .u8 a0_10,.int .u8 a0_11] 24 (0,0)) (by (with_reducible repeat (first|refine blk_drewN ?_ _|refine blk_drew ?_|refine blk_alloc ?_ _));exact BK403.out) hb);have n2_:=Aside0.mk (below_step (by repeat (first|(with_reducible first|exact HB.out|apply below_alloc|apply pw_below_drewN|apply below_drew1|refine below_set ?_ GE403.out)|exact HB.out)) hb);clear BK403;clear HB;have HO407:=n0_;have BK403:=n1_;have HB:=n2_;clear n0_ n1_ n2_;(try clear hb);(try clear hb2);(try clear hk);(try clear hi);(try clear ho0))|((with_reducible refine gate_dst (N:=6) rfl ?_);(try (refine gate_guard (by rfl) ?_;dsimp only));refine box_event ?hg (N:=6) ?hd (cs:=#[.slice none 0 0,.int .i64 0,.int .i64 0,.int .i64 0]) (t:=29) ?hr ?_;(case hd=>rfl);(case hg=>rfl);(case hr=>first|(go_simp;done)|(go_simp;rfl));intro gb411 hg w51 hbox hb;have n0_:=Aside0.mk (Kd.R_below (by (with_reducible repeat (first|apply Kd.R_alloc|apply Kd.R_drewN|apply Kd.R_drew));exact HO407.out) hb);have n1_:=Aside0.mk (blk_below (g:=gb403) (o:=.cells #[.int .u8 a0_0,.int .u8 a0_1,.int .u8 a0_2,.int .u8 a0_3,.int .u8 a0_4,.int .u8 a0_5,.int .u8 a0_6,.int .u8 a0_7,.int .u8 a0_8,.int .u8 a0_9,.int .u8 a0_10,.int .u8 a0_11] 24 (0,0)) (by (with_reducible repeat (first|refine blk_drewN ?_ _|refine blk_drew ?_|refine blk_alloc ?_ _));exact BK403.out) hb);have n2_:=Aside0.mk (below_step (by repeat (first|(with_reducible first|exact HB.out|apply below_alloc|apply pw_below_drewN|apply below_drew1|refine below_set ?_ GE403.out)|exact HB.out)) hb);have n3_:=Aside0.mk (hbox);have n4_:=Aside0.mk ((by rw [hg];exact (below_size (by repeat (first|(with_reducible first|exact HB.out|apply below_alloc|apply pw_below_drewN|apply below_drew1|refine below_set ?_ GE403.out)|exact HB.out))) : w.heap.size≤gb411));have n5_:=Aside0.mk ((by rw [hg];exact (below_size (by repeat (first|(with_reducible first|exact HB.out|apply below_alloc|apply pw_below_drewN|apply below_drew1|refine below_set ?_ GE403.out)|exact HB.out))) : w.heap.size≤gb411));have n6_:=Aside0.mk ((by rw [hg];exact Nat.ne_of_lt (blk_lt (g:=gb403) (o:=.cells #[.int .u8 a0_0,.int .u8 a0_1,.int .u8 a0_2,.int .u8 a0_3,.int .u8 a0_4,.int .u8 a0_5,.int .u8 a0_6,.int .u8 a0_7,.int .u8 a0_8,.int .u8 a0_9,.int .u8 a0_10,.int .u8 a0_11] 24 (0,0)) (by (with_reducible repeat (first|refine blk_drewN ?_ _|refine blk_drew ?_|refine blk_alloc ?_ _));exact BK403.out)) : gb403≠gb411));have n7_:=Aside0.mk ((by rw [hg];exact Nat.ne_of_gt (blk_lt (g:=gb403) (o:=.cells #[.int .u8 a0_0,.int .u8 a0_1,.int .u8 a0_2,.int .u8 a0_3,.int .u8 a0_4,.int .u8 a0_5,.int .u8 a0_6,.int .u8 a0_7,.int .u8 a0_8,.int .u8 a0_9,.int .u8 a0_10,.int .u8 a0_11] 24 (0,0)) (by (with_reducible repeat (first|refine blk_drewN ?_ _|refine blk_drew ?_|refine blk_alloc ?_ _));exact BK403.out)) : gb411≠gb403));clear HO407;clear BK403;clear HB;have HO407:=n0_;have BK403:=n1_;have HB:=n2_;have BK411:=n3_;have GW411:=n4_;have GE411:=n5_;have NB403_411:=n6_;have NB411_403:=n7_;clear n0_ n1_ n2_ n3_ n4_ n5_ n6_ n7_;clear hb hbox hg;obtain ⟨Ao52,co52,eo52⟩:=Kd.R_slice HO407.out;subst eo52;have hnb53:=NB411_403.out;have hnc53:=NB403_411.out;have hcz54_0 : w51.cell? ⟨gb411,0,none⟩=some (.slice none 0 0):=(blk_cell BK411.out 0).trans rfl;have hcz54_1 : w51.cell? ⟨gb411,1,none⟩=some (.int .i64 0):=(blk_cell BK411.out 1).trans rfl;have hcz54_2 : w51.cell? ⟨gb411,2,none⟩=some (.int .i64 0):=(blk_cell BK411.out 2).trans rfl;have hcz54_3 : w51.cell? ⟨gb411,3,none⟩=some (.int .i64 0):=(blk_cell BK411.out 3).trans rfl;have hfz54_0:=blk_frozen BK411.out 0;have hfz54_1:=blk_frozen BK411.out 1;have hfz54_2:=blk_frozen BK411.out 2;have hfz54_3:=blk_frozen BK411.out 3))
  have n0_ : Aside0 (Kd.R (Kd.int .i64) 3 ((((w51.setCell ⟨gb411,0,none⟩ (.slice Ao52 t405.length co52)).setCell ⟨gb411,1,none⟩ (.int .i64 t408)).setCell ⟨gb411,2,none⟩ (.int .i64 t409)).setCell ⟨gb411,3,none⟩ (.int .i64 t410)) w.heap.size (fun _=>True) (.slice Ao52 t405.length co52) t405):=⟨by (with_reducible repeat (first|apply Kd.R_alloc|apply Kd.R_drewN|apply Kd.R_drew));exact Kd.R_mono (Kd.R_far (p:=⟨gb411,3,none⟩) (Kd.R_far (p:=⟨gb411,2,none⟩) (Kd.R_far (p:=⟨gb411,1,none⟩) (Kd.R_far (p:=⟨gb411,0,none⟩) (Kd.R_types HO407.out BK411.out (by decide)) (fun _ hk=>hk.2) (.slice Ao52 t405.length co52)) (fun _ hk=>hk.2) (.int .i64 t408)) (fun _ hk=>hk.2) (.int .i64 t409)) (fun _ hk=>hk.2) (.int .i64 t410)) (fun _ hk=>trivial)⟩
  have n1_ : Aside0 (((((w51.setCell ⟨gb411,0,none⟩ (.slice Ao52 t405.length co52)).setCell ⟨gb411,1,none⟩ (.int .i64 t408)).setCell ⟨gb411,2,none⟩ (.int .i64 t409)).setCell ⟨gb411,3,none⟩ (.int .i64 t410)).heap[gb403]?=some (.cells #[.int .u8 a0_0,.int .u8 a0_1,.int .u8 a0_2,.int .u8 a0_3,.int .u8 a0_4,.int .u8 a0_5,.int .u8 a0_6,.int .u8 a0_7,.int .u8 a0_8,.int .u8 a0_9,.int .u8 a0_10,.int .u8 a0_11] 24 (0,0))):=⟨by (with_reducible repeat (first|refine blk_drewN ?_ _|refine blk_drew ?_|refine blk_alloc ?_ _));refine blk_far ?_ NB403_411.out _;(with_reducible repeat (first|refine blk_drewN ?_ _|refine blk_drew ?_|refine blk_alloc ?_ _));refine blk_far ?_ NB403_411.out _;(with_reducible repeat (first|refine blk_drewN ?_ _|refine blk_drew ?_|refine blk_alloc ?_ _));refine blk_far ?_ NB403_411.out _;(with_reducible repeat (first|refine blk_drewN ?_ _|refine blk_drew ?_|refine blk_alloc ?_ _));refine blk_far ?_ NB403_411.out _;(with_reducible repeat (first|refine blk_drewN ?_ _|refine blk_drew ?_|refine blk_alloc ?_ _));exact BK403.out⟩
  have n2_ : Aside0 (((((w51.setCell ⟨gb411,0,none⟩ (.slice Ao52 t405.length co52)).setCell ⟨gb411,1,none⟩ (.int .i64 t408)).setCell ⟨gb411,2,none⟩ (.int .i64 t409)).setCell ⟨gb411,3,none⟩ (.int .i64 t410)).heap[gb411]?=some (.cells #[.slice Ao52 t405.length co52,.int .i64 t408,.int .i64 t409,.int .i64 t410] 29 (0,0))):=⟨by (with_reducible repeat (first|refine blk_drewN ?_ _|refine blk_drew ?_|refine blk_alloc ?_ _));refine blk_put (cs:=#[.slice Ao52 t405.length co52,.int .i64 t408,.int .i64 t409,.int .i64 0]) ?_ 3 _ rfl;(with_reducible repeat (first|refine blk_drewN ?_ _|refine blk_drew ?_|refine blk_alloc ?_ _));refine blk_put (cs:=#[.slice Ao52 t405.length co52,.int .i64 t408,.int .i64 0,.int .i64 0]) ?_ 2 _ rfl;(with_reducible repeat (first|refine blk_drewN ?_ _|refine blk_drew ?_|refine blk_alloc ?_ _));refine blk_put (cs:=#[.slice Ao52 t405.length co52,.int .i64 0,.int .i64 0,.int .i64 0]) ?_ 1 _ rfl;(with_reducible repeat (first|refine blk_drewN ?_ _|refine blk_drew ?_|refine blk_alloc ?_ _));refine blk_put (cs:=#[.slice none 0 0,.int .i64 0,.int .i64 0,.int .i64 0]) ?_ 0 _ rfl;(with_reducible repeat (first|refine blk_drewN ?_ _|refine blk_drew ?_|refine blk_alloc ?_ _));exact BK411.out⟩
  have n3_ : Aside0 (Below w.heap.size w ((((w51.setCell ⟨gb411,0,none⟩ (.slice Ao52 t405.length co52)).setCell ⟨gb411,1,none⟩ (.int .i64 t408)).setCell ⟨gb411,2,none⟩ (.int .i64 t409)).setCell ⟨gb411,3,none⟩ (.int .i64 t410))):=⟨by repeat (first|(with_reducible first|exact HB.out|apply below_alloc|apply pw_below_drewN|apply below_drew1|refine below_set ?_ GE403.out|refine below_set ?_ GE411.out)|exact HB.out)⟩
  (try clear HO407)
  (try clear BK403)
  (try clear BK411)
  (try clear HB)
  generalize ((((w51.setCell ⟨gb411,0,none⟩ (.slice Ao52 t405.length co52)).setCell ⟨gb411,1,none⟩ (.int .i64 t408)).setCell ⟨gb411,2,none⟩ (.int .i64 t409)).setCell ⟨gb411,3,none⟩ (.int .i64 t410))=w55 at n0_ n1_ n2_ n3_ ⊢
  have HO407:=n0_
  have BK403:=n1_
  have BK411:=n2_
  have HB:=n3_
  clear n0_ n1_ n2_ n3_
  have n0_:=Aside0.mk (Kd.R_drew HO407.out)
  have n1_:=Aside0.mk (blk_drew BK403.out)
  have n2_:=Aside0.mk (blk_drew BK411.out)
  have n3_:=Aside0.mk (below_drew1 HB.out)
  clear HO407
  clear BK403
  clear BK411
  clear HB
  have HO407:=n0_
  have BK403:=n1_
  have BK411:=n2_
  have HB:=n3_
  clear n0_ n1_ n2_ n3_
  refine start_ (n:=6) (S:=fun w'=>w'.cell? ⟨gb411,0,none⟩=some (.slice Ao52 t405.length co52)∧w'.cell? ⟨gb411,1,none⟩=some (.int .i64 t408)∧w'.cell? ⟨gb411,2,none⟩=some (.int .i64 t409)∧w'.cell? ⟨gb411,3,none⟩=some (.int .i64 t410)) (ds:=[]) #[false,false,false,false,false,false] (by kernel_rfl) rfl rfl ⟨(blk_cell BK411.out 0).trans rfl,(blk_cell BK411.out 1).trans rfl,(blk_cell BK411.out 2).trans rfl,(blk_cell BK411.out 3).trans rfl⟩ (fun hHeld=>?_)
  generalize w55.drew=w56 at HO407 BK403 BK411 HB hHeld ⊢
  refine pure_ (i:=2) (N:=some 17) (v:=?_) (a':=?_) #[false,false,true,false,false,false] rfl rfl (by kernel_rfl) (fun _ _ _ h=>h) (Or.inl ⟨by rfl,?_⟩) ?_ ?_
  rotate_left;(intro w';go_simp;with_reducible rfl);rotate_left;(simp only [Act.put,List.setIfInBounds_toArray,List.set_cons_zero,List.set_cons_succ,i64_w,i32_w];rfl)
  refine take_ (i:=0) (N:=some 15) (v:=?_) (a':=?_) #[true,false,true,false,false,false] rfl rfl (by kernel_rfl) (fun _ _ _ h=>h) (Or.inl ⟨by rfl,?_⟩) hHeld ?_ ?_
  rotate_left;(rintro w' ⟨s0,s1,s2,s3⟩;go_simp;with_reducible rfl);rotate_left;(simp only [Act.put,List.setIfInBounds_toArray,List.set_cons_zero,List.set_cons_succ,i64_w,i32_w];rfl)
  refine take_ (i:=1) (N:=some 16) (v:=?_) (a':=?_) #[true,true,true,false,false,false] rfl rfl (by kernel_rfl) (fun _ _ _ h=>h) (Or.inl ⟨by rfl,?_⟩) hHeld ?_ ?_
  rotate_left;(rintro w' ⟨s0,s1,s2,s3⟩;go_simp;with_reducible rfl);rotate_left;(simp only [Act.put,List.setIfInBounds_toArray,List.set_cons_zero,List.set_cons_succ,i64_w,i32_w];rfl)
  refine one_ (i:=3) (N:=some 18) #[true,true,true,true,false,false] rfl rfl (by kernel_rfl) (by decide) (fun K hK=>?_)
  refine goes_ Try.func11 (by kernel_rfl) rfl #[.agg #[.slice Ao52 t405.length co52,.int .i64 t408,.int .i64 t409,.int .i64 t410],.slice A1 l1.length c1,.int .i64 60] (by rfl) rfl rfl (by (try simp only [List.map_toArray,List.map_cons,List.map_nil]);first|done|rfl|(simp only [List.length_drop,List.length_take];rfl)) ?_
  with_reducible refine (thresherref04_Fits.calls k _ _ t405 t408 t409 t410 _ _ l1 60 t412 _ ?side1 ?side2 ?side3 ?side4 A5.out).mono ?_
  (case side1=>repeat (first|exact (Kd.R_reads' HO407.out).2.2|(with_reducible refine Kd.C_alloc ?_ _)|(with_reducible refine Kd.C_drewN ?_ _)|(with_reducible refine Kd.C_drew ?_)))
  (case side2=>exact (Kd.R_reads' HO407.out).2.1)
  (case side3=>repeat (first|exact (Kd.C_below HR1.out HB.out)|(with_reducible refine Kd.C_alloc ?_ _)|(with_reducible refine Kd.C_drewN ?_ _)|(with_reducible refine Kd.C_drew ?_)))
  (case side4=>exact HC1.out)
  rintro e w57 ⟨v413,rfl,ho0,hb⟩
  refine ⟨_,rfl,?_⟩
  have n0_:=Aside0.mk (Kd.R_below (by (with_reducible repeat (first|apply Kd.R_alloc|apply Kd.R_drewN|apply Kd.R_drew));exact HO407.out) hb)
  have n1_:=Aside0.mk (Kd.N_lower (Kd.N_mono (ok':=fun k_=>some k_≠(.slice Ao52 t405.length co52 : Value).ownBlock∧k_≠gb403∧k_≠gb411) (Kd.S_N (Kd.S_bound ho0)) (fun k_ hk_=>⟨(Kd.fresh' (Kd.R_lt (by (with_reducible repeat (first|apply Kd.R_alloc|apply Kd.R_drewN|apply Kd.R_drew));exact HO407.out)) k_ hk_.2.1),(Kd.freshB (g:=gb403) (o:=.cells #[.int .u8 a0_0,.int .u8 a0_1,.int .u8 a0_2,.int .u8 a0_3,.int .u8 a0_4,.int .u8 a0_5,.int .u8 a0_6,.int .u8 a0_7,.int .u8 a0_8,.int .u8 a0_9,.int .u8 a0_10,.int .u8 a0_11] 24 (0,0)) (by (with_reducible repeat (first|refine blk_drewN ?_ _|refine blk_drew ?_|refine blk_alloc ?_ _));exact BK403.out) k_ hk_.2.1),(Kd.freshB (g:=gb411) (o:=.cells #[.slice Ao52 t405.length co52,.int .i64 t408,.int .i64 t409,.int .i64 t410] 29 (0,0)) (by (with_reducible repeat (first|refine blk_drewN ?_ _|refine blk_drew ?_|refine blk_alloc ?_ _));exact BK411.out) k_ hk_.2.1)⟩)) (below_size (by repeat (first|(with_reducible first|exact HB.out|apply below_alloc|apply pw_below_drewN|apply below_drew1|refine below_set ?_ GE403.out|refine below_set ?_ GE411.out)|exact HB.out))))
  have n2_:=Aside0.mk (blk_below (g:=gb403) (o:=.cells #[.int .u8 a0_0,.int .u8 a0_1,.int .u8 a0_2,.int .u8 a0_3,.int .u8 a0_4,.int .u8 a0_5,.int .u8 a0_6,.int .u8 a0_7,.int .u8 a0_8,.int .u8 a0_9,.int .u8 a0_10,.int .u8 a0_11] 24 (0,0)) (by (with_reducible repeat (first|refine blk_drewN ?_ _|refine blk_drew ?_|refine blk_alloc ?_ _));exact BK403.out) hb)
  have n3_:=Aside0.mk (blk_below (g:=gb411) (o:=.cells #[.slice Ao52 t405.length co52,.int .i64 t408,.int .i64 t409,.int .i64 t410] 29 (0,0)) (by (with_reducible repeat (first|refine blk_drewN ?_ _|refine blk_drew ?_|refine blk_alloc ?_ _));exact BK411.out) hb)
  have n4_:=Aside0.mk (below_step (by repeat (first|(with_reducible first|exact HB.out|apply below_alloc|apply pw_below_drewN|apply below_drew1|refine below_set ?_ GE403.out|refine below_set ?_ GE411.out)|exact HB.out)) hb)
  clear HO407
  clear BK403
  clear BK411
  clear HB
  have HO407:=n0_
  have HO414:=n1_
  have BK403:=n2_
  have BK411:=n3_
  have HB:=n4_
  clear n0_ n1_ n2_ n3_ n4_
  (try clear hb)
  (try clear hb2)
  (try clear hk)
  (try clear hi)
  (try clear ho0)
  obtain ⟨Ao58,co58,eo58⟩:=Kd.N_slice HO414.out
  (first|subst eo58|(injection eo58 with f1_ f2_ f3_;have f4_:=f1_.symm;have f5_:=f3_.symm;clear f1_ f2_ f3_;subst f4_;subst f5_))
  refine hK.out _ _ ⟨(blk_cell BK411.out 0).trans rfl,(blk_cell BK411.out 1).trans rfl,(blk_cell BK411.out 2).trans rfl,(blk_cell BK411.out 3).trans rfl⟩ (fun hHeld=>?_)
  clear hK K
  refine norm_ (a':=?_) ?_ ?_
  rotate_left
  ·show Act.put _ (some 18) _=_
   simp only [Act.put,List.setIfInBounds_toArray,List.set_cons_zero,List.set_cons_succ,i64_w,i32_w]
   rfl
  refine one_ (i:=4) (N:=some 19) #[true,true,true,true,true,false] rfl rfl (by kernel_rfl) (by decide) (fun K hK=>?_)
  refine goes_ Try.func10 (by kernel_rfl) rfl #[.agg #[.slice Ao52 t405.length co52,.int .i64 t408,.int .i64 t409,.int .i64 t410],.slice Ao58 t412.length co58] (by rfl) rfl rfl (by (try simp only [List.map_toArray,List.map_cons,List.map_nil]);first|done|rfl|(simp only [List.length_drop,List.length_take];rfl)) ?_
  with_reducible refine (thresherref09_Sort.calls k _ _ t405 t408 t409 t410 (fun k_=>(some k_≠(.slice Ao52 t405.length co52 : Value).ownBlock∧(k_≠gb403∧k_≠gb411))) _ _ t412 t415 _ ?side1 ?side2 ?side3 A6.out).mono ?_
  (case side1=>repeat (first|exact (Kd.R_reads' HO407.out).2.2|(with_reducible refine Kd.C_alloc ?_ _)|(with_reducible refine Kd.C_drewN ?_ _)|(with_reducible refine Kd.C_drew ?_)))
  (case side2=>exact (Kd.R_reads' HO407.out).2.1)
  (case side3=>exact Kd.N_V (HO414.out))
  rintro e w59 ⟨v416,rfl,ho0,hb⟩
  refine ⟨_,rfl,?_⟩
  have n0_:=Aside0.mk (Kd.R_below (by (with_reducible repeat (first|apply Kd.R_alloc|apply Kd.R_drewN|apply Kd.R_drew));exact HO407.out) hb)
  have n1_:=Aside0.mk (Kd.N_elder' (by (with_reducible repeat (first|apply Kd.N_alloc|apply Kd.N_drewN|apply Kd.N_drew));exact HO414.out) (by first|exact Kd.N_base ho0|exact Kd.S_base ho0) hb)
  have n2_:=Aside0.mk (Kd.N_lower (Kd.N_mono (ok':=fun k_=>some k_≠(.slice Ao52 t405.length co52 : Value).ownBlock∧k_≠gb403∧k_≠gb411) ho0 (fun k_ hk_=>⟨Or.elim hk_ (fun hs_=>hs_.1) (fun hn_=>(Kd.fresh' (Kd.R_lt (by (with_reducible repeat (first|apply Kd.R_alloc|apply Kd.R_drewN|apply Kd.R_drew));exact HO407.out)) k_ hn_)),Or.elim hk_ (fun hs_=>hs_.2.1) (fun hn_=>(Kd.freshB (g:=gb403) (o:=.cells #[.int .u8 a0_0,.int .u8 a0_1,.int .u8 a0_2,.int .u8 a0_3,.int .u8 a0_4,.int .u8 a0_5,.int .u8 a0_6,.int .u8 a0_7,.int .u8 a0_8,.int .u8 a0_9,.int .u8 a0_10,.int .u8 a0_11] 24 (0,0)) (by (with_reducible repeat (first|refine blk_drewN ?_ _|refine blk_drew ?_|refine blk_alloc ?_ _));exact BK403.out) k_ hn_)),Or.elim hk_ (fun hs_=>hs_.2.2) (fun hn_=>(Kd.freshB (g:=gb411) (o:=.cells #[.slice Ao52 t405.length co52,.int .i64 t408,.int .i64 t409,.int .i64 t410] 29 (0,0)) (by (with_reducible repeat (first|refine blk_drewN ?_ _|refine blk_drew ?_|refine blk_alloc ?_ _));exact BK411.out) k_ hn_))⟩)) (below_size (by repeat (first|(with_reducible first|exact HB.out|apply below_alloc|apply pw_below_drewN|apply below_drew1|refine below_set ?_ GE403.out|refine below_set ?_ GE411.out)|exact HB.out))))
  have n3_:=Aside0.mk (blk_below (g:=gb403) (o:=.cells #[.int .u8 a0_0,.int .u8 a0_1,.int .u8 a0_2,.int .u8 a0_3,.int .u8 a0_4,.int .u8 a0_5,.int .u8 a0_6,.int .u8 a0_7,.int .u8 a0_8,.int .u8 a0_9,.int .u8 a0_10,.int .u8 a0_11] 24 (0,0)) (by (with_reducible repeat (first|refine blk_drewN ?_ _|refine blk_drew ?_|refine blk_alloc ?_ _));exact BK403.out) hb)
  have n4_:=Aside0.mk (blk_below (g:=gb411) (o:=.cells #[.slice Ao52 t405.length co52,.int .i64 t408,.int .i64 t409,.int .i64 t410] 29 (0,0)) (by (with_reducible repeat (first|refine blk_drewN ?_ _|refine blk_drew ?_|refine blk_alloc ?_ _));exact BK411.out) hb)
  have n5_:=Aside0.mk (below_step (by repeat (first|(with_reducible first|exact HB.out|apply below_alloc|apply pw_below_drewN|apply below_drew1|refine below_set ?_ GE403.out|refine below_set ?_ GE411.out)|exact HB.out)) hb)
  clear HO407
  clear HO414
  clear BK403
  clear BK411
  clear HB
  have HO407:=n0_
  have HO414:=n1_
  have HO417:=n2_
  have BK403:=n3_
  have BK411:=n4_
  have HB:=n5_
  clear n0_ n1_ n2_ n3_ n4_ n5_
  (try clear hb)
  (try clear hb2)
  (try clear hk)
  (try clear hi)
  (try clear ho0)
  refine hK.out _ _ ⟨(blk_cell BK411.out 0).trans rfl,(blk_cell BK411.out 1).trans rfl,(blk_cell BK411.out 2).trans rfl,(blk_cell BK411.out 3).trans rfl⟩ (fun hHeld=>?_)
  clear hK K
  refine norm_ (a':=?_) ?_ ?_
  rotate_left
  ·show Act.put _ (some 19) _=_
   simp only [Act.put,List.setIfInBounds_toArray,List.set_cons_zero,List.set_cons_succ,i64_w,i32_w]
   rfl
  refine pure_ (i:=5) (N:=some 7) (v:=?_) (a':=?_) #[true,true,true,true,true,true] rfl rfl (by kernel_rfl) (fun _ _ _ h=>h) (Or.inl ⟨by rfl,?_⟩) ?_ ?_
  rotate_left;(intro w';go_simp;with_reducible rfl);rotate_left;(simp only [Act.put,List.setIfInBounds_toArray,List.set_cons_zero,List.set_cons_succ,i64_w,i32_w];rfl)
  refine done_ (by kernel_rfl) ?_
  have hcz60_0 : w59.cell? ⟨gb411,0,none⟩=some (.slice Ao52 t405.length co52):=(blk_cell BK411.out 0).trans rfl
  have hcz60_1 : w59.cell? ⟨gb411,1,none⟩=some (.int .i64 t408):=(blk_cell BK411.out 1).trans rfl
  have hcz60_2 : w59.cell? ⟨gb411,2,none⟩=some (.int .i64 t409):=(blk_cell BK411.out 2).trans rfl
  have hcz60_3 : w59.cell? ⟨gb411,3,none⟩=some (.int .i64 t410):=(blk_cell BK411.out 3).trans rfl
  have hfz60_0:=blk_frozen BK411.out 0
  have hfz60_1:=blk_frozen BK411.out 1
  have hfz60_2:=blk_frozen BK411.out 2
  have hfz60_3:=blk_frozen BK411.out 3
  obtain ⟨Ao61,co61,eo61⟩:=Kd.N_slice HO417.out
  subst eo61
  try go_wp2_with (first|((with_reducible refine gate_callee (f:=13) rfl ?_);refine goesL_ (some 22) rfl rfl Try.func13 (by kernel_rfl) rfl #[.agg #[.slice Ao52 t405.length co52,.int .i64 t408,.int .i64 t409,.int .i64 t410],.slice Ao61 t415.length co61] rfl (by (try simp only [List.map_toArray,List.map_cons,List.map_nil]);first|done|rfl|(simp only [List.length_drop,List.length_take];rfl)) ?_;(with_reducible refine (fold_Rows.calls k _ _ t405 t408 t409 t410 (fun k_=>(some k_≠(.slice Ao52 t405.length co52 : Value).ownBlock∧(k_≠gb403∧k_≠gb411))) _ _ t415 t418 _ ?side1 ?side2 ?side3 A7.out).mono ?_);(case side1=>repeat (first|exact (Kd.R_reads' HO407.out).2.2|(with_reducible refine Kd.C_alloc ?_ _)|(with_reducible refine Kd.C_drewN ?_ _)|(with_reducible refine Kd.C_drew ?_)));(case side2=>exact (Kd.R_reads' HO407.out).2.1);(case side3=>exact Kd.N_V (HO417.out));rintro e w62 ⟨v419,rfl,ho0,hb⟩;refine ⟨_,rfl,?_⟩;have n0_:=Aside0.mk (Kd.R_below (by (with_reducible repeat (first|apply Kd.R_alloc|apply Kd.R_drewN|apply Kd.R_drew));exact HO407.out) hb);have n1_:=Aside0.mk (Kd.N_elder' (by (with_reducible repeat (first|apply Kd.N_alloc|apply Kd.N_drewN|apply Kd.N_drew));exact HO414.out) (by first|exact Kd.N_base ho0|exact Kd.S_base ho0) hb);have n2_:=Aside0.mk (Kd.N_elder' (by (with_reducible repeat (first|apply Kd.N_alloc|apply Kd.N_drewN|apply Kd.N_drew));exact HO417.out) (by first|exact Kd.N_base ho0|exact Kd.S_base ho0) hb);have n3_:=Aside0.mk (Kd.N_lower (Kd.N_mono (ok':=fun k_=>some k_≠(.slice Ao52 t405.length co52 : Value).ownBlock∧k_≠gb403∧k_≠gb411) ho0 (fun k_ hk_=>⟨Or.elim hk_ (fun hs_=>hs_.1) (fun hn_=>(Kd.fresh' (Kd.R_lt (by (with_reducible repeat (first|apply Kd.R_alloc|apply Kd.R_drewN|apply Kd.R_drew));exact HO407.out)) k_ hn_)),Or.elim hk_ (fun hs_=>hs_.2.1) (fun hn_=>(Kd.freshB (g:=gb403) (o:=.cells #[.int .u8 a0_0,.int .u8 a0_1,.int .u8 a0_2,.int .u8 a0_3,.int .u8 a0_4,.int .u8 a0_5,.int .u8 a0_6,.int .u8 a0_7,.int .u8 a0_8,.int .u8 a0_9,.int .u8 a0_10,.int .u8 a0_11] 24 (0,0)) (by (with_reducible repeat (first|refine blk_drewN ?_ _|refine blk_drew ?_|refine blk_alloc ?_ _));exact BK403.out) k_ hn_)),Or.elim hk_ (fun hs_=>hs_.2.2) (fun hn_=>(Kd.freshB (g:=gb411) (o:=.cells #[.slice Ao52 t405.length co52,.int .i64 t408,.int .i64 t409,.int .i64 t410] 29 (0,0)) (by (with_reducible repeat (first|refine blk_drewN ?_ _|refine blk_drew ?_|refine blk_alloc ?_ _));exact BK411.out) k_ hn_))⟩)) (below_size (by repeat (first|(with_reducible first|exact HB.out|apply below_alloc|apply pw_below_drewN|apply below_drew1|refine below_set ?_ GE403.out|refine below_set ?_ GE411.out)|exact HB.out))));have n4_:=Aside0.mk (blk_below (g:=gb403) (o:=.cells #[.int .u8 a0_0,.int .u8 a0_1,.int .u8 a0_2,.int .u8 a0_3,.int .u8 a0_4,.int .u8 a0_5,.int .u8 a0_6,.int .u8 a0_7,.int .u8 a0_8,.int .u8 a0_9,.int .u8 a0_10,.int .u8 a0_11] 24 (0,0)) (by (with_reducible repeat (first|refine blk_drewN ?_ _|refine blk_drew ?_|refine blk_alloc ?_ _));exact BK403.out) hb);have n5_:=Aside0.mk (blk_below (g:=gb411) (o:=.cells #[.slice Ao52 t405.length co52,.int .i64 t408,.int .i64 t409,.int .i64 t410] 29 (0,0)) (by (with_reducible repeat (first|refine blk_drewN ?_ _|refine blk_drew ?_|refine blk_alloc ?_ _));exact BK411.out) hb);have n6_:=Aside0.mk (below_step (by repeat (first|(with_reducible first|exact HB.out|apply below_alloc|apply pw_below_drewN|apply below_drew1|refine below_set ?_ GE403.out|refine below_set ?_ GE411.out)|exact HB.out)) hb);clear HO407;clear HO414;clear HO417;clear BK403;clear BK411;clear HB;have HO407:=n0_;have HO414:=n1_;have HO417:=n2_;have HO420:=n3_;have BK403:=n4_;have BK411:=n5_;have HB:=n6_;clear n0_ n1_ n2_ n3_ n4_ n5_ n6_;(try clear hb);(try clear hb2);(try clear hk);(try clear hi);(try clear ho0);have hcz63_0 : w62.cell? ⟨gb411,0,none⟩=some (.slice Ao52 t405.length co52):=(blk_cell BK411.out 0).trans rfl;have hcz63_1 : w62.cell? ⟨gb411,1,none⟩=some (.int .i64 t408):=(blk_cell BK411.out 1).trans rfl;have hcz63_2 : w62.cell? ⟨gb411,2,none⟩=some (.int .i64 t409):=(blk_cell BK411.out 2).trans rfl;have hcz63_3 : w62.cell? ⟨gb411,3,none⟩=some (.int .i64 t410):=(blk_cell BK411.out 3).trans rfl;have hfz63_0:=blk_frozen BK411.out 0;have hfz63_1:=blk_frozen BK411.out 1;have hfz63_2:=blk_frozen BK411.out 2;have hfz63_3:=blk_frozen BK411.out 3))
  go_loopg [10,11] k (fun kq v10 v11 w'=>∃ (x10_1 : Int) (x11_1 : Int),v10=.int .i64 x10_1∧v11=.int .i64 x11_1∧Aside0 (thresherlaw13_FoldKeys.l0 kq t404 t415 t418 x10_1 x11_1 t405 t408 t409 t410=some r)∧Aside0 (kq≤k)∧Aside0 (Kd.N (Kd.slice 45 k45) 36 w' w.heap.size (fun k_=>some k_≠(v419 : Value).ownBlock∧some k_≠((.slice Ao52 t405.length co52) : Value).ownBlock∧k_≠gb403∧k_≠gb411) (.slice Ao61 t415.length co61) t415)∧Aside0 (Kd.N (Kd.slice 45 k45) 36 w' w.heap.size (fun k_=>some k_≠((.slice Ao52 t405.length co52) : Value).ownBlock∧k_≠gb403∧k_≠gb411) v419 t418)∧Aside0 (Kd.R (Kd.int .i64) 3 w' w.heap.size (fun _=>True) (.slice Ao52 t405.length co52) t405)∧Aside0 (w'.heap[gb403]?=some (.cells #[.int .u8 a0_0,.int .u8 a0_1,.int .u8 a0_2,.int .u8 a0_3,.int .u8 a0_4,.int .u8 a0_5,.int .u8 a0_6,.int .u8 a0_7,.int .u8 a0_8,.int .u8 a0_9,.int .u8 a0_10,.int .u8 a0_11] 24 (0,0)))∧Aside0 (w'.heap[gb411]?=some (.cells #[(.slice Ao52 t405.length co52),.int .i64 t408,.int .i64 t409,.int .i64 t410] 29 (0,0)))∧Aside0 (Below w.heap.size w w'))
  case atStart=>exact ⟨(0),(0),(by first|rfl|(simp;done)|(simp [*];done)),(by first|rfl|(simp;done)|(simp [*];done)),H',⟨Nat.le_refl _⟩,⟨by (with_reducible repeat (first|apply Kd.N_alloc|apply Kd.N_drewN|apply Kd.N_drew));exact Kd.N_mono HO417.out (fun _ hk=>⟨hk.2,⟨hk.1.1,⟨hk.1.2.1,hk.1.2.2⟩⟩⟩)⟩,⟨by (with_reducible repeat (first|apply Kd.N_alloc|apply Kd.N_drewN|apply Kd.N_drew));exact HO420.out⟩,⟨by (with_reducible repeat (first|apply Kd.R_alloc|apply Kd.R_drewN|apply Kd.R_drew));exact HO407.out⟩,⟨by (with_reducible repeat (first|refine blk_drewN ?_ _|refine blk_drew ?_|refine blk_alloc ?_ _));exact BK403.out⟩,⟨by (with_reducible repeat (first|refine blk_drewN ?_ _|refine blk_drew ?_|refine blk_alloc ?_ _));exact BK411.out⟩,⟨by repeat (first|(with_reducible first|exact HB.out|apply below_alloc|apply pw_below_drewN|apply below_drew1|refine below_set ?_ GE403.out|refine below_set ?_ GE411.out)|exact HB.out)⟩⟩
  case round =>
   clear H'
   try clear c1
   try clear p2
   try clear c3
   try clear c5
   try clear c8
   try clear c8b0
   try clear c8b1
   try clear c9
   try clear c10
   try clear c11
   try clear c12
   try clear c13
   try clear c17
   try clear c35
   try clear c53
   try clear hcz13_0
   try clear hcz13_1
   try clear hcz13_10
   try clear hcz13_11
   try clear hcz13_2
   try clear hcz13_3
   try clear hcz13_4
   try clear hcz13_5
   try clear hcz13_6
   try clear hcz13_7
   try clear hcz13_8
   try clear hcz13_9
   try clear hcz18_0
   try clear hcz18_1
   try clear hcz18_2
   try clear hcz18_3
   try clear hcz24_0
   try clear hcz24_1
   try clear hcz24_2
   try clear hcz24_3
   try clear hcz27_0
   try clear hcz27_1
   try clear hcz27_2
   try clear hcz27_3
   try clear hcz31_0
   try clear hcz31_1
   try clear hcz31_10
   try clear hcz31_11
   try clear hcz31_2
   try clear hcz31_3
   try clear hcz31_4
   try clear hcz31_5
   try clear hcz31_6
   try clear hcz31_7
   try clear hcz31_8
   try clear hcz31_9
   try clear hcz36_0
   try clear hcz36_1
   try clear hcz36_2
   try clear hcz36_3
   try clear hcz42_0
   try clear hcz42_1
   try clear hcz42_2
   try clear hcz42_3
   try clear hcz45_0
   try clear hcz45_1
   try clear hcz45_2
   try clear hcz45_3
   try clear hcz49_0
   try clear hcz49_1
   try clear hcz49_10
   try clear hcz49_11
   try clear hcz49_2
   try clear hcz49_3
   try clear hcz49_4
   try clear hcz49_5
   try clear hcz49_6
   try clear hcz49_7
   try clear hcz49_8
   try clear hcz49_9
   try clear hcz54_0
   try clear hcz54_1
   try clear hcz54_2
   try clear hcz54_3
   try clear hcz60_0
   try clear hcz60_1
   try clear hcz60_2
   try clear hcz60_3
   try clear hcz63_0
   try clear hcz63_1
   try clear hcz63_2
   try clear hcz63_3
   try clear hfz13_0
   try clear hfz13_1
   try clear hfz13_10
   try clear hfz13_11
   try clear hfz13_2
   try clear hfz13_3
   try clear hfz13_4
   try clear hfz13_5
   try clear hfz13_6
   try clear hfz13_7
   try clear hfz13_8
   try clear hfz13_9
   try clear hfz18_0
   try clear hfz18_1
   try clear hfz18_2
   try clear hfz18_3
   try clear hfz24_0
   try clear hfz24_1
   try clear hfz24_2
   try clear hfz24_3
   try clear hfz27_0
   try clear hfz27_1
   try clear hfz27_2
   try clear hfz27_3
   try clear hfz31_0
   try clear hfz31_1
   try clear hfz31_10
   try clear hfz31_11
   try clear hfz31_2
   try clear hfz31_3
   try clear hfz31_4
   try clear hfz31_5
   try clear hfz31_6
   try clear hfz31_7
   try clear hfz31_8
   try clear hfz31_9
   try clear hfz36_0
   try clear hfz36_1
   try clear hfz36_2
   try clear hfz36_3
   try clear hfz42_0
   try clear hfz42_1
   try clear hfz42_2
   try clear hfz42_3
   try clear hfz45_0
   try clear hfz45_1
   try clear hfz45_2
   try clear hfz45_3
   try clear hfz49_0
   try clear hfz49_1
   try clear hfz49_10
   try clear hfz49_11
   try clear hfz49_2
   try clear hfz49_3
   try clear hfz49_4
   try clear hfz49_5
   try clear hfz49_6
   try clear hfz49_7
   try clear hfz49_8
   try clear hfz49_9
   try clear hfz54_0
   try clear hfz54_1
   try clear hfz54_2
   try clear hfz54_3
   try clear hfz60_0
   try clear hfz60_1
   try clear hfz60_2
   try clear hfz60_3
   try clear hfz63_0
   try clear hfz63_1
   try clear hfz63_2
   try clear hfz63_3
   obtain ⟨x10_1,x11_1,rfl,rfl,HA,HK1,HO_7,HO_8,HO_412000,BK403,BK411,HB⟩:=hrel
   cases gk with
   | zero=>exact absurd HA.out (by simp [thresherlaw13_FoldKeys.l0])
   | succ k1 =>
    have H:=HA.out
    clear HA
    simp only [thresherlaw13_FoldKeys.l0] at H
    by_cases c64 : x11_1 < (t415.length : Int)
    ·rw [if_pos c64] at H
     have c64b0 : decide (x11_1 < (t415.length : Int))=true:=decide_eq_true c64
     clear c64
     have HC65:=Aside0.mk H
     clear H
     go_upto_region 12 with (fail)
     go_cut [54] (fun v54 wc=>∃ (kq : Nat) (x54_64 : Bool),v54=.bool x54_64∧Aside0 (thresherlaw13_FoldKeys.j1 kq t404 t415 t418 x10_1 x11_1 x54_64 t405 t408 t409 t410=some r)∧Aside0 (kq≤k1)∧Aside0 (Kd.N (Kd.slice 45 k45) 36 wc w.heap.size (fun k_=>some k_≠(v419 : Value).ownBlock∧some k_≠((.slice Ao52 t405.length co52) : Value).ownBlock∧k_≠gb403∧k_≠gb411) (.slice Ao61 t415.length co61) t415)∧Aside0 (Kd.N (Kd.slice 45 k45) 36 wc w.heap.size (fun k_=>some k_≠((.slice Ao52 t405.length co52) : Value).ownBlock∧k_≠gb403∧k_≠gb411) v419 t418)∧Aside0 (Kd.R (Kd.int .i64) 3 wc w.heap.size (fun _=>True) (.slice Ao52 t405.length co52) t405)∧Aside0 (wc.heap[gb403]?=some (.cells #[.int .u8 a0_0,.int .u8 a0_1,.int .u8 a0_2,.int .u8 a0_3,.int .u8 a0_4,.int .u8 a0_5,.int .u8 a0_6,.int .u8 a0_7,.int .u8 a0_8,.int .u8 a0_9,.int .u8 a0_10,.int .u8 a0_11] 24 (0,0)))∧Aside0 (wc.heap[gb411]?=some (.cells #[(.slice Ao52 t405.length co52),.int .i64 t408,.int .i64 t409,.int .i64 t410] 29 (0,0)))∧Aside0 (Below w.heap.size w wc))
     case first =>
      have H:=HC65.out
      clear HC65
      by_cases c66 : x11_1 > 0
      ·rw [if_pos c66] at H
       have c66b0 : decide (0 < x11_1)=true:=decide_eq_true c66
       clear c66
       (first|rw [c66b0]|(simp only [i64_w,i32_w];rw [c66b0])|skip)
       obtain ⟨ji67,hji67⟩ : ∃ j_ : Int,(wrap64 (x11_1 - 1))=j_:=⟨_,rfl⟩
       replace H : (if 0≤(ji67) then (if (ji67) < (t415.length : Int) then (if 0≤x11_1 then ((thresherref04_Compare.f k1 t405 t408 t409 t410 (rd_L5 t415 (ji67)) (rd_L5 t415 x11_1)).bind fun t424=>(thresherlaw13_FoldKeys.j1 k1 t404 t415 t418 x10_1 x11_1 (t424 != 0) t405 t408 t409 t410)) else (none)) else (none)) else (none))=some r:=by first|(rw [hji67] at H;exact H)|(simp only [hji67] at H ⊢;exact H)
       have hji67w : (IntKind.i64.wrap (x11_1 - 1))=ji67:=(i64_w _).trans hji67
       by_cases c68 : 0≤(ji67)
       ·rw [if_pos c68] at H
        have c68b0 : decide (0≤(ji67))=true:=decide_eq_true c68
        clear c68
        by_cases c69 : (ji67) < (t415.length : Int)
        ·rw [if_pos c69] at H
         have c69b0 : decide ((ji67) < (t415.length : Int))=true:=decide_eq_true c69
         clear c69
         by_cases c70 : 0≤x11_1
         ·rw [if_pos c70] at H
          have c70b0 : decide (0≤x11_1)=true:=decide_eq_true c70
          clear c70
          replace H:=Option.bind_eq_some_iff.mp H
          obtain ⟨t424,A710,H⟩:=H
          replace H : (thresherlaw13_FoldKeys.j1 k1 t404 t415 t418 x10_1 x11_1 (t424 != 0) t405 t408 t409 t410)=some r:=H
          have A71:=Aside0.mk A710
          clear A710
          have H':=Aside0.mk H
          clear H
          try go_wp2
          have n0_:=Aside0.mk (Kd.N_drew HO_7.out)
          have n1_:=Aside0.mk (Kd.N_drew HO_8.out)
          have n2_:=Aside0.mk (Kd.R_drew HO_412000.out)
          have n3_:=Aside0.mk (blk_drew BK403.out)
          have n4_:=Aside0.mk (blk_drew BK411.out)
          have n5_:=Aside0.mk (below_drew1 HB.out)
          clear HO_7
          clear HO_8
          clear HO_412000
          clear BK403
          clear BK411
          clear HB
          have HO_7:=n0_
          have HO_8:=n1_
          have HO_412000:=n2_
          have BK403:=n3_
          have BK411:=n4_
          have HB:=n5_
          clear n0_ n1_ n2_ n3_ n4_ n5_
          have p422 : 0≤((ji67) : Int):=of_decide_eq_true (by first|(with_reducible assumption)|assumption)
          have q422 : (ji67) < (t415.length : Int):=of_decide_eq_true (by first|(with_reducible assumption)|assumption)
          obtain ⟨ad422,A422_0,c422_0,e422,hx422_0,hl422_0,hi422_0⟩:=at_L5 (Kd.N_reads' HO_7.out).2.2 (ji67) p422 q422
          cases e422
          obtain ⟨ce422,hce422,hMe422,hcc422⟩:=Kd.N_get HO_7.out [] (ji67) p422 (by first|exact q422|exact of_decide_eq_true (by first|(with_reducible assumption)|assumption)|(have e_:=(Kd.N_reads' HO_7.out).1;omega))
          obtain ⟨ua422_0,uc422_0,rfl,ul422_0,ge422_0⟩:=Kd.FK_slice_open hMe422
          have hv422_0:=hcc422 0 _ rfl
          rw [Nat.add_zero,show ((Kd.slice 45 k45)).sz=1 from rfl,Nat.mul_one] at hv422_0
          replace hv422_0:=Option.some.inj (hv422_0.symm.trans hx422_0)
          injection hv422_0 with hva_ hvn_ hvc_
          rw [hva_] at ge422_0
          rw [hvc_] at ul422_0
          have HL422_0:=Aside0.mk (show Kd.V k45 45 _ w.heap.size _ _ (rd_L5 t415 (ji67)) from Kd.V_mk ul422_0 ge422_0)
          clear hva_ hvn_ hvc_ ge422_0 ul422_0
          clear hcc422 hce422
          have HR422_0:=Aside0.mk hi422_0
          have HC422_0:=Aside0.mk hl422_0
          clear hi422_0 hl422_0
          replace p422:=eq_true p422
          replace q422:=eq_true q422
          have p423 : 0≤(x11_1 : Int):=of_decide_eq_true (by first|(with_reducible assumption)|assumption)
          have q423 : x11_1 < (t415.length : Int):=of_decide_eq_true (by first|(with_reducible assumption)|assumption)
          obtain ⟨ad423,A423_0,c423_0,e423,hx423_0,hl423_0,hi423_0⟩:=at_L5 (Kd.N_reads' HO_7.out).2.2 x11_1 p423 q423
          obtain rfl : ad422=ad423:=(by injection e423)
          obtain ⟨ce423,hce423,hMe423,hcc423⟩:=Kd.N_get HO_7.out [] x11_1 p423 (by first|exact q423|exact of_decide_eq_true (by first|(with_reducible assumption)|assumption)|(have e_:=(Kd.N_reads' HO_7.out).1;omega))
          obtain ⟨ua423_0,uc423_0,rfl,ul423_0,ge423_0⟩:=Kd.FK_slice_open hMe423
          have hv423_0:=hcc423 0 _ rfl
          rw [Nat.add_zero,show ((Kd.slice 45 k45)).sz=1 from rfl,Nat.mul_one] at hv423_0
          replace hv423_0:=Option.some.inj (hv423_0.symm.trans hx423_0)
          injection hv423_0 with hva_ hvn_ hvc_
          rw [hva_] at ge423_0
          rw [hvc_] at ul423_0
          have HL423_0:=Aside0.mk (show Kd.V k45 45 _ w.heap.size _ _ (rd_L5 t415 x11_1) from Kd.V_mk ul423_0 ge423_0)
          clear hva_ hvn_ hvc_ ge423_0 ul423_0
          clear hcc423 hce423
          have HR423_0:=Aside0.mk hi423_0
          have HC423_0:=Aside0.mk hl423_0
          clear hi423_0 hl423_0
          replace p423:=eq_true p423
          replace q423:=eq_true q423
          refine start_ (n:=16) (S:=fun w'=>w'.cell? ⟨gb411,0,none⟩=some (.slice Ao52 t405.length co52)∧w'.cell? ⟨gb411,1,none⟩=some (.int .i64 t408)∧w'.cell? ⟨gb411,2,none⟩=some (.int .i64 t409)∧w'.cell? ⟨gb411,3,none⟩=some (.int .i64 t410)∧w'.cell? (ad422.add ((ji67)).toNat)=some (.slice A422_0 (rd_L5 t415 (ji67)).length c422_0)∧w'.cell? (ad422.add (x11_1).toNat)=some (.slice A423_0 (rd_L5 t415 x11_1).length c423_0)) (ds:=[]) #[false,false,false,false,false,false,false,false,false,false,false,false,false,false,false,false] (by kernel_rfl) rfl rfl ⟨(blk_cell BK411.out 0).trans rfl,(blk_cell BK411.out 1).trans rfl,(blk_cell BK411.out 2).trans rfl,(blk_cell BK411.out 3).trans rfl,hx422_0,hx423_0⟩ (fun hHeld=>?_);refine with_tabW thresherlaw13_FoldKeys.tab12 thresherlaw13_FoldKeys.bits12 (fun HT_ HW_=>?_)
          generalize wr.drew=w72 at HO_7 HO_8 HO_412000 BK403 BK411 HB HL422_0 HL423_0 HR422_0 HR423_0 hx422_0 hx423_0 hHeld ⊢
          refine pure_ (i:=0) (N:=some 39) (v:=?_) (a':=?_) #[true,false,false,false,false,false,false,false,false,false,false,false,false,false,false,false] rfl rfl (any_of HT_.out (by kernel_rfl)) (fun _ _ _ h=>h) (Or.inl ⟨by rfl,?_⟩) ?_ ?_
          rotate_left;(intro w';go_simp;with_reducible rfl);rotate_left;(simp only [Act.put,List.setIfInBounds_toArray,List.set_cons_zero,List.set_cons_succ,i64_w,i32_w];rfl)
          refine pure_ (i:=1) (N:=some 40) (v:=?_) (a':=?_) #[true,true,false,false,false,false,false,false,false,false,false,false,false,false,false,false] rfl rfl (any_of HT_.out (by kernel_rfl)) (fun _ _ _ h=>h) (Or.inl ⟨by rfl,?_⟩) ?_ ?_
          rotate_left;(intro w';go_simp;with_reducible rfl);rotate_left;(simp only [Act.put,List.setIfInBounds_toArray,List.set_cons_zero,List.set_cons_succ,i64_w,i32_w];rfl)
          refine pure_ (i:=2) (N:=some 41) (v:=?_) (a':=?_) #[true,true,true,false,false,false,false,false,false,false,false,false,false,false,false,false] rfl rfl (any_of HT_.out (by kernel_rfl)) (fun _ _ _ h=>h) (Or.inl ⟨by rfl,?_⟩) ?_ ?_
          rotate_left;(intro w';go_simp;with_reducible rfl);rotate_left;(simp only [Act.put,List.setIfInBounds_toArray,List.set_cons_zero,List.set_cons_succ,i64_w,i32_w];rfl)
          refine pure_ (i:=4) (N:=some 43) (v:=?_) (a':=?_) #[true,true,true,false,true,false,false,false,false,false,false,false,false,false,false,false] rfl rfl (any_of HT_.out (by kernel_rfl)) (fun _ _ _ h=>h) (Or.inl ⟨by rfl,?_⟩) ?_ ?_
          rotate_left;(intro w';go_simp;with_reducible rfl);rotate_left;(simp only [Act.put,List.setIfInBounds_toArray,List.set_cons_zero,List.set_cons_succ,i64_w,i32_w];rfl)
          refine pure_ (i:=5) (N:=some 44) (v:=?_) (a':=?_) #[true,true,true,false,true,true,false,false,false,false,false,false,false,false,false,false] rfl rfl (any_of HT_.out (by kernel_rfl)) (fun _ _ _ h=>h) (Or.inl ⟨by rfl,?_⟩) ?_ ?_
          rotate_left;(intro w';go_simp;with_reducible rfl);rotate_left;(simp only [Act.put,List.setIfInBounds_toArray,List.set_cons_zero,List.set_cons_succ,i64_w,i32_w];rfl)
          refine pure_ (i:=6) (N:=some 45) (v:=?_) (a':=?_) #[true,true,true,false,true,true,true,false,false,false,false,false,false,false,false,false] rfl rfl (any_of HT_.out (by kernel_rfl)) (fun _ _ _ h=>h) (Or.inl ⟨by rfl,?_⟩) ?_ ?_
          rotate_left;(intro w';go_simp;with_reducible rfl);rotate_left;(simp only [Act.put,List.setIfInBounds_toArray,List.set_cons_zero,List.set_cons_succ,i64_w,i32_w];rfl)
          refine pure_ (i:=7) (N:=some 46) (v:=?_) (a':=?_) #[true,true,true,false,true,true,true,true,false,false,false,false,false,false,false,false] rfl rfl (any_of HT_.out (by kernel_rfl)) (fun _ _ _ h=>h) (Or.inl ⟨by rfl,?_⟩) ?_ ?_
          rotate_left;(intro w';go_simp;with_reducible rfl);rotate_left;(simp only [Act.put,List.setIfInBounds_toArray,List.set_cons_zero,List.set_cons_succ,i64_w,i32_w];rfl)
          refine pure_ (i:=9) (N:=some 48) (v:=?_) (a':=?_) #[true,true,true,false,true,true,true,true,false,true,false,false,false,false,false,false] rfl rfl (any_of HT_.out (by kernel_rfl)) (fun _ _ _ h=>h) (Or.inl ⟨by rfl,?_⟩) ?_ ?_
          rotate_left;(intro w';go_simp;with_reducible rfl);rotate_left;(simp only [Act.put,List.setIfInBounds_toArray,List.set_cons_zero,List.set_cons_succ,i64_w,i32_w];rfl)
          refine pure_ (i:=10) (N:=some 49) (v:=?_) (a':=?_) #[true,true,true,false,true,true,true,true,false,true,true,false,false,false,false,false] rfl rfl (any_of HT_.out (by kernel_rfl)) (fun _ _ _ h=>h) (Or.inl ⟨by rfl,?_⟩) ?_ ?_
          rotate_left;(intro w';go_simp;with_reducible rfl);rotate_left;(simp only [Act.put,List.setIfInBounds_toArray,List.set_cons_zero,List.set_cons_succ,i64_w,i32_w];rfl)
          refine pure_ (i:=11) (N:=some 50) (v:=?_) (a':=?_) #[true,true,true,false,true,true,true,true,false,true,true,true,false,false,false,false] rfl rfl (any_of HT_.out (by kernel_rfl)) (fun _ _ _ h=>h) (Or.inl ⟨by rfl,?_⟩) ?_ ?_
          rotate_left;(intro w';go_simp;with_reducible rfl);rotate_left;(simp only [Act.put,List.setIfInBounds_toArray,List.set_cons_zero,List.set_cons_succ,i64_w,i32_w];rfl)
          refine take_ (i:=3) (N:=some 42) (v:=?_) (a':=?_) #[true,true,true,true,true,true,true,true,false,true,true,true,false,false,false,false] rfl rfl (take_ofW HT_.out HW_.out (by kernel_rfl)) (fun _ _ _ h=>h) (Or.inl ⟨by rfl,?_⟩) hHeld ?_ ?_
          rotate_left;(rintro w' ⟨s0,s1,s2,s3,s4,s5⟩;go_simp;with_reducible rfl);rotate_left;(simp only [Act.put,List.setIfInBounds_toArray,List.set_cons_zero,List.set_cons_succ,i64_w,i32_w];rfl)
          refine take_ (i:=8) (N:=some 47) (v:=?_) (a':=?_) #[true,true,true,true,true,true,true,true,true,true,true,true,false,false,false,false] rfl rfl (take_ofW HT_.out HW_.out (by kernel_rfl)) (fun _ _ _ h=>h) (Or.inl ⟨by rfl,?_⟩) hHeld ?_ ?_
          rotate_left;(rintro w' ⟨s0,s1,s2,s3,s4,s5⟩;go_simp;with_reducible rfl);rotate_left;(simp only [Act.put,List.setIfInBounds_toArray,List.set_cons_zero,List.set_cons_succ,i64_w,i32_w];rfl)
          refine take_ (i:=12) (N:=some 51) (v:=?_) (a':=?_) #[true,true,true,true,true,true,true,true,true,true,true,true,true,false,false,false] rfl rfl (take_ofW HT_.out HW_.out (by kernel_rfl)) (fun _ _ _ h=>h) (Or.inl ⟨by rfl,?_⟩) hHeld ?_ ?_
          rotate_left;(rintro w' ⟨s0,s1,s2,s3,s4,s5⟩;go_simp;with_reducible rfl);rotate_left;(simp only [Act.put,List.setIfInBounds_toArray,List.set_cons_zero,List.set_cons_succ,i64_w,i32_w];rfl)
          refine one_ (i:=13) (N:=some 52) #[true,true,true,true,true,true,true,true,true,true,true,true,true,true,false,false] rfl rfl (one_of HT_.out (by kernel_rfl)) (by decide) (fun K hK=>?_)
          refine goes_ Try.func15 (by kernel_rfl) rfl #[.agg #[.slice Ao52 t405.length co52,.int .i64 t408,.int .i64 t409,.int .i64 t410],.slice A422_0 (rd_L5 t415 (ji67)).length c422_0,.slice A423_0 (rd_L5 t415 x11_1).length c423_0] (by rfl) rfl rfl (by (try simp only [List.map_toArray,List.map_cons,List.map_nil]);first|done|(simp only [hji67];rfl)|rfl|(simp only [List.length_drop,List.length_take];rfl)) ?_
          with_reducible refine (thresherref04_Compare.calls k1 _ _ t405 t408 t409 t410 _ _ (rd_L5 t415 (ji67)) _ _ (rd_L5 t415 x11_1) t424 _ ?side1 ?side2 ?side3 ?side4 ?side5 ?side6 A71.out).mono ?_
          (case side1=>repeat (first|exact (Kd.R_reads' HO_412000.out).2.2|(with_reducible refine Kd.C_alloc ?_ _)|(with_reducible refine Kd.C_drewN ?_ _)|(with_reducible refine Kd.C_drew ?_)))
          (case side2=>exact (Kd.R_reads' HO_412000.out).2.1)
          (case side3=>repeat (first|exact (by repeat (first|(with_reducible exact HR422_0.out)|(with_reducible refine Kd.C_alloc ?_ _)|(with_reducible refine Kd.C_drewN ?_ _)|(with_reducible refine Kd.C_drew ?_)|exact HR422_0.out))|(with_reducible refine Kd.C_alloc ?_ _)|(with_reducible refine Kd.C_drewN ?_ _)|(with_reducible refine Kd.C_drew ?_)))
          (case side4=>exact HC422_0.out)
          (case side5=>repeat (first|exact (by repeat (first|(with_reducible exact HR423_0.out)|(with_reducible refine Kd.C_alloc ?_ _)|(with_reducible refine Kd.C_drewN ?_ _)|(with_reducible refine Kd.C_drew ?_)|exact HR423_0.out))|(with_reducible refine Kd.C_alloc ?_ _)|(with_reducible refine Kd.C_drewN ?_ _)|(with_reducible refine Kd.C_drew ?_)))
          (case side6=>exact HC423_0.out)
          rintro e w73 ⟨rfl,hb⟩
          have HS4_:=(hb.cell (World.block_lt_of_cell? _ _ (hHeld.2.2.2.2.1))).trans (hHeld.2.2.2.2.1)
          have HS5_:=(hb.cell (World.block_lt_of_cell? _ _ (hHeld.2.2.2.2.2))).trans (hHeld.2.2.2.2.2)
          refine ⟨_,rfl,?_⟩
          have n0_:=Aside0.mk (Kd.N_below (by (with_reducible repeat (first|apply Kd.N_alloc|apply Kd.N_drewN|apply Kd.N_drew));exact HO_7.out) hb)
          have n1_:=Aside0.mk (Kd.N_below (by (with_reducible repeat (first|apply Kd.N_alloc|apply Kd.N_drewN|apply Kd.N_drew));exact HO_8.out) hb)
          have n2_:=Aside0.mk (Kd.R_below (by (with_reducible repeat (first|apply Kd.R_alloc|apply Kd.R_drewN|apply Kd.R_drew));exact HO_412000.out) hb)
          have n3_:=Aside0.mk (Kd.V_below (by (with_reducible repeat (first|apply Kd.V_alloc|apply Kd.V_drewN|apply Kd.V_drew));exact HL422_0.out) hb)
          have n4_:=Aside0.mk (Kd.V_below (by (with_reducible repeat (first|apply Kd.V_alloc|apply Kd.V_drewN|apply Kd.V_drew));exact HL423_0.out) hb)
          have n5_:=Aside0.mk (blk_below (g:=gb403) (o:=.cells #[.int .u8 a0_0,.int .u8 a0_1,.int .u8 a0_2,.int .u8 a0_3,.int .u8 a0_4,.int .u8 a0_5,.int .u8 a0_6,.int .u8 a0_7,.int .u8 a0_8,.int .u8 a0_9,.int .u8 a0_10,.int .u8 a0_11] 24 (0,0)) (by (with_reducible repeat (first|refine blk_drewN ?_ _|refine blk_drew ?_|refine blk_alloc ?_ _));exact BK403.out) hb)
          have n6_:=Aside0.mk (blk_below (g:=gb411) (o:=.cells #[.slice Ao52 t405.length co52,.int .i64 t408,.int .i64 t409,.int .i64 t410] 29 (0,0)) (by (with_reducible repeat (first|refine blk_drewN ?_ _|refine blk_drew ?_|refine blk_alloc ?_ _));exact BK411.out) hb)
          have n7_:=Aside0.mk (Kd.C_below (by repeat (first|(with_reducible exact HR422_0.out)|(with_reducible refine Kd.C_alloc ?_ _)|(with_reducible refine Kd.C_drewN ?_ _)|(with_reducible refine Kd.C_drew ?_)|exact HR422_0.out)) hb)
          have n8_:=Aside0.mk (Kd.C_below (by repeat (first|(with_reducible exact HR423_0.out)|(with_reducible refine Kd.C_alloc ?_ _)|(with_reducible refine Kd.C_drewN ?_ _)|(with_reducible refine Kd.C_drew ?_)|exact HR423_0.out)) hb)
          have n9_:=Aside0.mk (below_step (by repeat (first|(with_reducible first|exact HB.out|apply below_alloc|apply pw_below_drewN|apply below_drew1|refine below_set ?_ GE403.out|refine below_set ?_ GE411.out)|exact HB.out)) hb)
          clear HO_7
          clear HO_8
          clear HO_412000
          clear HL422_0
          clear HL423_0
          clear BK403
          clear BK411
          clear HR422_0
          clear HR423_0
          clear HB
          have HO_7:=n0_
          have HO_8:=n1_
          have HO_412000:=n2_
          have HL422_0:=n3_
          have HL423_0:=n4_
          have BK403:=n5_
          have BK411:=n6_
          have HR422_0:=n7_
          have HR423_0:=n8_
          have HB:=n9_
          clear n0_ n1_ n2_ n3_ n4_ n5_ n6_ n7_ n8_ n9_
          (try clear hb)
          (try clear hb2)
          (try clear hk)
          (try clear hi)
          refine hK.out _ _ ⟨(blk_cell BK411.out 0).trans rfl,(blk_cell BK411.out 1).trans rfl,(blk_cell BK411.out 2).trans rfl,(blk_cell BK411.out 3).trans rfl,HS4_,HS5_⟩ (fun hHeld=>?_)
          clear hK K
          refine norm_ (a':=?_) ?_ ?_
          rotate_left
          ·show Act.put _ (some 52) _=_
           simp only [Act.put,List.setIfInBounds_toArray,List.set_cons_zero,List.set_cons_succ,i64_w,i32_w]
           rfl
          refine pure_ (i:=14) (N:=some 53) (v:=?_) (a':=?_) #[true,true,true,true,true,true,true,true,true,true,true,true,true,true,true,false] rfl rfl (any_of HT_.out (by kernel_rfl)) (fun _ _ _ h=>h) (Or.inl ⟨by rfl,?_⟩) ?_ ?_
          rotate_left;(intro w';go_simp;with_reducible rfl);rotate_left;(simp only [Act.put,List.setIfInBounds_toArray,List.set_cons_zero,List.set_cons_succ,i64_w,i32_w];rfl)
          refine pure_ (i:=15) (N:=some 54) (v:=?_) (a':=?_) #[true,true,true,true,true,true,true,true,true,true,true,true,true,true,true,true] rfl rfl (any_of HT_.out (by kernel_rfl)) (fun _ _ _ h=>h) (Or.inl ⟨by rfl,?_⟩) ?_ ?_
          rotate_left;(intro w';go_simp;with_reducible rfl);rotate_left;(simp only [Act.put,List.setIfInBounds_toArray,List.set_cons_zero,List.set_cons_succ,i64_w,i32_w];rfl)
          refine done_ (done_of HT_.out (by kernel_rfl)) ?_
          (try clear HS4_);(try clear HS5_);(try clear hHeld)
          try go_wp2
          go_meet
          case rel=>exact ⟨_,((t424 != 0)),(by first|rfl|(simp;done)|(simp [*];done)),(by first|exact H'|(subst_vars;exact H')),⟨by have:=HK1.out;first|omega|exact Nat.le_refl _⟩,⟨by (with_reducible repeat (first|apply Kd.N_alloc|apply Kd.N_drewN|apply Kd.N_drew));exact HO_7.out⟩,⟨by (with_reducible repeat (first|apply Kd.N_alloc|apply Kd.N_drewN|apply Kd.N_drew));exact HO_8.out⟩,⟨by (with_reducible repeat (first|apply Kd.R_alloc|apply Kd.R_drewN|apply Kd.R_drew));exact HO_412000.out⟩,⟨by (with_reducible repeat (first|refine blk_drewN ?_ _|refine blk_drew ?_|refine blk_alloc ?_ _));exact BK403.out⟩,⟨by (with_reducible repeat (first|refine blk_drewN ?_ _|refine blk_drew ?_|refine blk_alloc ?_ _));exact BK411.out⟩,⟨by repeat (first|(with_reducible first|exact HB.out|apply below_alloc|apply pw_below_drewN|apply below_drew1|refine below_set ?_ GE403.out|refine below_set ?_ GE411.out)|exact HB.out)⟩⟩
         ·rw [if_neg c70] at H
          exact absurd H (by simp)
        ·rw [if_neg c69] at H
         exact absurd H (by simp)
       ·rw [if_neg c68] at H
        exact absurd H (by simp)
      ·rw [if_neg c66] at H
       have c66b0 : decide (0 < x11_1)=false:=decide_eq_false c66
       clear c66
       (first|rw [c66b0]|(simp only [i64_w,i32_w];rw [c66b0])|skip)
       have H':=Aside0.mk H
       clear H
       try go_wp2
       have n0_:=Aside0.mk (Kd.N_drew HO_7.out)
       have n1_:=Aside0.mk (Kd.N_drew HO_8.out)
       have n2_:=Aside0.mk (Kd.R_drew HO_412000.out)
       have n3_:=Aside0.mk (blk_drew BK403.out)
       have n4_:=Aside0.mk (blk_drew BK411.out)
       have n5_:=Aside0.mk (below_drew1 HB.out)
       clear HO_7
       clear HO_8
       clear HO_412000
       clear BK403
       clear BK411
       clear HB
       have HO_7:=n0_
       have HO_8:=n1_
       have HO_412000:=n2_
       have BK403:=n3_
       have BK411:=n4_
       have HB:=n5_
       clear n0_ n1_ n2_ n3_ n4_ n5_
       refine start_ (n:=16) (S:=fun w'=>True) (ds:=[]) #[false,false,false,false,false,false,false,false,false,false,false,false,false,false,false,false] (by kernel_rfl) rfl rfl trivial (fun hHeld=>?_);refine with_tabW thresherlaw13_FoldKeys.tab12 thresherlaw13_FoldKeys.bits12 (fun HT_ HW_=>?_)
       generalize wr.drew=w74 at HO_7 HO_8 HO_412000 BK403 BK411 HB hHeld ⊢
       refine pure_ (i:=0) (N:=some 39) (v:=?_) (a':=?_) #[true,false,false,false,false,false,false,false,false,false,false,false,false,false,false,false] rfl rfl (any_of HT_.out (by kernel_rfl)) (fun _ _ _ h=>h) (Or.inl ⟨by rfl,?_⟩) ?_ ?_
       rotate_left;(intro w';go_simp;with_reducible rfl);rotate_left;(simp only [Act.put,List.setIfInBounds_toArray,List.set_cons_zero,List.set_cons_succ,i64_w,i32_w];rfl)
       refine pure_ (i:=1) (N:=some 40) (v:=?_) (a':=?_) #[true,true,false,false,false,false,false,false,false,false,false,false,false,false,false,false] rfl rfl (any_of HT_.out (by kernel_rfl)) (fun _ _ _ h=>h) (Or.inl ⟨by rfl,?_⟩) ?_ ?_
       rotate_left;(intro w';go_simp;with_reducible rfl);rotate_left;(simp only [Act.put,List.setIfInBounds_toArray,List.set_cons_zero,List.set_cons_succ,i64_w,i32_w];rfl)
       refine pure_ (i:=2) (N:=some 41) (v:=?_) (a':=?_) #[true,true,true,false,false,false,false,false,false,false,false,false,false,false,false,false] rfl rfl (any_of HT_.out (by kernel_rfl)) (fun _ _ _ h=>h) (Or.inl ⟨by rfl,?_⟩) ?_ ?_
       rotate_left;(intro w';go_simp;with_reducible rfl);rotate_left;(simp only [Act.put,List.setIfInBounds_toArray,List.set_cons_zero,List.set_cons_succ,i64_w,i32_w];rfl)
       refine pure_ (i:=3) (N:=some 42) (v:=undef) (a':=?_) #[true,true,true,true,false,false,false,false,false,false,false,false,false,false,false,false] rfl rfl (any_of HT_.out (by kernel_rfl)) (fun _ _ _ h=>h) (Or.inr ⟨by rfl,rfl⟩) ?_ ?_
       rotate_left
       ·simp only [Act.put,List.setIfInBounds_toArray,List.set_cons_zero,List.set_cons_succ,i64_w,i32_w]
        rfl
       refine pure_ (i:=4) (N:=some 43) (v:=undef) (a':=?_) #[true,true,true,true,true,false,false,false,false,false,false,false,false,false,false,false] rfl rfl (any_of HT_.out (by kernel_rfl)) (fun _ _ _ h=>h) (Or.inr ⟨by rfl,rfl⟩) ?_ ?_
       rotate_left
       ·simp only [Act.put,List.setIfInBounds_toArray,List.set_cons_zero,List.set_cons_succ,i64_w,i32_w]
        rfl
       refine pure_ (i:=5) (N:=some 44) (v:=undef) (a':=?_) #[true,true,true,true,true,true,false,false,false,false,false,false,false,false,false,false] rfl rfl (any_of HT_.out (by kernel_rfl)) (fun _ _ _ h=>h) (Or.inr ⟨by rfl,rfl⟩) ?_ ?_
       rotate_left
       ·simp only [Act.put,List.setIfInBounds_toArray,List.set_cons_zero,List.set_cons_succ,i64_w,i32_w]
        rfl
       refine pure_ (i:=6) (N:=some 45) (v:=undef) (a':=?_) #[true,true,true,true,true,true,true,false,false,false,false,false,false,false,false,false] rfl rfl (any_of HT_.out (by kernel_rfl)) (fun _ _ _ h=>h) (Or.inr ⟨by rfl,rfl⟩) ?_ ?_
       rotate_left
       ·simp only [Act.put,List.setIfInBounds_toArray,List.set_cons_zero,List.set_cons_succ,i64_w,i32_w]
        rfl
       refine pure_ (i:=7) (N:=some 46) (v:=undef) (a':=?_) #[true,true,true,true,true,true,true,true,false,false,false,false,false,false,false,false] rfl rfl (any_of HT_.out (by kernel_rfl)) (fun _ _ _ h=>h) (Or.inr ⟨by rfl,rfl⟩) ?_ ?_
       rotate_left
       ·simp only [Act.put,List.setIfInBounds_toArray,List.set_cons_zero,List.set_cons_succ,i64_w,i32_w]
        rfl
       refine pure_ (i:=8) (N:=some 47) (v:=undef) (a':=?_) #[true,true,true,true,true,true,true,true,true,false,false,false,false,false,false,false] rfl rfl (any_of HT_.out (by kernel_rfl)) (fun _ _ _ h=>h) (Or.inr ⟨by rfl,rfl⟩) ?_ ?_
       rotate_left
       ·simp only [Act.put,List.setIfInBounds_toArray,List.set_cons_zero,List.set_cons_succ,i64_w,i32_w]
        rfl
       refine pure_ (i:=9) (N:=some 48) (v:=undef) (a':=?_) #[true,true,true,true,true,true,true,true,true,true,false,false,false,false,false,false] rfl rfl (any_of HT_.out (by kernel_rfl)) (fun _ _ _ h=>h) (Or.inr ⟨by rfl,rfl⟩) ?_ ?_
       rotate_left
       ·simp only [Act.put,List.setIfInBounds_toArray,List.set_cons_zero,List.set_cons_succ,i64_w,i32_w]
        rfl
       refine pure_ (i:=10) (N:=some 49) (v:=undef) (a':=?_) #[true,true,true,true,true,true,true,true,true,true,true,false,false,false,false,false] rfl rfl (any_of HT_.out (by kernel_rfl)) (fun _ _ _ h=>h) (Or.inr ⟨by rfl,rfl⟩) ?_ ?_
       rotate_left
       ·simp only [Act.put,List.setIfInBounds_toArray,List.set_cons_zero,List.set_cons_succ,i64_w,i32_w]
        rfl
       refine pure_ (i:=11) (N:=some 50) (v:=undef) (a':=?_) #[true,true,true,true,true,true,true,true,true,true,true,true,false,false,false,false] rfl rfl (any_of HT_.out (by kernel_rfl)) (fun _ _ _ h=>h) (Or.inr ⟨by rfl,rfl⟩) ?_ ?_
       rotate_left
       ·simp only [Act.put,List.setIfInBounds_toArray,List.set_cons_zero,List.set_cons_succ,i64_w,i32_w]
        rfl
       refine pure_ (i:=12) (N:=some 51) (v:=undef) (a':=?_) #[true,true,true,true,true,true,true,true,true,true,true,true,true,false,false,false] rfl rfl (any_of HT_.out (by kernel_rfl)) (fun _ _ _ h=>h) (Or.inr ⟨by rfl,rfl⟩) ?_ ?_
       rotate_left
       ·simp only [Act.put,List.setIfInBounds_toArray,List.set_cons_zero,List.set_cons_succ,i64_w,i32_w]
        rfl
       refine pure_ (i:=13) (N:=some 52) (v:=undef) (a':=?_) #[true,true,true,true,true,true,true,true,true,true,true,true,true,true,false,false] rfl rfl (any_of HT_.out (by kernel_rfl)) (fun _ _ _ h=>h) (Or.inr ⟨by rfl,rfl⟩) ?_ ?_
       rotate_left
       ·simp only [Act.put,List.setIfInBounds_toArray,List.set_cons_zero,List.set_cons_succ,i64_w,i32_w]
        rfl
       refine pure_ (i:=14) (N:=some 53) (v:=undef) (a':=?_) #[true,true,true,true,true,true,true,true,true,true,true,true,true,true,true,false] rfl rfl (any_of HT_.out (by kernel_rfl)) (fun _ _ _ h=>h) (Or.inr ⟨by rfl,rfl⟩) ?_ ?_
       rotate_left
       ·simp only [Act.put,List.setIfInBounds_toArray,List.set_cons_zero,List.set_cons_succ,i64_w,i32_w]
        rfl
       refine pure_ (i:=15) (N:=some 54) (v:=?_) (a':=?_) #[true,true,true,true,true,true,true,true,true,true,true,true,true,true,true,true] rfl rfl (any_of HT_.out (by kernel_rfl)) (fun _ _ _ h=>h) (Or.inl ⟨by rfl,?_⟩) ?_ ?_
       rotate_left;(intro w';go_simp;with_reducible rfl);rotate_left;(simp only [Act.put,List.setIfInBounds_toArray,List.set_cons_zero,List.set_cons_succ,i64_w,i32_w];rfl)
       refine done_ (done_of HT_.out (by kernel_rfl)) ?_
       (try clear hHeld)
       try go_wp2
       go_meet
       case rel=>exact ⟨_,(false),(by first|rfl|(simp;done)|(simp [*];done)),(by first|exact H'|(subst_vars;exact H')),⟨by have:=HK1.out;first|omega|exact Nat.le_refl _⟩,⟨by (with_reducible repeat (first|apply Kd.N_alloc|apply Kd.N_drewN|apply Kd.N_drew));exact HO_7.out⟩,⟨by (with_reducible repeat (first|apply Kd.N_alloc|apply Kd.N_drewN|apply Kd.N_drew));exact HO_8.out⟩,⟨by (with_reducible repeat (first|apply Kd.R_alloc|apply Kd.R_drewN|apply Kd.R_drew));exact HO_412000.out⟩,⟨by (with_reducible repeat (first|refine blk_drewN ?_ _|refine blk_drew ?_|refine blk_alloc ?_ _));exact BK403.out⟩,⟨by (with_reducible repeat (first|refine blk_drewN ?_ _|refine blk_drew ?_|refine blk_alloc ?_ _));exact BK411.out⟩,⟨by repeat (first|(with_reducible first|exact HB.out|apply below_alloc|apply pw_below_drewN|apply below_drew1|refine below_set ?_ GE403.out|refine below_set ?_ GE411.out)|exact HB.out)⟩⟩
     case rest =>
      clear HC65
      try clear c1
      try clear p2
      try clear c3
      try clear c4
      try clear p4
      try clear q4
      try clear hx4
      try clear c5
      try clear c6
      try clear p6
      try clear c7
      try clear c8
      try clear c8b0
      try clear c8b1
      try clear c9
      try clear c10
      try clear c11
      try clear c12
      try clear c13
      try clear c15
      try clear c17
      try clear c35
      try clear c42
      try clear p42
      try clear q42
      try clear hx42
      try clear c53
      try clear c64
      try clear c64b0
      try clear p64
      try clear c66
      try clear c66b0
      try clear c68
      try clear c68b0
      try clear c69
      try clear c69b0
      try clear c70
      try clear c70b0
      try clear hcz13_0
      try clear hcz13_1
      try clear hcz13_10
      try clear hcz13_11
      try clear hcz13_2
      try clear hcz13_3
      try clear hcz13_4
      try clear hcz13_5
      try clear hcz13_6
      try clear hcz13_7
      try clear hcz13_8
      try clear hcz13_9
      try clear hcz18_0
      try clear hcz18_1
      try clear hcz18_2
      try clear hcz18_3
      try clear hcz24_0
      try clear hcz24_1
      try clear hcz24_2
      try clear hcz24_3
      try clear hcz27_0
      try clear hcz27_1
      try clear hcz27_2
      try clear hcz27_3
      try clear hcz31_0
      try clear hcz31_1
      try clear hcz31_10
      try clear hcz31_11
      try clear hcz31_2
      try clear hcz31_3
      try clear hcz31_4
      try clear hcz31_5
      try clear hcz31_6
      try clear hcz31_7
      try clear hcz31_8
      try clear hcz31_9
      try clear hcz36_0
      try clear hcz36_1
      try clear hcz36_2
      try clear hcz36_3
      try clear hcz42_0
      try clear hcz42_1
      try clear hcz42_2
      try clear hcz42_3
      try clear hcz45_0
      try clear hcz45_1
      try clear hcz45_2
      try clear hcz45_3
      try clear hcz49_0
      try clear hcz49_1
      try clear hcz49_10
      try clear hcz49_11
      try clear hcz49_2
      try clear hcz49_3
      try clear hcz49_4
      try clear hcz49_5
      try clear hcz49_6
      try clear hcz49_7
      try clear hcz49_8
      try clear hcz49_9
      try clear hcz54_0
      try clear hcz54_1
      try clear hcz54_2
      try clear hcz54_3
      try clear hcz60_0
      try clear hcz60_1
      try clear hcz60_2
      try clear hcz60_3
      try clear hcz63_0
      try clear hcz63_1
      try clear hcz63_2
      try clear hcz63_3
      try clear hfz13_0
      try clear hfz13_1
      try clear hfz13_10
      try clear hfz13_11
      try clear hfz13_2
      try clear hfz13_3
      try clear hfz13_4
      try clear hfz13_5
      try clear hfz13_6
      try clear hfz13_7
      try clear hfz13_8
      try clear hfz13_9
      try clear hfz18_0
      try clear hfz18_1
      try clear hfz18_2
      try clear hfz18_3
      try clear hfz24_0
      try clear hfz24_1
      try clear hfz24_2
      try clear hfz24_3
      try clear hfz27_0
      try clear hfz27_1
      try clear hfz27_2
      try clear hfz27_3
      try clear hfz31_0
      try clear hfz31_1
      try clear hfz31_10
      try clear hfz31_11
      try clear hfz31_2
      try clear hfz31_3
      try clear hfz31_4
      try clear hfz31_5
      try clear hfz31_6
      try clear hfz31_7
      try clear hfz31_8
      try clear hfz31_9
      try clear hfz36_0
      try clear hfz36_1
      try clear hfz36_2
      try clear hfz36_3
      try clear hfz42_0
      try clear hfz42_1
      try clear hfz42_2
      try clear hfz42_3
      try clear hfz45_0
      try clear hfz45_1
      try clear hfz45_2
      try clear hfz45_3
      try clear hfz49_0
      try clear hfz49_1
      try clear hfz49_10
      try clear hfz49_11
      try clear hfz49_2
      try clear hfz49_3
      try clear hfz49_4
      try clear hfz49_5
      try clear hfz49_6
      try clear hfz49_7
      try clear hfz49_8
      try clear hfz49_9
      try clear hfz54_0
      try clear hfz54_1
      try clear hfz54_2
      try clear hfz54_3
      try clear hfz60_0
      try clear hfz60_1
      try clear hfz60_2
      try clear hfz60_3
      try clear hfz63_0
      try clear hfz63_1
      try clear hfz63_2
      try clear hfz63_3
      try clear hx422_0
      try clear hx423_0
      try clear p2
      try clear p422
      try clear p423
      try clear q422
      try clear q423
      obtain ⟨kq,x54_64,rfl,HA,HJ64,HO_7,HO_8,HO_412000,BK403,BK411,HB⟩:=hcut
      cases kq with
      | zero=>exact absurd HA.out (by simp [thresherlaw13_FoldKeys.j1])
      | succ kj64 =>
       have H:=HA.out
       clear HA
       simp only [thresherlaw13_FoldKeys.j1] at H
       have HC75:=Aside0.mk H
       clear H
       go_upto_if 54 with (fail)
       go_cut [10] (fun v10 wc=>∃ (kq : Nat) (x10_74 : Int),v10=.int .i64 x10_74∧Aside0 (thresherlaw13_FoldKeys.j2 kq t404 t415 t418 x10_74 x11_1 t405 t408 t409 t410=some r)∧Aside0 (kq≤kj64)∧Aside0 (Kd.N (Kd.slice 45 k45) 36 wc w.heap.size (fun k_=>some k_≠(v419 : Value).ownBlock∧some k_≠((.slice Ao52 t405.length co52) : Value).ownBlock∧k_≠gb403∧k_≠gb411) (.slice Ao61 t415.length co61) t415)∧Aside0 (Kd.N (Kd.slice 45 k45) 36 wc w.heap.size (fun k_=>some k_≠((.slice Ao52 t405.length co52) : Value).ownBlock∧k_≠gb403∧k_≠gb411) v419 t418)∧Aside0 (Kd.R (Kd.int .i64) 3 wc w.heap.size (fun _=>True) (.slice Ao52 t405.length co52) t405)∧Aside0 (wc.heap[gb403]?=some (.cells #[.int .u8 a0_0,.int .u8 a0_1,.int .u8 a0_2,.int .u8 a0_3,.int .u8 a0_4,.int .u8 a0_5,.int .u8 a0_6,.int .u8 a0_7,.int .u8 a0_8,.int .u8 a0_9,.int .u8 a0_10,.int .u8 a0_11] 24 (0,0)))∧Aside0 (wc.heap[gb411]?=some (.cells #[(.slice Ao52 t405.length co52),.int .i64 t408,.int .i64 t409,.int .i64 t410] 29 (0,0)))∧Aside0 (Below w.heap.size w wc))
       case first =>
        have H:=HC75.out
        clear HC75
        by_cases c76 : x54_64=true
        ·subst c76
         have H1 : (thresherlaw13_FoldKeys.j2 kj64 t404 t415 t418 (wrap64 (x10_1 + 1)) x11_1 t405 t408 t409 t410)=some r:=by rw [if_pos rfl] at H;exact H
         clear H
         have H:=H1
         clear H1
         have H':=Aside0.mk H
         clear H
         go_wp2
         go_meet
         case rel=>exact ⟨_,(wrap64 (x10_1 + 1)),(by first|rfl|(simp;done)|(simp [*];done)),(by first|exact H'|(subst_vars;exact H')),⟨by have:=HK1.out;have:=HJ64.out;first|omega|exact Nat.le_refl _⟩,⟨by (with_reducible repeat (first|apply Kd.N_alloc|apply Kd.N_drewN|apply Kd.N_drew));exact HO_7.out⟩,⟨by (with_reducible repeat (first|apply Kd.N_alloc|apply Kd.N_drewN|apply Kd.N_drew));exact HO_8.out⟩,⟨by (with_reducible repeat (first|apply Kd.R_alloc|apply Kd.R_drewN|apply Kd.R_drew));exact HO_412000.out⟩,⟨by (with_reducible repeat (first|refine blk_drewN ?_ _|refine blk_drew ?_|refine blk_alloc ?_ _));exact BK403.out⟩,⟨by (with_reducible repeat (first|refine blk_drewN ?_ _|refine blk_drew ?_|refine blk_alloc ?_ _));exact BK411.out⟩,⟨by repeat (first|(with_reducible first|exact HB.out|apply below_alloc|apply pw_below_drewN|apply below_drew1|refine below_set ?_ GE403.out|refine below_set ?_ GE411.out)|exact HB.out)⟩⟩
        ·replace c76:=Bool.eq_false_iff.mpr c76
         subst c76
         have H1 : (thresherlaw13_FoldKeys.j2 kj64 t404 t415 t418 x10_1 x11_1 t405 t408 t409 t410)=some r:=by rw [if_neg (show ¬ (false=true) by decide)] at H;exact H
         clear H
         have H:=H1
         clear H1
         have H':=Aside0.mk H
         clear H
         go_wp2
         go_meet
         case rel=>exact ⟨_,(x10_1),(by first|rfl|(simp;done)|(simp [*];done)),(by first|exact H'|(subst_vars;exact H')),⟨by have:=HK1.out;have:=HJ64.out;first|omega|exact Nat.le_refl _⟩,⟨by (with_reducible repeat (first|apply Kd.N_alloc|apply Kd.N_drewN|apply Kd.N_drew));exact HO_7.out⟩,⟨by (with_reducible repeat (first|apply Kd.N_alloc|apply Kd.N_drewN|apply Kd.N_drew));exact HO_8.out⟩,⟨by (with_reducible repeat (first|apply Kd.R_alloc|apply Kd.R_drewN|apply Kd.R_drew));exact HO_412000.out⟩,⟨by (with_reducible repeat (first|refine blk_drewN ?_ _|refine blk_drew ?_|refine blk_alloc ?_ _));exact BK403.out⟩,⟨by (with_reducible repeat (first|refine blk_drewN ?_ _|refine blk_drew ?_|refine blk_alloc ?_ _));exact BK411.out⟩,⟨by repeat (first|(with_reducible first|exact HB.out|apply below_alloc|apply pw_below_drewN|apply below_drew1|refine below_set ?_ GE403.out|refine below_set ?_ GE411.out)|exact HB.out)⟩⟩
       case rest =>
        clear HC75
        try clear c1
        try clear p2
        try clear c3
        try clear c4
        try clear p4
        try clear q4
        try clear hx4
        try clear c5
        try clear c6
        try clear p6
        try clear c7
        try clear c8
        try clear c8b0
        try clear c8b1
        try clear c9
        try clear c10
        try clear c11
        try clear c12
        try clear c13
        try clear c15
        try clear c17
        try clear c35
        try clear c42
        try clear p42
        try clear q42
        try clear hx42
        try clear c53
        try clear c64
        try clear c64b0
        try clear p64
        try clear c66
        try clear c66b0
        try clear c68
        try clear c68b0
        try clear c69
        try clear c69b0
        try clear c70
        try clear c70b0
        try clear c76
        try clear hcz13_0
        try clear hcz13_1
        try clear hcz13_10
        try clear hcz13_11
        try clear hcz13_2
        try clear hcz13_3
        try clear hcz13_4
        try clear hcz13_5
        try clear hcz13_6
        try clear hcz13_7
        try clear hcz13_8
        try clear hcz13_9
        try clear hcz18_0
        try clear hcz18_1
        try clear hcz18_2
        try clear hcz18_3
        try clear hcz24_0
        try clear hcz24_1
        try clear hcz24_2
        try clear hcz24_3
        try clear hcz27_0
        try clear hcz27_1
        try clear hcz27_2
        try clear hcz27_3
        try clear hcz31_0
        try clear hcz31_1
        try clear hcz31_10
        try clear hcz31_11
        try clear hcz31_2
        try clear hcz31_3
        try clear hcz31_4
        try clear hcz31_5
        try clear hcz31_6
        try clear hcz31_7
        try clear hcz31_8
        try clear hcz31_9
        try clear hcz36_0
        try clear hcz36_1
        try clear hcz36_2
        try clear hcz36_3
        try clear hcz42_0
        try clear hcz42_1
        try clear hcz42_2
        try clear hcz42_3
        try clear hcz45_0
        try clear hcz45_1
        try clear hcz45_2
        try clear hcz45_3
        try clear hcz49_0
        try clear hcz49_1
        try clear hcz49_10
        try clear hcz49_11
        try clear hcz49_2
        try clear hcz49_3
        try clear hcz49_4
        try clear hcz49_5
        try clear hcz49_6
        try clear hcz49_7
        try clear hcz49_8
        try clear hcz49_9
        try clear hcz54_0
        try clear hcz54_1
        try clear hcz54_2
        try clear hcz54_3
        try clear hcz60_0
        try clear hcz60_1
        try clear hcz60_2
        try clear hcz60_3
        try clear hcz63_0
        try clear hcz63_1
        try clear hcz63_2
        try clear hcz63_3
        try clear hfz13_0
        try clear hfz13_1
        try clear hfz13_10
        try clear hfz13_11
        try clear hfz13_2
        try clear hfz13_3
        try clear hfz13_4
        try clear hfz13_5
        try clear hfz13_6
        try clear hfz13_7
        try clear hfz13_8
        try clear hfz13_9
        try clear hfz18_0
        try clear hfz18_1
        try clear hfz18_2
        try clear hfz18_3
        try clear hfz24_0
        try clear hfz24_1
        try clear hfz24_2
        try clear hfz24_3
        try clear hfz27_0
        try clear hfz27_1
        try clear hfz27_2
        try clear hfz27_3
        try clear hfz31_0
        try clear hfz31_1
        try clear hfz31_10
        try clear hfz31_11
        try clear hfz31_2
        try clear hfz31_3
        try clear hfz31_4
        try clear hfz31_5
        try clear hfz31_6
        try clear hfz31_7
        try clear hfz31_8
        try clear hfz31_9
        try clear hfz36_0
        try clear hfz36_1
        try clear hfz36_2
        try clear hfz36_3
        try clear hfz42_0
        try clear hfz42_1
        try clear hfz42_2
        try clear hfz42_3
        try clear hfz45_0
        try clear hfz45_1
        try clear hfz45_2
        try clear hfz45_3
        try clear hfz49_0
        try clear hfz49_1
        try clear hfz49_10
        try clear hfz49_11
        try clear hfz49_2
        try clear hfz49_3
        try clear hfz49_4
        try clear hfz49_5
        try clear hfz49_6
        try clear hfz49_7
        try clear hfz49_8
        try clear hfz49_9
        try clear hfz54_0
        try clear hfz54_1
        try clear hfz54_2
        try clear hfz54_3
        try clear hfz60_0
        try clear hfz60_1
        try clear hfz60_2
        try clear hfz60_3
        try clear hfz63_0
        try clear hfz63_1
        try clear hfz63_2
        try clear hfz63_3
        try clear hx422_0
        try clear hx423_0
        try clear p2
        try clear p4
        try clear p42
        try clear p422
        try clear p423
        try clear p6
        try clear p64
        try clear q4
        try clear q42
        try clear q422
        try clear q423
        obtain ⟨kq,x10_74,rfl,HA,HJ74,HO_7,HO_8,HO_412000,BK403,BK411,HB⟩:=hcut
        cases kq with
        | zero=>exact absurd HA.out (by simp [thresherlaw13_FoldKeys.j2])
        | succ kj74 =>
         have H:=HA.out
         clear HA
         simp only [thresherlaw13_FoldKeys.j2] at H
         have HC77:=Aside0.mk H
         clear H
         go_upto_region 14 with (fail)
         go_cut [84] (fun v84 wc=>∃ (kq : Nat) (x84_76 : Bool),v84=.bool x84_76∧Aside0 (thresherlaw13_FoldKeys.j3 kq t404 t415 t418 x10_74 x11_1 x84_76 t405 t408 t409 t410=some r)∧Aside0 (kq≤kj74)∧Aside0 (Kd.N (Kd.slice 45 k45) 36 wc w.heap.size (fun k_=>some k_≠(v419 : Value).ownBlock∧some k_≠((.slice Ao52 t405.length co52) : Value).ownBlock∧k_≠gb403∧k_≠gb411) (.slice Ao61 t415.length co61) t415)∧Aside0 (Kd.N (Kd.slice 45 k45) 36 wc w.heap.size (fun k_=>some k_≠((.slice Ao52 t405.length co52) : Value).ownBlock∧k_≠gb403∧k_≠gb411) v419 t418)∧Aside0 (Kd.R (Kd.int .i64) 3 wc w.heap.size (fun _=>True) (.slice Ao52 t405.length co52) t405)∧Aside0 (wc.heap[gb403]?=some (.cells #[.int .u8 a0_0,.int .u8 a0_1,.int .u8 a0_2,.int .u8 a0_3,.int .u8 a0_4,.int .u8 a0_5,.int .u8 a0_6,.int .u8 a0_7,.int .u8 a0_8,.int .u8 a0_9,.int .u8 a0_10,.int .u8 a0_11] 24 (0,0)))∧Aside0 (wc.heap[gb411]?=some (.cells #[(.slice Ao52 t405.length co52),.int .i64 t408,.int .i64 t409,.int .i64 t410] 29 (0,0)))∧Aside0 (Below w.heap.size w wc))
         case first =>
          have H:=HC77.out
          clear HC77
          by_cases c78 : x10_74 ≥ (t418.length : Int)
          ·rw [if_pos c78] at H
           have c78b0 : decide ((t418.length : Int)≤x10_74)=true:=decide_eq_true c78
           clear c78
           (first|rw [c78b0]|(simp only [i64_w,i32_w];rw [c78b0])|skip)
           have H':=Aside0.mk H
           clear H
           try go_wp2
           have n0_:=Aside0.mk (Kd.N_drew HO_7.out)
           have n1_:=Aside0.mk (Kd.N_drew HO_8.out)
           have n2_:=Aside0.mk (Kd.R_drew HO_412000.out)
           have n3_:=Aside0.mk (blk_drew BK403.out)
           have n4_:=Aside0.mk (blk_drew BK411.out)
           have n5_:=Aside0.mk (below_drew1 HB.out)
           clear HO_7
           clear HO_8
           clear HO_412000
           clear BK403
           clear BK411
           clear HB
           have HO_7:=n0_
           have HO_8:=n1_
           have HO_412000:=n2_
           have BK403:=n3_
           have BK411:=n4_
           have HB:=n5_
           clear n0_ n1_ n2_ n3_ n4_ n5_
           obtain ⟨Ao80,co80,eo80⟩:=Kd.N_slice HO_8.out
           (first|subst eo80|(injection eo80 with f1_ f2_ f3_;have f4_:=f1_.symm;have f5_:=f3_.symm;clear f1_ f2_ f3_;subst f4_;subst f5_))
           refine start_ (n:=28) (S:=fun w'=>True) (ds:=[]) #[false,false,false,false,false,false,false,false,false,false,false,false,false,false,false,false,false,false,false,false,false,false,false,false,false,false,false,false] (by kernel_rfl) rfl rfl trivial (fun hHeld=>?_);refine with_tabW thresherlaw13_FoldKeys.tab14 thresherlaw13_FoldKeys.bits14 (fun HT_ HW_=>?_)
           generalize wc.drew=w79 at HO_7 HO_8 HO_412000 BK403 BK411 HB hHeld ⊢
           refine pure_ (i:=0) (N:=some 57) (v:=?_) (a':=?_) #[true,false,false,false,false,false,false,false,false,false,false,false,false,false,false,false,false,false,false,false,false,false,false,false,false,false,false,false] rfl rfl (any_of HT_.out (by kernel_rfl)) (fun _ _ _ h=>h) (Or.inl ⟨by rfl,?_⟩) ?_ ?_
           rotate_left;(intro w';go_simp;with_reducible rfl);rotate_left;(simp only [Act.put,List.setIfInBounds_toArray,List.set_cons_zero,List.set_cons_succ,i64_w,i32_w];rfl)
           refine pure_ (i:=1) (N:=some 58) (v:=?_) (a':=?_) #[true,true,false,false,false,false,false,false,false,false,false,false,false,false,false,false,false,false,false,false,false,false,false,false,false,false,false,false] rfl rfl (any_of HT_.out (by kernel_rfl)) (fun _ _ _ h=>h) (Or.inl ⟨by rfl,?_⟩) ?_ ?_
           rotate_left;(intro w';go_simp;with_reducible rfl);rotate_left;(simp only [Act.put,List.setIfInBounds_toArray,List.set_cons_zero,List.set_cons_succ,i64_w,i32_w];rfl)
           refine pure_ (i:=2) (N:=some 59) (v:=?_) (a':=?_) #[true,true,true,false,false,false,false,false,false,false,false,false,false,false,false,false,false,false,false,false,false,false,false,false,false,false,false,false] rfl rfl (any_of HT_.out (by kernel_rfl)) (fun _ _ _ h=>h) (Or.inl ⟨by rfl,?_⟩) ?_ ?_
           rotate_left;(intro w';go_simp;with_reducible rfl);rotate_left;(simp only [Act.put,List.setIfInBounds_toArray,List.set_cons_zero,List.set_cons_succ,i64_w,i32_w];rfl)
           refine pure_ (i:=3) (N:=some 60) (v:=?_) (a':=?_) #[true,true,true,true,false,false,false,false,false,false,false,false,false,false,false,false,false,false,false,false,false,false,false,false,false,false,false,false] rfl rfl (any_of HT_.out (by kernel_rfl)) (fun _ _ _ h=>h) (Or.inl ⟨by rfl,?_⟩) ?_ ?_
           rotate_left;(intro w';go_simp;with_reducible rfl);rotate_left;(simp only [Act.put,List.setIfInBounds_toArray,List.set_cons_zero,List.set_cons_succ,i64_w,i32_w];rfl)
           refine pure_ (i:=4) (N:=some 61) (v:=?_) (a':=?_) #[true,true,true,true,true,false,false,false,false,false,false,false,false,false,false,false,false,false,false,false,false,false,false,false,false,false,false,false] rfl rfl (any_of HT_.out (by kernel_rfl)) (fun _ _ _ h=>h) (Or.inl ⟨by rfl,?_⟩) ?_ ?_
           rotate_left;(intro w';go_simp;with_reducible rfl);rotate_left;(simp only [Act.put,List.setIfInBounds_toArray,List.set_cons_zero,List.set_cons_succ,i64_w,i32_w];rfl)
           refine pure_ (i:=5) (N:=some 62) (v:=undef) (a':=?_) #[true,true,true,true,true,true,false,false,false,false,false,false,false,false,false,false,false,false,false,false,false,false,false,false,false,false,false,false] rfl rfl (any_of HT_.out (by kernel_rfl)) (fun _ _ _ h=>h) (Or.inr ⟨by rfl,rfl⟩) ?_ ?_
           rotate_left
           ·simp only [Act.put,List.setIfInBounds_toArray,List.set_cons_zero,List.set_cons_succ,i64_w,i32_w]
            rfl
           refine pure_ (i:=6) (N:=some 63) (v:=undef) (a':=?_) #[true,true,true,true,true,true,true,false,false,false,false,false,false,false,false,false,false,false,false,false,false,false,false,false,false,false,false,false] rfl rfl (any_of HT_.out (by kernel_rfl)) (fun _ _ _ h=>h) (Or.inr ⟨by rfl,rfl⟩) ?_ ?_
           rotate_left
           ·simp only [Act.put,List.setIfInBounds_toArray,List.set_cons_zero,List.set_cons_succ,i64_w,i32_w]
            rfl
           refine pure_ (i:=7) (N:=some 64) (v:=undef) (a':=?_) #[true,true,true,true,true,true,true,true,false,false,false,false,false,false,false,false,false,false,false,false,false,false,false,false,false,false,false,false] rfl rfl (any_of HT_.out (by kernel_rfl)) (fun _ _ _ h=>h) (Or.inr ⟨by rfl,rfl⟩) ?_ ?_
           rotate_left
           ·simp only [Act.put,List.setIfInBounds_toArray,List.set_cons_zero,List.set_cons_succ,i64_w,i32_w]
            rfl
           refine pure_ (i:=8) (N:=some 65) (v:=undef) (a':=?_) #[true,true,true,true,true,true,true,true,true,false,false,false,false,false,false,false,false,false,false,false,false,false,false,false,false,false,false,false] rfl rfl (any_of HT_.out (by kernel_rfl)) (fun _ _ _ h=>h) (Or.inr ⟨by rfl,rfl⟩) ?_ ?_
           rotate_left
           ·simp only [Act.put,List.setIfInBounds_toArray,List.set_cons_zero,List.set_cons_succ,i64_w,i32_w]
            rfl
           refine pure_ (i:=9) (N:=some 66) (v:=undef) (a':=?_) #[true,true,true,true,true,true,true,true,true,true,false,false,false,false,false,false,false,false,false,false,false,false,false,false,false,false,false,false] rfl rfl (any_of HT_.out (by kernel_rfl)) (fun _ _ _ h=>h) (Or.inr ⟨by rfl,rfl⟩) ?_ ?_
           rotate_left
           ·simp only [Act.put,List.setIfInBounds_toArray,List.set_cons_zero,List.set_cons_succ,i64_w,i32_w]
            rfl
           refine pure_ (i:=10) (N:=some 67) (v:=undef) (a':=?_) #[true,true,true,true,true,true,true,true,true,true,true,false,false,false,false,false,false,false,false,false,false,false,false,false,false,false,false,false] rfl rfl (any_of HT_.out (by kernel_rfl)) (fun _ _ _ h=>h) (Or.inr ⟨by rfl,rfl⟩) ?_ ?_
           rotate_left
           ·simp only [Act.put,List.setIfInBounds_toArray,List.set_cons_zero,List.set_cons_succ,i64_w,i32_w]
            rfl
           refine pure_ (i:=11) (N:=some 68) (v:=undef) (a':=?_) #[true,true,true,true,true,true,true,true,true,true,true,true,false,false,false,false,false,false,false,false,false,false,false,false,false,false,false,false] rfl rfl (any_of HT_.out (by kernel_rfl)) (fun _ _ _ h=>h) (Or.inr ⟨by rfl,rfl⟩) ?_ ?_
           rotate_left
           ·simp only [Act.put,List.setIfInBounds_toArray,List.set_cons_zero,List.set_cons_succ,i64_w,i32_w]
            rfl
           refine pure_ (i:=12) (N:=some 69) (v:=undef) (a':=?_) #[true,true,true,true,true,true,true,true,true,true,true,true,true,false,false,false,false,false,false,false,false,false,false,false,false,false,false,false] rfl rfl (any_of HT_.out (by kernel_rfl)) (fun _ _ _ h=>h) (Or.inr ⟨by rfl,rfl⟩) ?_ ?_
           rotate_left
           ·simp only [Act.put,List.setIfInBounds_toArray,List.set_cons_zero,List.set_cons_succ,i64_w,i32_w]
            rfl
           refine pure_ (i:=13) (N:=some 70) (v:=undef) (a':=?_) #[true,true,true,true,true,true,true,true,true,true,true,true,true,true,false,false,false,false,false,false,false,false,false,false,false,false,false,false] rfl rfl (any_of HT_.out (by kernel_rfl)) (fun _ _ _ h=>h) (Or.inr ⟨by rfl,rfl⟩) ?_ ?_
           rotate_left
           ·simp only [Act.put,List.setIfInBounds_toArray,List.set_cons_zero,List.set_cons_succ,i64_w,i32_w]
            rfl
           refine pure_ (i:=14) (N:=some 71) (v:=undef) (a':=?_) #[true,true,true,true,true,true,true,true,true,true,true,true,true,true,true,false,false,false,false,false,false,false,false,false,false,false,false,false] rfl rfl (any_of HT_.out (by kernel_rfl)) (fun _ _ _ h=>h) (Or.inr ⟨by rfl,rfl⟩) ?_ ?_
           rotate_left
           ·simp only [Act.put,List.setIfInBounds_toArray,List.set_cons_zero,List.set_cons_succ,i64_w,i32_w]
            rfl
           refine pure_ (i:=15) (N:=some 72) (v:=undef) (a':=?_) #[true,true,true,true,true,true,true,true,true,true,true,true,true,true,true,true,false,false,false,false,false,false,false,false,false,false,false,false] rfl rfl (any_of HT_.out (by kernel_rfl)) (fun _ _ _ h=>h) (Or.inr ⟨by rfl,rfl⟩) ?_ ?_
           rotate_left
           ·simp only [Act.put,List.setIfInBounds_toArray,List.set_cons_zero,List.set_cons_succ,i64_w,i32_w]
            rfl
           refine pure_ (i:=16) (N:=some 73) (v:=?_) (a':=?_) #[true,true,true,true,true,true,true,true,true,true,true,true,true,true,true,true,true,false,false,false,false,false,false,false,false,false,false,false] rfl rfl (any_of HT_.out (by kernel_rfl)) (fun _ _ _ h=>h) (Or.inl ⟨by rfl,?_⟩) ?_ ?_
           rotate_left;(intro w';go_simp;with_reducible rfl);rotate_left;(simp only [Act.put,List.setIfInBounds_toArray,List.set_cons_zero,List.set_cons_succ,i64_w,i32_w];rfl)
           refine pure_ (i:=17) (N:=some 74) (v:=?_) (a':=?_) #[true,true,true,true,true,true,true,true,true,true,true,true,true,true,true,true,true,true,false,false,false,false,false,false,false,false,false,false] rfl rfl (any_of HT_.out (by kernel_rfl)) (fun _ _ _ h=>h) (Or.inl ⟨by rfl,?_⟩) ?_ ?_
           rotate_left;(intro w';go_simp;with_reducible rfl);rotate_left;(simp only [Act.put,List.setIfInBounds_toArray,List.set_cons_zero,List.set_cons_succ,i64_w,i32_w];rfl)
           refine pure_ (i:=18) (N:=some 75) (v:=undef) (a':=?_) #[true,true,true,true,true,true,true,true,true,true,true,true,true,true,true,true,true,true,true,false,false,false,false,false,false,false,false,false] rfl rfl (any_of HT_.out (by kernel_rfl)) (fun _ _ _ h=>h) (Or.inr ⟨by rfl,rfl⟩) ?_ ?_
           rotate_left
           ·simp only [Act.put,List.setIfInBounds_toArray,List.set_cons_zero,List.set_cons_succ,i64_w,i32_w]
            rfl
           refine pure_ (i:=19) (N:=some 76) (v:=undef) (a':=?_) #[true,true,true,true,true,true,true,true,true,true,true,true,true,true,true,true,true,true,true,true,false,false,false,false,false,false,false,false] rfl rfl (any_of HT_.out (by kernel_rfl)) (fun _ _ _ h=>h) (Or.inr ⟨by rfl,rfl⟩) ?_ ?_
           rotate_left
           ·simp only [Act.put,List.setIfInBounds_toArray,List.set_cons_zero,List.set_cons_succ,i64_w,i32_w]
            rfl
           refine pure_ (i:=20) (N:=some 77) (v:=undef) (a':=?_) #[true,true,true,true,true,true,true,true,true,true,true,true,true,true,true,true,true,true,true,true,true,false,false,false,false,false,false,false] rfl rfl (any_of HT_.out (by kernel_rfl)) (fun _ _ _ h=>h) (Or.inr ⟨by rfl,rfl⟩) ?_ ?_
           rotate_left
           ·simp only [Act.put,List.setIfInBounds_toArray,List.set_cons_zero,List.set_cons_succ,i64_w,i32_w]
            rfl
           refine pure_ (i:=21) (N:=some 78) (v:=undef) (a':=?_) #[true,true,true,true,true,true,true,true,true,true,true,true,true,true,true,true,true,true,true,true,true,true,false,false,false,false,false,false] rfl rfl (any_of HT_.out (by kernel_rfl)) (fun _ _ _ h=>h) (Or.inr ⟨by rfl,rfl⟩) ?_ ?_
           rotate_left
           ·simp only [Act.put,List.setIfInBounds_toArray,List.set_cons_zero,List.set_cons_succ,i64_w,i32_w]
            rfl
           refine pure_ (i:=22) (N:=some 79) (v:=undef) (a':=?_) #[true,true,true,true,true,true,true,true,true,true,true,true,true,true,true,true,true,true,true,true,true,true,true,false,false,false,false,false] rfl rfl (any_of HT_.out (by kernel_rfl)) (fun _ _ _ h=>h) (Or.inr ⟨by rfl,rfl⟩) ?_ ?_
           rotate_left
           ·simp only [Act.put,List.setIfInBounds_toArray,List.set_cons_zero,List.set_cons_succ,i64_w,i32_w]
            rfl
           refine pure_ (i:=23) (N:=some 80) (v:=undef) (a':=?_) #[true,true,true,true,true,true,true,true,true,true,true,true,true,true,true,true,true,true,true,true,true,true,true,true,false,false,false,false] rfl rfl (any_of HT_.out (by kernel_rfl)) (fun _ _ _ h=>h) (Or.inr ⟨by rfl,rfl⟩) ?_ ?_
           rotate_left
           ·simp only [Act.put,List.setIfInBounds_toArray,List.set_cons_zero,List.set_cons_succ,i64_w,i32_w]
            rfl
           refine pure_ (i:=24) (N:=some 81) (v:=undef) (a':=?_) #[true,true,true,true,true,true,true,true,true,true,true,true,true,true,true,true,true,true,true,true,true,true,true,true,true,false,false,false] rfl rfl (any_of HT_.out (by kernel_rfl)) (fun _ _ _ h=>h) (Or.inr ⟨by rfl,rfl⟩) ?_ ?_
           rotate_left
           ·simp only [Act.put,List.setIfInBounds_toArray,List.set_cons_zero,List.set_cons_succ,i64_w,i32_w]
            rfl
           refine pure_ (i:=25) (N:=some 82) (v:=undef) (a':=?_) #[true,true,true,true,true,true,true,true,true,true,true,true,true,true,true,true,true,true,true,true,true,true,true,true,true,true,false,false] rfl rfl (any_of HT_.out (by kernel_rfl)) (fun _ _ _ h=>h) (Or.inr ⟨by rfl,rfl⟩) ?_ ?_
           rotate_left
           ·simp only [Act.put,List.setIfInBounds_toArray,List.set_cons_zero,List.set_cons_succ,i64_w,i32_w]
            rfl
           refine pure_ (i:=26) (N:=some 83) (v:=undef) (a':=?_) #[true,true,true,true,true,true,true,true,true,true,true,true,true,true,true,true,true,true,true,true,true,true,true,true,true,true,true,false] rfl rfl (any_of HT_.out (by kernel_rfl)) (fun _ _ _ h=>h) (Or.inr ⟨by rfl,rfl⟩) ?_ ?_
           rotate_left
           ·simp only [Act.put,List.setIfInBounds_toArray,List.set_cons_zero,List.set_cons_succ,i64_w,i32_w]
            rfl
           refine pure_ (i:=27) (N:=some 84) (v:=?_) (a':=?_) #[true,true,true,true,true,true,true,true,true,true,true,true,true,true,true,true,true,true,true,true,true,true,true,true,true,true,true,true] rfl rfl (any_of HT_.out (by kernel_rfl)) (fun _ _ _ h=>h) (Or.inl ⟨by rfl,?_⟩) ?_ ?_
           rotate_left;(intro w';go_simp;with_reducible rfl);rotate_left;(simp only [Act.put,List.setIfInBounds_toArray,List.set_cons_zero,List.set_cons_succ,i64_w,i32_w];rfl)
           refine done_ (done_of HT_.out (by kernel_rfl)) ?_
           (try clear hHeld)
           try go_wp2
           go_meet
           case rel=>exact ⟨_,(true),(by first|rfl|(simp;done)|(simp [*];done)),(by first|exact H'|(subst_vars;exact H')),⟨by have:=HK1.out;have:=HJ64.out;have:=HJ74.out;first|omega|exact Nat.le_refl _⟩,⟨by (with_reducible repeat (first|apply Kd.N_alloc|apply Kd.N_drewN|apply Kd.N_drew));exact HO_7.out⟩,⟨by (with_reducible repeat (first|apply Kd.N_alloc|apply Kd.N_drewN|apply Kd.N_drew));exact HO_8.out⟩,⟨by (with_reducible repeat (first|apply Kd.R_alloc|apply Kd.R_drewN|apply Kd.R_drew));exact HO_412000.out⟩,⟨by (with_reducible repeat (first|refine blk_drewN ?_ _|refine blk_drew ?_|refine blk_alloc ?_ _));exact BK403.out⟩,⟨by (with_reducible repeat (first|refine blk_drewN ?_ _|refine blk_drew ?_|refine blk_alloc ?_ _));exact BK411.out⟩,⟨by repeat (first|(with_reducible first|exact HB.out|apply below_alloc|apply pw_below_drewN|apply below_drew1|refine below_set ?_ GE403.out|refine below_set ?_ GE411.out)|exact HB.out)⟩⟩
          ·rw [if_neg c78] at H
           have c78b0 : decide ((t418.length : Int)≤x10_74)=false:=decide_eq_false c78
           clear c78
           (first|rw [c78b0]|(simp only [i64_w,i32_w];rw [c78b0])|skip)
           by_cases c81 : 0≤x10_74
           ·rw [if_pos c81] at H
            have c81b0 : decide (0≤x10_74)=true:=decide_eq_true c81
            clear c81
            by_cases c82 : x10_74 < (t418.length : Int)
            ·rw [if_pos c82] at H
             have c82b0 : decide (x10_74 < (t418.length : Int))=true:=decide_eq_true c82
             clear c82
             by_cases c83 : 0≤x11_1
             ·rw [if_pos c83] at H
              have c83b0 : decide (0≤x11_1)=true:=decide_eq_true c83
              clear c83
              by_cases c84 : x11_1 < (t415.length : Int)
              ·rw [if_pos c84] at H
               have c84b0 : decide (x11_1 < (t415.length : Int))=true:=decide_eq_true c84
               clear c84
               replace H:=Option.bind_eq_some_iff.mp H
               obtain ⟨t427,A850,H⟩:=H
               replace H : (if t427=0 then (thresherlaw13_FoldKeys.j3 kj74 t404 t415 t418 x10_74 x11_1 (((rd_L5 t418 x10_74).length : Int) != (t405.length : Int)) t405 t408 t409 t410) else (thresherlaw13_FoldKeys.j3 kj74 t404 t415 t418 x10_74 x11_1 true t405 t408 t409 t410))=some r:=H
               have A85:=Aside0.mk A850
               clear A850
               by_cases c86 : t427=0
               ·rw [if_pos c86] at H
                have c86b0 : (t427 == 0)=true:=beq_iff_eq.mpr c86
                have c86b1 : (t427 != 0)=false:=bne_eq_false_iff_eq.mpr c86
                clear c86
                have H':=Aside0.mk H
                clear H
                try go_wp2
                have n0_:=Aside0.mk (Kd.N_drew HO_7.out)
                have n1_:=Aside0.mk (Kd.N_drew HO_8.out)
                have n2_:=Aside0.mk (Kd.R_drew HO_412000.out)
                have n3_:=Aside0.mk (blk_drew BK403.out)
                have n4_:=Aside0.mk (blk_drew BK411.out)
                have n5_:=Aside0.mk (below_drew1 HB.out)
                clear HO_7
                clear HO_8
                clear HO_412000
                clear BK403
                clear BK411
                clear HB
                have HO_7:=n0_
                have HO_8:=n1_
                have HO_412000:=n2_
                have BK403:=n3_
                have BK411:=n4_
                have HB:=n5_
                clear n0_ n1_ n2_ n3_ n4_ n5_
                obtain ⟨Ao88,co88,eo88⟩:=Kd.N_slice HO_8.out
                (first|subst eo88|(injection eo88 with f1_ f2_ f3_;have f4_:=f1_.symm;have f5_:=f3_.symm;clear f1_ f2_ f3_;subst f4_;subst f5_))
                have p425 : 0≤(x10_74 : Int):=of_decide_eq_true (by first|(with_reducible assumption)|assumption)
                have q425 : x10_74 < (t418.length : Int):=of_decide_eq_true (by first|(with_reducible assumption)|assumption)
                obtain ⟨ad425,A425_0,c425_0,e425,hx425_0,hl425_0,hi425_0⟩:=at_L5 (Kd.N_reads' HO_8.out).2.2 x10_74 p425 q425
                cases e425
                obtain ⟨ce425,hce425,hMe425,hcc425⟩:=Kd.N_get HO_8.out [] x10_74 p425 (by first|exact q425|exact of_decide_eq_true (by first|(with_reducible assumption)|assumption)|(have e_:=(Kd.N_reads' HO_8.out).1;omega))
                obtain ⟨ua425_0,uc425_0,rfl,ul425_0,ge425_0⟩:=Kd.FK_slice_open hMe425
                have hv425_0:=hcc425 0 _ rfl
                rw [Nat.add_zero,show ((Kd.slice 45 k45)).sz=1 from rfl,Nat.mul_one] at hv425_0
                replace hv425_0:=Option.some.inj (hv425_0.symm.trans hx425_0)
                injection hv425_0 with hva_ hvn_ hvc_
                rw [hva_] at ge425_0
                rw [hvc_] at ul425_0
                have HL425_0:=Aside0.mk (show Kd.V k45 45 _ w.heap.size _ _ (rd_L5 t418 x10_74) from Kd.V_mk ul425_0 ge425_0)
                clear hva_ hvn_ hvc_ ge425_0 ul425_0
                clear hcc425 hce425
                have HR425_0:=Aside0.mk hi425_0
                have HC425_0:=Aside0.mk hl425_0
                clear hi425_0 hl425_0
                replace p425:=eq_true p425
                replace q425:=eq_true q425
                have p426 : 0≤(x11_1 : Int):=of_decide_eq_true (by first|(with_reducible assumption)|assumption)
                have q426 : x11_1 < (t415.length : Int):=of_decide_eq_true (by first|(with_reducible assumption)|assumption)
                obtain ⟨ad426,A426_0,c426_0,e426,hx426_0,hl426_0,hi426_0⟩:=at_L5 (Kd.N_reads' HO_7.out).2.2 x11_1 p426 q426
                cases e426
                obtain ⟨ce426,hce426,hMe426,hcc426⟩:=Kd.N_get HO_7.out [] x11_1 p426 (by first|exact q426|exact of_decide_eq_true (by first|(with_reducible assumption)|assumption)|(have e_:=(Kd.N_reads' HO_7.out).1;omega))
                obtain ⟨ua426_0,uc426_0,rfl,ul426_0,ge426_0⟩:=Kd.FK_slice_open hMe426
                have hv426_0:=hcc426 0 _ rfl
                rw [Nat.add_zero,show ((Kd.slice 45 k45)).sz=1 from rfl,Nat.mul_one] at hv426_0
                replace hv426_0:=Option.some.inj (hv426_0.symm.trans hx426_0)
                injection hv426_0 with hva_ hvn_ hvc_
                rw [hva_] at ge426_0
                rw [hvc_] at ul426_0
                have HL426_0:=Aside0.mk (show Kd.V k45 45 _ w.heap.size _ _ (rd_L5 t415 x11_1) from Kd.V_mk ul426_0 ge426_0)
                clear hva_ hvn_ hvc_ ge426_0 ul426_0
                clear hcc426 hce426
                have HR426_0:=Aside0.mk hi426_0
                have HC426_0:=Aside0.mk hl426_0
                clear hi426_0 hl426_0
                replace p426:=eq_true p426
                replace q426:=eq_true q426
                have p428 : 0≤(x10_74 : Int):=of_decide_eq_true (by first|(with_reducible assumption)|assumption)
                have q428 : x10_74 < (t418.length : Int):=of_decide_eq_true (by first|(with_reducible assumption)|assumption)
                obtain ⟨ad428,A428_0,c428_0,e428,hx428_0,hl428_0,hi428_0⟩:=at_L5 (Kd.N_reads' HO_8.out).2.2 x10_74 p428 q428
                obtain rfl : ad425=ad428:=(by injection e428)
                obtain ⟨ce428,hce428,hMe428,hcc428⟩:=Kd.N_get HO_8.out [] x10_74 p428 (by first|exact q428|exact of_decide_eq_true (by first|(with_reducible assumption)|assumption)|(have e_:=(Kd.N_reads' HO_8.out).1;omega))
                obtain ⟨ua428_0,uc428_0,rfl,ul428_0,ge428_0⟩:=Kd.FK_slice_open hMe428
                have hv428_0:=hcc428 0 _ rfl
                rw [Nat.add_zero,show ((Kd.slice 45 k45)).sz=1 from rfl,Nat.mul_one] at hv428_0
                replace hv428_0:=Option.some.inj (hv428_0.symm.trans hx428_0)
                injection hv428_0 with hva_ hvn_ hvc_
                rw [hva_] at ge428_0
                rw [hvc_] at ul428_0
                have HL428_0:=Aside0.mk (show Kd.V k45 45 _ w.heap.size _ _ (rd_L5 t418 x10_74) from Kd.V_mk ul428_0 ge428_0)
                clear hva_ hvn_ hvc_ ge428_0 ul428_0
                clear hcc428 hce428
                have HR428_0:=Aside0.mk hi428_0
                have HC428_0:=Aside0.mk hl428_0
                clear hi428_0 hl428_0
                replace p428:=eq_true p428
                replace q428:=eq_true q428
                refine start_ (n:=28) (S:=fun w'=>w'.cell? ⟨gb411,0,none⟩=some (.slice Ao52 t405.length co52)∧w'.cell? ⟨gb411,1,none⟩=some (.int .i64 t408)∧w'.cell? ⟨gb411,2,none⟩=some (.int .i64 t409)∧w'.cell? ⟨gb411,3,none⟩=some (.int .i64 t410)∧w'.cell? (ad425.add (x10_74).toNat)=some (.slice A425_0 (rd_L5 t418 x10_74).length c425_0)∧w'.cell? (ad426.add (x11_1).toNat)=some (.slice A426_0 (rd_L5 t415 x11_1).length c426_0)∧w'.cell? (ad425.add (x10_74).toNat)=some (.slice A428_0 (rd_L5 t418 x10_74).length c428_0)) (ds:=[]) #[false,false,false,false,false,false,false,false,false,false,false,false,false,false,false,false,false,false,false,false,false,false,false,false,false,false,false,false] (by kernel_rfl) rfl rfl ⟨(blk_cell BK411.out 0).trans rfl,(blk_cell BK411.out 1).trans rfl,(blk_cell BK411.out 2).trans rfl,(blk_cell BK411.out 3).trans rfl,hx425_0,hx426_0,hx428_0⟩ (fun hHeld=>?_);refine with_tabW thresherlaw13_FoldKeys.tab14 thresherlaw13_FoldKeys.bits14 (fun HT_ HW_=>?_)
                generalize wc.drew=w87 at HO_7 HO_8 HO_412000 BK403 BK411 HB HL425_0 HL426_0 HL428_0 HR425_0 HR426_0 HR428_0 hx425_0 hx426_0 hx428_0 hHeld ⊢
                refine pure_ (i:=0) (N:=some 57) (v:=?_) (a':=?_) #[true,false,false,false,false,false,false,false,false,false,false,false,false,false,false,false,false,false,false,false,false,false,false,false,false,false,false,false] rfl rfl (any_of HT_.out (by kernel_rfl)) (fun _ _ _ h=>h) (Or.inl ⟨by rfl,?_⟩) ?_ ?_
                rotate_left;(intro w';go_simp;with_reducible rfl);rotate_left;(simp only [Act.put,List.setIfInBounds_toArray,List.set_cons_zero,List.set_cons_succ,i64_w,i32_w];rfl)
                refine pure_ (i:=1) (N:=some 58) (v:=?_) (a':=?_) #[true,true,false,false,false,false,false,false,false,false,false,false,false,false,false,false,false,false,false,false,false,false,false,false,false,false,false,false] rfl rfl (any_of HT_.out (by kernel_rfl)) (fun _ _ _ h=>h) (Or.inl ⟨by rfl,?_⟩) ?_ ?_
                rotate_left;(intro w';go_simp;with_reducible rfl);rotate_left;(simp only [Act.put,List.setIfInBounds_toArray,List.set_cons_zero,List.set_cons_succ,i64_w,i32_w];rfl)
                refine pure_ (i:=2) (N:=some 59) (v:=?_) (a':=?_) #[true,true,true,false,false,false,false,false,false,false,false,false,false,false,false,false,false,false,false,false,false,false,false,false,false,false,false,false] rfl rfl (any_of HT_.out (by kernel_rfl)) (fun _ _ _ h=>h) (Or.inl ⟨by rfl,?_⟩) ?_ ?_
                rotate_left;(intro w';go_simp;with_reducible rfl);rotate_left;(simp only [Act.put,List.setIfInBounds_toArray,List.set_cons_zero,List.set_cons_succ,i64_w,i32_w];rfl)
                refine pure_ (i:=3) (N:=some 60) (v:=?_) (a':=?_) #[true,true,true,true,false,false,false,false,false,false,false,false,false,false,false,false,false,false,false,false,false,false,false,false,false,false,false,false] rfl rfl (any_of HT_.out (by kernel_rfl)) (fun _ _ _ h=>h) (Or.inl ⟨by rfl,?_⟩) ?_ ?_
                rotate_left;(intro w';go_simp;with_reducible rfl);rotate_left;(simp only [Act.put,List.setIfInBounds_toArray,List.set_cons_zero,List.set_cons_succ,i64_w,i32_w];rfl)
                refine pure_ (i:=4) (N:=some 61) (v:=?_) (a':=?_) #[true,true,true,true,true,false,false,false,false,false,false,false,false,false,false,false,false,false,false,false,false,false,false,false,false,false,false,false] rfl rfl (any_of HT_.out (by kernel_rfl)) (fun _ _ _ h=>h) (Or.inl ⟨by rfl,?_⟩) ?_ ?_
                rotate_left;(intro w';go_simp;with_reducible rfl);rotate_left;(simp only [Act.put,List.setIfInBounds_toArray,List.set_cons_zero,List.set_cons_succ,i64_w,i32_w];rfl)
                refine pure_ (i:=6) (N:=some 63) (v:=?_) (a':=?_) #[true,true,true,true,true,false,true,false,false,false,false,false,false,false,false,false,false,false,false,false,false,false,false,false,false,false,false,false] rfl rfl (any_of HT_.out (by kernel_rfl)) (fun _ _ _ h=>h) (Or.inl ⟨by rfl,?_⟩) ?_ ?_
                rotate_left;(intro w';go_simp;with_reducible rfl);rotate_left;(simp only [Act.put,List.setIfInBounds_toArray,List.set_cons_zero,List.set_cons_succ,i64_w,i32_w];rfl)
                refine pure_ (i:=7) (N:=some 64) (v:=?_) (a':=?_) #[true,true,true,true,true,false,true,true,false,false,false,false,false,false,false,false,false,false,false,false,false,false,false,false,false,false,false,false] rfl rfl (any_of HT_.out (by kernel_rfl)) (fun _ _ _ h=>h) (Or.inl ⟨by rfl,?_⟩) ?_ ?_
                rotate_left;(intro w';go_simp;with_reducible rfl);rotate_left;(simp only [Act.put,List.setIfInBounds_toArray,List.set_cons_zero,List.set_cons_succ,i64_w,i32_w];rfl)
                refine pure_ (i:=8) (N:=some 65) (v:=?_) (a':=?_) #[true,true,true,true,true,false,true,true,true,false,false,false,false,false,false,false,false,false,false,false,false,false,false,false,false,false,false,false] rfl rfl (any_of HT_.out (by kernel_rfl)) (fun _ _ _ h=>h) (Or.inl ⟨by rfl,?_⟩) ?_ ?_
                rotate_left;(intro w';go_simp;with_reducible rfl);rotate_left;(simp only [Act.put,List.setIfInBounds_toArray,List.set_cons_zero,List.set_cons_succ,i64_w,i32_w];rfl)
                refine pure_ (i:=10) (N:=some 67) (v:=?_) (a':=?_) #[true,true,true,true,true,false,true,true,true,false,true,false,false,false,false,false,false,false,false,false,false,false,false,false,false,false,false,false] rfl rfl (any_of HT_.out (by kernel_rfl)) (fun _ _ _ h=>h) (Or.inl ⟨by rfl,?_⟩) ?_ ?_
                rotate_left;(intro w';go_simp;with_reducible rfl);rotate_left;(simp only [Act.put,List.setIfInBounds_toArray,List.set_cons_zero,List.set_cons_succ,i64_w,i32_w];rfl)
                refine pure_ (i:=11) (N:=some 68) (v:=?_) (a':=?_) #[true,true,true,true,true,false,true,true,true,false,true,true,false,false,false,false,false,false,false,false,false,false,false,false,false,false,false,false] rfl rfl (any_of HT_.out (by kernel_rfl)) (fun _ _ _ h=>h) (Or.inl ⟨by rfl,?_⟩) ?_ ?_
                rotate_left;(intro w';go_simp;with_reducible rfl);rotate_left;(simp only [Act.put,List.setIfInBounds_toArray,List.set_cons_zero,List.set_cons_succ,i64_w,i32_w];rfl)
                refine pure_ (i:=12) (N:=some 69) (v:=?_) (a':=?_) #[true,true,true,true,true,false,true,true,true,false,true,true,true,false,false,false,false,false,false,false,false,false,false,false,false,false,false,false] rfl rfl (any_of HT_.out (by kernel_rfl)) (fun _ _ _ h=>h) (Or.inl ⟨by rfl,?_⟩) ?_ ?_
                rotate_left;(intro w';go_simp;with_reducible rfl);rotate_left;(simp only [Act.put,List.setIfInBounds_toArray,List.set_cons_zero,List.set_cons_succ,i64_w,i32_w];rfl)
                refine take_ (i:=5) (N:=some 62) (v:=?_) (a':=?_) #[true,true,true,true,true,true,true,true,true,false,true,true,true,false,false,false,false,false,false,false,false,false,false,false,false,false,false,false] rfl rfl (take_ofW HT_.out HW_.out (by kernel_rfl)) (fun _ _ _ h=>h) (Or.inl ⟨by rfl,?_⟩) hHeld ?_ ?_
                rotate_left;(rintro w' ⟨s0,s1,s2,s3,s4,s5,s6⟩;go_simp;with_reducible rfl);rotate_left;(simp only [Act.put,List.setIfInBounds_toArray,List.set_cons_zero,List.set_cons_succ,i64_w,i32_w];rfl)
                refine take_ (i:=9) (N:=some 66) (v:=?_) (a':=?_) #[true,true,true,true,true,true,true,true,true,true,true,true,true,false,false,false,false,false,false,false,false,false,false,false,false,false,false,false] rfl rfl (take_ofW HT_.out HW_.out (by kernel_rfl)) (fun _ _ _ h=>h) (Or.inl ⟨by rfl,?_⟩) hHeld ?_ ?_
                rotate_left;(rintro w' ⟨s0,s1,s2,s3,s4,s5,s6⟩;go_simp;with_reducible rfl);rotate_left;(simp only [Act.put,List.setIfInBounds_toArray,List.set_cons_zero,List.set_cons_succ,i64_w,i32_w];rfl)
                refine take_ (i:=13) (N:=some 70) (v:=?_) (a':=?_) #[true,true,true,true,true,true,true,true,true,true,true,true,true,true,false,false,false,false,false,false,false,false,false,false,false,false,false,false] rfl rfl (take_ofW HT_.out HW_.out (by kernel_rfl)) (fun _ _ _ h=>h) (Or.inl ⟨by rfl,?_⟩) hHeld ?_ ?_
                rotate_left;(rintro w' ⟨s0,s1,s2,s3,s4,s5,s6⟩;go_simp;with_reducible rfl);rotate_left;(simp only [Act.put,List.setIfInBounds_toArray,List.set_cons_zero,List.set_cons_succ,i64_w,i32_w];rfl)
                refine one_ (i:=14) (N:=some 71) #[true,true,true,true,true,true,true,true,true,true,true,true,true,true,true,false,false,false,false,false,false,false,false,false,false,false,false,false] rfl rfl (one_of HT_.out (by kernel_rfl)) (by decide) (fun K hK=>?_)
                refine goes_ Try.func15 (by kernel_rfl) rfl #[.agg #[.slice Ao52 t405.length co52,.int .i64 t408,.int .i64 t409,.int .i64 t410],.slice A425_0 (rd_L5 t418 x10_74).length c425_0,.slice A426_0 (rd_L5 t415 x11_1).length c426_0] (by rfl) rfl rfl (by (try simp only [List.map_toArray,List.map_cons,List.map_nil]);first|done|rfl|(simp only [List.length_drop,List.length_take];rfl)) ?_
                with_reducible refine (thresherref04_Compare.calls kj74 _ _ t405 t408 t409 t410 _ _ (rd_L5 t418 x10_74) _ _ (rd_L5 t415 x11_1) t427 _ ?side1 ?side2 ?side3 ?side4 ?side5 ?side6 A85.out).mono ?_
                (case side1=>repeat (first|exact (Kd.R_reads' HO_412000.out).2.2|(with_reducible refine Kd.C_alloc ?_ _)|(with_reducible refine Kd.C_drewN ?_ _)|(with_reducible refine Kd.C_drew ?_)))
                (case side2=>exact (Kd.R_reads' HO_412000.out).2.1)
                (case side3=>repeat (first|exact (by repeat (first|(with_reducible exact HR425_0.out)|(with_reducible refine Kd.C_alloc ?_ _)|(with_reducible refine Kd.C_drewN ?_ _)|(with_reducible refine Kd.C_drew ?_)|exact HR425_0.out))|(with_reducible refine Kd.C_alloc ?_ _)|(with_reducible refine Kd.C_drewN ?_ _)|(with_reducible refine Kd.C_drew ?_)))
                (case side4=>exact HC425_0.out)
                (case side5=>repeat (first|exact (by repeat (first|(with_reducible exact HR426_0.out)|(with_reducible refine Kd.C_alloc ?_ _)|(with_reducible refine Kd.C_drewN ?_ _)|(with_reducible refine Kd.C_drew ?_)|exact HR426_0.out))|(with_reducible refine Kd.C_alloc ?_ _)|(with_reducible refine Kd.C_drewN ?_ _)|(with_reducible refine Kd.C_drew ?_)))
                (case side6=>exact HC426_0.out)
                rintro e w89 ⟨rfl,hb⟩
                have HS4_:=(hb.cell (World.block_lt_of_cell? _ _ (hHeld.2.2.2.2.1))).trans (hHeld.2.2.2.2.1)
                have HS5_:=(hb.cell (World.block_lt_of_cell? _ _ (hHeld.2.2.2.2.2.1))).trans (hHeld.2.2.2.2.2.1)
                have HS6_:=(hb.cell (World.block_lt_of_cell? _ _ (hHeld.2.2.2.2.2.2))).trans (hHeld.2.2.2.2.2.2)
                refine ⟨_,rfl,?_⟩
                have n0_:=Aside0.mk (Kd.N_below (by (with_reducible repeat (first|apply Kd.N_alloc|apply Kd.N_drewN|apply Kd.N_drew));exact HO_7.out) hb)
                have n1_:=Aside0.mk (Kd.N_below (by (with_reducible repeat (first|apply Kd.N_alloc|apply Kd.N_drewN|apply Kd.N_drew));exact HO_8.out) hb)
                have n2_:=Aside0.mk (Kd.R_below (by (with_reducible repeat (first|apply Kd.R_alloc|apply Kd.R_drewN|apply Kd.R_drew));exact HO_412000.out) hb)
                have n3_:=Aside0.mk (Kd.V_below (by (with_reducible repeat (first|apply Kd.V_alloc|apply Kd.V_drewN|apply Kd.V_drew));exact HL425_0.out) hb)
                have n4_:=Aside0.mk (Kd.V_below (by (with_reducible repeat (first|apply Kd.V_alloc|apply Kd.V_drewN|apply Kd.V_drew));exact HL426_0.out) hb)
                have n5_:=Aside0.mk (blk_below (g:=gb403) (o:=.cells #[.int .u8 a0_0,.int .u8 a0_1,.int .u8 a0_2,.int .u8 a0_3,.int .u8 a0_4,.int .u8 a0_5,.int .u8 a0_6,.int .u8 a0_7,.int .u8 a0_8,.int .u8 a0_9,.int .u8 a0_10,.int .u8 a0_11] 24 (0,0)) (by (with_reducible repeat (first|refine blk_drewN ?_ _|refine blk_drew ?_|refine blk_alloc ?_ _));exact BK403.out) hb)
                have n6_:=Aside0.mk (blk_below (g:=gb411) (o:=.cells #[.slice Ao52 t405.length co52,.int .i64 t408,.int .i64 t409,.int .i64 t410] 29 (0,0)) (by (with_reducible repeat (first|refine blk_drewN ?_ _|refine blk_drew ?_|refine blk_alloc ?_ _));exact BK411.out) hb)
                have n7_:=Aside0.mk (Kd.C_below (by repeat (first|(with_reducible exact HR425_0.out)|(with_reducible refine Kd.C_alloc ?_ _)|(with_reducible refine Kd.C_drewN ?_ _)|(with_reducible refine Kd.C_drew ?_)|exact HR425_0.out)) hb)
                have n8_:=Aside0.mk (Kd.C_below (by repeat (first|(with_reducible exact HR426_0.out)|(with_reducible refine Kd.C_alloc ?_ _)|(with_reducible refine Kd.C_drewN ?_ _)|(with_reducible refine Kd.C_drew ?_)|exact HR426_0.out)) hb)
                have n9_:=Aside0.mk (below_step (by repeat (first|(with_reducible first|exact HB.out|apply below_alloc|apply pw_below_drewN|apply below_drew1|refine below_set ?_ GE403.out|refine below_set ?_ GE411.out)|exact HB.out)) hb)
                clear HO_7
                clear HO_8
                clear HO_412000
                clear HL425_0
                clear HL426_0
                clear BK403
                clear BK411
                clear HR425_0
                clear HR426_0
                clear HB
                have HO_7:=n0_
                have HO_8:=n1_
                have HO_412000:=n2_
                have HL425_0:=n3_
                have HL426_0:=n4_
                have BK403:=n5_
                have BK411:=n6_
                have HR425_0:=n7_
                have HR426_0:=n8_
                have HB:=n9_
                clear n0_ n1_ n2_ n3_ n4_ n5_ n6_ n7_ n8_ n9_
                (try clear hb)
                (try clear hb2)
                (try clear hk)
                (try clear hi)
                refine hK.out _ _ ⟨(blk_cell BK411.out 0).trans rfl,(blk_cell BK411.out 1).trans rfl,(blk_cell BK411.out 2).trans rfl,(blk_cell BK411.out 3).trans rfl,HS4_,HS5_,HS6_⟩ (fun hHeld=>?_)
                clear hK K
                refine norm_ (a':=?_) ?_ ?_
                rotate_left
                ·show Act.put _ (some 71) _=_
                 simp only [Act.put,List.setIfInBounds_toArray,List.set_cons_zero,List.set_cons_succ,i64_w,i32_w]
                 rfl
                refine pure_ (i:=15) (N:=some 72) (v:=?_) (a':=?_) #[true,true,true,true,true,true,true,true,true,true,true,true,true,true,true,true,false,false,false,false,false,false,false,false,false,false,false,false] rfl rfl (any_of HT_.out (by kernel_rfl)) (fun _ _ _ h=>h) (Or.inl ⟨by rfl,?_⟩) ?_ ?_
                rotate_left;(intro w';go_simp;with_reducible rfl);rotate_left;(simp only [Act.put,List.setIfInBounds_toArray,List.set_cons_zero,List.set_cons_succ,i64_w,i32_w];rfl)
                refine pure_ (i:=16) (N:=some 73) (v:=?_) (a':=?_) #[true,true,true,true,true,true,true,true,true,true,true,true,true,true,true,true,true,false,false,false,false,false,false,false,false,false,false,false] rfl rfl (any_of HT_.out (by kernel_rfl)) (fun _ _ _ h=>h) (Or.inl ⟨by rfl,?_⟩) ?_ ?_
                rotate_left;(intro w';go_simp;with_reducible rfl);rotate_left;(simp only [Act.put,List.setIfInBounds_toArray,List.set_cons_zero,List.set_cons_succ,i64_w,i32_w];rfl)
                refine pure_ (i:=17) (N:=some 74) (v:=?_) (a':=?_) #[true,true,true,true,true,true,true,true,true,true,true,true,true,true,true,true,true,true,false,false,false,false,false,false,false,false,false,false] rfl rfl (any_of HT_.out (by kernel_rfl)) (fun _ _ _ h=>h) (Or.inl ⟨by rfl,?_⟩) ?_ ?_
                rotate_left;(intro w';go_simp;with_reducible rfl);rotate_left;(simp only [Act.put,List.setIfInBounds_toArray,List.set_cons_zero,List.set_cons_succ,i64_w,i32_w];rfl)
                refine pure_ (i:=18) (N:=some 75) (v:=?_) (a':=?_) #[true,true,true,true,true,true,true,true,true,true,true,true,true,true,true,true,true,true,true,false,false,false,false,false,false,false,false,false] rfl rfl (any_of HT_.out (by kernel_rfl)) (fun _ _ _ h=>h) (Or.inl ⟨by rfl,?_⟩) ?_ ?_
                rotate_left;(intro w';go_simp;with_reducible rfl);rotate_left;(simp only [Act.put,List.setIfInBounds_toArray,List.set_cons_zero,List.set_cons_succ,i64_w,i32_w];rfl)
                refine pure_ (i:=19) (N:=some 76) (v:=?_) (a':=?_) #[true,true,true,true,true,true,true,true,true,true,true,true,true,true,true,true,true,true,true,true,false,false,false,false,false,false,false,false] rfl rfl (any_of HT_.out (by kernel_rfl)) (fun _ _ _ h=>h) (Or.inl ⟨by rfl,?_⟩) ?_ ?_
                rotate_left;(intro w';go_simp;with_reducible rfl);rotate_left;(simp only [Act.put,List.setIfInBounds_toArray,List.set_cons_zero,List.set_cons_succ,i64_w,i32_w];rfl)
                refine pure_ (i:=20) (N:=some 77) (v:=?_) (a':=?_) #[true,true,true,true,true,true,true,true,true,true,true,true,true,true,true,true,true,true,true,true,true,false,false,false,false,false,false,false] rfl rfl (any_of HT_.out (by kernel_rfl)) (fun _ _ _ h=>h) (Or.inl ⟨by rfl,?_⟩) ?_ ?_
                rotate_left;(intro w';go_simp;with_reducible rfl);rotate_left;(simp only [Act.put,List.setIfInBounds_toArray,List.set_cons_zero,List.set_cons_succ,i64_w,i32_w];rfl)
                refine pure_ (i:=23) (N:=some 80) (v:=?_) (a':=?_) #[true,true,true,true,true,true,true,true,true,true,true,true,true,true,true,true,true,true,true,true,true,false,false,true,false,false,false,false] rfl rfl (any_of HT_.out (by kernel_rfl)) (fun _ _ _ h=>h) (Or.inl ⟨by rfl,?_⟩) ?_ ?_
                rotate_left;(intro w';go_simp;with_reducible rfl);rotate_left;(simp only [Act.put,List.setIfInBounds_toArray,List.set_cons_zero,List.set_cons_succ,i64_w,i32_w];rfl)
                refine take_ (i:=21) (N:=some 78) (v:=?_) (a':=?_) #[true,true,true,true,true,true,true,true,true,true,true,true,true,true,true,true,true,true,true,true,true,true,false,true,false,false,false,false] rfl rfl (take_ofW HT_.out HW_.out (by kernel_rfl)) (fun _ _ _ h=>h) (Or.inl ⟨by rfl,?_⟩) hHeld ?_ ?_
                rotate_left;(rintro w' ⟨s0,s1,s2,s3,s4,s5,s6⟩;go_simp;with_reducible rfl);rotate_left;(simp only [Act.put,List.setIfInBounds_toArray,List.set_cons_zero,List.set_cons_succ,i64_w,i32_w];rfl)
                refine pure_ (i:=22) (N:=some 79) (v:=?_) (a':=?_) #[true,true,true,true,true,true,true,true,true,true,true,true,true,true,true,true,true,true,true,true,true,true,true,true,false,false,false,false] rfl rfl (any_of HT_.out (by kernel_rfl)) (fun _ _ _ h=>h) (Or.inl ⟨by rfl,?_⟩) ?_ ?_
                rotate_left;(intro w';go_simp;with_reducible rfl);rotate_left;(simp only [Act.put,List.setIfInBounds_toArray,List.set_cons_zero,List.set_cons_succ,i64_w,i32_w];rfl)
                refine take_ (i:=24) (N:=some 81) (v:=?_) (a':=?_) #[true,true,true,true,true,true,true,true,true,true,true,true,true,true,true,true,true,true,true,true,true,true,true,true,true,false,false,false] rfl rfl (take_ofW HT_.out HW_.out (by kernel_rfl)) (fun _ _ _ h=>h) (Or.inl ⟨by rfl,?_⟩) hHeld ?_ ?_
                rotate_left;(rintro w' ⟨s0,s1,s2,s3,s4,s5,s6⟩;go_simp;with_reducible rfl);rotate_left;(simp only [Act.put,List.setIfInBounds_toArray,List.set_cons_zero,List.set_cons_succ,i64_w,i32_w];rfl)
                refine pure_ (i:=25) (N:=some 82) (v:=?_) (a':=?_) #[true,true,true,true,true,true,true,true,true,true,true,true,true,true,true,true,true,true,true,true,true,true,true,true,true,true,false,false] rfl rfl (any_of HT_.out (by kernel_rfl)) (fun _ _ _ h=>h) (Or.inl ⟨by rfl,?_⟩) ?_ ?_
                rotate_left;(intro w';go_simp;with_reducible rfl);rotate_left;(simp only [Act.put,List.setIfInBounds_toArray,List.set_cons_zero,List.set_cons_succ,i64_w,i32_w];rfl)
                refine pure_ (i:=26) (N:=some 83) (v:=?_) (a':=?_) #[true,true,true,true,true,true,true,true,true,true,true,true,true,true,true,true,true,true,true,true,true,true,true,true,true,true,true,false] rfl rfl (any_of HT_.out (by kernel_rfl)) (fun _ _ _ h=>h) (Or.inl ⟨by rfl,?_⟩) ?_ ?_
                rotate_left;(intro w';go_simp;with_reducible rfl);rotate_left;(simp only [Act.put,List.setIfInBounds_toArray,List.set_cons_zero,List.set_cons_succ,i64_w,i32_w];rfl)
                refine pure_ (i:=27) (N:=some 84) (v:=?_) (a':=?_) #[true,true,true,true,true,true,true,true,true,true,true,true,true,true,true,true,true,true,true,true,true,true,true,true,true,true,true,true] rfl rfl (any_of HT_.out (by kernel_rfl)) (fun _ _ _ h=>h) (Or.inl ⟨by rfl,?_⟩) ?_ ?_
                rotate_left;(intro w';go_simp;with_reducible rfl);rotate_left;(simp only [Act.put,List.setIfInBounds_toArray,List.set_cons_zero,List.set_cons_succ,i64_w,i32_w];rfl)
                refine done_ (done_of HT_.out (by kernel_rfl)) ?_
                (try clear HS4_);(try clear HS5_);(try clear HS6_);(try clear hHeld)
                try go_wp2
                go_meet
                case rel=>exact ⟨_,((((rd_L5 t418 x10_74).length : Int) != (t405.length : Int))),(by first|rfl|(simp;done)|(simp [*];done)),(by first|exact H'|(subst_vars;exact H')),⟨by have:=HK1.out;have:=HJ64.out;have:=HJ74.out;first|omega|exact Nat.le_refl _⟩,⟨by (with_reducible repeat (first|apply Kd.N_alloc|apply Kd.N_drewN|apply Kd.N_drew));exact HO_7.out⟩,⟨by (with_reducible repeat (first|apply Kd.N_alloc|apply Kd.N_drewN|apply Kd.N_drew));exact HO_8.out⟩,⟨by (with_reducible repeat (first|apply Kd.R_alloc|apply Kd.R_drewN|apply Kd.R_drew));exact HO_412000.out⟩,⟨by (with_reducible repeat (first|refine blk_drewN ?_ _|refine blk_drew ?_|refine blk_alloc ?_ _));exact BK403.out⟩,⟨by (with_reducible repeat (first|refine blk_drewN ?_ _|refine blk_drew ?_|refine blk_alloc ?_ _));exact BK411.out⟩,⟨by repeat (first|(with_reducible first|exact HB.out|apply below_alloc|apply pw_below_drewN|apply below_drew1|refine below_set ?_ GE403.out|refine below_set ?_ GE411.out)|exact HB.out)⟩⟩
               ·rw [if_neg c86] at H
                have c86b0 : (t427 == 0)=false:=beq_eq_false_iff_ne.mpr c86
                have c86b1 : (t427 != 0)=true:=bne_iff_ne.mpr c86
                have H':=Aside0.mk H
                clear H
                try go_wp2
                have n0_:=Aside0.mk (Kd.N_drew HO_7.out)
                have n1_:=Aside0.mk (Kd.N_drew HO_8.out)
                have n2_:=Aside0.mk (Kd.R_drew HO_412000.out)
                have n3_:=Aside0.mk (blk_drew BK403.out)
                have n4_:=Aside0.mk (blk_drew BK411.out)
                have n5_:=Aside0.mk (below_drew1 HB.out)
                clear HO_7
                clear HO_8
                clear HO_412000
                clear BK403
                clear BK411
                clear HB
                have HO_7:=n0_
                have HO_8:=n1_
                have HO_412000:=n2_
                have BK403:=n3_
                have BK411:=n4_
                have HB:=n5_
                clear n0_ n1_ n2_ n3_ n4_ n5_
                obtain ⟨Ao91,co91,eo91⟩:=Kd.N_slice HO_8.out
                (first|subst eo91|(injection eo91 with f1_ f2_ f3_;have f4_:=f1_.symm;have f5_:=f3_.symm;clear f1_ f2_ f3_;subst f4_;subst f5_))
                have p425 : 0≤(x10_74 : Int):=of_decide_eq_true (by first|(with_reducible assumption)|assumption)
                have q425 : x10_74 < (t418.length : Int):=of_decide_eq_true (by first|(with_reducible assumption)|assumption)
                obtain ⟨ad425,A425_0,c425_0,e425,hx425_0,hl425_0,hi425_0⟩:=at_L5 (Kd.N_reads' HO_8.out).2.2 x10_74 p425 q425
                cases e425
                obtain ⟨ce425,hce425,hMe425,hcc425⟩:=Kd.N_get HO_8.out [] x10_74 p425 (by first|exact q425|exact of_decide_eq_true (by first|(with_reducible assumption)|assumption)|(have e_:=(Kd.N_reads' HO_8.out).1;omega))
                obtain ⟨ua425_0,uc425_0,rfl,ul425_0,ge425_0⟩:=Kd.FK_slice_open hMe425
                have hv425_0:=hcc425 0 _ rfl
                rw [Nat.add_zero,show ((Kd.slice 45 k45)).sz=1 from rfl,Nat.mul_one] at hv425_0
                replace hv425_0:=Option.some.inj (hv425_0.symm.trans hx425_0)
                injection hv425_0 with hva_ hvn_ hvc_
                rw [hva_] at ge425_0
                rw [hvc_] at ul425_0
                have HL425_0:=Aside0.mk (show Kd.V k45 45 _ w.heap.size _ _ (rd_L5 t418 x10_74) from Kd.V_mk ul425_0 ge425_0)
                clear hva_ hvn_ hvc_ ge425_0 ul425_0
                clear hcc425 hce425
                have HR425_0:=Aside0.mk hi425_0
                have HC425_0:=Aside0.mk hl425_0
                clear hi425_0 hl425_0
                replace p425:=eq_true p425
                replace q425:=eq_true q425
                have p426 : 0≤(x11_1 : Int):=of_decide_eq_true (by first|(with_reducible assumption)|assumption)
                have q426 : x11_1 < (t415.length : Int):=of_decide_eq_true (by first|(with_reducible assumption)|assumption)
                obtain ⟨ad426,A426_0,c426_0,e426,hx426_0,hl426_0,hi426_0⟩:=at_L5 (Kd.N_reads' HO_7.out).2.2 x11_1 p426 q426
                cases e426
                obtain ⟨ce426,hce426,hMe426,hcc426⟩:=Kd.N_get HO_7.out [] x11_1 p426 (by first|exact q426|exact of_decide_eq_true (by first|(with_reducible assumption)|assumption)|(have e_:=(Kd.N_reads' HO_7.out).1;omega))
                obtain ⟨ua426_0,uc426_0,rfl,ul426_0,ge426_0⟩:=Kd.FK_slice_open hMe426
                have hv426_0:=hcc426 0 _ rfl
                rw [Nat.add_zero,show ((Kd.slice 45 k45)).sz=1 from rfl,Nat.mul_one] at hv426_0
                replace hv426_0:=Option.some.inj (hv426_0.symm.trans hx426_0)
                injection hv426_0 with hva_ hvn_ hvc_
                rw [hva_] at ge426_0
                rw [hvc_] at ul426_0
                have HL426_0:=Aside0.mk (show Kd.V k45 45 _ w.heap.size _ _ (rd_L5 t415 x11_1) from Kd.V_mk ul426_0 ge426_0)
                clear hva_ hvn_ hvc_ ge426_0 ul426_0
                clear hcc426 hce426
                have HR426_0:=Aside0.mk hi426_0
                have HC426_0:=Aside0.mk hl426_0
                clear hi426_0 hl426_0
                replace p426:=eq_true p426
                replace q426:=eq_true q426
                refine start_ (n:=28) (S:=fun w'=>w'.cell? ⟨gb411,0,none⟩=some (.slice Ao52 t405.length co52)∧w'.cell? ⟨gb411,1,none⟩=some (.int .i64 t408)∧w'.cell? ⟨gb411,2,none⟩=some (.int .i64 t409)∧w'.cell? ⟨gb411,3,none⟩=some (.int .i64 t410)∧w'.cell? (ad425.add (x10_74).toNat)=some (.slice A425_0 (rd_L5 t418 x10_74).length c425_0)∧w'.cell? (ad426.add (x11_1).toNat)=some (.slice A426_0 (rd_L5 t415 x11_1).length c426_0)) (ds:=[]) #[false,false,false,false,false,false,false,false,false,false,false,false,false,false,false,false,false,false,false,false,false,false,false,false,false,false,false,false] (by kernel_rfl) rfl rfl ⟨(blk_cell BK411.out 0).trans rfl,(blk_cell BK411.out 1).trans rfl,(blk_cell BK411.out 2).trans rfl,(blk_cell BK411.out 3).trans rfl,hx425_0,hx426_0⟩ (fun hHeld=>?_);refine with_tabW thresherlaw13_FoldKeys.tab14 thresherlaw13_FoldKeys.bits14 (fun HT_ HW_=>?_)
                generalize wc.drew=w90 at HO_7 HO_8 HO_412000 BK403 BK411 HB HL425_0 HL426_0 HR425_0 HR426_0 hx425_0 hx426_0 hHeld ⊢
                refine pure_ (i:=0) (N:=some 57) (v:=?_) (a':=?_) #[true,false,false,false,false,false,false,false,false,false,false,false,false,false,false,false,false,false,false,false,false,false,false,false,false,false,false,false] rfl rfl (any_of HT_.out (by kernel_rfl)) (fun _ _ _ h=>h) (Or.inl ⟨by rfl,?_⟩) ?_ ?_
                rotate_left;(intro w';go_simp;with_reducible rfl);rotate_left;(simp only [Act.put,List.setIfInBounds_toArray,List.set_cons_zero,List.set_cons_succ,i64_w,i32_w];rfl)
                refine pure_ (i:=1) (N:=some 58) (v:=?_) (a':=?_) #[true,true,false,false,false,false,false,false,false,false,false,false,false,false,false,false,false,false,false,false,false,false,false,false,false,false,false,false] rfl rfl (any_of HT_.out (by kernel_rfl)) (fun _ _ _ h=>h) (Or.inl ⟨by rfl,?_⟩) ?_ ?_
                rotate_left;(intro w';go_simp;with_reducible rfl);rotate_left;(simp only [Act.put,List.setIfInBounds_toArray,List.set_cons_zero,List.set_cons_succ,i64_w,i32_w];rfl)
                refine pure_ (i:=2) (N:=some 59) (v:=?_) (a':=?_) #[true,true,true,false,false,false,false,false,false,false,false,false,false,false,false,false,false,false,false,false,false,false,false,false,false,false,false,false] rfl rfl (any_of HT_.out (by kernel_rfl)) (fun _ _ _ h=>h) (Or.inl ⟨by rfl,?_⟩) ?_ ?_
                rotate_left;(intro w';go_simp;with_reducible rfl);rotate_left;(simp only [Act.put,List.setIfInBounds_toArray,List.set_cons_zero,List.set_cons_succ,i64_w,i32_w];rfl)
                refine pure_ (i:=3) (N:=some 60) (v:=?_) (a':=?_) #[true,true,true,true,false,false,false,false,false,false,false,false,false,false,false,false,false,false,false,false,false,false,false,false,false,false,false,false] rfl rfl (any_of HT_.out (by kernel_rfl)) (fun _ _ _ h=>h) (Or.inl ⟨by rfl,?_⟩) ?_ ?_
                rotate_left;(intro w';go_simp;with_reducible rfl);rotate_left;(simp only [Act.put,List.setIfInBounds_toArray,List.set_cons_zero,List.set_cons_succ,i64_w,i32_w];rfl)
                refine pure_ (i:=4) (N:=some 61) (v:=?_) (a':=?_) #[true,true,true,true,true,false,false,false,false,false,false,false,false,false,false,false,false,false,false,false,false,false,false,false,false,false,false,false] rfl rfl (any_of HT_.out (by kernel_rfl)) (fun _ _ _ h=>h) (Or.inl ⟨by rfl,?_⟩) ?_ ?_
                rotate_left;(intro w';go_simp;with_reducible rfl);rotate_left;(simp only [Act.put,List.setIfInBounds_toArray,List.set_cons_zero,List.set_cons_succ,i64_w,i32_w];rfl)
                refine pure_ (i:=6) (N:=some 63) (v:=?_) (a':=?_) #[true,true,true,true,true,false,true,false,false,false,false,false,false,false,false,false,false,false,false,false,false,false,false,false,false,false,false,false] rfl rfl (any_of HT_.out (by kernel_rfl)) (fun _ _ _ h=>h) (Or.inl ⟨by rfl,?_⟩) ?_ ?_
                rotate_left;(intro w';go_simp;with_reducible rfl);rotate_left;(simp only [Act.put,List.setIfInBounds_toArray,List.set_cons_zero,List.set_cons_succ,i64_w,i32_w];rfl)
                refine pure_ (i:=7) (N:=some 64) (v:=?_) (a':=?_) #[true,true,true,true,true,false,true,true,false,false,false,false,false,false,false,false,false,false,false,false,false,false,false,false,false,false,false,false] rfl rfl (any_of HT_.out (by kernel_rfl)) (fun _ _ _ h=>h) (Or.inl ⟨by rfl,?_⟩) ?_ ?_
                rotate_left;(intro w';go_simp;with_reducible rfl);rotate_left;(simp only [Act.put,List.setIfInBounds_toArray,List.set_cons_zero,List.set_cons_succ,i64_w,i32_w];rfl)
                refine pure_ (i:=8) (N:=some 65) (v:=?_) (a':=?_) #[true,true,true,true,true,false,true,true,true,false,false,false,false,false,false,false,false,false,false,false,false,false,false,false,false,false,false,false] rfl rfl (any_of HT_.out (by kernel_rfl)) (fun _ _ _ h=>h) (Or.inl ⟨by rfl,?_⟩) ?_ ?_
                rotate_left;(intro w';go_simp;with_reducible rfl);rotate_left;(simp only [Act.put,List.setIfInBounds_toArray,List.set_cons_zero,List.set_cons_succ,i64_w,i32_w];rfl)
                refine pure_ (i:=10) (N:=some 67) (v:=?_) (a':=?_) #[true,true,true,true,true,false,true,true,true,false,true,false,false,false,false,false,false,false,false,false,false,false,false,false,false,false,false,false] rfl rfl (any_of HT_.out (by kernel_rfl)) (fun _ _ _ h=>h) (Or.inl ⟨by rfl,?_⟩) ?_ ?_
                rotate_left;(intro w';go_simp;with_reducible rfl);rotate_left;(simp only [Act.put,List.setIfInBounds_toArray,List.set_cons_zero,List.set_cons_succ,i64_w,i32_w];rfl)
                refine pure_ (i:=11) (N:=some 68) (v:=?_) (a':=?_) #[true,true,true,true,true,false,true,true,true,false,true,true,false,false,false,false,false,false,false,false,false,false,false,false,false,false,false,false] rfl rfl (any_of HT_.out (by kernel_rfl)) (fun _ _ _ h=>h) (Or.inl ⟨by rfl,?_⟩) ?_ ?_
                rotate_left;(intro w';go_simp;with_reducible rfl);rotate_left;(simp only [Act.put,List.setIfInBounds_toArray,List.set_cons_zero,List.set_cons_succ,i64_w,i32_w];rfl)
                refine pure_ (i:=12) (N:=some 69) (v:=?_) (a':=?_) #[true,true,true,true,true,false,true,true,true,false,true,true,true,false,false,false,false,false,false,false,false,false,false,false,false,false,false,false] rfl rfl (any_of HT_.out (by kernel_rfl)) (fun _ _ _ h=>h) (Or.inl ⟨by rfl,?_⟩) ?_ ?_
                rotate_left;(intro w';go_simp;with_reducible rfl);rotate_left;(simp only [Act.put,List.setIfInBounds_toArray,List.set_cons_zero,List.set_cons_succ,i64_w,i32_w];rfl)
                refine take_ (i:=5) (N:=some 62) (v:=?_) (a':=?_) #[true,true,true,true,true,true,true,true,true,false,true,true,true,false,false,false,false,false,false,false,false,false,false,false,false,false,false,false] rfl rfl (take_ofW HT_.out HW_.out (by kernel_rfl)) (fun _ _ _ h=>h) (Or.inl ⟨by rfl,?_⟩) hHeld ?_ ?_
                rotate_left;(rintro w' ⟨s0,s1,s2,s3,s4,s5⟩;go_simp;with_reducible rfl);rotate_left;(simp only [Act.put,List.setIfInBounds_toArray,List.set_cons_zero,List.set_cons_succ,i64_w,i32_w];rfl)
                refine take_ (i:=9) (N:=some 66) (v:=?_) (a':=?_) #[true,true,true,true,true,true,true,true,true,true,true,true,true,false,false,false,false,false,false,false,false,false,false,false,false,false,false,false] rfl rfl (take_ofW HT_.out HW_.out (by kernel_rfl)) (fun _ _ _ h=>h) (Or.inl ⟨by rfl,?_⟩) hHeld ?_ ?_
                rotate_left;(rintro w' ⟨s0,s1,s2,s3,s4,s5⟩;go_simp;with_reducible rfl);rotate_left;(simp only [Act.put,List.setIfInBounds_toArray,List.set_cons_zero,List.set_cons_succ,i64_w,i32_w];rfl)
                refine take_ (i:=13) (N:=some 70) (v:=?_) (a':=?_) #[true,true,true,true,true,true,true,true,true,true,true,true,true,true,false,false,false,false,false,false,false,false,false,false,false,false,false,false] rfl rfl (take_ofW HT_.out HW_.out (by kernel_rfl)) (fun _ _ _ h=>h) (Or.inl ⟨by rfl,?_⟩) hHeld ?_ ?_
                rotate_left;(rintro w' ⟨s0,s1,s2,s3,s4,s5⟩;go_simp;with_reducible rfl);rotate_left;(simp only [Act.put,List.setIfInBounds_toArray,List.set_cons_zero,List.set_cons_succ,i64_w,i32_w];rfl)
                refine one_ (i:=14) (N:=some 71) #[true,true,true,true,true,true,true,true,true,true,true,true,true,true,true,false,false,false,false,false,false,false,false,false,false,false,false,false] rfl rfl (one_of HT_.out (by kernel_rfl)) (by decide) (fun K hK=>?_)
                refine goes_ Try.func15 (by kernel_rfl) rfl #[.agg #[.slice Ao52 t405.length co52,.int .i64 t408,.int .i64 t409,.int .i64 t410],.slice A425_0 (rd_L5 t418 x10_74).length c425_0,.slice A426_0 (rd_L5 t415 x11_1).length c426_0] (by rfl) rfl rfl (by (try simp only [List.map_toArray,List.map_cons,List.map_nil]);first|done|rfl|(simp only [List.length_drop,List.length_take];rfl)) ?_
                with_reducible refine (thresherref04_Compare.calls kj74 _ _ t405 t408 t409 t410 _ _ (rd_L5 t418 x10_74) _ _ (rd_L5 t415 x11_1) t427 _ ?side1 ?side2 ?side3 ?side4 ?side5 ?side6 A85.out).mono ?_
                (case side1=>repeat (first|exact (Kd.R_reads' HO_412000.out).2.2|(with_reducible refine Kd.C_alloc ?_ _)|(with_reducible refine Kd.C_drewN ?_ _)|(with_reducible refine Kd.C_drew ?_)))
                (case side2=>exact (Kd.R_reads' HO_412000.out).2.1)
                (case side3=>repeat (first|exact (by repeat (first|(with_reducible exact HR425_0.out)|(with_reducible refine Kd.C_alloc ?_ _)|(with_reducible refine Kd.C_drewN ?_ _)|(with_reducible refine Kd.C_drew ?_)|exact HR425_0.out))|(with_reducible refine Kd.C_alloc ?_ _)|(with_reducible refine Kd.C_drewN ?_ _)|(with_reducible refine Kd.C_drew ?_)))
                (case side4=>exact HC425_0.out)
                (case side5=>repeat (first|exact (by repeat (first|(with_reducible exact HR426_0.out)|(with_reducible refine Kd.C_alloc ?_ _)|(with_reducible refine Kd.C_drewN ?_ _)|(with_reducible refine Kd.C_drew ?_)|exact HR426_0.out))|(with_reducible refine Kd.C_alloc ?_ _)|(with_reducible refine Kd.C_drewN ?_ _)|(with_reducible refine Kd.C_drew ?_)))
                (case side6=>exact HC426_0.out)
                rintro e w92 ⟨rfl,hb⟩
                have HS4_:=(hb.cell (World.block_lt_of_cell? _ _ (hHeld.2.2.2.2.1))).trans (hHeld.2.2.2.2.1)
                have HS5_:=(hb.cell (World.block_lt_of_cell? _ _ (hHeld.2.2.2.2.2))).trans (hHeld.2.2.2.2.2)
                refine ⟨_,rfl,?_⟩
                have n0_:=Aside0.mk (Kd.N_below (by (with_reducible repeat (first|apply Kd.N_alloc|apply Kd.N_drewN|apply Kd.N_drew));exact HO_7.out) hb)
                have n1_:=Aside0.mk (Kd.N_below (by (with_reducible repeat (first|apply Kd.N_alloc|apply Kd.N_drewN|apply Kd.N_drew));exact HO_8.out) hb)
                have n2_:=Aside0.mk (Kd.R_below (by (with_reducible repeat (first|apply Kd.R_alloc|apply Kd.R_drewN|apply Kd.R_drew));exact HO_412000.out) hb)
                have n3_:=Aside0.mk (Kd.V_below (by (with_reducible repeat (first|apply Kd.V_alloc|apply Kd.V_drewN|apply Kd.V_drew));exact HL425_0.out) hb)
                have n4_:=Aside0.mk (Kd.V_below (by (with_reducible repeat (first|apply Kd.V_alloc|apply Kd.V_drewN|apply Kd.V_drew));exact HL426_0.out) hb)
                have n5_:=Aside0.mk (blk_below (g:=gb403) (o:=.cells #[.int .u8 a0_0,.int .u8 a0_1,.int .u8 a0_2,.int .u8 a0_3,.int .u8 a0_4,.int .u8 a0_5,.int .u8 a0_6,.int .u8 a0_7,.int .u8 a0_8,.int .u8 a0_9,.int .u8 a0_10,.int .u8 a0_11] 24 (0,0)) (by (with_reducible repeat (first|refine blk_drewN ?_ _|refine blk_drew ?_|refine blk_alloc ?_ _));exact BK403.out) hb)
                have n6_:=Aside0.mk (blk_below (g:=gb411) (o:=.cells #[.slice Ao52 t405.length co52,.int .i64 t408,.int .i64 t409,.int .i64 t410] 29 (0,0)) (by (with_reducible repeat (first|refine blk_drewN ?_ _|refine blk_drew ?_|refine blk_alloc ?_ _));exact BK411.out) hb)
                have n7_:=Aside0.mk (Kd.C_below (by repeat (first|(with_reducible exact HR425_0.out)|(with_reducible refine Kd.C_alloc ?_ _)|(with_reducible refine Kd.C_drewN ?_ _)|(with_reducible refine Kd.C_drew ?_)|exact HR425_0.out)) hb)
                have n8_:=Aside0.mk (Kd.C_below (by repeat (first|(with_reducible exact HR426_0.out)|(with_reducible refine Kd.C_alloc ?_ _)|(with_reducible refine Kd.C_drewN ?_ _)|(with_reducible refine Kd.C_drew ?_)|exact HR426_0.out)) hb)
                have n9_:=Aside0.mk (below_step (by repeat (first|(with_reducible first|exact HB.out|apply below_alloc|apply pw_below_drewN|apply below_drew1|refine below_set ?_ GE403.out|refine below_set ?_ GE411.out)|exact HB.out)) hb)
                clear HO_7
                clear HO_8
                clear HO_412000
                clear HL425_0
                clear HL426_0
                clear BK403
                clear BK411
                clear HR425_0
                clear HR426_0
                clear HB
                have HO_7:=n0_
                have HO_8:=n1_
                have HO_412000:=n2_
                have HL425_0:=n3_
                have HL426_0:=n4_
                have BK403:=n5_
                have BK411:=n6_
                have HR425_0:=n7_
                have HR426_0:=n8_
                have HB:=n9_
                clear n0_ n1_ n2_ n3_ n4_ n5_ n6_ n7_ n8_ n9_
                (try clear hb)
                (try clear hb2)
                (try clear hk)
                (try clear hi)
                refine hK.out _ _ ⟨(blk_cell BK411.out 0).trans rfl,(blk_cell BK411.out 1).trans rfl,(blk_cell BK411.out 2).trans rfl,(blk_cell BK411.out 3).trans rfl,HS4_,HS5_⟩ (fun hHeld=>?_)
                clear hK K
                refine norm_ (a':=?_) ?_ ?_
                rotate_left
                ·show Act.put _ (some 71) _=_
                 simp only [Act.put,List.setIfInBounds_toArray,List.set_cons_zero,List.set_cons_succ,i64_w,i32_w]
                 rfl
                refine pure_ (i:=15) (N:=some 72) (v:=?_) (a':=?_) #[true,true,true,true,true,true,true,true,true,true,true,true,true,true,true,true,false,false,false,false,false,false,false,false,false,false,false,false] rfl rfl (any_of HT_.out (by kernel_rfl)) (fun _ _ _ h=>h) (Or.inl ⟨by rfl,?_⟩) ?_ ?_
                rotate_left;(intro w';go_simp;with_reducible rfl);rotate_left;(simp only [Act.put,List.setIfInBounds_toArray,List.set_cons_zero,List.set_cons_succ,i64_w,i32_w];rfl)
                refine pure_ (i:=16) (N:=some 73) (v:=?_) (a':=?_) #[true,true,true,true,true,true,true,true,true,true,true,true,true,true,true,true,true,false,false,false,false,false,false,false,false,false,false,false] rfl rfl (any_of HT_.out (by kernel_rfl)) (fun _ _ _ h=>h) (Or.inl ⟨by rfl,?_⟩) ?_ ?_
                rotate_left;(intro w';go_simp;with_reducible rfl);rotate_left;(simp only [Act.put,List.setIfInBounds_toArray,List.set_cons_zero,List.set_cons_succ,i64_w,i32_w];rfl)
                refine pure_ (i:=17) (N:=some 74) (v:=?_) (a':=?_) #[true,true,true,true,true,true,true,true,true,true,true,true,true,true,true,true,true,true,false,false,false,false,false,false,false,false,false,false] rfl rfl (any_of HT_.out (by kernel_rfl)) (fun _ _ _ h=>h) (Or.inl ⟨by rfl,?_⟩) ?_ ?_
                rotate_left;(intro w';go_simp;with_reducible rfl);rotate_left;(simp only [Act.put,List.setIfInBounds_toArray,List.set_cons_zero,List.set_cons_succ,i64_w,i32_w];rfl)
                refine pure_ (i:=18) (N:=some 75) (v:=undef) (a':=?_) #[true,true,true,true,true,true,true,true,true,true,true,true,true,true,true,true,true,true,true,false,false,false,false,false,false,false,false,false] rfl rfl (any_of HT_.out (by kernel_rfl)) (fun _ _ _ h=>h) (Or.inr ⟨by rfl,rfl⟩) ?_ ?_
                rotate_left
                ·simp only [Act.put,List.setIfInBounds_toArray,List.set_cons_zero,List.set_cons_succ,i64_w,i32_w]
                 rfl
                refine pure_ (i:=19) (N:=some 76) (v:=undef) (a':=?_) #[true,true,true,true,true,true,true,true,true,true,true,true,true,true,true,true,true,true,true,true,false,false,false,false,false,false,false,false] rfl rfl (any_of HT_.out (by kernel_rfl)) (fun _ _ _ h=>h) (Or.inr ⟨by rfl,rfl⟩) ?_ ?_
                rotate_left
                ·simp only [Act.put,List.setIfInBounds_toArray,List.set_cons_zero,List.set_cons_succ,i64_w,i32_w]
                 rfl
                refine pure_ (i:=20) (N:=some 77) (v:=undef) (a':=?_) #[true,true,true,true,true,true,true,true,true,true,true,true,true,true,true,true,true,true,true,true,true,false,false,false,false,false,false,false] rfl rfl (any_of HT_.out (by kernel_rfl)) (fun _ _ _ h=>h) (Or.inr ⟨by rfl,rfl⟩) ?_ ?_
                rotate_left
                ·simp only [Act.put,List.setIfInBounds_toArray,List.set_cons_zero,List.set_cons_succ,i64_w,i32_w]
                 rfl
                refine pure_ (i:=21) (N:=some 78) (v:=undef) (a':=?_) #[true,true,true,true,true,true,true,true,true,true,true,true,true,true,true,true,true,true,true,true,true,true,false,false,false,false,false,false] rfl rfl (any_of HT_.out (by kernel_rfl)) (fun _ _ _ h=>h) (Or.inr ⟨by rfl,rfl⟩) ?_ ?_
                rotate_left
                ·simp only [Act.put,List.setIfInBounds_toArray,List.set_cons_zero,List.set_cons_succ,i64_w,i32_w]
                 rfl
                refine pure_ (i:=22) (N:=some 79) (v:=undef) (a':=?_) #[true,true,true,true,true,true,true,true,true,true,true,true,true,true,true,true,true,true,true,true,true,true,true,false,false,false,false,false] rfl rfl (any_of HT_.out (by kernel_rfl)) (fun _ _ _ h=>h) (Or.inr ⟨by rfl,rfl⟩) ?_ ?_
                rotate_left
                ·simp only [Act.put,List.setIfInBounds_toArray,List.set_cons_zero,List.set_cons_succ,i64_w,i32_w]
                 rfl
                refine pure_ (i:=23) (N:=some 80) (v:=undef) (a':=?_) #[true,true,true,true,true,true,true,true,true,true,true,true,true,true,true,true,true,true,true,true,true,true,true,true,false,false,false,false] rfl rfl (any_of HT_.out (by kernel_rfl)) (fun _ _ _ h=>h) (Or.inr ⟨by rfl,rfl⟩) ?_ ?_
                rotate_left
                ·simp only [Act.put,List.setIfInBounds_toArray,List.set_cons_zero,List.set_cons_succ,i64_w,i32_w]
                 rfl
                refine pure_ (i:=24) (N:=some 81) (v:=undef) (a':=?_) #[true,true,true,true,true,true,true,true,true,true,true,true,true,true,true,true,true,true,true,true,true,true,true,true,true,false,false,false] rfl rfl (any_of HT_.out (by kernel_rfl)) (fun _ _ _ h=>h) (Or.inr ⟨by rfl,rfl⟩) ?_ ?_
                rotate_left
                ·simp only [Act.put,List.setIfInBounds_toArray,List.set_cons_zero,List.set_cons_succ,i64_w,i32_w]
                 rfl
                refine pure_ (i:=25) (N:=some 82) (v:=undef) (a':=?_) #[true,true,true,true,true,true,true,true,true,true,true,true,true,true,true,true,true,true,true,true,true,true,true,true,true,true,false,false] rfl rfl (any_of HT_.out (by kernel_rfl)) (fun _ _ _ h=>h) (Or.inr ⟨by rfl,rfl⟩) ?_ ?_
                rotate_left
                ·simp only [Act.put,List.setIfInBounds_toArray,List.set_cons_zero,List.set_cons_succ,i64_w,i32_w]
                 rfl
                refine pure_ (i:=26) (N:=some 83) (v:=undef) (a':=?_) #[true,true,true,true,true,true,true,true,true,true,true,true,true,true,true,true,true,true,true,true,true,true,true,true,true,true,true,false] rfl rfl (any_of HT_.out (by kernel_rfl)) (fun _ _ _ h=>h) (Or.inr ⟨by rfl,rfl⟩) ?_ ?_
                rotate_left
                ·simp only [Act.put,List.setIfInBounds_toArray,List.set_cons_zero,List.set_cons_succ,i64_w,i32_w]
                 rfl
                refine pure_ (i:=27) (N:=some 84) (v:=?_) (a':=?_) #[true,true,true,true,true,true,true,true,true,true,true,true,true,true,true,true,true,true,true,true,true,true,true,true,true,true,true,true] rfl rfl (any_of HT_.out (by kernel_rfl)) (fun _ _ _ h=>h) (Or.inl ⟨by rfl,?_⟩) ?_ ?_
                rotate_left;(intro w';go_simp;with_reducible rfl);rotate_left;(simp only [Act.put,List.setIfInBounds_toArray,List.set_cons_zero,List.set_cons_succ,i64_w,i32_w];rfl)
                refine done_ (done_of HT_.out (by kernel_rfl)) ?_
                (try clear HS4_);(try clear HS5_);(try clear hHeld)
                try go_wp2
                go_meet
                case rel=>exact ⟨_,(true),(by first|rfl|(simp;done)|(simp [*];done)),(by first|exact H'|(subst_vars;exact H')),⟨by have:=HK1.out;have:=HJ64.out;have:=HJ74.out;first|omega|exact Nat.le_refl _⟩,⟨by (with_reducible repeat (first|apply Kd.N_alloc|apply Kd.N_drewN|apply Kd.N_drew));exact HO_7.out⟩,⟨by (with_reducible repeat (first|apply Kd.N_alloc|apply Kd.N_drewN|apply Kd.N_drew));exact HO_8.out⟩,⟨by (with_reducible repeat (first|apply Kd.R_alloc|apply Kd.R_drewN|apply Kd.R_drew));exact HO_412000.out⟩,⟨by (with_reducible repeat (first|refine blk_drewN ?_ _|refine blk_drew ?_|refine blk_alloc ?_ _));exact BK403.out⟩,⟨by (with_reducible repeat (first|refine blk_drewN ?_ _|refine blk_drew ?_|refine blk_alloc ?_ _));exact BK411.out⟩,⟨by repeat (first|(with_reducible first|exact HB.out|apply below_alloc|apply pw_below_drewN|apply below_drew1|refine below_set ?_ GE403.out|refine below_set ?_ GE411.out)|exact HB.out)⟩⟩
              ·rw [if_neg c84] at H
               exact absurd H (by simp)
             ·rw [if_neg c83] at H
              exact absurd H (by simp)
            ·rw [if_neg c82] at H
             exact absurd H (by simp)
           ·rw [if_neg c81] at H
            exact absurd H (by simp)
         case rest =>
          clear HC77
          try clear c1
          try clear p2
          try clear c4
          try clear p4
          try clear q4
          try clear hx4
          try clear c8
          try clear c15
          try clear c42
          try clear p42
          try clear q42
          try clear hx42
          try clear c81
          try clear c82
          try clear c83
          try clear c84
          try clear c86
          try clear c86b0
          try clear c86b1
          try clear hx425_0
          try clear hx426_0
          try clear hx428_0
          try clear p425
          try clear p426
          try clear p428
          try clear q425
          try clear q426
          try clear q428
          obtain ⟨kq,x84_76,rfl,HA,HJ76,HO_7,HO_8,HO_412000,BK403,BK411,HB⟩:=hcut
          cases kq with
          | zero=>exact absurd HA.out (by simp [thresherlaw13_FoldKeys.j3])
          | succ kj76 =>
           have H:=HA.out
           clear HA
           simp only [thresherlaw13_FoldKeys.j3] at H
           by_cases c93 : x84_76=true
           ·subst c93
            have H1 : (some false)=some r:=by rw [if_pos rfl] at H;exact H
            clear H
            have H:=H1
            clear H1
            obtain rfl:=Option.some.inj H
            go_wp2
            go_ret
            exact ⟨by first|rfl|(simp [errW_none,errW_some] <;> rfl)|(simp [*,errW_none,errW_some] <;> rfl),by repeat (first|(with_reducible first|exact HB.out|apply below_alloc|apply pw_below_drewN|apply below_drew1|refine below_set ?_ GE403.out|refine below_set ?_ GE411.out)|exact HB.out)⟩
           ·replace c93:=Bool.eq_false_iff.mpr c93
            subst c93
            have H1 : (thresherlaw13_FoldKeys.l0 kj76 t404 t415 t418 x10_74 (wrap64 (x11_1 + 1)) t405 t408 t409 t410)=some r:=by rw [if_neg (show ¬ (false=true) by decide)] at H;exact H
            clear H
            have H:=H1
            clear H1
            have H':=Aside0.mk H
            clear H
            go_wp2
            go_roundg kj76
            case measure=>have:=HK1.out;have:=HJ64.out;have:=HJ74.out;have:=HJ76.out;omega
            case rel=>exact ⟨(x10_74),(wrap64 (x11_1 + 1)),(by first|rfl|(simp;done)|(simp [*];done)),(by first|rfl|(simp;done)|(simp [*];done)),(by first|exact H'|(subst_vars;exact H')),⟨by have:=HK1.out;have:=HJ64.out;have:=HJ74.out;have:=HJ76.out;omega⟩,⟨by (with_reducible repeat (first|apply Kd.N_alloc|apply Kd.N_drewN|apply Kd.N_drew));exact HO_7.out⟩,⟨by (with_reducible repeat (first|apply Kd.N_alloc|apply Kd.N_drewN|apply Kd.N_drew));exact HO_8.out⟩,⟨by (with_reducible repeat (first|apply Kd.R_alloc|apply Kd.R_drewN|apply Kd.R_drew));exact HO_412000.out⟩,⟨by (with_reducible repeat (first|refine blk_drewN ?_ _|refine blk_drew ?_|refine blk_alloc ?_ _));exact BK403.out⟩,⟨by (with_reducible repeat (first|refine blk_drewN ?_ _|refine blk_drew ?_|refine blk_alloc ?_ _));exact BK411.out⟩,⟨by repeat (first|(with_reducible first|exact HB.out|apply below_alloc|apply pw_below_drewN|apply below_drew1|refine below_set ?_ GE403.out|refine below_set ?_ GE411.out)|exact HB.out)⟩⟩
    ·rw [if_neg c64] at H
     have c64b0 : decide (x11_1 < (t415.length : Int))=false:=decide_eq_false c64
     clear c64
     by_cases c94 : t404=true
     ·subst c94
      have H1 : (if (t415.length : Int)=0 then (if (t418.length : Int)=0 then (some true) else (some ((t418.length : Int) == (wrap64 (x10_1 + 1))))) else (some ((t418.length : Int) == (wrap64 (x10_1 + 1)))))=some r:=by rw [if_pos rfl] at H;exact H
      clear H
      have H:=H1
      clear H1
      by_cases c95 : (t415.length : Int)=0
      ·rw [if_pos c95] at H
       have c95b0 : ((t415.length : Int) == 0)=true:=beq_iff_eq.mpr c95
       have c95b1 : ((t415.length : Int) != 0)=false:=bne_eq_false_iff_eq.mpr c95
       clear c95
       by_cases c96 : (t418.length : Int)=0
       ·rw [if_pos c96] at H
        have c96b0 : ((t418.length : Int) == 0)=true:=beq_iff_eq.mpr c96
        have c96b1 : ((t418.length : Int) != 0)=false:=bne_eq_false_iff_eq.mpr c96
        clear c96
        obtain rfl:=Option.some.inj H
        obtain ⟨Ao97,co97,eo97⟩:=Kd.N_slice HO_8.out
        subst eo97
        go_wp2
        go_ret
        exact ⟨by first|rfl|(simp [errW_none,errW_some] <;> rfl)|(simp [*,errW_none,errW_some] <;> rfl),by repeat (first|(with_reducible first|exact HB.out|apply below_alloc|apply pw_below_drewN|apply below_drew1|refine below_set ?_ GE403.out|refine below_set ?_ GE411.out)|exact HB.out)⟩
       ·rw [if_neg c96] at H
        have c96b0 : ((t418.length : Int) == 0)=false:=beq_eq_false_iff_ne.mpr c96
        have c96b1 : ((t418.length : Int) != 0)=true:=bne_iff_ne.mpr c96
        have c96b2 : ¬ (t418=[]):=fun h_=>c96 (by rw [h_];rfl)
        obtain rfl:=Option.some.inj H
        obtain ⟨Ao98,co98,eo98⟩:=Kd.N_slice HO_8.out
        subst eo98
        go_wp2
        go_ret
        exact ⟨by first|rfl|(simp [errW_none,errW_some] <;> rfl)|(simp [*,errW_none,errW_some] <;> rfl),by repeat (first|(with_reducible first|exact HB.out|apply below_alloc|apply pw_below_drewN|apply below_drew1|refine below_set ?_ GE403.out|refine below_set ?_ GE411.out)|exact HB.out)⟩
      ·rw [if_neg c95] at H
       have c95b0 : ((t415.length : Int) == 0)=false:=beq_eq_false_iff_ne.mpr c95
       have c95b1 : ((t415.length : Int) != 0)=true:=bne_iff_ne.mpr c95
       have c95b2 : ¬ (t415=[]):=fun h_=>c95 (by rw [h_];rfl)
       obtain rfl:=Option.some.inj H
       obtain ⟨Ao99,co99,eo99⟩:=Kd.N_slice HO_8.out
       subst eo99
       go_wp2
       go_ret
       exact ⟨by first|rfl|(simp [errW_none,errW_some] <;> rfl)|(simp [*,errW_none,errW_some] <;> rfl),by repeat (first|(with_reducible first|exact HB.out|apply below_alloc|apply pw_below_drewN|apply below_drew1|refine below_set ?_ GE403.out|refine below_set ?_ GE411.out)|exact HB.out)⟩
     ·replace c94:=Bool.eq_false_iff.mpr c94
      subst c94
      have H1 : (some false)=some r:=by rw [if_neg (show ¬ (false=true) by decide)] at H;exact H
      clear H
      have H:=H1
      clear H1
      obtain rfl:=Option.some.inj H
      go_wp2
      go_ret
      exact ⟨by first|rfl|(simp [errW_none,errW_some] <;> rfl)|(simp [*,errW_none,errW_some] <;> rfl),by repeat (first|(with_reducible first|exact HB.out|apply below_alloc|apply pw_below_drewN|apply below_drew1|refine below_set ?_ GE403.out|refine below_set ?_ GE411.out)|exact HB.out)⟩
end Go.Proofs.Ytmanchjamkpklaa.P

