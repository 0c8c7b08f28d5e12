/- Texts of FoldParts. Merged: Px14. -/
import Derived.Test.YtmanchjamkpklaaQFoldPartsPx0
import Derived.Test.YtmanchjamkpklaaQFoldPartsPx4
import Derived.Test.YtmanchjamkpklaaQFoldPartsPx5
import Derived.Test.YtmanchjamkpklaaQFoldPartsPx6
import Derived.Test.YtmanchjamkpklaaQFoldPartsPx9
import Derived.Test.YtmanchjamkpklaaQFoldPartsPx10
import Derived.Test.YtmanchjamkpklaaQFoldPartsPx11
namespace Go.Proofs.Ytmanchjamkpklaa.P
open Go.RowKit Go.Proofs.YtmanchjamkpklaaW.PrintWords Go.Proofs.YtmanchjamkpklaaW.PrintLast Go.Proofs.YtmanchjamkpklaaW.PrintMore
attribute [local go_sem] max2_int min2_int max_two min_two max_three min_three max_four min_four   -- for this text's walks alone
set_option linter.unusedVariables false
set_option linter.unusedSimpArgs false
def thresherlaw13_FoldParts.j0 : Nat→Bool→Option (Bool)
 | 0,_=>none
 | k + 1,x6=>some x6
def thresherlaw13_FoldParts.f (k : Nat) (a0_0 : Int) (a0_1 : Int) (a0_2 : Int) (a0_3 : Int) (a0_4 : Int) (a0_5 : Int) (a0_6 : Int) (a0_7 : Int) (a0_8 : Int) (a0_9 : Int) (a0_10 : Int) (a0_11 : Int) (l1 : List (List (S45))) (a2_0 : Int) (a2_1 : Int) : Option (Bool):=(thresherlaw13_shown.f k).bind fun t342=>((thresherlaw13_made.f k a0_0 a0_1 a0_2 a0_3 a0_4 a0_5 a0_6 a0_7 a0_8 a0_9 a0_10 a0_11).bind fun bt343=>((thresherref04_Fits.f k bt343.1 bt343.2.1 bt343.2.2.1 bt343.2.2.2 l1 60).bind fun t350=>((thresherref09_Sort.f k bt343.1 bt343.2.1 bt343.2.2.1 bt343.2.2.2 t350).bind fun t353=>(if (wrap64 ((t353.length : Int) + 1))=0 then (none) else (if (wrap64 ((wrap64 ((t353.length : Int) - (Int.tmod (wrap64 (a2_0)) (wrap64 ((t353.length : Int) + 1))))) + 1))=0 then (none) else ((some (([] : List (List (S45))) : List (List (S45)))).bind fun y356=>(if 0≤(Int.tmod (wrap64 (a2_0)) (wrap64 ((t353.length : Int) + 1))) then (if (Int.tmod (wrap64 (a2_0)) (wrap64 ((t353.length : Int) + 1)))≤(t353.length : Int) then ((fold_Rows.f k bt343.1 bt343.2.1 bt343.2.2.1 bt343.2.2.2 (t353.take ((Int.tmod (wrap64 (a2_0)) (wrap64 ((t353.length : Int) + 1))) : Int).toNat)).bind fun t364=>(if y356.length + t364.length < 5864062014805 then ((some (y356 ++ t364 : List (List (S45)))).bind fun y367=>(if (Int.tmod (wrap64 (a2_0)) (wrap64 ((t353.length : Int) + 1)))≤(wrap64 ((Int.tmod (wrap64 (a2_0)) (wrap64 ((t353.length : Int) + 1))) + (Int.tmod (wrap64 (a2_1)) (wrap64 ((wrap64 ((t353.length : Int) - (Int.tmod (wrap64 (a2_0)) (wrap64 ((t353.length : Int) + 1))))) + 1))))) then (if (wrap64 ((Int.tmod (wrap64 (a2_0)) (wrap64 ((t353.length : Int) + 1))) + (Int.tmod (wrap64 (a2_1)) (wrap64 ((wrap64 ((t353.length : Int) - (Int.tmod (wrap64 (a2_0)) (wrap64 ((t353.length : Int) + 1))))) + 1)))))≤(t353.length : Int) then ((fold_Rows.f k bt343.1 bt343.2.1 bt343.2.2.1 bt343.2.2.2 ((t353.take ((wrap64 ((Int.tmod (wrap64 (a2_0)) (wrap64 ((t353.length : Int) + 1))) + (Int.tmod (wrap64 (a2_1)) (wrap64 ((wrap64 ((t353.length : Int) - (Int.tmod (wrap64 (a2_0)) (wrap64 ((t353.length : Int) + 1))))) + 1))))) : Int).toNat).drop ((Int.tmod (wrap64 (a2_0)) (wrap64 ((t353.length : Int) + 1))) : Int).toNat)).bind fun t375=>(if y367.length + t375.length < 5864062014805 then ((some (y367 ++ t375 : List (List (S45)))).bind fun y378=>(if 0≤(wrap64 ((Int.tmod (wrap64 (a2_0)) (wrap64 ((t353.length : Int) + 1))) + (Int.tmod (wrap64 (a2_1)) (wrap64 ((wrap64 ((t353.length : Int) - (Int.tmod (wrap64 (a2_0)) (wrap64 ((t353.length : Int) + 1))))) + 1))))) then ((fold_Rows.f k bt343.1 bt343.2.1 bt343.2.2.1 bt343.2.2.2 (t353.drop ((wrap64 ((Int.tmod (wrap64 (a2_0)) (wrap64 ((t353.length : Int) + 1))) + (Int.tmod (wrap64 (a2_1)) (wrap64 ((wrap64 ((t353.length : Int) - (Int.tmod (wrap64 (a2_0)) (wrap64 ((t353.length : Int) + 1))))) + 1))))) : Int).toNat)).bind fun t386=>(if y378.length + t386.length < 5864062014805 then ((fold_Rows.f k bt343.1 bt343.2.1 bt343.2.2.1 bt343.2.2.2 t353).bind fun t392=>((fold_Rows.f k bt343.1 bt343.2.1 bt343.2.2.1 bt343.2.2.2 (y378 ++ t386)).bind fun t395=>((thresherref04_Rows.f k t395 t392).bind fun t398=>((fold_Rows.f k bt343.1 bt343.2.1 bt343.2.2.1 bt343.2.2.2 t392).bind fun t399=>((thresherref04_Rows.f k t399 t392).bind fun t402=>(if t342=true then (if t398=true then (thresherlaw13_FoldParts.j0 k t402) else (thresherlaw13_FoldParts.j0 k false)) else (thresherlaw13_FoldParts.j0 k false))))))) else (none))) else (none))) else (none))) else (none)) else (none))) else (none))) else (none)) else (none))))))))
theorem thresherlaw13_FoldParts.mono_l : ∀ k,(∀ y0,LeO (thresherlaw13_FoldParts.j0 k y0) (thresherlaw13_FoldParts.j0 (k + 1) y0))
 | 0=>fun _ r h=>by simp [thresherlaw13_FoldParts.j0] at h
 | k + 1=>by
  have ih0:=thresherlaw13_FoldParts.mono_l k
  ·intro y0
   unfold thresherlaw13_FoldParts.j0
   repeat' first
   | (with_reducible exact ih0 _)
   | (with_reducible exact fold_Rows.mono _ _ _ _ _ _)
   | (with_reducible exact thresherlaw13_made.mono _ _ _ _ _ _ _ _ _ _ _ _ _)
   | (with_reducible exact thresherlaw13_shown.mono _)
   | (with_reducible exact thresherref04_Fits.mono _ _ _ _ _ _ _)
   | (with_reducible exact thresherref04_Rows.mono _ _ _)
   | (with_reducible exact thresherref09_Sort.mono _ _ _ _ _ _)
   | (with_reducible exact LeO.refl _)
   | (with_reducible exact LeO.none _)
   | (with_reducible refine LeO.ite ?_ ?_)
   | (with_reducible refine LeO.bind ?_ (fun _=>?_))
   | exact ih0 _
   | exact fold_Rows.mono _ _ _ _ _ _
   | exact thresherlaw13_made.mono _ _ _ _ _ _ _ _ _ _ _ _ _
   | exact thresherlaw13_shown.mono _
   | exact thresherref04_Fits.mono _ _ _ _ _ _ _
   | exact thresherref04_Rows.mono _ _ _
   | exact thresherref09_Sort.mono _ _ _ _ _ _
   | exact LeO.none _
   | refine LeO.ite ?_ ?_
   | refine LeO.bind ?_ (fun _=>?_)
theorem thresherlaw13_FoldParts.mono : ∀ a0 a1 a2 a3 a4 a5 a6 a7 a8 a9 a10 a11 a12 a13 a14 k,LeO (thresherlaw13_FoldParts.f k a0 a1 a2 a3 a4 a5 a6 a7 a8 a9 a10 a11 a12 a13 a14) (thresherlaw13_FoldParts.f (k + 1) a0 a1 a2 a3 a4 a5 a6 a7 a8 a9 a10 a11 a12 a13 a14):=by
 intro a0 a1 a2 a3 a4 a5 a6 a7 a8 a9 a10 a11 a12 a13 a14 k
 have ih0:=thresherlaw13_FoldParts.mono_l k
 unfold thresherlaw13_FoldParts.f
 repeat' first
   | (with_reducible exact ih0 _)
   | (with_reducible exact fold_Rows.mono _ _ _ _ _ _)
   | (with_reducible exact thresherlaw13_made.mono _ _ _ _ _ _ _ _ _ _ _ _ _)
   | (with_reducible exact thresherlaw13_shown.mono _)
   | (with_reducible exact thresherref04_Fits.mono _ _ _ _ _ _ _)
   | (with_reducible exact thresherref04_Rows.mono _ _ _)
   | (with_reducible exact thresherref09_Sort.mono _ _ _ _ _ _)
   | (with_reducible exact LeO.refl _)
   | (with_reducible exact LeO.none _)
   | (with_reducible refine LeO.ite ?_ ?_)
   | (with_reducible refine LeO.bind ?_ (fun _=>?_))
   | exact ih0 _
   | exact fold_Rows.mono _ _ _ _ _ _
   | exact thresherlaw13_made.mono _ _ _ _ _ _ _ _ _ _ _ _ _
   | exact thresherlaw13_shown.mono _
   | exact thresherref04_Fits.mono _ _ _ _ _ _ _
   | exact thresherref04_Rows.mono _ _ _
   | exact thresherref09_Sort.mono _ _ _ _ _ _
   | exact LeO.none _
   | refine LeO.ite ?_ ?_
   | refine LeO.bind ?_ (fun _=>?_)
def thresherlaw13_FoldParts.T6 : Bool × List (List Nat × List Nat):=(true,[([],[]),([],[]),([],[]),([],[]),([2,3],[2,3]),([1,4],[1,4]),([0,5,5],[0,5]),([6,6,0,1,2,3,4,5,6],[6])])
def thresherlaw13_FoldParts.B6 : List Nat:=[0,0,0,0,12,30,63,127]
theorem thresherlaw13_FoldParts.tab6 : rtab .any (opsOf Try.f4 6)=thresherlaw13_FoldParts.T6:=by kernel_rfl
theorem thresherlaw13_FoldParts.bits6 : waitsOk thresherlaw13_FoldParts.T6.2 thresherlaw13_FoldParts.B6=true:=by kernel_rfl
def thresherlaw13_FoldParts.T7 : Bool × List (List Nat × List Nat):=(true,[([],[]),([],[]),([],[]),([],[]),([],[]),([2,3,4],[2,3,4]),([1,5],[1,5]),([0,6,6],[0,6]),([7,7,0,1,2,3,4,5,6,7],[0,7])])
def thresherlaw13_FoldParts.B7 : List Nat:=[0,0,0,0,0,28,62,127,255]
theorem thresherlaw13_FoldParts.tab7 : rtab .any (opsOf Try.f4 7)=thresherlaw13_FoldParts.T7:=by kernel_rfl
theorem thresherlaw13_FoldParts.bits7 : waitsOk thresherlaw13_FoldParts.T7.2 thresherlaw13_FoldParts.B7=true:=by kernel_rfl
def thresherlaw13_FoldParts.T8 : Bool × List (List Nat × List Nat):=(true,[([],[]),([],[]),([],[]),([],[]),([2,3],[2,3]),([1,4],[1,4]),([0,5,5],[0,5]),([6,6,0,1,2,3,4,5,6],[0,6])])
def thresherlaw13_FoldParts.B8 : List Nat:=[0,0,0,0,12,30,63,127]
theorem thresherlaw13_FoldParts.tab8 : rtab .any (opsOf Try.f4 8)=thresherlaw13_FoldParts.T8:=by kernel_rfl
theorem thresherlaw13_FoldParts.bits8 : waitsOk thresherlaw13_FoldParts.T8.2 thresherlaw13_FoldParts.B8=true:=by kernel_rfl
set_option maxHeartbeats 8000000 in
set_option maxRecDepth 100000 in
theorem thresherlaw13_FoldParts.calls (k : Nat) (a0_0 : Int) (a0_1 : Int) (a0_2 : Int) (a0_3 : Int) (a0_4 : Int) (a0_5 : Int) (a0_6 : Int) (a0_7 : Int) (a0_8 : Int) (a0_9 : Int) (a0_10 : Int) (a0_11 : Int) (A1 : Option Addr) (c1 : Nat) (l1 : List (List (S45))) (a2_0 : Int) (a2_1 : Int) (r : Bool) (w : World) (hr1 : Kd.C (Kd.slice 45 k45) w A1 l1.length l1) (hc1 : l1.length≤c1) (h : thresherlaw13_FoldParts.f k a0_0 a0_1 a0_2 a0_3 a0_4 a0_5 a0_6 a0_7 a0_8 a0_9 a0_10 a0_11 l1 a2_0 a2_1=some r) :
  Calls Try.prog 4 #[.agg #[.int .u8 a0_0,.int .u8 a0_1,.int .u8 a0_2,.int .u8 a0_3,.int .u8 a0_4,.int .u8 a0_5,.int .u8 a0_6,.int .u8 a0_7,.int .u8 a0_8,.int .u8 a0_9,.int .u8 a0_10,.int .u8 a0_11],.slice A1 l1.length c1,.agg #[.int .u8 a2_0,.int .u8 a2_1]] w fun e w'=>e=.returned (.bool r)∧Below w.heap.size w w':=by
 have hu24:=Try.underlying24
 have hu40:=Try.underlying40
 have hu29:=Try.underlying29
 have HR1:=Aside0.mk hr1
 have HC1:=Aside0.mk hc1
 clear hr1 hc1
 have HB:=Aside0.mk (Below.refl w.heap.size w)
 have H : ((thresherlaw13_shown.f k).bind fun t342=>((thresherlaw13_made.f k a0_0 a0_1 a0_2 a0_3 a0_4 a0_5 a0_6 a0_7 a0_8 a0_9 a0_10 a0_11).bind fun bt343=>((thresherref04_Fits.f k bt343.1 bt343.2.1 bt343.2.2.1 bt343.2.2.2 l1 60).bind fun t350=>((thresherref09_Sort.f k bt343.1 bt343.2.1 bt343.2.2.1 bt343.2.2.2 t350).bind fun t353=>(if (wrap64 ((t353.length : Int) + 1))=0 then (none) else (if (wrap64 ((wrap64 ((t353.length : Int) - (Int.tmod (wrap64 (a2_0)) (wrap64 ((t353.length : Int) + 1))))) + 1))=0 then (none) else ((some (([] : List (List (S45))) : List (List (S45)))).bind fun y356=>(if 0≤(Int.tmod (wrap64 (a2_0)) (wrap64 ((t353.length : Int) + 1))) then (if (Int.tmod (wrap64 (a2_0)) (wrap64 ((t353.length : Int) + 1)))≤(t353.length : Int) then ((fold_Rows.f k bt343.1 bt343.2.1 bt343.2.2.1 bt343.2.2.2 (t353.take ((Int.tmod (wrap64 (a2_0)) (wrap64 ((t353.length : Int) + 1))) : Int).toNat)).bind fun t364=>(if y356.length + t364.length < 5864062014805 then ((some (y356 ++ t364 : List (List (S45)))).bind fun y367=>(if (Int.tmod (wrap64 (a2_0)) (wrap64 ((t353.length : Int) + 1)))≤(wrap64 ((Int.tmod (wrap64 (a2_0)) (wrap64 ((t353.length : Int) + 1))) + (Int.tmod (wrap64 (a2_1)) (wrap64 ((wrap64 ((t353.length : Int) - (Int.tmod (wrap64 (a2_0)) (wrap64 ((t353.length : Int) + 1))))) + 1))))) then (if (wrap64 ((Int.tmod (wrap64 (a2_0)) (wrap64 ((t353.length : Int) + 1))) + (Int.tmod (wrap64 (a2_1)) (wrap64 ((wrap64 ((t353.length : Int) - (Int.tmod (wrap64 (a2_0)) (wrap64 ((t353.length : Int) + 1))))) + 1)))))≤(t353.length : Int) then ((fold_Rows.f k bt343.1 bt343.2.1 bt343.2.2.1 bt343.2.2.2 ((t353.take ((wrap64 ((Int.tmod (wrap64 (a2_0)) (wrap64 ((t353.length : Int) + 1))) + (Int.tmod (wrap64 (a2_1)) (wrap64 ((wrap64 ((t353.length : Int) - (Int.tmod (wrap64 (a2_0)) (wrap64 ((t353.length : Int) + 1))))) + 1))))) : Int).toNat).drop ((Int.tmod (wrap64 (a2_0)) (wrap64 ((t353.length : Int) + 1))) : Int).toNat)).bind fun t375=>(if y367.length + t375.length < 5864062014805 then ((some (y367 ++ t375 : List (List (S45)))).bind fun y378=>(if 0≤(wrap64 ((Int.tmod (wrap64 (a2_0)) (wrap64 ((t353.length : Int) + 1))) + (Int.tmod (wrap64 (a2_1)) (wrap64 ((wrap64 ((t353.length : Int) - (Int.tmod (wrap64 (a2_0)) (wrap64 ((t353.length : Int) + 1))))) + 1))))) then ((fold_Rows.f k bt343.1 bt343.2.1 bt343.2.2.1 bt343.2.2.2 (t353.drop ((wrap64 ((Int.tmod (wrap64 (a2_0)) (wrap64 ((t353.length : Int) + 1))) + (Int.tmod (wrap64 (a2_1)) (wrap64 ((wrap64 ((t353.length : Int) - (Int.tmod (wrap64 (a2_0)) (wrap64 ((t353.length : Int) + 1))))) + 1))))) : Int).toNat)).bind fun t386=>(if y378.length + t386.length < 5864062014805 then ((fold_Rows.f k bt343.1 bt343.2.1 bt343.2.2.1 bt343.2.2.2 t353).bind fun t392=>((fold_Rows.f k bt343.1 bt343.2.1 bt343.2.2.1 bt343.2.2.2 (y378 ++ t386)).bind fun t395=>((thresherref04_Rows.f k t395 t392).bind fun t398=>((fold_Rows.f k bt343.1 bt343.2.1 bt343.2.2.1 bt343.2.2.2 t392).bind fun t399=>((thresherref04_Rows.f k t399 t392).bind fun t402=>(if t342=true then (if t398=true then (thresherlaw13_FoldParts.j0 k t402) else (thresherlaw13_FoldParts.j0 k false)) else (thresherlaw13_FoldParts.j0 k false))))))) else (none))) else (none))) else (none))) else (none)) else (none))) else (none))) else (none)) else (none)))))))))=some r:=h
 clear h
 replace H:=Option.bind_eq_some_iff.mp H
 obtain ⟨t342,A40,H⟩:=H
 replace H : ((thresherlaw13_made.f k a0_0 a0_1 a0_2 a0_3 a0_4 a0_5 a0_6 a0_7 a0_8 a0_9 a0_10 a0_11).bind fun bt343=>((thresherref04_Fits.f k bt343.1 bt343.2.1 bt343.2.2.1 bt343.2.2.2 l1 60).bind fun t350=>((thresherref09_Sort.f k bt343.1 bt343.2.1 bt343.2.2.1 bt343.2.2.2 t350).bind fun t353=>(if (wrap64 ((t353.length : Int) + 1))=0 then (none) else (if (wrap64 ((wrap64 ((t353.length : Int) - (Int.tmod (wrap64 (a2_0)) (wrap64 ((t353.length : Int) + 1))))) + 1))=0 then (none) else ((some (([] : List (List (S45))) : List (List (S45)))).bind fun y356=>(if 0≤(Int.tmod (wrap64 (a2_0)) (wrap64 ((t353.length : Int) + 1))) then (if (Int.tmod (wrap64 (a2_0)) (wrap64 ((t353.length : Int) + 1)))≤(t353.length : Int) then ((fold_Rows.f k bt343.1 bt343.2.1 bt343.2.2.1 bt343.2.2.2 (t353.take ((Int.tmod (wrap64 (a2_0)) (wrap64 ((t353.length : Int) + 1))) : Int).toNat)).bind fun t364=>(if y356.length + t364.length < 5864062014805 then ((some (y356 ++ t364 : List (List (S45)))).bind fun y367=>(if (Int.tmod (wrap64 (a2_0)) (wrap64 ((t353.length : Int) + 1)))≤(wrap64 ((Int.tmod (wrap64 (a2_0)) (wrap64 ((t353.length : Int) + 1))) + (Int.tmod (wrap64 (a2_1)) (wrap64 ((wrap64 ((t353.length : Int) - (Int.tmod (wrap64 (a2_0)) (wrap64 ((t353.length : Int) + 1))))) + 1))))) then (if (wrap64 ((Int.tmod (wrap64 (a2_0)) (wrap64 ((t353.length : Int) + 1))) + (Int.tmod (wrap64 (a2_1)) (wrap64 ((wrap64 ((t353.length : Int) - (Int.tmod (wrap64 (a2_0)) (wrap64 ((t353.length : Int) + 1))))) + 1)))))≤(t353.length : Int) then ((fold_Rows.f k bt343.1 bt343.2.1 bt343.2.2.1 bt343.2.2.2 ((t353.take ((wrap64 ((Int.tmod (wrap64 (a2_0)) (wrap64 ((t353.length : Int) + 1))) + (Int.tmod (wrap64 (a2_1)) (wrap64 ((wrap64 ((t353.length : Int) - (Int.tmod (wrap64 (a2_0)) (wrap64 ((t353.length : Int) + 1))))) + 1))))) : Int).toNat).drop ((Int.tmod (wrap64 (a2_0)) (wrap64 ((t353.length : Int) + 1))) : Int).toNat)).bind fun t375=>(if y367.length + t375.length < 5864062014805 then ((some (y367 ++ t375 : List (List (S45)))).bind fun y378=>(if 0≤(wrap64 ((Int.tmod (wrap64 (a2_0)) (wrap64 ((t353.length : Int) + 1))) + (Int.tmod (wrap64 (a2_1)) (wrap64 ((wrap64 ((t353.length : Int) - (Int.tmod (wrap64 (a2_0)) (wrap64 ((t353.length : Int) + 1))))) + 1))))) then ((fold_Rows.f k bt343.1 bt343.2.1 bt343.2.2.1 bt343.2.2.2 (t353.drop ((wrap64 ((Int.tmod (wrap64 (a2_0)) (wrap64 ((t353.length : Int) + 1))) + (Int.tmod (wrap64 (a2_1)) (wrap64 ((wrap64 ((t353.length : Int) - (Int.tmod (wrap64 (a2_0)) (wrap64 ((t353.length : Int) + 1))))) + 1))))) : Int).toNat)).bind fun t386=>(if y378.length + t386.length < 5864062014805 then ((fold_Rows.f k bt343.1 bt343.2.1 bt343.2.2.1 bt343.2.2.2 t353).bind fun t392=>((fold_Rows.f k bt343.1 bt343.2.1 bt343.2.2.1 bt343.2.2.2 (y378 ++ t386)).bind fun t395=>((thresherref04_Rows.f k t395 t392).bind fun t398=>((fold_Rows.f k bt343.1 bt343.2.1 bt343.2.2.1 bt343.2.2.2 t392).bind fun t399=>((thresherref04_Rows.f k t399 t392).bind fun t402=>(if t342=true then (if t398=true then (thresherlaw13_FoldParts.j0 k t402) else (thresherlaw13_FoldParts.j0 k false)) else (thresherlaw13_FoldParts.j0 k false))))))) else (none))) else (none))) else (none))) else (none)) else (none))) else (none))) else (none)) else (none))))))))=some r:=H
 have A4:=Aside0.mk A40
 clear A40
 replace H:=Option.bind_eq_some_iff.mp H
 obtain ⟨⟨t343,t346,t347,t348⟩,A50,H⟩:=H
 replace H : ((thresherref04_Fits.f k t343 t346 t347 t348 l1 60).bind fun t350=>((thresherref09_Sort.f k t343 t346 t347 t348 t350).bind fun t353=>(if (wrap64 ((t353.length : Int) + 1))=0 then (none) else (if (wrap64 ((wrap64 ((t353.length : Int) - (Int.tmod (wrap64 (a2_0)) (wrap64 ((t353.length : Int) + 1))))) + 1))=0 then (none) else ((some (([] : List (List (S45))) : List (List (S45)))).bind fun y356=>(if 0≤(Int.tmod (wrap64 (a2_0)) (wrap64 ((t353.length : Int) + 1))) then (if (Int.tmod (wrap64 (a2_0)) (wrap64 ((t353.length : Int) + 1)))≤(t353.length : Int) then ((fold_Rows.f k t343 t346 t347 t348 (t353.take ((Int.tmod (wrap64 (a2_0)) (wrap64 ((t353.length : Int) + 1))) : Int).toNat)).bind fun t364=>(if y356.length + t364.length < 5864062014805 then ((some (y356 ++ t364 : List (List (S45)))).bind fun y367=>(if (Int.tmod (wrap64 (a2_0)) (wrap64 ((t353.length : Int) + 1)))≤(wrap64 ((Int.tmod (wrap64 (a2_0)) (wrap64 ((t353.length : Int) + 1))) + (Int.tmod (wrap64 (a2_1)) (wrap64 ((wrap64 ((t353.length : Int) - (Int.tmod (wrap64 (a2_0)) (wrap64 ((t353.length : Int) + 1))))) + 1))))) then (if (wrap64 ((Int.tmod (wrap64 (a2_0)) (wrap64 ((t353.length : Int) + 1))) + (Int.tmod (wrap64 (a2_1)) (wrap64 ((wrap64 ((t353.length : Int) - (Int.tmod (wrap64 (a2_0)) (wrap64 ((t353.length : Int) + 1))))) + 1)))))≤(t353.length : Int) then ((fold_Rows.f k t343 t346 t347 t348 ((t353.take ((wrap64 ((Int.tmod (wrap64 (a2_0)) (wrap64 ((t353.length : Int) + 1))) + (Int.tmod (wrap64 (a2_1)) (wrap64 ((wrap64 ((t353.length : Int) - (Int.tmod (wrap64 (a2_0)) (wrap64 ((t353.length : Int) + 1))))) + 1))))) : Int).toNat).drop ((Int.tmod (wrap64 (a2_0)) (wrap64 ((t353.length : Int) + 1))) : Int).toNat)).bind fun t375=>(if y367.length + t375.length < 5864062014805 then ((some (y367 ++ t375 : List (List (S45)))).bind fun y378=>(if 0≤(wrap64 ((Int.tmod (wrap64 (a2_0)) (wrap64 ((t353.length : Int) + 1))) + (Int.tmod (wrap64 (a2_1)) (wrap64 ((wrap64 ((t353.length : Int) - (Int.tmod (wrap64 (a2_0)) (wrap64 ((t353.length : Int) + 1))))) + 1))))) then ((fold_Rows.f k t343 t346 t347 t348 (t353.drop ((wrap64 ((Int.tmod (wrap64 (a2_0)) (wrap64 ((t353.length : Int) + 1))) + (Int.tmod (wrap64 (a2_1)) (wrap64 ((wrap64 ((t353.length : Int) - (Int.tmod (wrap64 (a2_0)) (wrap64 ((t353.length : Int) + 1))))) + 1))))) : Int).toNat)).bind fun t386=>(if y378.length + t386.length < 5864062014805 then ((fold_Rows.f k t343 t346 t347 t348 t353).bind fun t392=>((fold_Rows.f k t343 t346 t347 t348 (y378 ++ t386)).bind fun t395=>((thresherref04_Rows.f k t395 t392).bind fun t398=>((fold_Rows.f k t343 t346 t347 t348 t392).bind fun t399=>((thresherref04_Rows.f k t399 t392).bind fun t402=>(if t342=true then (if t398=true then (thresherlaw13_FoldParts.j0 k t402) else (thresherlaw13_FoldParts.j0 k false)) else (thresherlaw13_FoldParts.j0 k false))))))) else (none))) else (none))) else (none))) else (none)) else (none))) else (none))) else (none)) else (none)))))))=some r:=H
 have A5:=Aside0.mk A50
 clear A50
 replace H:=Option.bind_eq_some_iff.mp H
 obtain ⟨t350,A60,H⟩:=H
 replace H : ((thresherref09_Sort.f k t343 t346 t347 t348 t350).bind fun t353=>(if (wrap64 ((t353.length : Int) + 1))=0 then (none) else (if (wrap64 ((wrap64 ((t353.length : Int) - (Int.tmod (wrap64 (a2_0)) (wrap64 ((t353.length : Int) + 1))))) + 1))=0 then (none) else ((some (([] : List (List (S45))) : List (List (S45)))).bind fun y356=>(if 0≤(Int.tmod (wrap64 (a2_0)) (wrap64 ((t353.length : Int) + 1))) then (if (Int.tmod (wrap64 (a2_0)) (wrap64 ((t353.length : Int) + 1)))≤(t353.length : Int) then ((fold_Rows.f k t343 t346 t347 t348 (t353.take ((Int.tmod (wrap64 (a2_0)) (wrap64 ((t353.length : Int) + 1))) : Int).toNat)).bind fun t364=>(if y356.length + t364.length < 5864062014805 then ((some (y356 ++ t364 : List (List (S45)))).bind fun y367=>(if (Int.tmod (wrap64 (a2_0)) (wrap64 ((t353.length : Int) + 1)))≤(wrap64 ((Int.tmod (wrap64 (a2_0)) (wrap64 ((t353.length : Int) + 1))) + (Int.tmod (wrap64 (a2_1)) (wrap64 ((wrap64 ((t353.length : Int) - (Int.tmod (wrap64 (a2_0)) (wrap64 ((t353.length : Int) + 1))))) + 1))))) then (if (wrap64 ((Int.tmod (wrap64 (a2_0)) (wrap64 ((t353.length : Int) + 1))) + (Int.tmod (wrap64 (a2_1)) (wrap64 ((wrap64 ((t353.length : Int) - (Int.tmod (wrap64 (a2_0)) (wrap64 ((t353.length : Int) + 1))))) + 1)))))≤(t353.length : Int) then ((fold_Rows.f k t343 t346 t347 t348 ((t353.take ((wrap64 ((Int.tmod (wrap64 (a2_0)) (wrap64 ((t353.length : Int) + 1))) + (Int.tmod (wrap64 (a2_1)) (wrap64 ((wrap64 ((t353.length : Int) - (Int.tmod (wrap64 (a2_0)) (wrap64 ((t353.length : Int) + 1))))) + 1))))) : Int).toNat).drop ((Int.tmod (wrap64 (a2_0)) (wrap64 ((t353.length : Int) + 1))) : Int).toNat)).bind fun t375=>(if y367.length + t375.length < 5864062014805 then ((some (y367 ++ t375 : List (List (S45)))).bind fun y378=>(if 0≤(wrap64 ((Int.tmod (wrap64 (a2_0)) (wrap64 ((t353.length : Int) + 1))) + (Int.tmod (wrap64 (a2_1)) (wrap64 ((wrap64 ((t353.length : Int) - (Int.tmod (wrap64 (a2_0)) (wrap64 ((t353.length : Int) + 1))))) + 1))))) then ((fold_Rows.f k t343 t346 t347 t348 (t353.drop ((wrap64 ((Int.tmod (wrap64 (a2_0)) (wrap64 ((t353.length : Int) + 1))) + (Int.tmod (wrap64 (a2_1)) (wrap64 ((wrap64 ((t353.length : Int) - (Int.tmod (wrap64 (a2_0)) (wrap64 ((t353.length : Int) + 1))))) + 1))))) : Int).toNat)).bind fun t386=>(if y378.length + t386.length < 5864062014805 then ((fold_Rows.f k t343 t346 t347 t348 t353).bind fun t392=>((fold_Rows.f k t343 t346 t347 t348 (y378 ++ t386)).bind fun t395=>((thresherref04_Rows.f k t395 t392).bind fun t398=>((fold_Rows.f k t343 t346 t347 t348 t392).bind fun t399=>((thresherref04_Rows.f k t399 t392).bind fun t402=>(if t342=true then (if t398=true then (thresherlaw13_FoldParts.j0 k t402) else (thresherlaw13_FoldParts.j0 k false)) else (thresherlaw13_FoldParts.j0 k false))))))) else (none))) else (none))) else (none))) else (none)) else (none))) else (none))) else (none)) else (none))))))=some r:=H
 have A6:=Aside0.mk A60
 clear A60
 replace H:=Option.bind_eq_some_iff.mp H
 obtain ⟨t353,A70,H⟩:=H
 replace H : (if (wrap64 ((t353.length : Int) + 1))=0 then (none) else (if (wrap64 ((wrap64 ((t353.length : Int) - (Int.tmod (wrap64 (a2_0)) (wrap64 ((t353.length : Int) + 1))))) + 1))=0 then (none) else ((some (([] : List (List (S45))) : List (List (S45)))).bind fun y356=>(if 0≤(Int.tmod (wrap64 (a2_0)) (wrap64 ((t353.length : Int) + 1))) then (if (Int.tmod (wrap64 (a2_0)) (wrap64 ((t353.length : Int) + 1)))≤(t353.length : Int) then ((fold_Rows.f k t343 t346 t347 t348 (t353.take ((Int.tmod (wrap64 (a2_0)) (wrap64 ((t353.length : Int) + 1))) : Int).toNat)).bind fun t364=>(if y356.length + t364.length < 5864062014805 then ((some (y356 ++ t364 : List (List (S45)))).bind fun y367=>(if (Int.tmod (wrap64 (a2_0)) (wrap64 ((t353.length : Int) + 1)))≤(wrap64 ((Int.tmod (wrap64 (a2_0)) (wrap64 ((t353.length : Int) + 1))) + (Int.tmod (wrap64 (a2_1)) (wrap64 ((wrap64 ((t353.length : Int) - (Int.tmod (wrap64 (a2_0)) (wrap64 ((t353.length : Int) + 1))))) + 1))))) then (if (wrap64 ((Int.tmod (wrap64 (a2_0)) (wrap64 ((t353.length : Int) + 1))) + (Int.tmod (wrap64 (a2_1)) (wrap64 ((wrap64 ((t353.length : Int) - (Int.tmod (wrap64 (a2_0)) (wrap64 ((t353.length : Int) + 1))))) + 1)))))≤(t353.length : Int) then ((fold_Rows.f k t343 t346 t347 t348 ((t353.take ((wrap64 ((Int.tmod (wrap64 (a2_0)) (wrap64 ((t353.length : Int) + 1))) + (Int.tmod (wrap64 (a2_1)) (wrap64 ((wrap64 ((t353.length : Int) - (Int.tmod (wrap64 (a2_0)) (wrap64 ((t353.length : Int) + 1))))) + 1))))) : Int).toNat).drop ((Int.tmod (wrap64 (a2_0)) (wrap64 ((t353.length : Int) + 1))) : Int).toNat)).bind fun t375=>(if y367.length + t375.length < 5864062014805 then ((some (y367 ++ t375 : List (List (S45)))).bind fun y378=>(if 0≤(wrap64 ((Int.tmod (wrap64 (a2_0)) (wrap64 ((t353.length : Int) + 1))) + (Int.tmod (wrap64 (a2_1)) (wrap64 ((wrap64 ((t353.length : Int) - (Int.tmod (wrap64 (a2_0)) (wrap64 ((t353.length : Int) + 1))))) + 1))))) then ((fold_Rows.f k t343 t346 t347 t348 (t353.drop ((wrap64 ((Int.tmod (wrap64 (a2_0)) (wrap64 ((t353.length : Int) + 1))) + (Int.tmod (wrap64 (a2_1)) (wrap64 ((wrap64 ((t353.length : Int) - (Int.tmod (wrap64 (a2_0)) (wrap64 ((t353.length : Int) + 1))))) + 1))))) : Int).toNat)).bind fun t386=>(if y378.length + t386.length < 5864062014805 then ((fold_Rows.f k t343 t346 t347 t348 t353).bind fun t392=>((fold_Rows.f k t343 t346 t347 t348 (y378 ++ t386)).bind fun t395=>((thresherref04_Rows.f k t395 t392).bind fun t398=>((fold_Rows.f k t343 t346 t347 t348 t392).bind fun t399=>((thresherref04_Rows.f k t399 t392).bind fun t402=>(if t342=true then (if t398=true then (thresherlaw13_FoldParts.j0 k t402) else (thresherlaw13_FoldParts.j0 k false)) else (thresherlaw13_FoldParts.j0 k false))))))) else (none))) else (none))) else (none))) else (none)) else (none))) else (none))) else (none)) else (none)))))=some r:=H
 have A7:=Aside0.mk A70
 clear A70
 by_cases c8 : (wrap64 ((t353.length : Int) + 1))=0
 ·rw [if_pos c8] at H
  exact absurd H (by simp)
 ·rw [if_neg c8] at H
  have c8b0 : ((wrap64 ((t353.length : Int) + 1)) == 0)=false:=beq_eq_false_iff_ne.mpr c8
  have c8b1 : ((wrap64 ((t353.length : Int) + 1)) != 0)=true:=bne_iff_ne.mpr c8
  by_cases c9 : (wrap64 ((wrap64 ((t353.length : Int) - (Int.tmod (wrap64 (a2_0)) (wrap64 ((t353.length : Int) + 1))))) + 1))=0
  ·rw [if_pos c9] at H
   exact absurd H (by simp)
  ·rw [if_neg c9] at H
   have c9b0 : ((wrap64 ((wrap64 ((t353.length : Int) - (Int.tmod (wrap64 (a2_0)) (wrap64 ((t353.length : Int) + 1))))) + 1)) == 0)=false:=beq_eq_false_iff_ne.mpr c9
   have c9b1 : ((wrap64 ((wrap64 ((t353.length : Int) - (Int.tmod (wrap64 (a2_0)) (wrap64 ((t353.length : Int) + 1))))) + 1)) != 0)=true:=bne_iff_ne.mpr c9
   obtain ⟨y356,hy356⟩ : ∃ y_ : List (List (S45)),y_=(([] : List (List (S45)))):=⟨_,rfl⟩
   replace H : (if 0≤(Int.tmod (wrap64 (a2_0)) (wrap64 ((t353.length : Int) + 1))) then (if (Int.tmod (wrap64 (a2_0)) (wrap64 ((t353.length : Int) + 1)))≤(t353.length : Int) then ((fold_Rows.f k t343 t346 t347 t348 (t353.take ((Int.tmod (wrap64 (a2_0)) (wrap64 ((t353.length : Int) + 1))) : Int).toNat)).bind fun t364=>(if y356.length + t364.length < 5864062014805 then ((some (y356 ++ t364 : List (List (S45)))).bind fun y367=>(if (Int.tmod (wrap64 (a2_0)) (wrap64 ((t353.length : Int) + 1)))≤(wrap64 ((Int.tmod (wrap64 (a2_0)) (wrap64 ((t353.length : Int) + 1))) + (Int.tmod (wrap64 (a2_1)) (wrap64 ((wrap64 ((t353.length : Int) - (Int.tmod (wrap64 (a2_0)) (wrap64 ((t353.length : Int) + 1))))) + 1))))) then (if (wrap64 ((Int.tmod (wrap64 (a2_0)) (wrap64 ((t353.length : Int) + 1))) + (Int.tmod (wrap64 (a2_1)) (wrap64 ((wrap64 ((t353.length : Int) - (Int.tmod (wrap64 (a2_0)) (wrap64 ((t353.length : Int) + 1))))) + 1)))))≤(t353.length : Int) then ((fold_Rows.f k t343 t346 t347 t348 ((t353.take ((wrap64 ((Int.tmod (wrap64 (a2_0)) (wrap64 ((t353.length : Int) + 1))) + (Int.tmod (wrap64 (a2_1)) (wrap64 ((wrap64 ((t353.length : Int) - (Int.tmod (wrap64 (a2_0)) (wrap64 ((t353.length : Int) + 1))))) + 1))))) : Int).toNat).drop ((Int.tmod (wrap64 (a2_0)) (wrap64 ((t353.length : Int) + 1))) : Int).toNat)).bind fun t375=>(if y367.length + t375.length < 5864062014805 then ((some (y367 ++ t375 : List (List (S45)))).bind fun y378=>(if 0≤(wrap64 ((Int.tmod (wrap64 (a2_0)) (wrap64 ((t353.length : Int) + 1))) + (Int.tmod (wrap64 (a2_1)) (wrap64 ((wrap64 ((t353.length : Int) - (Int.tmod (wrap64 (a2_0)) (wrap64 ((t353.length : Int) + 1))))) + 1))))) then ((fold_Rows.f k t343 t346 t347 t348 (t353.drop ((wrap64 ((Int.tmod (wrap64 (a2_0)) (wrap64 ((t353.length : Int) + 1))) + (Int.tmod (wrap64 (a2_1)) (wrap64 ((wrap64 ((t353.length : Int) - (Int.tmod (wrap64 (a2_0)) (wrap64 ((t353.length : Int) + 1))))) + 1))))) : Int).toNat)).bind fun t386=>(if y378.length + t386.length < 5864062014805 then ((fold_Rows.f k t343 t346 t347 t348 t353).bind fun t392=>((fold_Rows.f k t343 t346 t347 t348 (y378 ++ t386)).bind fun t395=>((thresherref04_Rows.f k t395 t392).bind fun t398=>((fold_Rows.f k t343 t346 t347 t348 t392).bind fun t399=>((thresherref04_Rows.f k t399 t392).bind fun t402=>(if t342=true then (if t398=true then (thresherlaw13_FoldParts.j0 k t402) else (thresherlaw13_FoldParts.j0 k false)) else (thresherlaw13_FoldParts.j0 k false))))))) else (none))) else (none))) else (none))) else (none)) else (none))) else (none))) else (none)) else (none))=some r:=by first|(rw [hy356];with_reducible exact H)|(have H2_:=(Option.bind_some _ _).symm.trans H;rw [hy356];with_reducible exact H2_)|(have H2_:=(Option.bind_some _ _).symm.trans H;with_reducible exact H2_)|with_reducible exact H|(rw [hy356];exact H)|exact H
   have Ny356:=Aside0.mk hy356
   clear hy356
   obtain ⟨ji10,hji10⟩ : ∃ j_ : Int,(Int.tmod (wrap64 (a2_0)) (wrap64 ((t353.length : Int) + 1)))=j_:=⟨_,rfl⟩
   replace H : (if 0≤(ji10) then (if (ji10)≤(t353.length : Int) then ((fold_Rows.f k t343 t346 t347 t348 (t353.take ((ji10) : Int).toNat)).bind fun t364=>(if y356.length + t364.length < 5864062014805 then ((some (y356 ++ t364 : List (List (S45)))).bind fun y367=>(if (ji10)≤(wrap64 ((ji10) + (Int.tmod (wrap64 (a2_1)) (wrap64 ((wrap64 ((t353.length : Int) - (ji10))) + 1))))) then (if (wrap64 ((ji10) + (Int.tmod (wrap64 (a2_1)) (wrap64 ((wrap64 ((t353.length : Int) - (ji10))) + 1)))))≤(t353.length : Int) then ((fold_Rows.f k t343 t346 t347 t348 ((t353.take ((wrap64 ((ji10) + (Int.tmod (wrap64 (a2_1)) (wrap64 ((wrap64 ((t353.length : Int) - (ji10))) + 1))))) : Int).toNat).drop ((ji10) : Int).toNat)).bind fun t375=>(if y367.length + t375.length < 5864062014805 then ((some (y367 ++ t375 : List (List (S45)))).bind fun y378=>(if 0≤(wrap64 ((ji10) + (Int.tmod (wrap64 (a2_1)) (wrap64 ((wrap64 ((t353.length : Int) - (ji10))) + 1))))) then ((fold_Rows.f k t343 t346 t347 t348 (t353.drop ((wrap64 ((ji10) + (Int.tmod (wrap64 (a2_1)) (wrap64 ((wrap64 ((t353.length : Int) - (ji10))) + 1))))) : Int).toNat)).bind fun t386=>(if y378.length + t386.length < 5864062014805 then ((fold_Rows.f k t343 t346 t347 t348 t353).bind fun t392=>((fold_Rows.f k t343 t346 t347 t348 (y378 ++ t386)).bind fun t395=>((thresherref04_Rows.f k t395 t392).bind fun t398=>((fold_Rows.f k t343 t346 t347 t348 t392).bind fun t399=>((thresherref04_Rows.f k t399 t392).bind fun t402=>(if t342=true then (if t398=true then (thresherlaw13_FoldParts.j0 k t402) else (thresherlaw13_FoldParts.j0 k false)) else (thresherlaw13_FoldParts.j0 k false))))))) else (none))) else (none))) else (none))) else (none)) else (none))) else (none))) else (none)) else (none))=some r:=by first|(rw [hji10] at H;exact H)|(simp only [hji10] at H ⊢;exact H)
   (try rw [hji10] at c9b0)
   (try rw [hji10] at c9)
   (try rw [hji10] at c9b1)
   (try rw [hji10] at A4)
   (try rw [hji10] at A5)
   (try rw [hji10] at A6)
   (try rw [hji10] at A7)
   by_cases c11 : 0≤(ji10)
   ·rw [if_pos c11] at H
    have c11b0:=eq_true c11
    have c11b1 : decide (0≤(ji10))=true:=decide_eq_true c11
    clear c11
    by_cases c12 : (ji10)≤(t353.length : Int)
    ·rw [if_pos c12] at H
     have c12b0:=eq_true c12
     have c12b1 : decide ((ji10)≤(t353.length : Int))=true:=decide_eq_true c12
     clear c12
     obtain ⟨y359,hy359⟩ : ∃ y_ : List (List (S45)),y_=(t353.take ((ji10) : Int).toNat):=⟨_,rfl⟩
     replace H : ((fold_Rows.f k t343 t346 t347 t348 y359).bind fun t364=>(if y356.length + t364.length < 5864062014805 then ((some (y356 ++ t364 : List (List (S45)))).bind fun y367=>(if (ji10)≤(wrap64 ((ji10) + (Int.tmod (wrap64 (a2_1)) (wrap64 ((wrap64 ((t353.length : Int) - (ji10))) + 1))))) then (if (wrap64 ((ji10) + (Int.tmod (wrap64 (a2_1)) (wrap64 ((wrap64 ((t353.length : Int) - (ji10))) + 1)))))≤(t353.length : Int) then ((fold_Rows.f k t343 t346 t347 t348 ((t353.take ((wrap64 ((ji10) + (Int.tmod (wrap64 (a2_1)) (wrap64 ((wrap64 ((t353.length : Int) - (ji10))) + 1))))) : Int).toNat).drop ((ji10) : Int).toNat)).bind fun t375=>(if y367.length + t375.length < 5864062014805 then ((some (y367 ++ t375 : List (List (S45)))).bind fun y378=>(if 0≤(wrap64 ((ji10) + (Int.tmod (wrap64 (a2_1)) (wrap64 ((wrap64 ((t353.length : Int) - (ji10))) + 1))))) then ((fold_Rows.f k t343 t346 t347 t348 (t353.drop ((wrap64 ((ji10) + (Int.tmod (wrap64 (a2_1)) (wrap64 ((wrap64 ((t353.length : Int) - (ji10))) + 1))))) : Int).toNat)).bind fun t386=>(if y378.length + t386.length < 5864062014805 then ((fold_Rows.f k t343 t346 t347 t348 t353).bind fun t392=>((fold_Rows.f k t343 t346 t347 t348 (y378 ++ t386)).bind fun t395=>((thresherref04_Rows.f k t395 t392).bind fun t398=>((fold_Rows.f k t343 t346 t347 t348 t392).bind fun t399=>((thresherref04_Rows.f k t399 t392).bind fun t402=>(if t342=true then (if t398=true then (thresherlaw13_FoldParts.j0 k t402) else (thresherlaw13_FoldParts.j0 k false)) else (thresherlaw13_FoldParts.j0 k false))))))) else (none))) else (none))) else (none))) else (none)) else (none))) else (none)))=some r:=by first|(rw [hy359];with_reducible exact H)|(have H2_:=(Option.bind_some _ _).symm.trans H;rw [hy359];with_reducible exact H2_)|(have H2_:=(Option.bind_some _ _).symm.trans H;with_reducible exact H2_)|with_reducible exact H|(rw [hy359];exact H)|exact H
     have Ny359:=Aside0.mk hy359
     clear hy359
     replace H:=Option.bind_eq_some_iff.mp H
     obtain ⟨t364,A130,H⟩:=H
     replace H : (if y356.length + t364.length < 5864062014805 then ((some (y356 ++ t364 : List (List (S45)))).bind fun y367=>(if (ji10)≤(wrap64 ((ji10) + (Int.tmod (wrap64 (a2_1)) (wrap64 ((wrap64 ((t353.length : Int) - (ji10))) + 1))))) then (if (wrap64 ((ji10) + (Int.tmod (wrap64 (a2_1)) (wrap64 ((wrap64 ((t353.length : Int) - (ji10))) + 1)))))≤(t353.length : Int) then ((fold_Rows.f k t343 t346 t347 t348 ((t353.take ((wrap64 ((ji10) + (Int.tmod (wrap64 (a2_1)) (wrap64 ((wrap64 ((t353.length : Int) - (ji10))) + 1))))) : Int).toNat).drop ((ji10) : Int).toNat)).bind fun t375=>(if y367.length + t375.length < 5864062014805 then ((some (y367 ++ t375 : List (List (S45)))).bind fun y378=>(if 0≤(wrap64 ((ji10) + (Int.tmod (wrap64 (a2_1)) (wrap64 ((wrap64 ((t353.length : Int) - (ji10))) + 1))))) then ((fold_Rows.f k t343 t346 t347 t348 (t353.drop ((wrap64 ((ji10) + (Int.tmod (wrap64 (a2_1)) (wrap64 ((wrap64 ((t353.length : Int) - (ji10))) + 1))))) : Int).toNat)).bind fun t386=>(if y378.length + t386.length < 5864062014805 then ((fold_Rows.f k t343 t346 t347 t348 t353).bind fun t392=>((fold_Rows.f k t343 t346 t347 t348 (y378 ++ t386)).bind fun t395=>((thresherref04_Rows.f k t395 t392).bind fun t398=>((fold_Rows.f k t343 t346 t347 t348 t392).bind fun t399=>((thresherref04_Rows.f k t399 t392).bind fun t402=>(if t342=true then (if t398=true then (thresherlaw13_FoldParts.j0 k t402) else (thresherlaw13_FoldParts.j0 k false)) else (thresherlaw13_FoldParts.j0 k false))))))) else (none))) else (none))) else (none))) else (none)) else (none))) else (none))=some r:=H
     have A13:=Aside0.mk A130
     clear A130
     by_cases c14 : y356.length + t364.length < 5864062014805
     ·rw [if_pos c14] at H
      have LMc14:=Aside0.mk c14
      clear c14
      obtain ⟨y367,hy367⟩ : ∃ y_ : List (List (S45)),y_=(y356 ++ t364):=⟨_,rfl⟩
      replace H : (if (ji10)≤(wrap64 ((ji10) + (Int.tmod (wrap64 (a2_1)) (wrap64 ((wrap64 ((t353.length : Int) - (ji10))) + 1))))) then (if (wrap64 ((ji10) + (Int.tmod (wrap64 (a2_1)) (wrap64 ((wrap64 ((t353.length : Int) - (ji10))) + 1)))))≤(t353.length : Int) then ((fold_Rows.f k t343 t346 t347 t348 ((t353.take ((wrap64 ((ji10) + (Int.tmod (wrap64 (a2_1)) (wrap64 ((wrap64 ((t353.length : Int) - (ji10))) + 1))))) : Int).toNat).drop ((ji10) : Int).toNat)).bind fun t375=>(if y367.length + t375.length < 5864062014805 then ((some (y367 ++ t375 : List (List (S45)))).bind fun y378=>(if 0≤(wrap64 ((ji10) + (Int.tmod (wrap64 (a2_1)) (wrap64 ((wrap64 ((t353.length : Int) - (ji10))) + 1))))) then ((fold_Rows.f k t343 t346 t347 t348 (t353.drop ((wrap64 ((ji10) + (Int.tmod (wrap64 (a2_1)) (wrap64 ((wrap64 ((t353.length : Int) - (ji10))) + 1))))) : Int).toNat)).bind fun t386=>(if y378.length + t386.length < 5864062014805 then ((fold_Rows.f k t343 t346 t347 t348 t353).bind fun t392=>((fold_Rows.f k t343 t346 t347 t348 (y378 ++ t386)).bind fun t395=>((thresherref04_Rows.f k t395 t392).bind fun t398=>((fold_Rows.f k t343 t346 t347 t348 t392).bind fun t399=>((thresherref04_Rows.f k t399 t392).bind fun t402=>(if t342=true then (if t398=true then (thresherlaw13_FoldParts.j0 k t402) else (thresherlaw13_FoldParts.j0 k false)) else (thresherlaw13_FoldParts.j0 k false))))))) else (none))) else (none))) else (none))) else (none)) else (none))=some r:=by first|(rw [hy367];with_reducible exact H)|(have H2_:=(Option.bind_some _ _).symm.trans H;rw [hy367];with_reducible exact H2_)|(have H2_:=(Option.bind_some _ _).symm.trans H;with_reducible exact H2_)|with_reducible exact H|(rw [hy367];exact H)|exact H
      have Ny367:=Aside0.mk hy367
      clear hy367
      have c15b0:=eq_true (of_decide_eq_true (by first|(with_reducible assumption)|assumption) : 0≤(ji10))
      by_cases c16 : (ji10)≤(wrap64 ((ji10) + (Int.tmod (wrap64 (a2_1)) (wrap64 ((wrap64 ((t353.length : Int) - (ji10))) + 1)))))
      ·rw [if_pos c16] at H
       have c16b0:=eq_true c16
       have c16b1 : decide ((ji10)≤(wrap64 ((ji10) + (Int.tmod (wrap64 (a2_1)) (wrap64 ((wrap64 ((t353.length : Int) - (ji10))) + 1))))))=true:=decide_eq_true c16
       by_cases c17 : (wrap64 ((ji10) + (Int.tmod (wrap64 (a2_1)) (wrap64 ((wrap64 ((t353.length : Int) - (ji10))) + 1)))))≤(t353.length : Int)
       ·rw [if_pos c17] at H
        have c17b0:=eq_true c17
        have c17b1 : decide ((wrap64 ((ji10) + (Int.tmod (wrap64 (a2_1)) (wrap64 ((wrap64 ((t353.length : Int) - (ji10))) + 1)))))≤(t353.length : Int))=true:=decide_eq_true c17
        obtain ⟨y370,hy370⟩ : ∃ y_ : List (List (S45)),y_=((t353.take ((wrap64 ((ji10) + (Int.tmod (wrap64 (a2_1)) (wrap64 ((wrap64 ((t353.length : Int) - (ji10))) + 1))))) : Int).toNat).drop ((ji10) : Int).toNat):=⟨_,rfl⟩
        replace H : ((fold_Rows.f k t343 t346 t347 t348 y370).bind fun t375=>(if y367.length + t375.length < 5864062014805 then ((some (y367 ++ t375 : List (List (S45)))).bind fun y378=>(if 0≤(wrap64 ((ji10) + (Int.tmod (wrap64 (a2_1)) (wrap64 ((wrap64 ((t353.length : Int) - (ji10))) + 1))))) then ((fold_Rows.f k t343 t346 t347 t348 (t353.drop ((wrap64 ((ji10) + (Int.tmod (wrap64 (a2_1)) (wrap64 ((wrap64 ((t353.length : Int) - (ji10))) + 1))))) : Int).toNat)).bind fun t386=>(if y378.length + t386.length < 5864062014805 then ((fold_Rows.f k t343 t346 t347 t348 t353).bind fun t392=>((fold_Rows.f k t343 t346 t347 t348 (y378 ++ t386)).bind fun t395=>((thresherref04_Rows.f k t395 t392).bind fun t398=>((fold_Rows.f k t343 t346 t347 t348 t392).bind fun t399=>((thresherref04_Rows.f k t399 t392).bind fun t402=>(if t342=true then (if t398=true then (thresherlaw13_FoldParts.j0 k t402) else (thresherlaw13_FoldParts.j0 k false)) else (thresherlaw13_FoldParts.j0 k false))))))) else (none))) else (none))) else (none)))=some r:=by first|(rw [hy370];with_reducible exact H)|(have H2_:=(Option.bind_some _ _).symm.trans H;rw [hy370];with_reducible exact H2_)|(have H2_:=(Option.bind_some _ _).symm.trans H;with_reducible exact H2_)|with_reducible exact H|(rw [hy370];exact H)|exact H
        have Ny370:=Aside0.mk hy370
        clear hy370
        replace H:=Option.bind_eq_some_iff.mp H
        obtain ⟨t375,A180,H⟩:=H
        replace H : (if y367.length + t375.length < 5864062014805 then ((some (y367 ++ t375 : List (List (S45)))).bind fun y378=>(if 0≤(wrap64 ((ji10) + (Int.tmod (wrap64 (a2_1)) (wrap64 ((wrap64 ((t353.length : Int) - (ji10))) + 1))))) then ((fold_Rows.f k t343 t346 t347 t348 (t353.drop ((wrap64 ((ji10) + (Int.tmod (wrap64 (a2_1)) (wrap64 ((wrap64 ((t353.length : Int) - (ji10))) + 1))))) : Int).toNat)).bind fun t386=>(if y378.length + t386.length < 5864062014805 then ((fold_Rows.f k t343 t346 t347 t348 t353).bind fun t392=>((fold_Rows.f k t343 t346 t347 t348 (y378 ++ t386)).bind fun t395=>((thresherref04_Rows.f k t395 t392).bind fun t398=>((fold_Rows.f k t343 t346 t347 t348 t392).bind fun t399=>((thresherref04_Rows.f k t399 t392).bind fun t402=>(if t342=true then (if t398=true then (thresherlaw13_FoldParts.j0 k t402) else (thresherlaw13_FoldParts.j0 k false)) else (thresherlaw13_FoldParts.j0 k false))))))) else (none))) else (none))) else (none))=some r:=H
        have A18:=Aside0.mk A180
        clear A180
        by_cases c19 : y367.length + t375.length < 5864062014805
        ·rw [if_pos c19] at H
         have LMc19:=Aside0.mk c19
         clear c19
         obtain ⟨y378,hy378⟩ : ∃ y_ : List (List (S45)),y_=(y367 ++ t375):=⟨_,rfl⟩
         replace H : (if 0≤(wrap64 ((ji10) + (Int.tmod (wrap64 (a2_1)) (wrap64 ((wrap64 ((t353.length : Int) - (ji10))) + 1))))) then ((fold_Rows.f k t343 t346 t347 t348 (t353.drop ((wrap64 ((ji10) + (Int.tmod (wrap64 (a2_1)) (wrap64 ((wrap64 ((t353.length : Int) - (ji10))) + 1))))) : Int).toNat)).bind fun t386=>(if y378.length + t386.length < 5864062014805 then ((fold_Rows.f k t343 t346 t347 t348 t353).bind fun t392=>((fold_Rows.f k t343 t346 t347 t348 (y378 ++ t386)).bind fun t395=>((thresherref04_Rows.f k t395 t392).bind fun t398=>((fold_Rows.f k t343 t346 t347 t348 t392).bind fun t399=>((thresherref04_Rows.f k t399 t392).bind fun t402=>(if t342=true then (if t398=true then (thresherlaw13_FoldParts.j0 k t402) else (thresherlaw13_FoldParts.j0 k false)) else (thresherlaw13_FoldParts.j0 k false))))))) else (none))) else (none))=some r:=by first|(rw [hy378];with_reducible exact H)|(have H2_:=(Option.bind_some _ _).symm.trans H;rw [hy378];with_reducible exact H2_)|(have H2_:=(Option.bind_some _ _).symm.trans H;with_reducible exact H2_)|with_reducible exact H|(rw [hy378];exact H)|exact H
         have Ny378:=Aside0.mk hy378
         clear hy378
         obtain ⟨ji20,hji20⟩ : ∃ j_ : Int,(wrap64 ((ji10) + (Int.tmod (wrap64 (a2_1)) (wrap64 ((wrap64 ((t353.length : Int) - (ji10))) + 1)))))=j_:=⟨_,rfl⟩
         replace H : (if 0≤(ji20) then ((fold_Rows.f k t343 t346 t347 t348 (t353.drop ((ji20) : Int).toNat)).bind fun t386=>(if y378.length + t386.length < 5864062014805 then ((fold_Rows.f k t343 t346 t347 t348 t353).bind fun t392=>((fold_Rows.f k t343 t346 t347 t348 (y378 ++ t386)).bind fun t395=>((thresherref04_Rows.f k t395 t392).bind fun t398=>((fold_Rows.f k t343 t346 t347 t348 t392).bind fun t399=>((thresherref04_Rows.f k t399 t392).bind fun t402=>(if t342=true then (if t398=true then (thresherlaw13_FoldParts.j0 k t402) else (thresherlaw13_FoldParts.j0 k false)) else (thresherlaw13_FoldParts.j0 k false))))))) else (none))) else (none))=some r:=by first|(rw [hji20] at H;exact H)|(simp only [hji20] at H ⊢;exact H)
         (try rw [hji20] at c16b0)
         (try rw [hji20] at c16)
         (try rw [hji20] at c16b1)
         (try rw [hji20] at c16)
         (try rw [hji20] at c17b0)
         (try rw [hji20] at c17)
         (try rw [hji20] at c17b1)
         (try rw [hji20] at c17)
         (try rw [hji20] at A4)
         (try rw [hji20] at A5)
         (try rw [hji20] at A6)
         (try rw [hji20] at A7)
         (try rw [hji20] at A13)
         (try rw [hji20] at Ny370)
         (try rw [hji20] at A18)
         have hji20w : (IntKind.i64.wrap ((ji10) + (Int.tmod (wrap64 (a2_1)) (wrap64 ((wrap64 ((t353.length : Int) - (ji10))) + 1)))))=ji20:=(i64_w _).trans hji20
         by_cases c21 : 0≤(ji20)
         ·rw [if_pos c21] at H
          have c21b0:=eq_true c21
          have c21b1 : decide (0≤(ji20))=true:=decide_eq_true c21
          clear c21
          have c22b0:=eq_true (of_decide_eq_true (by first|(with_reducible assumption)|assumption) : (ji20)≤(t353.length : Int))
          obtain ⟨y381,hy381⟩ : ∃ y_ : List (List (S45)),y_=(t353.drop ((ji20) : Int).toNat):=⟨_,rfl⟩
          replace H : ((fold_Rows.f k t343 t346 t347 t348 y381).bind fun t386=>(if y378.length + t386.length < 5864062014805 then ((fold_Rows.f k t343 t346 t347 t348 t353).bind fun t392=>((fold_Rows.f k t343 t346 t347 t348 (y378 ++ t386)).bind fun t395=>((thresherref04_Rows.f k t395 t392).bind fun t398=>((fold_Rows.f k t343 t346 t347 t348 t392).bind fun t399=>((thresherref04_Rows.f k t399 t392).bind fun t402=>(if t342=true then (if t398=true then (thresherlaw13_FoldParts.j0 k t402) else (thresherlaw13_FoldParts.j0 k false)) else (thresherlaw13_FoldParts.j0 k false))))))) else (none)))=some r:=by first|(rw [hy381];with_reducible exact H)|(have H2_:=(Option.bind_some _ _).symm.trans H;rw [hy381];with_reducible exact H2_)|(have H2_:=(Option.bind_some _ _).symm.trans H;with_reducible exact H2_)|with_reducible exact H|(rw [hy381];exact H)|exact H
          have Ny381:=Aside0.mk hy381
          clear hy381
          replace H:=Option.bind_eq_some_iff.mp H
          obtain ⟨t386,A230,H⟩:=H
          replace H : (if y378.length + t386.length < 5864062014805 then ((fold_Rows.f k t343 t346 t347 t348 t353).bind fun t392=>((fold_Rows.f k t343 t346 t347 t348 (y378 ++ t386)).bind fun t395=>((thresherref04_Rows.f k t395 t392).bind fun t398=>((fold_Rows.f k t343 t346 t347 t348 t392).bind fun t399=>((thresherref04_Rows.f k t399 t392).bind fun t402=>(if t342=true then (if t398=true then (thresherlaw13_FoldParts.j0 k t402) else (thresherlaw13_FoldParts.j0 k false)) else (thresherlaw13_FoldParts.j0 k false))))))) else (none))=some r:=H
          have A23:=Aside0.mk A230
          clear A230
          by_cases c24 : y378.length + t386.length < 5864062014805
          ·rw [if_pos c24] at H
           have LMc24:=Aside0.mk c24
           clear c24
           obtain ⟨y389,hy389⟩ : ∃ y_ : List (List (S45)),y_=(y378 ++ t386):=⟨_,rfl⟩
           replace H : ((fold_Rows.f k t343 t346 t347 t348 t353).bind fun t392=>((fold_Rows.f k t343 t346 t347 t348 y389).bind fun t395=>((thresherref04_Rows.f k t395 t392).bind fun t398=>((fold_Rows.f k t343 t346 t347 t348 t392).bind fun t399=>((thresherref04_Rows.f k t399 t392).bind fun t402=>(if t342=true then (if t398=true then (thresherlaw13_FoldParts.j0 k t402) else (thresherlaw13_FoldParts.j0 k false)) else (thresherlaw13_FoldParts.j0 k false)))))))=some r:=by first|(rw [hy389];with_reducible exact H)|(have H2_:=(Option.bind_some _ _).symm.trans H;rw [hy389];with_reducible exact H2_)|(have H2_:=(Option.bind_some _ _).symm.trans H;with_reducible exact H2_)|with_reducible exact H|(rw [hy389];exact H)|exact H
           have Ny389:=Aside0.mk hy389
           clear hy389
           replace H:=Option.bind_eq_some_iff.mp H
           obtain ⟨t392,A250,H⟩:=H
           replace H : ((fold_Rows.f k t343 t346 t347 t348 y389).bind fun t395=>((thresherref04_Rows.f k t395 t392).bind fun t398=>((fold_Rows.f k t343 t346 t347 t348 t392).bind fun t399=>((thresherref04_Rows.f k t399 t392).bind fun t402=>(if t342=true then (if t398=true then (thresherlaw13_FoldParts.j0 k t402) else (thresherlaw13_FoldParts.j0 k false)) else (thresherlaw13_FoldParts.j0 k false))))))=some r:=H
           have A25:=Aside0.mk A250
           clear A250
           replace H:=Option.bind_eq_some_iff.mp H
           obtain ⟨t395,A260,H⟩:=H
           replace H : ((thresherref04_Rows.f k t395 t392).bind fun t398=>((fold_Rows.f k t343 t346 t347 t348 t392).bind fun t399=>((thresherref04_Rows.f k t399 t392).bind fun t402=>(if t342=true then (if t398=true then (thresherlaw13_FoldParts.j0 k t402) else (thresherlaw13_FoldParts.j0 k false)) else (thresherlaw13_FoldParts.j0 k false)))))=some r:=H
           have A26:=Aside0.mk A260
           clear A260
           replace H:=Option.bind_eq_some_iff.mp H
           obtain ⟨t398,A270,H⟩:=H
           replace H : ((fold_Rows.f k t343 t346 t347 t348 t392).bind fun t399=>((thresherref04_Rows.f k t399 t392).bind fun t402=>(if t342=true then (if t398=true then (thresherlaw13_FoldParts.j0 k t402) else (thresherlaw13_FoldParts.j0 k false)) else (thresherlaw13_FoldParts.j0 k false))))=some r:=H
           have A27:=Aside0.mk A270
           clear A270
           replace H:=Option.bind_eq_some_iff.mp H
           obtain ⟨t399,A280,H⟩:=H
           replace H : ((thresherref04_Rows.f k t399 t392).bind fun t402=>(if t342=true then (if t398=true then (thresherlaw13_FoldParts.j0 k t402) else (thresherlaw13_FoldParts.j0 k false)) else (thresherlaw13_FoldParts.j0 k false)))=some r:=H
           have A28:=Aside0.mk A280
           clear A280
           replace H:=Option.bind_eq_some_iff.mp H
           obtain ⟨t402,A290,H⟩:=H
           replace H : (if t342=true then (if t398=true then (thresherlaw13_FoldParts.j0 k t402) else (thresherlaw13_FoldParts.j0 k false)) else (thresherlaw13_FoldParts.j0 k false))=some r:=H
           have A29:=Aside0.mk A290
           clear A290
           have HC30:=Aside0.mk H
           clear H
           go_enter Try.func4,Try.ntmps4
           try go_wp2_with (first|((with_reducible refine gate_dst (N:=3) rfl ?_);refine box_event ?hg (N:=3) ?hd (cs:=#[.int .u8 a0_0,.int .u8 a0_1,.int .u8 a0_2,.int .u8 a0_3,.int .u8 a0_4,.int .u8 a0_5,.int .u8 a0_6,.int .u8 a0_7,.int .u8 a0_8,.int .u8 a0_9,.int .u8 a0_10,.int .u8 a0_11]) (t:=24) ?hr ?_;(case hd=>rfl);(case hg=>rfl);(case hr=>first|(go_simp;done)|(go_simp;rfl));intro gb340 hg w31 hbox hb;have n0_:=Aside0.mk (below_step (by repeat (first|(with_reducible first|exact HB.out|apply below_alloc|apply pw_below_drewN|apply below_drew1)|exact HB.out)) hb);have n1_:=Aside0.mk (hbox);have n2_:=Aside0.mk ((by rw [hg];exact (below_size (by repeat (first|(with_reducible first|exact HB.out|apply below_alloc|apply pw_below_drewN|apply below_drew1)|exact HB.out))) : w.heap.size≤gb340));have n3_:=Aside0.mk ((by rw [hg];exact (below_size (by repeat (first|(with_reducible first|exact HB.out|apply below_alloc|apply pw_below_drewN|apply below_drew1)|exact HB.out))) : w.heap.size≤gb340));clear HB;have HB:=n0_;have BK340:=n1_;have GW340:=n2_;have GE340:=n3_;clear n0_ n1_ n2_ n3_;clear hb hbox hg)|((with_reducible refine gate_dst (N:=5) rfl ?_);refine box_event ?hg (N:=5) ?hd (cs:=#[.int .u8 a2_0,.int .u8 a2_1]) (t:=40) ?hr ?_;(case hd=>rfl);(case hg=>rfl);(case hr=>first|(go_simp;done)|(go_simp;rfl));intro gb341 hg w32 hbox hb;have n0_:=Aside0.mk (blk_below (g:=gb340) (o:=.cells #[.int .u8 a0_0,.int .u8 a0_1,.int .u8 a0_2,.int .u8 a0_3,.int .u8 a0_4,.int .u8 a0_5,.int .u8 a0_6,.int .u8 a0_7,.int .u8 a0_8,.int .u8 a0_9,.int .u8 a0_10,.int .u8 a0_11] 24 (0,0)) (by (with_reducible repeat (first|refine blk_drewN ?_ _|refine blk_drew ?_|refine blk_alloc ?_ _));exact BK340.out) hb);have n1_:=Aside0.mk (below_step (by repeat (first|(with_reducible first|exact HB.out|apply below_alloc|apply pw_below_drewN|apply below_drew1|refine below_set ?_ GE340.out)|exact HB.out)) hb);have n2_:=Aside0.mk (hbox);have n3_:=Aside0.mk ((by rw [hg];exact (below_size (by repeat (first|(with_reducible first|exact HB.out|apply below_alloc|apply pw_below_drewN|apply below_drew1|refine below_set ?_ GE340.out)|exact HB.out))) : w.heap.size≤gb341));have n4_:=Aside0.mk ((by rw [hg];exact (below_size (by repeat (first|(with_reducible first|exact HB.out|apply below_alloc|apply pw_below_drewN|apply below_drew1|refine below_set ?_ GE340.out)|exact HB.out))) : w.heap.size≤gb341));have n5_:=Aside0.mk ((by rw [hg];exact Nat.ne_of_lt (blk_lt (g:=gb340) (o:=.cells #[.int .u8 a0_0,.int .u8 a0_1,.int .u8 a0_2,.int .u8 a0_3,.int .u8 a0_4,.int .u8 a0_5,.int .u8 a0_6,.int .u8 a0_7,.int .u8 a0_8,.int .u8 a0_9,.int .u8 a0_10,.int .u8 a0_11] 24 (0,0)) (by (with_reducible repeat (first|refine blk_drewN ?_ _|refine blk_drew ?_|refine blk_alloc ?_ _));exact BK340.out)) : gb340≠gb341));have n6_:=Aside0.mk ((by rw [hg];exact Nat.ne_of_gt (blk_lt (g:=gb340) (o:=.cells #[.int .u8 a0_0,.int .u8 a0_1,.int .u8 a0_2,.int .u8 a0_3,.int .u8 a0_4,.int .u8 a0_5,.int .u8 a0_6,.int .u8 a0_7,.int .u8 a0_8,.int .u8 a0_9,.int .u8 a0_10,.int .u8 a0_11] 24 (0,0)) (by (with_reducible repeat (first|refine blk_drewN ?_ _|refine blk_drew ?_|refine blk_alloc ?_ _));exact BK340.out)) : gb341≠gb340));clear BK340;clear HB;have BK340:=n0_;have HB:=n1_;have BK341:=n2_;have GW341:=n3_;have GE341:=n4_;have NB340_341:=n5_;have NB341_340:=n6_;clear n0_ n1_ n2_ n3_ n4_ n5_ n6_;clear hb hbox hg)|((with_reducible refine gate_callee (f:=8) rfl ?_);refine goesL_ (some 16) rfl rfl Try.func8 (by kernel_rfl) rfl #[] rfl (by (try simp only [List.map_toArray,List.map_cons,List.map_nil]);first|done|rfl|(simp only [List.length_drop,List.length_take];rfl)) ?_;(with_reducible refine (thresherlaw13_shown.calls k  t342 _ A4.out).mono ?_);rintro e w33 ⟨rfl,hb⟩;refine ⟨_,rfl,?_⟩;have n0_:=Aside0.mk (blk_below (g:=gb340) (o:=.cells #[.int .u8 a0_0,.int .u8 a0_1,.int .u8 a0_2,.int .u8 a0_3,.int .u8 a0_4,.int .u8 a0_5,.int .u8 a0_6,.int .u8 a0_7,.int .u8 a0_8,.int .u8 a0_9,.int .u8 a0_10,.int .u8 a0_11] 24 (0,0)) (by (with_reducible repeat (first|refine blk_drewN ?_ _|refine blk_drew ?_|refine blk_alloc ?_ _));exact BK340.out) hb);have n1_:=Aside0.mk (blk_below (g:=gb341) (o:=.cells #[.int .u8 a2_0,.int .u8 a2_1] 40 (0,0)) (by (with_reducible repeat (first|refine blk_drewN ?_ _|refine blk_drew ?_|refine blk_alloc ?_ _));exact BK341.out) hb);have n2_:=Aside0.mk (below_step (by repeat (first|(with_reducible first|exact HB.out|apply below_alloc|apply pw_below_drewN|apply below_drew1|refine below_set ?_ GE340.out|refine below_set ?_ GE341.out)|exact HB.out)) hb);clear BK340;clear BK341;clear HB;have BK340:=n0_;have BK341:=n1_;have HB:=n2_;clear n0_ n1_ n2_;(try clear hb);(try clear hb2);(try clear hk);(try clear hi);have hnb34:=NB340_341.out;have hnc34:=NB341_340.out;have hcz35_0 : w33.cell? ⟨gb340,0,none⟩=some (.int .u8 a0_0):=(blk_cell BK340.out 0).trans rfl;have hcz35_1 : w33.cell? ⟨gb340,1,none⟩=some (.int .u8 a0_1):=(blk_cell BK340.out 1).trans rfl;have hcz35_2 : w33.cell? ⟨gb340,2,none⟩=some (.int .u8 a0_2):=(blk_cell BK340.out 2).trans rfl;have hcz35_3 : w33.cell? ⟨gb340,3,none⟩=some (.int .u8 a0_3):=(blk_cell BK340.out 3).trans rfl;have hcz35_4 : w33.cell? ⟨gb340,4,none⟩=some (.int .u8 a0_4):=(blk_cell BK340.out 4).trans rfl;have hcz35_5 : w33.cell? ⟨gb340,5,none⟩=some (.int .u8 a0_5):=(blk_cell BK340.out 5).trans rfl;have hcz35_6 : w33.cell? ⟨gb340,6,none⟩=some (.int .u8 a0_6):=(blk_cell BK340.out 6).trans rfl;have hcz35_7 : w33.cell? ⟨gb340,7,none⟩=some (.int .u8 a0_7):=(blk_cell BK340.out 7).trans rfl;have hcz35_8 : w33.cell? ⟨gb340,8,none⟩=some (.int .u8 a0_8):=(blk_cell BK340.out 8).trans rfl;have hcz35_9 : w33.cell? ⟨gb340,9,none⟩=some (.int .u8 a0_9):=(blk_cell BK340.out 9).trans rfl;have hcz35_10 : w33.cell? ⟨gb340,10,none⟩=some (.int .u8 a0_10):=(blk_cell BK340.out 10).trans rfl;have hcz35_11 : w33.cell? ⟨gb340,11,none⟩=some (.int .u8 a0_11):=(blk_cell BK340.out 11).trans rfl;have hfz35_0:=blk_frozen BK340.out 0;have hfz35_1:=blk_frozen BK340.out 1;have hfz35_2:=blk_frozen BK340.out 2;have hfz35_3:=blk_frozen BK340.out 3;have hfz35_4:=blk_frozen BK340.out 4;have hfz35_5:=blk_frozen BK340.out 5;have hfz35_6:=blk_frozen BK340.out 6;have hfz35_7:=blk_frozen BK340.out 7;have hfz35_8:=blk_frozen BK340.out 8;have hfz35_9:=blk_frozen BK340.out 9;have hfz35_10:=blk_frozen BK340.out 10;have hfz35_11:=blk_frozen BK340.out 11)|((with_reducible refine gate_callee (f:=9) rfl ?_);refine goesL_ (some 18) rfl rfl Try.func9 (by kernel_rfl) rfl #[.agg #[.int .u8 a0_0,.int .u8 a0_1,.int .u8 a0_2,.int .u8 a0_3,.int .u8 a0_4,.int .u8 a0_5,.int .u8 a0_6,.int .u8 a0_7,.int .u8 a0_8,.int .u8 a0_9,.int .u8 a0_10,.int .u8 a0_11]] rfl (by (try simp only [List.map_toArray,List.map_cons,List.map_nil]);first|done|rfl|(simp only [List.length_drop,List.length_take];rfl)) ?_;(with_reducible refine (thresherlaw13_made.calls k a0_0 a0_1 a0_2 a0_3 a0_4 a0_5 a0_6 a0_7 a0_8 a0_9 a0_10 a0_11 t343 t346 t347 t348 _ A5.out).mono ?_);rintro e w36 ⟨v344,rfl,ho0,hb⟩;refine ⟨_,rfl,?_⟩;have n0_:=Aside0.mk (Kd.R_lower ho0 (below_size (by repeat (first|(with_reducible first|exact HB.out|apply below_alloc|apply pw_below_drewN|apply below_drew1|refine below_set ?_ GE340.out|refine below_set ?_ GE341.out)|exact HB.out))));have n1_:=Aside0.mk (blk_below (g:=gb340) (o:=.cells #[.int .u8 a0_0,.int .u8 a0_1,.int .u8 a0_2,.int .u8 a0_3,.int .u8 a0_4,.int .u8 a0_5,.int .u8 a0_6,.int .u8 a0_7,.int .u8 a0_8,.int .u8 a0_9,.int .u8 a0_10,.int .u8 a0_11] 24 (0,0)) (by (with_reducible repeat (first|refine blk_drewN ?_ _|refine blk_drew ?_|refine blk_alloc ?_ _));exact BK340.out) hb);have n2_:=Aside0.mk (blk_below (g:=gb341) (o:=.cells #[.int .u8 a2_0,.int .u8 a2_1] 40 (0,0)) (by (with_reducible repeat (first|refine blk_drewN ?_ _|refine blk_drew ?_|refine blk_alloc ?_ _));exact BK341.out) hb);have n3_:=Aside0.mk (below_step (by repeat (first|(with_reducible first|exact HB.out|apply below_alloc|apply pw_below_drewN|apply below_drew1|refine below_set ?_ GE340.out|refine below_set ?_ GE341.out)|exact HB.out)) hb);clear BK340;clear BK341;clear HB;have HO345:=n0_;have BK340:=n1_;have BK341:=n2_;have HB:=n3_;clear n0_ n1_ n2_ n3_;(try clear hb);(try clear hb2);(try clear hk);(try clear hi);(try clear ho0))|((with_reducible refine gate_dst (N:=8) rfl ?_);refine box_event ?hg (N:=8) ?hd (cs:=#[.slice none 0 0,.int .i64 0,.int .i64 0,.int .i64 0]) (t:=29) ?hr ?_;(case hd=>rfl);(case hg=>rfl);(case hr=>first|(go_simp;done)|(go_simp;rfl));intro gb349 hg w37 hbox hb;have n0_:=Aside0.mk (Kd.R_below (by (with_reducible repeat (first|apply Kd.R_alloc|apply Kd.R_drewN|apply Kd.R_drew));exact HO345.out) hb);have n1_:=Aside0.mk (blk_below (g:=gb340) (o:=.cells #[.int .u8 a0_0,.int .u8 a0_1,.int .u8 a0_2,.int .u8 a0_3,.int .u8 a0_4,.int .u8 a0_5,.int .u8 a0_6,.int .u8 a0_7,.int .u8 a0_8,.int .u8 a0_9,.int .u8 a0_10,.int .u8 a0_11] 24 (0,0)) (by (with_reducible repeat (first|refine blk_drewN ?_ _|refine blk_drew ?_|refine blk_alloc ?_ _));exact BK340.out) hb);have n2_:=Aside0.mk (blk_below (g:=gb341) (o:=.cells #[.int .u8 a2_0,.int .u8 a2_1] 40 (0,0)) (by (with_reducible repeat (first|refine blk_drewN ?_ _|refine blk_drew ?_|refine blk_alloc ?_ _));exact BK341.out) hb);have n3_:=Aside0.mk (below_step (by repeat (first|(with_reducible first|exact HB.out|apply below_alloc|apply pw_below_drewN|apply below_drew1|refine below_set ?_ GE340.out|refine below_set ?_ GE341.out)|exact HB.out)) hb);have n4_:=Aside0.mk (hbox);have n5_:=Aside0.mk ((by rw [hg];exact (below_size (by repeat (first|(with_reducible first|exact HB.out|apply below_alloc|apply pw_below_drewN|apply below_drew1|refine below_set ?_ GE340.out|refine below_set ?_ GE341.out)|exact HB.out))) : w.heap.size≤gb349));have n6_:=Aside0.mk ((by rw [hg];exact (below_size (by repeat (first|(with_reducible first|exact HB.out|apply below_alloc|apply pw_below_drewN|apply below_drew1|refine below_set ?_ GE340.out|refine below_set ?_ GE341.out)|exact HB.out))) : w.heap.size≤gb349));have n7_:=Aside0.mk ((by rw [hg];exact Nat.ne_of_lt (blk_lt (g:=gb340) (o:=.cells #[.int .u8 a0_0,.int .u8 a0_1,.int .u8 a0_2,.int .u8 a0_3,.int .u8 a0_4,.int .u8 a0_5,.int .u8 a0_6,.int .u8 a0_7,.int .u8 a0_8,.int .u8 a0_9,.int .u8 a0_10,.int .u8 a0_11] 24 (0,0)) (by (with_reducible repeat (first|refine blk_drewN ?_ _|refine blk_drew ?_|refine blk_alloc ?_ _));exact BK340.out)) : gb340≠gb349));have n8_:=Aside0.mk ((by rw [hg];exact Nat.ne_of_gt (blk_lt (g:=gb340) (o:=.cells #[.int .u8 a0_0,.int .u8 a0_1,.int .u8 a0_2,.int .u8 a0_3,.int .u8 a0_4,.int .u8 a0_5,.int .u8 a0_6,.int .u8 a0_7,.int .u8 a0_8,.int .u8 a0_9,.int .u8 a0_10,.int .u8 a0_11] 24 (0,0)) (by (with_reducible repeat (first|refine blk_drewN ?_ _|refine blk_drew ?_|refine blk_alloc ?_ _));exact BK340.out)) : gb349≠gb340));have n9_:=Aside0.mk ((by rw [hg];exact Nat.ne_of_lt (blk_lt (g:=gb341) (o:=.cells #[.int .u8 a2_0,.int .u8 a2_1] 40 (0,0)) (by (with_reducible repeat (first|refine blk_drewN ?_ _|refine blk_drew ?_|refine blk_alloc ?_ _));exact BK341.out)) : gb341≠gb349));have n10_:=Aside0.mk ((by rw [hg];exact Nat.ne_of_gt (blk_lt (g:=gb341) (o:=.cells #[.int .u8 a2_0,.int .u8 a2_1] 40 (0,0)) (by (with_reducible repeat (first|refine blk_drewN ?_ _|refine blk_drew ?_|refine blk_alloc ?_ _));exact BK341.out)) : gb349≠gb341));clear HO345;clear BK340;clear BK341;clear HB;have HO345:=n0_;have BK340:=n1_;have BK341:=n2_;have HB:=n3_;have BK349:=n4_;have GW349:=n5_;have GE349:=n6_;have NB340_349:=n7_;have NB349_340:=n8_;have NB341_349:=n9_;have NB349_341:=n10_;clear n0_ n1_ n2_ n3_ n4_ n5_ n6_ n7_ n8_ n9_ n10_;clear hb hbox hg;obtain ⟨Ao38,co38,eo38⟩:=Kd.R_slice HO345.out;subst eo38;have hnb39:=NB349_340.out;have hnc39:=NB340_349.out;have hnb40:=NB349_341.out;have hnc40:=NB341_349.out;have hcz41_0 : w37.cell? ⟨gb349,0,none⟩=some (.slice none 0 0):=(blk_cell BK349.out 0).trans rfl;have hcz41_1 : w37.cell? ⟨gb349,1,none⟩=some (.int .i64 0):=(blk_cell BK349.out 1).trans rfl;have hcz41_2 : w37.cell? ⟨gb349,2,none⟩=some (.int .i64 0):=(blk_cell BK349.out 2).trans rfl;have hcz41_3 : w37.cell? ⟨gb349,3,none⟩=some (.int .i64 0):=(blk_cell BK349.out 3).trans rfl;have hfz41_0:=blk_frozen BK349.out 0;have hfz41_1:=blk_frozen BK349.out 1;have hfz41_2:=blk_frozen BK349.out 2;have hfz41_3:=blk_frozen BK349.out 3))
           have n0_ : Aside0 (Kd.R (Kd.int .i64) 3 ((((w37.setCell ⟨gb349,0,none⟩ (.slice Ao38 t343.length co38)).setCell ⟨gb349,1,none⟩ (.int .i64 t346)).setCell ⟨gb349,2,none⟩ (.int .i64 t347)).setCell ⟨gb349,3,none⟩ (.int .i64 t348)) w.heap.size (fun _=>True) (.slice Ao38 t343.length co38) t343):=⟨by (with_reducible repeat (first|apply Kd.R_alloc|apply Kd.R_drewN|apply Kd.R_drew));exact Kd.R_mono (Kd.R_far (p:=⟨gb349,3,none⟩) (Kd.R_far (p:=⟨gb349,2,none⟩) (Kd.R_far (p:=⟨gb349,1,none⟩) (Kd.R_far (p:=⟨gb349,0,none⟩) (Kd.R_types HO345.out BK349.out (by decide)) (fun _ hk=>hk.2) (.slice Ao38 t343.length co38)) (fun _ hk=>hk.2) (.int .i64 t346)) (fun _ hk=>hk.2) (.int .i64 t347)) (fun _ hk=>hk.2) (.int .i64 t348)) (fun _ hk=>trivial)⟩
           have n1_ : Aside0 (((((w37.setCell ⟨gb349,0,none⟩ (.slice Ao38 t343.length co38)).setCell ⟨gb349,1,none⟩ (.int .i64 t346)).setCell ⟨gb349,2,none⟩ (.int .i64 t347)).setCell ⟨gb349,3,none⟩ (.int .i64 t348)).heap[gb340]?=some (.cells #[.int .u8 a0_0,.int .u8 a0_1,.int .u8 a0_2,.int .u8 a0_3,.int .u8 a0_4,.int .u8 a0_5,.int .u8 a0_6,.int .u8 a0_7,.int .u8 a0_8,.int .u8 a0_9,.int .u8 a0_10,.int .u8 a0_11] 24 (0,0))):=⟨by (with_reducible repeat (first|refine blk_drewN ?_ _|refine blk_drew ?_|refine blk_alloc ?_ _));refine blk_far ?_ NB340_349.out _;(with_reducible repeat (first|refine blk_drewN ?_ _|refine blk_drew ?_|refine blk_alloc ?_ _));refine blk_far ?_ NB340_349.out _;(with_reducible repeat (first|refine blk_drewN ?_ _|refine blk_drew ?_|refine blk_alloc ?_ _));refine blk_far ?_ NB340_349.out _;(with_reducible repeat (first|refine blk_drewN ?_ _|refine blk_drew ?_|refine blk_alloc ?_ _));refine blk_far ?_ NB340_349.out _;(with_reducible repeat (first|refine blk_drewN ?_ _|refine blk_drew ?_|refine blk_alloc ?_ _));exact BK340.out⟩
           have n2_ : Aside0 (((((w37.setCell ⟨gb349,0,none⟩ (.slice Ao38 t343.length co38)).setCell ⟨gb349,1,none⟩ (.int .i64 t346)).setCell ⟨gb349,2,none⟩ (.int .i64 t347)).setCell ⟨gb349,3,none⟩ (.int .i64 t348)).heap[gb341]?=some (.cells #[.int .u8 a2_0,.int .u8 a2_1] 40 (0,0))):=⟨by (with_reducible repeat (first|refine blk_drewN ?_ _|refine blk_drew ?_|refine blk_alloc ?_ _));refine blk_far ?_ NB341_349.out _;(with_reducible repeat (first|refine blk_drewN ?_ _|refine blk_drew ?_|refine blk_alloc ?_ _));refine blk_far ?_ NB341_349.out _;(with_reducible repeat (first|refine blk_drewN ?_ _|refine blk_drew ?_|refine blk_alloc ?_ _));refine blk_far ?_ NB341_349.out _;(with_reducible repeat (first|refine blk_drewN ?_ _|refine blk_drew ?_|refine blk_alloc ?_ _));refine blk_far ?_ NB341_349.out _;(with_reducible repeat (first|refine blk_drewN ?_ _|refine blk_drew ?_|refine blk_alloc ?_ _));exact BK341.out⟩
           have n3_ : Aside0 (((((w37.setCell ⟨gb349,0,none⟩ (.slice Ao38 t343.length co38)).setCell ⟨gb349,1,none⟩ (.int .i64 t346)).setCell ⟨gb349,2,none⟩ (.int .i64 t347)).setCell ⟨gb349,3,none⟩ (.int .i64 t348)).heap[gb349]?=some (.cells #[.slice Ao38 t343.length co38,.int .i64 t346,.int .i64 t347,.int .i64 t348] 29 (0,0))):=⟨by (with_reducible repeat (first|refine blk_drewN ?_ _|refine blk_drew ?_|refine blk_alloc ?_ _));refine blk_put (cs:=#[.slice Ao38 t343.length co38,.int .i64 t346,.int .i64 t347,.int .i64 0]) ?_ 3 _ rfl;(with_reducible repeat (first|refine blk_drewN ?_ _|refine blk_drew ?_|refine blk_alloc ?_ _));refine blk_put (cs:=#[.slice Ao38 t343.length co38,.int .i64 t346,.int .i64 0,.int .i64 0]) ?_ 2 _ rfl;(with_reducible repeat (first|refine blk_drewN ?_ _|refine blk_drew ?_|refine blk_alloc ?_ _));refine blk_put (cs:=#[.slice Ao38 t343.length co38,.int .i64 0,.int .i64 0,.int .i64 0]) ?_ 1 _ rfl;(with_reducible repeat (first|refine blk_drewN ?_ _|refine blk_drew ?_|refine blk_alloc ?_ _));refine blk_put (cs:=#[.slice none 0 0,.int .i64 0,.int .i64 0,.int .i64 0]) ?_ 0 _ rfl;(with_reducible repeat (first|refine blk_drewN ?_ _|refine blk_drew ?_|refine blk_alloc ?_ _));exact BK349.out⟩
           have n4_ : Aside0 (Below w.heap.size w ((((w37.setCell ⟨gb349,0,none⟩ (.slice Ao38 t343.length co38)).setCell ⟨gb349,1,none⟩ (.int .i64 t346)).setCell ⟨gb349,2,none⟩ (.int .i64 t347)).setCell ⟨gb349,3,none⟩ (.int .i64 t348))):=⟨by repeat (first|(with_reducible first|exact HB.out|apply below_alloc|apply pw_below_drewN|apply below_drew1|refine below_set ?_ GE340.out|refine below_set ?_ GE341.out|refine below_set ?_ GE349.out)|exact HB.out)⟩
           (try clear HO345)
           (try clear BK340)
           (try clear BK341)
           (try clear BK349)
           (try clear HB)
           generalize ((((w37.setCell ⟨gb349,0,none⟩ (.slice Ao38 t343.length co38)).setCell ⟨gb349,1,none⟩ (.int .i64 t346)).setCell ⟨gb349,2,none⟩ (.int .i64 t347)).setCell ⟨gb349,3,none⟩ (.int .i64 t348))=w42 at n0_ n1_ n2_ n3_ n4_ ⊢
           have HO345:=n0_
           have BK340:=n1_
           have BK341:=n2_
           have BK349:=n3_
           have HB:=n4_
           clear n0_ n1_ n2_ n3_ n4_
           have n0_:=Aside0.mk (Kd.R_drew HO345.out)
           have n1_:=Aside0.mk (blk_drew BK340.out)
           have n2_:=Aside0.mk (blk_drew BK341.out)
           have n3_:=Aside0.mk (blk_drew BK349.out)
           have n4_:=Aside0.mk (below_drew1 HB.out)
           clear HO345
           clear BK340
           clear BK341
           clear BK349
           clear HB
           have HO345:=n0_
           have BK340:=n1_
           have BK341:=n2_
           have BK349:=n3_
           have HB:=n4_
           clear n0_ n1_ n2_ n3_ n4_
           refine start_ (n:=6) (S:=fun w'=>w'.cell? ⟨gb349,0,none⟩=some (.slice Ao38 t343.length co38)∧w'.cell? ⟨gb349,1,none⟩=some (.int .i64 t346)∧w'.cell? ⟨gb349,2,none⟩=some (.int .i64 t347)∧w'.cell? ⟨gb349,3,none⟩=some (.int .i64 t348)) (ds:=[]) #[false,false,false,false,false,false] (by kernel_rfl) rfl rfl ⟨(blk_cell BK349.out 0).trans rfl,(blk_cell BK349.out 1).trans rfl,(blk_cell BK349.out 2).trans rfl,(blk_cell BK349.out 3).trans rfl⟩ (fun hHeld=>?_)
           generalize w42.drew=w43 at HO345 BK340 BK341 BK349 HB hHeld ⊢
           refine pure_ (i:=2) (N:=some 21) (v:=?_) (a':=?_) #[false,false,true,false,false,false] rfl rfl (by kernel_rfl) (fun _ _ _ h=>h) (Or.inl ⟨by rfl,?_⟩) ?_ ?_
           rotate_left;(intro w';go_simp;with_reducible rfl);rotate_left;(simp only [Act.put,List.setIfInBounds_toArray,List.set_cons_zero,List.set_cons_succ,i64_w,i32_w];rfl)
           refine take_ (i:=0) (N:=some 19) (v:=?_) (a':=?_) #[true,false,true,false,false,false] rfl rfl (by kernel_rfl) (fun _ _ _ h=>h) (Or.inl ⟨by rfl,?_⟩) hHeld ?_ ?_
           rotate_left;(rintro w' ⟨s0,s1,s2,s3⟩;go_simp;with_reducible rfl);rotate_left;(simp only [Act.put,List.setIfInBounds_toArray,List.set_cons_zero,List.set_cons_succ,i64_w,i32_w];rfl)
           refine take_ (i:=1) (N:=some 20) (v:=?_) (a':=?_) #[true,true,true,false,false,false] rfl rfl (by kernel_rfl) (fun _ _ _ h=>h) (Or.inl ⟨by rfl,?_⟩) hHeld ?_ ?_
           rotate_left;(rintro w' ⟨s0,s1,s2,s3⟩;go_simp;with_reducible rfl);rotate_left;(simp only [Act.put,List.setIfInBounds_toArray,List.set_cons_zero,List.set_cons_succ,i64_w,i32_w];rfl)
           refine one_ (i:=3) (N:=some 22) #[true,true,true,true,false,false] rfl rfl (by kernel_rfl) (by decide) (fun K hK=>?_)
           refine goes_ Try.func11 (by kernel_rfl) rfl #[.agg #[.slice Ao38 t343.length co38,.int .i64 t346,.int .i64 t347,.int .i64 t348],.slice A1 l1.length c1,.int .i64 60] (by rfl) rfl rfl (by (try simp only [List.map_toArray,List.map_cons,List.map_nil]);first|done|rfl|(simp only [List.length_drop,List.length_take];rfl)) ?_
           with_reducible refine (thresherref04_Fits.calls k _ _ t343 t346 t347 t348 _ _ l1 60 t350 _ ?side1 ?side2 ?side3 ?side4 A6.out).mono ?_
           (case side1=>repeat (first|exact (Kd.R_reads' HO345.out).2.2|(with_reducible refine Kd.C_alloc ?_ _)|(with_reducible refine Kd.C_drewN ?_ _)|(with_reducible refine Kd.C_drew ?_)))
           (case side2=>exact (Kd.R_reads' HO345.out).2.1)
           (case side3=>repeat (first|exact (Kd.C_below HR1.out HB.out)|(with_reducible refine Kd.C_alloc ?_ _)|(with_reducible refine Kd.C_drewN ?_ _)|(with_reducible refine Kd.C_drew ?_)))
           (case side4=>exact HC1.out)
           rintro e w44 ⟨v351,rfl,ho0,hb⟩
           refine ⟨_,rfl,?_⟩
           have n0_:=Aside0.mk (Kd.R_below (by (with_reducible repeat (first|apply Kd.R_alloc|apply Kd.R_drewN|apply Kd.R_drew));exact HO345.out) hb)
           have n1_:=Aside0.mk (Kd.N_lower (Kd.N_mono (ok':=fun k_=>some k_≠(.slice Ao38 t343.length co38 : Value).ownBlock∧k_≠gb340∧k_≠gb341∧k_≠gb349) (Kd.S_N (Kd.S_bound ho0)) (fun k_ hk_=>⟨(Kd.fresh' (Kd.R_lt (by (with_reducible repeat (first|apply Kd.R_alloc|apply Kd.R_drewN|apply Kd.R_drew));exact HO345.out)) k_ hk_.2.1),(Kd.freshB (g:=gb340) (o:=.cells #[.int .u8 a0_0,.int .u8 a0_1,.int .u8 a0_2,.int .u8 a0_3,.int .u8 a0_4,.int .u8 a0_5,.int .u8 a0_6,.int .u8 a0_7,.int .u8 a0_8,.int .u8 a0_9,.int .u8 a0_10,.int .u8 a0_11] 24 (0,0)) (by (with_reducible repeat (first|refine blk_drewN ?_ _|refine blk_drew ?_|refine blk_alloc ?_ _));exact BK340.out) k_ hk_.2.1),(Kd.freshB (g:=gb341) (o:=.cells #[.int .u8 a2_0,.int .u8 a2_1] 40 (0,0)) (by (with_reducible repeat (first|refine blk_drewN ?_ _|refine blk_drew ?_|refine blk_alloc ?_ _));exact BK341.out) k_ hk_.2.1),(Kd.freshB (g:=gb349) (o:=.cells #[.slice Ao38 t343.length co38,.int .i64 t346,.int .i64 t347,.int .i64 t348] 29 (0,0)) (by (with_reducible repeat (first|refine blk_drewN ?_ _|refine blk_drew ?_|refine blk_alloc ?_ _));exact BK349.out) k_ hk_.2.1)⟩)) (below_size (by repeat (first|(with_reducible first|exact HB.out|apply below_alloc|apply pw_below_drewN|apply below_drew1|refine below_set ?_ GE340.out|refine below_set ?_ GE341.out|refine below_set ?_ GE349.out)|exact HB.out))))
           have n2_:=Aside0.mk (blk_below (g:=gb340) (o:=.cells #[.int .u8 a0_0,.int .u8 a0_1,.int .u8 a0_2,.int .u8 a0_3,.int .u8 a0_4,.int .u8 a0_5,.int .u8 a0_6,.int .u8 a0_7,.int .u8 a0_8,.int .u8 a0_9,.int .u8 a0_10,.int .u8 a0_11] 24 (0,0)) (by (with_reducible repeat (first|refine blk_drewN ?_ _|refine blk_drew ?_|refine blk_alloc ?_ _));exact BK340.out) hb)
           have n3_:=Aside0.mk (blk_below (g:=gb341) (o:=.cells #[.int .u8 a2_0,.int .u8 a2_1] 40 (0,0)) (by (with_reducible repeat (first|refine blk_drewN ?_ _|refine blk_drew ?_|refine blk_alloc ?_ _));exact BK341.out) hb)
           have n4_:=Aside0.mk (blk_below (g:=gb349) (o:=.cells #[.slice Ao38 t343.length co38,.int .i64 t346,.int .i64 t347,.int .i64 t348] 29 (0,0)) (by (with_reducible repeat (first|refine blk_drewN ?_ _|refine blk_drew ?_|refine blk_alloc ?_ _));exact BK349.out) hb)
           have n5_:=Aside0.mk (below_step (by repeat (first|(with_reducible first|exact HB.out|apply below_alloc|apply pw_below_drewN|apply below_drew1|refine below_set ?_ GE340.out|refine below_set ?_ GE341.out|refine below_set ?_ GE349.out)|exact HB.out)) hb)
           clear HO345
           clear BK340
           clear BK341
           clear BK349
           clear HB
           have HO345:=n0_
           have HO352:=n1_
           have BK340:=n2_
           have BK341:=n3_
           have BK349:=n4_
           have HB:=n5_
           clear n0_ n1_ n2_ n3_ n4_ n5_
           (try clear hb)
           (try clear hb2)
           (try clear hk)
           (try clear hi)
           (try clear ho0)
           obtain ⟨Ao45,co45,eo45⟩:=Kd.N_slice HO352.out
           (first|subst eo45|(injection eo45 with f1_ f2_ f3_;have f4_:=f1_.symm;have f5_:=f3_.symm;clear f1_ f2_ f3_;subst f4_;subst f5_))
           refine hK.out _ _ ⟨(blk_cell BK349.out 0).trans rfl,(blk_cell BK349.out 1).trans rfl,(blk_cell BK349.out 2).trans rfl,(blk_cell BK349.out 3).trans rfl⟩ (fun hHeld=>?_)
           clear hK K
           refine norm_ (a':=?_) ?_ ?_
           rotate_left
           ·show Act.put _ (some 22) _=_
            simp only [Act.put,List.setIfInBounds_toArray,List.set_cons_zero,List.set_cons_succ,i64_w,i32_w]
            rfl
           refine one_ (i:=4) (N:=some 23) #[true,true,true,true,true,false] rfl rfl (by kernel_rfl) (by decide) (fun K hK=>?_)
           refine goes_ Try.func10 (by kernel_rfl) rfl #[.agg #[.slice Ao38 t343.length co38,.int .i64 t346,.int .i64 t347,.int .i64 t348],.slice Ao45 t350.length co45] (by rfl) rfl rfl (by (try simp only [List.map_toArray,List.map_cons,List.map_nil]);first|done|rfl|(simp only [List.length_drop,List.length_take];rfl)) ?_
           with_reducible refine (thresherref09_Sort.calls k _ _ t343 t346 t347 t348 (fun k_=>(some k_≠(.slice Ao38 t343.length co38 : Value).ownBlock∧(k_≠gb340∧(k_≠gb341∧k_≠gb349)))) _ _ t350 t353 _ ?side1 ?side2 ?side3 A7.out).mono ?_
           (case side1=>repeat (first|exact (Kd.R_reads' HO345.out).2.2|(with_reducible refine Kd.C_alloc ?_ _)|(with_reducible refine Kd.C_drewN ?_ _)|(with_reducible refine Kd.C_drew ?_)))
           (case side2=>exact (Kd.R_reads' HO345.out).2.1)
           (case side3=>exact Kd.N_V (HO352.out))
           rintro e w46 ⟨v354,rfl,ho0,hb⟩
           refine ⟨_,rfl,?_⟩
           have n0_:=Aside0.mk (Kd.R_below (by (with_reducible repeat (first|apply Kd.R_alloc|apply Kd.R_drewN|apply Kd.R_drew));exact HO345.out) hb)
           have n1_:=Aside0.mk (Kd.N_elder' (by (with_reducible repeat (first|apply Kd.N_alloc|apply Kd.N_drewN|apply Kd.N_drew));exact HO352.out) (by first|exact Kd.N_base ho0|exact Kd.S_base ho0) hb)
           have n2_:=Aside0.mk (Kd.N_lower (Kd.N_mono (ok':=fun k_=>some k_≠(.slice Ao38 t343.length co38 : Value).ownBlock∧k_≠gb340∧k_≠gb341∧k_≠gb349) ho0 (fun k_ hk_=>⟨Or.elim hk_ (fun hs_=>hs_.1) (fun hn_=>(Kd.fresh' (Kd.R_lt (by (with_reducible repeat (first|apply Kd.R_alloc|apply Kd.R_drewN|apply Kd.R_drew));exact HO345.out)) k_ hn_)),Or.elim hk_ (fun hs_=>hs_.2.1) (fun hn_=>(Kd.freshB (g:=gb340) (o:=.cells #[.int .u8 a0_0,.int .u8 a0_1,.int .u8 a0_2,.int .u8 a0_3,.int .u8 a0_4,.int .u8 a0_5,.int .u8 a0_6,.int .u8 a0_7,.int .u8 a0_8,.int .u8 a0_9,.int .u8 a0_10,.int .u8 a0_11] 24 (0,0)) (by (with_reducible repeat (first|refine blk_drewN ?_ _|refine blk_drew ?_|refine blk_alloc ?_ _));exact BK340.out) k_ hn_)),Or.elim hk_ (fun hs_=>hs_.2.2.1) (fun hn_=>(Kd.freshB (g:=gb341) (o:=.cells #[.int .u8 a2_0,.int .u8 a2_1] 40 (0,0)) (by (with_reducible repeat (first|refine blk_drewN ?_ _|refine blk_drew ?_|refine blk_alloc ?_ _));exact BK341.out) k_ hn_)),Or.elim hk_ (fun hs_=>hs_.2.2.2) (fun hn_=>(Kd.freshB (g:=gb349) (o:=.cells #[.slice Ao38 t343.length co38,.int .i64 t346,.int .i64 t347,.int .i64 t348] 29 (0,0)) (by (with_reducible repeat (first|refine blk_drewN ?_ _|refine blk_drew ?_|refine blk_alloc ?_ _));exact BK349.out) k_ hn_))⟩)) (below_size (by repeat (first|(with_reducible first|exact HB.out|apply below_alloc|apply pw_below_drewN|apply below_drew1|refine below_set ?_ GE340.out|refine below_set ?_ GE341.out|refine below_set ?_ GE349.out)|exact HB.out))))
           have n3_:=Aside0.mk (blk_below (g:=gb340) (o:=.cells #[.int .u8 a0_0,.int .u8 a0_1,.int .u8 a0_2,.int .u8 a0_3,.int .u8 a0_4,.int .u8 a0_5,.int .u8 a0_6,.int .u8 a0_7,.int .u8 a0_8,.int .u8 a0_9,.int .u8 a0_10,.int .u8 a0_11] 24 (0,0)) (by (with_reducible repeat (first|refine blk_drewN ?_ _|refine blk_drew ?_|refine blk_alloc ?_ _));exact BK340.out) hb)
           have n4_:=Aside0.mk (blk_below (g:=gb341) (o:=.cells #[.int .u8 a2_0,.int .u8 a2_1] 40 (0,0)) (by (with_reducible repeat (first|refine blk_drewN ?_ _|refine blk_drew ?_|refine blk_alloc ?_ _));exact BK341.out) hb)
           have n5_:=Aside0.mk (blk_below (g:=gb349) (o:=.cells #[.slice Ao38 t343.length co38,.int .i64 t346,.int .i64 t347,.int .i64 t348] 29 (0,0)) (by (with_reducible repeat (first|refine blk_drewN ?_ _|refine blk_drew ?_|refine blk_alloc ?_ _));exact BK349.out) hb)
           have n6_:=Aside0.mk (below_step (by repeat (first|(with_reducible first|exact HB.out|apply below_alloc|apply pw_below_drewN|apply below_drew1|refine below_set ?_ GE340.out|refine below_set ?_ GE341.out|refine below_set ?_ GE349.out)|exact HB.out)) hb)
           clear HO345
           clear HO352
           clear BK340
           clear BK341
           clear BK349
           clear HB
           have HO345:=n0_
           have HO352:=n1_
           have HO355:=n2_
           have BK340:=n3_
           have BK341:=n4_
           have BK349:=n5_
           have HB:=n6_
           clear n0_ n1_ n2_ n3_ n4_ n5_ n6_
           (try clear hb)
           (try clear hb2)
           (try clear hk)
           (try clear hi)
           (try clear ho0)
           refine hK.out _ _ ⟨(blk_cell BK349.out 0).trans rfl,(blk_cell BK349.out 1).trans rfl,(blk_cell BK349.out 2).trans rfl,(blk_cell BK349.out 3).trans rfl⟩ (fun hHeld=>?_)
           clear hK K
           refine norm_ (a':=?_) ?_ ?_
           rotate_left
           ·show Act.put _ (some 23) _=_
            simp only [Act.put,List.setIfInBounds_toArray,List.set_cons_zero,List.set_cons_succ,i64_w,i32_w]
            rfl
           refine pure_ (i:=5) (N:=some 9) (v:=?_) (a':=?_) #[true,true,true,true,true,true] rfl rfl (by kernel_rfl) (fun _ _ _ h=>h) (Or.inl ⟨by rfl,?_⟩) ?_ ?_
           rotate_left;(intro w';go_simp;with_reducible rfl);rotate_left;(simp only [Act.put,List.setIfInBounds_toArray,List.set_cons_zero,List.set_cons_succ,i64_w,i32_w];rfl)
           refine done_ (by kernel_rfl) ?_
           have hcz47_0 : w46.cell? ⟨gb341,0,none⟩=some (.int .u8 a2_0):=(blk_cell BK341.out 0).trans rfl
           have hcz47_1 : w46.cell? ⟨gb341,1,none⟩=some (.int .u8 a2_1):=(blk_cell BK341.out 1).trans rfl
           have hfz47_0:=blk_frozen BK341.out 0
           have hfz47_1:=blk_frozen BK341.out 1
           obtain ⟨Ao48,co48,eo48⟩:=Kd.N_slice HO355.out
           subst eo48
           try go_wp2
           have n0_:=Aside0.mk (Kd.R_drew HO345.out)
           have n1_:=Aside0.mk (Kd.N_drew HO352.out)
           have n2_:=Aside0.mk (Kd.N_drew HO355.out)
           have n3_:=Aside0.mk (blk_drew BK340.out)
           have n4_:=Aside0.mk (blk_drew BK341.out)
           have n5_:=Aside0.mk (blk_drew BK349.out)
           have n6_:=Aside0.mk (below_drew1 HB.out)
           clear HO345
           clear HO352
           clear HO355
           clear BK340
           clear BK341
           clear BK349
           clear HB
           have HO345:=n0_
           have HO352:=n1_
           have HO355:=n2_
           have BK340:=n3_
           have BK341:=n4_
           have BK349:=n5_
           have HB:=n6_
           clear n0_ n1_ n2_ n3_ n4_ n5_ n6_
           have q50 : ((ji10) : Int)≤((t353.length : Int) : Int):=of_decide_eq_true (by first|(with_reducible assumption)|assumption)
           obtain ⟨i050,hi050,_,hsz50,_⟩:=info_parts info36
           have hroom50 : t353.length≤co48:=(Kd.N_reads' HO355.out).2.1
           have hC50 : Kd.F (Kd.slice 45 k45) _ _ Ao48 t353.length t353:=(Kd.V_at (base:=w.heap.size) (Kd.N_V HO355.out)).2.2
           have hcut50:=cut_to (P:=Try.prog) 25 36 .i64 Try.underlying25 hi050 Ao48 t353.length co48 (ji10) (of_decide_eq_true (by first|(with_reducible assumption)|assumption)) q50 hroom50
           have hr50:=Kd.F_take (m:=((ji10) : Int).toNat) hC50 (by omega)
           have hy50 : y359.length=((ji10) : Int).toNat:=(by rw [Ny359.out,List.length_take];omega)
           rw [← Ny359.out] at hr50
           rw [← hy50] at hcut50
           have HO363:=Aside0.mk (show Kd.V (Kd.slice 45 k45) 36 _ w.heap.size _ (.slice Ao48 y359.length co48) y359 from Kd.V_mk (by omega) hr50)
           have HC363:=Aside0.mk (show y359.length≤co48 from by omega)
           clear hr50 hC50 hroom50 hi050 hsz50
           have KY50:=Aside0.mk hy50
           clear hy50
           replace q50:=eq_true q50
           refine start_ (n:=8) (S:=fun w'=>w'.cell? ⟨gb349,0,none⟩=some (.slice Ao38 t343.length co38)∧w'.cell? ⟨gb349,1,none⟩=some (.int .i64 t346)∧w'.cell? ⟨gb349,2,none⟩=some (.int .i64 t347)∧w'.cell? ⟨gb349,3,none⟩=some (.int .i64 t348)) (ds:=[]) #[false,false,false,false,false,false,false,false] (by kernel_rfl) rfl rfl ⟨(blk_cell BK349.out 0).trans rfl,(blk_cell BK349.out 1).trans rfl,(blk_cell BK349.out 2).trans rfl,(blk_cell BK349.out 3).trans rfl⟩ (fun hHeld=>?_);refine with_tabW thresherlaw13_FoldParts.tab6 thresherlaw13_FoldParts.bits6 (fun HT_ HW_=>?_)
           generalize w46.drew=w49 at HO345 HO352 HO355 BK340 BK341 BK349 HB HO363 hHeld ⊢
           refine pure_ (i:=2) (N:=some 44) (v:=?_) (a':=?_) #[false,false,true,false,false,false,false,false] rfl rfl (any_of HT_.out (by kernel_rfl)) (fun _ _ _ h=>h) (Or.inl ⟨by rfl,?_⟩) ?_ ?_
           rotate_left;(intro w';go_simp;with_reducible rfl);rotate_left;(simp only [Act.put,List.setIfInBounds_toArray,List.set_cons_zero,List.set_cons_succ,i64_w,i32_w];rfl)
           refine pure_ (i:=3) (N:=some 45) (v:=?_) (a':=?_) #[false,false,true,true,false,false,false,false] rfl rfl (any_of HT_.out (by kernel_rfl)) (fun _ _ _ h=>h) (Or.inl ⟨by rfl,?_⟩) ?_ ?_
           rotate_left;(intro w';go_simp;with_reducible rfl);rotate_left;(simp only [Act.put,List.setIfInBounds_toArray,List.set_cons_zero,List.set_cons_succ,i64_w,i32_w];rfl)
           refine pure_ (i:=4) (N:=some 46) (v:=?_) (a':=?_) #[false,false,true,true,true,false,false,false] rfl rfl (any_of HT_.out (by kernel_rfl)) (fun _ _ _ h=>h) (Or.inl ⟨by rfl,?_⟩) ?_ ?_
           rotate_left;(intro w';go_simp;with_reducible rfl);rotate_left;(simp only [Act.put,List.setIfInBounds_toArray,List.set_cons_zero,List.set_cons_succ,i64_w,i32_w];rfl)
           refine take_ (i:=1) (N:=some 43) (v:=?_) (a':=?_) #[false,true,true,true,true,false,false,false] rfl rfl (take_ofW HT_.out HW_.out (by kernel_rfl)) (fun _ _ _ h=>h) (Or.inl ⟨by rfl,?_⟩) hHeld ?_ ?_
           rotate_left;(rintro w' ⟨s0,s1,s2,s3⟩;go_simp;with_reducible rfl);rotate_left;(simp only [Act.put,List.setIfInBounds_toArray,List.set_cons_zero,List.set_cons_succ,i64_w,i32_w];rfl)
           refine join_ (σ:=Value × Value) 2 #[true,true,true,true,true,true,false,false] (fun s_=>[(42,s_.1),(47,s_.2)]) (fun s_ w'=>(w'.cell? ⟨gb349,0,none⟩=some (.slice Ao38 t343.length co38)∧w'.cell? ⟨gb349,1,none⟩=some (.int .i64 t346)∧w'.cell? ⟨gb349,2,none⟩=some (.int .i64 t347)∧w'.cell? ⟨gb349,3,none⟩=some (.int .i64 t348))∧(Kd.R (Kd.int .i64) 3 w' w.heap.size (fun _=>True) (.slice Ao38 t343.length co38) t343)∧(Kd.N (Kd.slice 45 k45) 36 w' w.heap.size (fun k_=>some k_≠(.slice Ao38 t343.length co38 : Value).ownBlock∧some k_≠(.slice Ao48 t353.length co48 : Value).ownBlock∧some k_≠(s_.1 : Value).ownBlock∧some k_≠(s_.2 : Value).ownBlock∧k_≠gb340∧k_≠gb341∧k_≠gb349) (.slice Ao45 t350.length co45) t350)∧(Kd.N (Kd.slice 45 k45) 36 w' w.heap.size (fun k_=>some k_≠(.slice Ao38 t343.length co38 : Value).ownBlock∧some k_≠(s_.1 : Value).ownBlock∧some k_≠(s_.2 : Value).ownBlock∧k_≠gb340∧k_≠gb341∧k_≠gb349) (.slice Ao48 t353.length co48) t353)∧(Kd.N (Kd.slice 45 k45) 36 w' w.heap.size (fun k_=>some k_≠(.slice Ao38 t343.length co38 : Value).ownBlock∧some k_≠(.slice Ao45 t350.length co45 : Value).ownBlock∧some k_≠(.slice Ao48 t353.length co48 : Value).ownBlock∧some k_≠(s_.2 : Value).ownBlock∧k_≠gb340∧k_≠gb341∧k_≠gb349) s_.1 y356)∧(Kd.V (Kd.slice 45 k45) 36 w' w.heap.size (fun k_=>some k_≠(.slice Ao38 t343.length co38 : Value).ownBlock∧some k_≠(s_.1 : Value).ownBlock∧some k_≠(s_.2 : Value).ownBlock∧k_≠gb340∧k_≠gb341∧k_≠gb349) (.slice Ao48 y359.length co48) y359)∧(Kd.N (Kd.slice 45 k45) 36 w' w.heap.size (fun k_=>some k_≠(.slice Ao38 t343.length co38 : Value).ownBlock∧some k_≠(s_.1 : Value).ownBlock∧k_≠gb340∧k_≠gb341∧k_≠gb349) s_.2 t364)∧(w'.heap[gb340]?=some (.cells #[.int .u8 a0_0,.int .u8 a0_1,.int .u8 a0_2,.int .u8 a0_3,.int .u8 a0_4,.int .u8 a0_5,.int .u8 a0_6,.int .u8 a0_7,.int .u8 a0_8,.int .u8 a0_9,.int .u8 a0_10,.int .u8 a0_11] 24 (0,0)))∧(w'.heap[gb341]?=some (.cells #[.int .u8 a2_0,.int .u8 a2_1] 40 (0,0)))∧(w'.heap[gb349]?=some (.cells #[.slice Ao38 t343.length co38,.int .i64 t346,.int .i64 t347,.int .i64 t348] 29 (0,0)))∧(Below w.heap.size w w')) ?_ ?_
           rotate_left
           ·intro hCont
            refine two_ (i:=0) (j:=5) (Ni:=some 42) (Nj:=some 47) #[true,true,true,true,true,false,false,false] #[false,true,true,true,true,true,false,false] rfl rfl rfl rfl (two_of HT_.out (by kernel_rfl)) (by decide) (by decide) (fun K hK=>?_) (fun K hK=>?_)
            ·skip
             refine Kd.N_lit_step (Kd.slice 45 k45) _ 36 ?hg (N':=42) ?hd (xs:=([] : List (List (S45)))) (inner:=[]) (ok:=(fun k_=>some k_≠(.slice Ao38 t343.length co38 : Value).ownBlock∧some k_≠(.slice Ao45 t350.length co45 : Value).ownBlock∧some k_≠(.slice Ao48 t353.length co48 : Value).ownBlock∧k_≠gb340∧k_≠gb341∧k_≠gb349)) (okp:=(fun k_=>some k_≠(.slice Ao38 t343.length co38 : Value).ownBlock∧some k_≠(.slice Ao45 t350.length co45 : Value).ownBlock∧some k_≠(.slice Ao48 t353.length co48 : Value).ownBlock∧k_≠gb340∧k_≠gb341∧k_≠gb349)) ?hr ?hp (fun _ hk=>hk) ((show ∀ k_,w49.heap.size≤k_→(fun k_=>some k_≠(.slice Ao38 t343.length co38 : Value).ownBlock∧some k_≠(.slice Ao45 t350.length co45 : Value).ownBlock∧some k_≠(.slice Ao48 t353.length co48 : Value).ownBlock∧k_≠gb340∧k_≠gb341∧k_≠gb349) k_ from fun k_ hk=>⟨Kd.fresh' (Kd.R_lt (by (with_reducible repeat (first|apply Kd.R_alloc|apply Kd.R_drewN|apply Kd.R_drew));exact HO345.out)) k_ hk,Kd.fresh' (Kd.N_lt (by (with_reducible repeat (first|apply Kd.N_alloc|apply Kd.N_drewN|apply Kd.N_drew));exact HO352.out)) k_ hk,Kd.fresh' (Kd.N_lt (by (with_reducible repeat (first|apply Kd.N_alloc|apply Kd.N_drewN|apply Kd.N_drew));exact HO355.out)) k_ hk,Kd.freshB (g:=gb340) (o:=.cells #[.int .u8 a0_0,.int .u8 a0_1,.int .u8 a0_2,.int .u8 a0_3,.int .u8 a0_4,.int .u8 a0_5,.int .u8 a0_6,.int .u8 a0_7,.int .u8 a0_8,.int .u8 a0_9,.int .u8 a0_10,.int .u8 a0_11] 24 (0,0)) (by (with_reducible repeat (first|refine blk_drewN ?_ _|refine blk_drew ?_|refine blk_alloc ?_ _));exact BK340.out) k_ hk,Kd.freshB (g:=gb341) (o:=.cells #[.int .u8 a2_0,.int .u8 a2_1] 40 (0,0)) (by (with_reducible repeat (first|refine blk_drewN ?_ _|refine blk_drew ?_|refine blk_alloc ?_ _));exact BK341.out) k_ hk,Kd.freshB (g:=gb349) (o:=.cells #[.slice Ao38 t343.length co38,.int .i64 t346,.int .i64 t347,.int .i64 t348] 29 (0,0)) (by (with_reducible repeat (first|refine blk_drewN ?_ _|refine blk_drew ?_|refine blk_alloc ?_ _));exact BK349.out) k_ hk⟩) _ (Nat.le_refl _)) (Below.refl _ _) (Nat.le_refl _) (by simp) ?_;(case hd=>rfl);(case hg=>rfl);(case hr=>first|(go_simp;done)|(go_simp;rfl));(case hp=>exact (Reps.none _ _))
             intro v357 w51 ho52 hb hg_ hnew_
             clear hg_ hnew_
             (first|rw [← Ny356.out] at ho52|(simp only [Int.reduceToNat] at ho52;rw [← Ny356.out] at ho52))
             have n0_:=Aside0.mk (Kd.R_below (by (with_reducible repeat (first|apply Kd.R_alloc|apply Kd.R_drewN|apply Kd.R_drew));exact HO345.out) hb)
             have n1_:=Aside0.mk (Kd.N_elder' (by (with_reducible repeat (first|apply Kd.N_alloc|apply Kd.N_drewN|apply Kd.N_drew));exact HO352.out) (Kd.N_base ho52) hb)
             have n2_:=Aside0.mk (Kd.N_elder' (by (with_reducible repeat (first|apply Kd.N_alloc|apply Kd.N_drewN|apply Kd.N_drew));exact HO355.out) (Kd.N_base ho52) hb)
             have n3_:=Aside0.mk (Kd.V_elder' (by (with_reducible repeat (first|apply Kd.V_alloc|apply Kd.V_drewN|apply Kd.V_drew));exact HO363.out) (Kd.N_base ho52) hb)
             have n4_:=Aside0.mk (Kd.N_lower ho52 (below_size (by repeat (first|(with_reducible first|exact HB.out|apply below_alloc|apply pw_below_drewN|apply below_drew1|refine below_set ?_ GE340.out|refine below_set ?_ GE341.out|refine below_set ?_ GE349.out)|exact HB.out))))
             have n5_:=Aside0.mk (blk_below (g:=gb340) (o:=.cells #[.int .u8 a0_0,.int .u8 a0_1,.int .u8 a0_2,.int .u8 a0_3,.int .u8 a0_4,.int .u8 a0_5,.int .u8 a0_6,.int .u8 a0_7,.int .u8 a0_8,.int .u8 a0_9,.int .u8 a0_10,.int .u8 a0_11] 24 (0,0)) (by (with_reducible repeat (first|refine blk_drewN ?_ _|refine blk_drew ?_|refine blk_alloc ?_ _));exact BK340.out) hb)
             have n6_:=Aside0.mk (blk_below (g:=gb341) (o:=.cells #[.int .u8 a2_0,.int .u8 a2_1] 40 (0,0)) (by (with_reducible repeat (first|refine blk_drewN ?_ _|refine blk_drew ?_|refine blk_alloc ?_ _));exact BK341.out) hb)
             have n7_:=Aside0.mk (blk_below (g:=gb349) (o:=.cells #[.slice Ao38 t343.length co38,.int .i64 t346,.int .i64 t347,.int .i64 t348] 29 (0,0)) (by (with_reducible repeat (first|refine blk_drewN ?_ _|refine blk_drew ?_|refine blk_alloc ?_ _));exact BK349.out) hb)
             have n8_:=Aside0.mk (below_step (by repeat (first|(with_reducible first|exact HB.out|apply below_alloc|apply pw_below_drewN|apply below_drew1|refine below_set ?_ GE340.out|refine below_set ?_ GE341.out|refine below_set ?_ GE349.out)|exact HB.out)) hb)
             clear HO345
             clear HO352
             clear HO355
             clear HO363
             clear BK340
             clear BK341
             clear BK349
             clear HB
             have HO345:=n0_
             have HO352:=n1_
             have HO355:=n2_
             have HO363:=n3_
             have HO358:=n4_
             have BK340:=n5_
             have BK341:=n6_
             have BK349:=n7_
             have HB:=n8_
             clear n0_ n1_ n2_ n3_ n4_ n5_ n6_ n7_ n8_
             clear hb ho52
             refine hK.out _ _ ⟨(blk_cell BK349.out 0).trans rfl,(blk_cell BK349.out 1).trans rfl,(blk_cell BK349.out 2).trans rfl,(blk_cell BK349.out 3).trans rfl⟩ (fun hHeld=>?_)
             clear hK K
             refine norm_ (a':=?_) ?_ ?_
             rotate_left
             ·show Act.put _ (some 42) _=_
              simp only [Act.put,List.setIfInBounds_toArray,List.set_cons_zero,List.set_cons_succ,i64_w,i32_w]
              rfl
             refine one_ (i:=5) (N:=some 47) #[true,true,true,true,true,true,false,false] rfl rfl (one_of HT_.out (by kernel_rfl)) (by decide) (fun K hK=>?_)
             refine goes_ Try.func13 (by kernel_rfl) rfl #[.agg #[.slice Ao38 t343.length co38,.int .i64 t346,.int .i64 t347,.int .i64 t348],.slice Ao48 y359.length co48] (by rfl) rfl rfl (by (try simp only [List.map_toArray,List.map_cons,List.map_nil]);first|done|rfl|(simp only [List.length_drop,List.length_take];rfl)) ?_
             with_reducible refine (fold_Rows.calls k _ _ t343 t346 t347 t348 (fun k_=>((some k_≠(.slice Ao38 t343.length co38 : Value).ownBlock∧(k_≠gb340∧(k_≠gb341∧k_≠gb349)))∧some k_≠(v357 : Value).ownBlock)) _ _ y359 t364 _ ?side1 ?side2 ?side3 A13.out).mono ?_
             (case side1=>repeat (first|exact (Kd.R_reads' HO345.out).2.2|(with_reducible refine Kd.C_alloc ?_ _)|(with_reducible refine Kd.C_drewN ?_ _)|(with_reducible refine Kd.C_drew ?_)))
             (case side2=>exact (Kd.R_reads' HO345.out).2.1)
             (case side3=>exact HO363.out)
             rintro e w53 ⟨v365,rfl,ho0,hb⟩
             refine ⟨_,rfl,?_⟩
             have n0_:=Aside0.mk (Kd.R_below (by (with_reducible repeat (first|apply Kd.R_alloc|apply Kd.R_drewN|apply Kd.R_drew));exact HO345.out) hb)
             have n1_:=Aside0.mk (Kd.N_elder' (by (with_reducible repeat (first|apply Kd.N_alloc|apply Kd.N_drewN|apply Kd.N_drew));exact HO352.out) (by first|exact Kd.N_base ho0|exact Kd.S_base ho0) hb)
             have n2_:=Aside0.mk (Kd.N_elder' (by (with_reducible repeat (first|apply Kd.N_alloc|apply Kd.N_drewN|apply Kd.N_drew));exact HO355.out) (by first|exact Kd.N_base ho0|exact Kd.S_base ho0) hb)
             have n3_:=Aside0.mk (Kd.V_elder' (by (with_reducible repeat (first|apply Kd.V_alloc|apply Kd.V_drewN|apply Kd.V_drew));exact HO363.out) (by first|exact Kd.N_base ho0|exact Kd.S_base ho0) hb)
             have n4_:=Aside0.mk (Kd.N_elder' (by (with_reducible repeat (first|apply Kd.N_alloc|apply Kd.N_drewN|apply Kd.N_drew));exact HO358.out) (by first|exact Kd.N_base ho0|exact Kd.S_base ho0) hb)
             have n5_:=Aside0.mk (Kd.N_lower (Kd.N_mono (ok':=fun k_=>some k_≠(.slice Ao38 t343.length co38 : Value).ownBlock∧some k_≠(v357 : Value).ownBlock∧k_≠gb340∧k_≠gb341∧k_≠gb349) ho0 (fun k_ hk_=>⟨Or.elim hk_ (fun hs_=>hs_.1.1) (fun hn_=>(Kd.fresh' (Kd.R_lt (by (with_reducible repeat (first|apply Kd.R_alloc|apply Kd.R_drewN|apply Kd.R_drew));exact HO345.out)) k_ hn_)),Or.elim hk_ (fun hs_=>hs_.2) (fun hn_=>(Kd.fresh' (Kd.N_lt (by (with_reducible repeat (first|apply Kd.N_alloc|apply Kd.N_drewN|apply Kd.N_drew));exact HO358.out)) k_ hn_)),Or.elim hk_ (fun hs_=>hs_.1.2.1) (fun hn_=>(Kd.freshB (g:=gb340) (o:=.cells #[.int .u8 a0_0,.int .u8 a0_1,.int .u8 a0_2,.int .u8 a0_3,.int .u8 a0_4,.int .u8 a0_5,.int .u8 a0_6,.int .u8 a0_7,.int .u8 a0_8,.int .u8 a0_9,.int .u8 a0_10,.int .u8 a0_11] 24 (0,0)) (by (with_reducible repeat (first|refine blk_drewN ?_ _|refine blk_drew ?_|refine blk_alloc ?_ _));exact BK340.out) k_ hn_)),Or.elim hk_ (fun hs_=>hs_.1.2.2.1) (fun hn_=>(Kd.freshB (g:=gb341) (o:=.cells #[.int .u8 a2_0,.int .u8 a2_1] 40 (0,0)) (by (with_reducible repeat (first|refine blk_drewN ?_ _|refine blk_drew ?_|refine blk_alloc ?_ _));exact BK341.out) k_ hn_)),Or.elim hk_ (fun hs_=>hs_.1.2.2.2) (fun hn_=>(Kd.freshB (g:=gb349) (o:=.cells #[.slice Ao38 t343.length co38,.int .i64 t346,.int .i64 t347,.int .i64 t348] 29 (0,0)) (by (with_reducible repeat (first|refine blk_drewN ?_ _|refine blk_drew ?_|refine blk_alloc ?_ _));exact BK349.out) k_ hn_))⟩)) (below_size (by repeat (first|(with_reducible first|exact HB.out|apply below_alloc|apply pw_below_drewN|apply below_drew1|refine below_set ?_ GE340.out|refine below_set ?_ GE341.out|refine below_set ?_ GE349.out)|exact HB.out))))
             have n6_:=Aside0.mk (blk_below (g:=gb340) (o:=.cells #[.int .u8 a0_0,.int .u8 a0_1,.int .u8 a0_2,.int .u8 a0_3,.int .u8 a0_4,.int .u8 a0_5,.int .u8 a0_6,.int .u8 a0_7,.int .u8 a0_8,.int .u8 a0_9,.int .u8 a0_10,.int .u8 a0_11] 24 (0,0)) (by (with_reducible repeat (first|refine blk_drewN ?_ _|refine blk_drew ?_|refine blk_alloc ?_ _));exact BK340.out) hb)
             have n7_:=Aside0.mk (blk_below (g:=gb341) (o:=.cells #[.int .u8 a2_0,.int .u8 a2_1] 40 (0,0)) (by (with_reducible repeat (first|refine blk_drewN ?_ _|refine blk_drew ?_|refine blk_alloc ?_ _));exact BK341.out) hb)
             have n8_:=Aside0.mk (blk_below (g:=gb349) (o:=.cells #[.slice Ao38 t343.length co38,.int .i64 t346,.int .i64 t347,.int .i64 t348] 29 (0,0)) (by (with_reducible repeat (first|refine blk_drewN ?_ _|refine blk_drew ?_|refine blk_alloc ?_ _));exact BK349.out) hb)
             have n9_:=Aside0.mk (below_step (by repeat (first|(with_reducible first|exact HB.out|apply below_alloc|apply pw_below_drewN|apply below_drew1|refine below_set ?_ GE340.out|refine below_set ?_ GE341.out|refine below_set ?_ GE349.out)|exact HB.out)) hb)
             clear HO345
             clear HO352
             clear HO355
             clear HO363
             clear HO358
             clear BK340
             clear BK341
             clear BK349
             clear HB
             have HO345:=n0_
             have HO352:=n1_
             have HO355:=n2_
             have HO363:=n3_
             have HO358:=n4_
             have HO366:=n5_
             have BK340:=n6_
             have BK341:=n7_
             have BK349:=n8_
             have HB:=n9_
             clear n0_ n1_ n2_ n3_ n4_ n5_ n6_ n7_ n8_ n9_
             (try clear hb)
             (try clear hb2)
             (try clear hk)
             (try clear hi)
             (try clear ho0)
             refine hK.out _ _ ⟨(blk_cell BK349.out 0).trans rfl,(blk_cell BK349.out 1).trans rfl,(blk_cell BK349.out 2).trans rfl,(blk_cell BK349.out 3).trans rfl⟩ (fun hHeld=>?_)
             clear hK K
             refine norm_ (a':=?_) ?_ ?_
             rotate_left
             ·show Act.put _ (some 47) _=_
              simp only [Act.put,List.setIfInBounds_toArray,List.set_cons_zero,List.set_cons_succ,i64_w,i32_w]
              rfl
             exact norm_ (by simp only [putAll,Act.put,List.setIfInBounds_toArray,List.set_cons_zero,List.set_cons_succ]) (hCont (v357,v365) _ ⟨hHeld,(by (with_reducible repeat (first|apply Kd.R_alloc|apply Kd.R_drewN|apply Kd.R_drew));exact HO345.out),(by (with_reducible repeat (first|apply Kd.N_alloc|apply Kd.N_drewN|apply Kd.N_drew));exact Kd.N_mono HO352.out (fun _ hk=>⟨hk.1.1.1.1,⟨hk.1.1.2,⟨hk.1.2,⟨hk.2,⟨hk.1.1.1.2.1,⟨hk.1.1.1.2.2.1,hk.1.1.1.2.2.2⟩⟩⟩⟩⟩⟩)),(by (with_reducible repeat (first|apply Kd.N_alloc|apply Kd.N_drewN|apply Kd.N_drew));exact Kd.N_mono HO355.out (fun _ hk=>⟨hk.1.1.1,⟨hk.1.2,⟨hk.2,⟨hk.1.1.2.1,⟨hk.1.1.2.2.1,hk.1.1.2.2.2⟩⟩⟩⟩⟩)),(by (with_reducible repeat (first|apply Kd.N_alloc|apply Kd.N_drewN|apply Kd.N_drew));exact Kd.N_mono HO358.out (fun _ hk=>⟨hk.1.1,⟨hk.1.2.1,⟨hk.1.2.2.1,⟨hk.2,⟨hk.1.2.2.2.1,⟨hk.1.2.2.2.2.1,hk.1.2.2.2.2.2⟩⟩⟩⟩⟩⟩)),(by (with_reducible repeat (first|apply Kd.V_alloc|apply Kd.V_drewN|apply Kd.V_drew));exact Kd.V_mono HO363.out (fun _ hk=>⟨hk.1.1.1,⟨hk.1.2,⟨hk.2,⟨hk.1.1.2.1,⟨hk.1.1.2.2.1,hk.1.1.2.2.2⟩⟩⟩⟩⟩)),(by (with_reducible repeat (first|apply Kd.N_alloc|apply Kd.N_drewN|apply Kd.N_drew));exact HO366.out),(by (with_reducible repeat (first|refine blk_drewN ?_ _|refine blk_drew ?_|refine blk_alloc ?_ _));exact BK340.out),(by (with_reducible repeat (first|refine blk_drewN ?_ _|refine blk_drew ?_|refine blk_alloc ?_ _));exact BK341.out),(by (with_reducible repeat (first|refine blk_drewN ?_ _|refine blk_drew ?_|refine blk_alloc ?_ _));exact BK349.out),(by repeat (first|(with_reducible first|exact HB.out|apply below_alloc|apply pw_below_drewN|apply below_drew1|refine below_set ?_ GE340.out|refine below_set ?_ GE341.out|refine below_set ?_ GE349.out)|exact HB.out))⟩)
            ·skip
             refine goes_ Try.func13 (by kernel_rfl) rfl #[.agg #[.slice Ao38 t343.length co38,.int .i64 t346,.int .i64 t347,.int .i64 t348],.slice Ao48 y359.length co48] (by rfl) rfl rfl (by (try simp only [List.map_toArray,List.map_cons,List.map_nil]);first|done|rfl|(simp only [List.length_drop,List.length_take];rfl)) ?_
             with_reducible refine (fold_Rows.calls k _ _ t343 t346 t347 t348 (fun k_=>(some k_≠(.slice Ao38 t343.length co38 : Value).ownBlock∧(k_≠gb340∧(k_≠gb341∧k_≠gb349)))) _ _ y359 t364 _ ?side1 ?side2 ?side3 A13.out).mono ?_
             (case side1=>repeat (first|exact (Kd.R_reads' HO345.out).2.2|(with_reducible refine Kd.C_alloc ?_ _)|(with_reducible refine Kd.C_drewN ?_ _)|(with_reducible refine Kd.C_drew ?_)))
             (case side2=>exact (Kd.R_reads' HO345.out).2.1)
             (case side3=>exact HO363.out)
             rintro e w51 ⟨v365,rfl,ho0,hb⟩
             refine ⟨_,rfl,?_⟩
             have n0_:=Aside0.mk (Kd.R_below (by (with_reducible repeat (first|apply Kd.R_alloc|apply Kd.R_drewN|apply Kd.R_drew));exact HO345.out) hb)
             have n1_:=Aside0.mk (Kd.N_elder' (by (with_reducible repeat (first|apply Kd.N_alloc|apply Kd.N_drewN|apply Kd.N_drew));exact HO352.out) (by first|exact Kd.N_base ho0|exact Kd.S_base ho0) hb)
             have n2_:=Aside0.mk (Kd.N_elder' (by (with_reducible repeat (first|apply Kd.N_alloc|apply Kd.N_drewN|apply Kd.N_drew));exact HO355.out) (by first|exact Kd.N_base ho0|exact Kd.S_base ho0) hb)
             have n3_:=Aside0.mk (Kd.V_elder' (by (with_reducible repeat (first|apply Kd.V_alloc|apply Kd.V_drewN|apply Kd.V_drew));exact HO363.out) (by first|exact Kd.N_base ho0|exact Kd.S_base ho0) hb)
             have n4_:=Aside0.mk (Kd.N_lower (Kd.N_mono (ok':=fun k_=>some k_≠(.slice Ao38 t343.length co38 : Value).ownBlock∧k_≠gb340∧k_≠gb341∧k_≠gb349) ho0 (fun k_ hk_=>⟨Or.elim hk_ (fun hs_=>hs_.1) (fun hn_=>(Kd.fresh' (Kd.R_lt (by (with_reducible repeat (first|apply Kd.R_alloc|apply Kd.R_drewN|apply Kd.R_drew));exact HO345.out)) k_ hn_)),Or.elim hk_ (fun hs_=>hs_.2.1) (fun hn_=>(Kd.freshB (g:=gb340) (o:=.cells #[.int .u8 a0_0,.int .u8 a0_1,.int .u8 a0_2,.int .u8 a0_3,.int .u8 a0_4,.int .u8 a0_5,.int .u8 a0_6,.int .u8 a0_7,.int .u8 a0_8,.int .u8 a0_9,.int .u8 a0_10,.int .u8 a0_11] 24 (0,0)) (by (with_reducible repeat (first|refine blk_drewN ?_ _|refine blk_drew ?_|refine blk_alloc ?_ _));exact BK340.out) k_ hn_)),Or.elim hk_ (fun hs_=>hs_.2.2.1) (fun hn_=>(Kd.freshB (g:=gb341) (o:=.cells #[.int .u8 a2_0,.int .u8 a2_1] 40 (0,0)) (by (with_reducible repeat (first|refine blk_drewN ?_ _|refine blk_drew ?_|refine blk_alloc ?_ _));exact BK341.out) k_ hn_)),Or.elim hk_ (fun hs_=>hs_.2.2.2) (fun hn_=>(Kd.freshB (g:=gb349) (o:=.cells #[.slice Ao38 t343.length co38,.int .i64 t346,.int .i64 t347,.int .i64 t348] 29 (0,0)) (by (with_reducible repeat (first|refine blk_drewN ?_ _|refine blk_drew ?_|refine blk_alloc ?_ _));exact BK349.out) k_ hn_))⟩)) (below_size (by repeat (first|(with_reducible first|exact HB.out|apply below_alloc|apply pw_below_drewN|apply below_drew1|refine below_set ?_ GE340.out|refine below_set ?_ GE341.out|refine below_set ?_ GE349.out)|exact HB.out))))
             have n5_:=Aside0.mk (blk_below (g:=gb340) (o:=.cells #[.int .u8 a0_0,.int .u8 a0_1,.int .u8 a0_2,.int .u8 a0_3,.int .u8 a0_4,.int .u8 a0_5,.int .u8 a0_6,.int .u8 a0_7,.int .u8 a0_8,.int .u8 a0_9,.int .u8 a0_10,.int .u8 a0_11] 24 (0,0)) (by (with_reducible repeat (first|refine blk_drewN ?_ _|refine blk_drew ?_|refine blk_alloc ?_ _));exact BK340.out) hb)
             have n6_:=Aside0.mk (blk_below (g:=gb341) (o:=.cells #[.int .u8 a2_0,.int .u8 a2_1] 40 (0,0)) (by (with_reducible repeat (first|refine blk_drewN ?_ _|refine blk_drew ?_|refine blk_alloc ?_ _));exact BK341.out) hb)
             have n7_:=Aside0.mk (blk_below (g:=gb349) (o:=.cells #[.slice Ao38 t343.length co38,.int .i64 t346,.int .i64 t347,.int .i64 t348] 29 (0,0)) (by (with_reducible repeat (first|refine blk_drewN ?_ _|refine blk_drew ?_|refine blk_alloc ?_ _));exact BK349.out) hb)
             have n8_:=Aside0.mk (below_step (by repeat (first|(with_reducible first|exact HB.out|apply below_alloc|apply pw_below_drewN|apply below_drew1|refine below_set ?_ GE340.out|refine below_set ?_ GE341.out|refine below_set ?_ GE349.out)|exact HB.out)) hb)
             clear HO345
             clear HO352
             clear HO355
             clear HO363
             clear BK340
             clear BK341
             clear BK349
             clear HB
             have HO345:=n0_
             have HO352:=n1_
             have HO355:=n2_
             have HO363:=n3_
             have HO366:=n4_
             have BK340:=n5_
             have BK341:=n6_
             have BK349:=n7_
             have HB:=n8_
             clear n0_ n1_ n2_ n3_ n4_ n5_ n6_ n7_ n8_
             (try clear hb)
             (try clear hb2)
             (try clear hk)
             (try clear hi)
             (try clear ho0)
             refine hK.out _ _ ⟨(blk_cell BK349.out 0).trans rfl,(blk_cell BK349.out 1).trans rfl,(blk_cell BK349.out 2).trans rfl,(blk_cell BK349.out 3).trans rfl⟩ (fun hHeld=>?_)
             clear hK K
             refine norm_ (a':=?_) ?_ ?_
             rotate_left
             ·show Act.put _ (some 47) _=_
              simp only [Act.put,List.setIfInBounds_toArray,List.set_cons_zero,List.set_cons_succ,i64_w,i32_w]
              rfl
             refine one_ (i:=0) (N:=some 42) #[true,true,true,true,true,true,false,false] rfl rfl (one_of HT_.out (by kernel_rfl)) (by decide) (fun K hK=>?_)
             refine Kd.N_lit_step (Kd.slice 45 k45) _ 36 ?hg (N':=42) ?hd (xs:=([] : List (List (S45)))) (inner:=[]) (ok:=(fun k_=>some k_≠(.slice Ao38 t343.length co38 : Value).ownBlock∧some k_≠(.slice Ao45 t350.length co45 : Value).ownBlock∧some k_≠(.slice Ao48 t353.length co48 : Value).ownBlock∧some k_≠(v365 : Value).ownBlock∧k_≠gb340∧k_≠gb341∧k_≠gb349)) (okp:=(fun k_=>some k_≠(.slice Ao38 t343.length co38 : Value).ownBlock∧some k_≠(.slice Ao45 t350.length co45 : Value).ownBlock∧some k_≠(.slice Ao48 t353.length co48 : Value).ownBlock∧some k_≠(v365 : Value).ownBlock∧k_≠gb340∧k_≠gb341∧k_≠gb349)) ?hr ?hp (fun _ hk=>hk) ((show ∀ k_,w51.heap.size≤k_→(fun k_=>some k_≠(.slice Ao38 t343.length co38 : Value).ownBlock∧some k_≠(.slice Ao45 t350.length co45 : Value).ownBlock∧some k_≠(.slice Ao48 t353.length co48 : Value).ownBlock∧some k_≠(v365 : Value).ownBlock∧k_≠gb340∧k_≠gb341∧k_≠gb349) k_ from fun k_ hk=>⟨Kd.fresh' (Kd.R_lt (by (with_reducible repeat (first|apply Kd.R_alloc|apply Kd.R_drewN|apply Kd.R_drew));exact HO345.out)) k_ hk,Kd.fresh' (Kd.N_lt (by (with_reducible repeat (first|apply Kd.N_alloc|apply Kd.N_drewN|apply Kd.N_drew));exact HO352.out)) k_ hk,Kd.fresh' (Kd.N_lt (by (with_reducible repeat (first|apply Kd.N_alloc|apply Kd.N_drewN|apply Kd.N_drew));exact HO355.out)) k_ hk,Kd.fresh' (Kd.N_lt (by (with_reducible repeat (first|apply Kd.N_alloc|apply Kd.N_drewN|apply Kd.N_drew));exact HO366.out)) k_ hk,Kd.freshB (g:=gb340) (o:=.cells #[.int .u8 a0_0,.int .u8 a0_1,.int .u8 a0_2,.int .u8 a0_3,.int .u8 a0_4,.int .u8 a0_5,.int .u8 a0_6,.int .u8 a0_7,.int .u8 a0_8,.int .u8 a0_9,.int .u8 a0_10,.int .u8 a0_11] 24 (0,0)) (by (with_reducible repeat (first|refine blk_drewN ?_ _|refine blk_drew ?_|refine blk_alloc ?_ _));exact BK340.out) k_ hk,Kd.freshB (g:=gb341) (o:=.cells #[.int .u8 a2_0,.int .u8 a2_1] 40 (0,0)) (by (with_reducible repeat (first|refine blk_drewN ?_ _|refine blk_drew ?_|refine blk_alloc ?_ _));exact BK341.out) k_ hk,Kd.freshB (g:=gb349) (o:=.cells #[.slice Ao38 t343.length co38,.int .i64 t346,.int .i64 t347,.int .i64 t348] 29 (0,0)) (by (with_reducible repeat (first|refine blk_drewN ?_ _|refine blk_drew ?_|refine blk_alloc ?_ _));exact BK349.out) k_ hk⟩) _ (Nat.le_refl _)) (Below.refl _ _) (Nat.le_refl _) (by simp) ?_;(case hd=>rfl);(case hg=>rfl);(case hr=>first|(go_simp;done)|(go_simp;rfl));(case hp=>exact (Reps.none _ _))
             intro v357 w52 ho53 hb hg_ hnew_
             clear hg_ hnew_
             (first|rw [← Ny356.out] at ho53|(simp only [Int.reduceToNat] at ho53;rw [← Ny356.out] at ho53))
             have n0_:=Aside0.mk (Kd.R_below (by (with_reducible repeat (first|apply Kd.R_alloc|apply Kd.R_drewN|apply Kd.R_drew));exact HO345.out) hb)
             have n1_:=Aside0.mk (Kd.N_elder' (by (with_reducible repeat (first|apply Kd.N_alloc|apply Kd.N_drewN|apply Kd.N_drew));exact HO352.out) (Kd.N_base ho53) hb)
             have n2_:=Aside0.mk (Kd.N_elder' (by (with_reducible repeat (first|apply Kd.N_alloc|apply Kd.N_drewN|apply Kd.N_drew));exact HO355.out) (Kd.N_base ho53) hb)
             have n3_:=Aside0.mk (Kd.V_elder' (by (with_reducible repeat (first|apply Kd.V_alloc|apply Kd.V_drewN|apply Kd.V_drew));exact HO363.out) (Kd.N_base ho53) hb)
             have n4_:=Aside0.mk (Kd.N_elder' (by (with_reducible repeat (first|apply Kd.N_alloc|apply Kd.N_drewN|apply Kd.N_drew));exact HO366.out) (Kd.N_base ho53) hb)
             have n5_:=Aside0.mk (Kd.N_lower ho53 (below_size (by repeat (first|(with_reducible first|exact HB.out|apply below_alloc|apply pw_below_drewN|apply below_drew1|refine below_set ?_ GE340.out|refine below_set ?_ GE341.out|refine below_set ?_ GE349.out)|exact HB.out))))
             have n6_:=Aside0.mk (blk_below (g:=gb340) (o:=.cells #[.int .u8 a0_0,.int .u8 a0_1,.int .u8 a0_2,.int .u8 a0_3,.int .u8 a0_4,.int .u8 a0_5,.int .u8 a0_6,.int .u8 a0_7,.int .u8 a0_8,.int .u8 a0_9,.int .u8 a0_10,.int .u8 a0_11] 24 (0,0)) (by (with_reducible repeat (first|refine blk_drewN ?_ _|refine blk_drew ?_|refine blk_alloc ?_ _));exact BK340.out) hb)
             have n7_:=Aside0.mk (blk_below (g:=gb341) (o:=.cells #[.int .u8 a2_0,.int .u8 a2_1] 40 (0,0)) (by (with_reducible repeat (first|refine blk_drewN ?_ _|refine blk_drew ?_|refine blk_alloc ?_ _));exact BK341.out) hb)
             have n8_:=Aside0.mk (blk_below (g:=gb349) (o:=.cells #[.slice Ao38 t343.length co38,.int .i64 t346,.int .i64 t347,.int .i64 t348] 29 (0,0)) (by (with_reducible repeat (first|refine blk_drewN ?_ _|refine blk_drew ?_|refine blk_alloc ?_ _));exact BK349.out) hb)
             have n9_:=Aside0.mk (below_step (by repeat (first|(with_reducible first|exact HB.out|apply below_alloc|apply pw_below_drewN|apply below_drew1|refine below_set ?_ GE340.out|refine below_set ?_ GE341.out|refine below_set ?_ GE349.out)|exact HB.out)) hb)
             clear HO345
             clear HO352
             clear HO355
             clear HO363
             clear HO366
             clear BK340
             clear BK341
             clear BK349
             clear HB
             have HO345:=n0_
             have HO352:=n1_
             have HO355:=n2_
             have HO363:=n3_
             have HO366:=n4_
             have HO358:=n5_
             have BK340:=n6_
             have BK341:=n7_
             have BK349:=n8_
             have HB:=n9_
             clear n0_ n1_ n2_ n3_ n4_ n5_ n6_ n7_ n8_ n9_
             clear hb ho53
             refine hK.out _ _ ⟨(blk_cell BK349.out 0).trans rfl,(blk_cell BK349.out 1).trans rfl,(blk_cell BK349.out 2).trans rfl,(blk_cell BK349.out 3).trans rfl⟩ (fun hHeld=>?_)
             clear hK K
             refine norm_ (a':=?_) ?_ ?_
             rotate_left
             ·show Act.put _ (some 42) _=_
              simp only [Act.put,List.setIfInBounds_toArray,List.set_cons_zero,List.set_cons_succ,i64_w,i32_w]
              rfl
             exact norm_ (by simp only [putAll,Act.put,List.setIfInBounds_toArray,List.set_cons_zero,List.set_cons_succ]) (hCont (v357,v365) _ ⟨hHeld,(by (with_reducible repeat (first|apply Kd.R_alloc|apply Kd.R_drewN|apply Kd.R_drew));exact HO345.out),(by (with_reducible repeat (first|apply Kd.N_alloc|apply Kd.N_drewN|apply Kd.N_drew));exact Kd.N_mono HO352.out (fun _ hk=>⟨hk.1.1.1.1,⟨hk.1.1.2,⟨hk.2,⟨hk.1.2,⟨hk.1.1.1.2.1,⟨hk.1.1.1.2.2.1,hk.1.1.1.2.2.2⟩⟩⟩⟩⟩⟩)),(by (with_reducible repeat (first|apply Kd.N_alloc|apply Kd.N_drewN|apply Kd.N_drew));exact Kd.N_mono HO355.out (fun _ hk=>⟨hk.1.1.1,⟨hk.2,⟨hk.1.2,⟨hk.1.1.2.1,⟨hk.1.1.2.2.1,hk.1.1.2.2.2⟩⟩⟩⟩⟩)),(by (with_reducible repeat (first|apply Kd.N_alloc|apply Kd.N_drewN|apply Kd.N_drew));exact HO358.out),(by (with_reducible repeat (first|apply Kd.V_alloc|apply Kd.V_drewN|apply Kd.V_drew));exact Kd.V_mono HO363.out (fun _ hk=>⟨hk.1.1.1,⟨hk.2,⟨hk.1.2,⟨hk.1.1.2.1,⟨hk.1.1.2.2.1,hk.1.1.2.2.2⟩⟩⟩⟩⟩)),(by (with_reducible repeat (first|apply Kd.N_alloc|apply Kd.N_drewN|apply Kd.N_drew));exact Kd.N_mono HO366.out (fun _ hk=>⟨hk.1.1,⟨hk.2,⟨hk.1.2.1,⟨hk.1.2.2.1,hk.1.2.2.2⟩⟩⟩⟩)),(by (with_reducible repeat (first|refine blk_drewN ?_ _|refine blk_drew ?_|refine blk_alloc ?_ _));exact BK340.out),(by (with_reducible repeat (first|refine blk_drewN ?_ _|refine blk_drew ?_|refine blk_alloc ?_ _));exact BK341.out),(by (with_reducible repeat (first|refine blk_drewN ?_ _|refine blk_drew ?_|refine blk_alloc ?_ _));exact BK349.out),(by repeat (first|(with_reducible first|exact HB.out|apply below_alloc|apply pw_below_drewN|apply below_drew1|refine below_set ?_ GE340.out|refine below_set ?_ GE341.out|refine below_set ?_ GE349.out)|exact HB.out))⟩)
           rintro ⟨v357,v365⟩ w54 ⟨hS_,h0_,h1_,h2_,h3_,h4_,h5_,h6_,h7_,h8_,h9_⟩
           have n0_ : Aside0 (Kd.R (Kd.int .i64) 3 w54 w.heap.size (fun _=>True) (.slice Ao38 t343.length co38) t343):=⟨h0_⟩
           have n1_ : Aside0 (Kd.N (Kd.slice 45 k45) 36 w54 w.heap.size (fun k_=>some k_≠(.slice Ao38 t343.length co38 : Value).ownBlock∧some k_≠(.slice Ao48 t353.length co48 : Value).ownBlock∧some k_≠(v357 : Value).ownBlock∧some k_≠(v365 : Value).ownBlock∧k_≠gb340∧k_≠gb341∧k_≠gb349) (.slice Ao45 t350.length co45) t350):=⟨h1_⟩
           have n2_ : Aside0 (Kd.N (Kd.slice 45 k45) 36 w54 w.heap.size (fun k_=>some k_≠(.slice Ao38 t343.length co38 : Value).ownBlock∧some k_≠(v357 : Value).ownBlock∧some k_≠(v365 : Value).ownBlock∧k_≠gb340∧k_≠gb341∧k_≠gb349) (.slice Ao48 t353.length co48) t353):=⟨h2_⟩
           have n3_ : Aside0 (Kd.N (Kd.slice 45 k45) 36 w54 w.heap.size (fun k_=>some k_≠(.slice Ao38 t343.length co38 : Value).ownBlock∧some k_≠(.slice Ao45 t350.length co45 : Value).ownBlock∧some k_≠(.slice Ao48 t353.length co48 : Value).ownBlock∧some k_≠(v365 : Value).ownBlock∧k_≠gb340∧k_≠gb341∧k_≠gb349) v357 y356):=⟨h3_⟩
           have n4_ : Aside0 (Kd.V (Kd.slice 45 k45) 36 w54 w.heap.size (fun k_=>some k_≠(.slice Ao38 t343.length co38 : Value).ownBlock∧some k_≠(v357 : Value).ownBlock∧some k_≠(v365 : Value).ownBlock∧k_≠gb340∧k_≠gb341∧k_≠gb349) (.slice Ao48 y359.length co48) y359):=⟨h4_⟩
           have n5_ : Aside0 (Kd.N (Kd.slice 45 k45) 36 w54 w.heap.size (fun k_=>some k_≠(.slice Ao38 t343.length co38 : Value).ownBlock∧some k_≠(v357 : Value).ownBlock∧k_≠gb340∧k_≠gb341∧k_≠gb349) v365 t364):=⟨h5_⟩
           have n6_ : Aside0 (w54.heap[gb340]?=some (.cells #[.int .u8 a0_0,.int .u8 a0_1,.int .u8 a0_2,.int .u8 a0_3,.int .u8 a0_4,.int .u8 a0_5,.int .u8 a0_6,.int .u8 a0_7,.int .u8 a0_8,.int .u8 a0_9,.int .u8 a0_10,.int .u8 a0_11] 24 (0,0))):=⟨h6_⟩
           have n7_ : Aside0 (w54.heap[gb341]?=some (.cells #[.int .u8 a2_0,.int .u8 a2_1] 40 (0,0))):=⟨h7_⟩
           have n8_ : Aside0 (w54.heap[gb349]?=some (.cells #[.slice Ao38 t343.length co38,.int .i64 t346,.int .i64 t347,.int .i64 t348] 29 (0,0))):=⟨h8_⟩
           have n9_ : Aside0 (Below w.heap.size w w54):=⟨h9_⟩
           clear HO345
           clear HO352
           clear HO355
           clear BK340
           clear BK341
           clear BK349
           clear HB
           clear h0_ h1_ h2_ h3_ h4_ h5_ h6_ h7_ h8_ h9_
           have HO345:=n0_
           have HO352:=n1_
           have HO355:=n2_
           have HO358:=n3_
           have HO363:=n4_
           have HO366:=n5_
           have BK340:=n6_
           have BK341:=n7_
           have BK349:=n8_
           have HB:=n9_
           clear n0_ n1_ n2_ n3_ n4_ n5_ n6_ n7_ n8_ n9_
           have hHeld : w54.cell? ⟨gb349,0,none⟩=some (.slice Ao38 t343.length co38)∧w54.cell? ⟨gb349,1,none⟩=some (.int .i64 t346)∧w54.cell? ⟨gb349,2,none⟩=some (.int .i64 t347)∧w54.cell? ⟨gb349,3,none⟩=some (.int .i64 t348):=hS_
           obtain ⟨Ao56,co56,eo56⟩:=Kd.N_slice HO366.out
           (first|subst eo56|(injection eo56 with f1_ f2_ f3_;have f4_:=f1_.symm;have f5_:=f3_.symm;clear f1_ f2_ f3_;subst f4_;subst f5_))
           refine norm_ (a':=?_) ?_ ?_
           rotate_left
           ·simp only [putAll,Act.put,List.setIfInBounds_toArray,List.set_cons_zero,List.set_cons_succ]
            rfl
           refine one_ (i:=6) (N:=some 48) #[true,true,true,true,true,true,true,false] rfl rfl (one_of HT_.out (by kernel_rfl)) (by decide) (fun K hK=>?_)
           refine Kd.N_append_rows_step (Kd.slice 45 k45) (w0:=w) w.heap.size (by rfl) (.tmp 42) (.tmp 47) 25 36 (.slice none 0 0) 24 rfl Try.underlying25 info36 rfl (by decide) (by omega) v357 y356 t364 _ _ _ (fun k_=>some k_≠(.slice Ao38 t343.length co38 : Value).ownBlock∧k_≠gb340∧k_≠gb341∧k_≠gb349) (fun k_=>((fun k_=>some k_≠(.slice Ao38 t343.length co38 : Value).ownBlock∧k_≠gb340∧k_≠gb341∧k_≠gb349)) k_∧some k_≠(v357 : Value).ownBlock) rfl rfl ?aO ?aR (fun _ hk=>hk) ?aF ?aB ?aS ?aL ?_
           (case aR=>exact (by skip;exact Kd.N_F (Kd.N_mono (ok':=(fun k_=>((fun k_=>some k_≠(.slice Ao38 t343.length co38 : Value).ownBlock∧k_≠gb340∧k_≠gb341∧k_≠gb349)) k_∧some k_≠(v357 : Value).ownBlock)) (HO366.out) (fun k_ hk=>⟨⟨hk.1,⟨hk.2.2.1,⟨hk.2.2.2.1,hk.2.2.2.2⟩⟩⟩,hk.2.1⟩))))
           (case aB=>exact (by repeat (first|(with_reducible first|exact HB.out|apply below_alloc|apply pw_below_drewN|apply below_drew1|refine below_set ?_ GE340.out|refine below_set ?_ GE341.out|refine below_set ?_ GE349.out)|exact HB.out)))
           (case aF=>exact (fun k_ hk=>⟨Kd.fresh' (Kd.R_lt (by (with_reducible repeat (first|apply Kd.R_alloc|apply Kd.R_drewN|apply Kd.R_drew));exact HO345.out)) k_ hk,Kd.freshB (g:=gb340) (o:=.cells #[.int .u8 a0_0,.int .u8 a0_1,.int .u8 a0_2,.int .u8 a0_3,.int .u8 a0_4,.int .u8 a0_5,.int .u8 a0_6,.int .u8 a0_7,.int .u8 a0_8,.int .u8 a0_9,.int .u8 a0_10,.int .u8 a0_11] 24 (0,0)) (by (with_reducible repeat (first|refine blk_drewN ?_ _|refine blk_drew ?_|refine blk_alloc ?_ _));exact BK340.out) k_ hk,Kd.freshB (g:=gb341) (o:=.cells #[.int .u8 a2_0,.int .u8 a2_1] 40 (0,0)) (by (with_reducible repeat (first|refine blk_drewN ?_ _|refine blk_drew ?_|refine blk_alloc ?_ _));exact BK341.out) k_ hk,Kd.freshB (g:=gb349) (o:=.cells #[.slice Ao38 t343.length co38,.int .i64 t346,.int .i64 t347,.int .i64 t348] 29 (0,0)) (by (with_reducible repeat (first|refine blk_drewN ?_ _|refine blk_drew ?_|refine blk_alloc ?_ _));exact BK349.out) k_ hk⟩))
           (case aO=>exact (by (with_reducible repeat (first|apply Kd.N_alloc|apply Kd.N_drewN|apply Kd.N_drew));exact Kd.N_mono HO358.out (fun _ hk=>⟨hk.1,⟨hk.2.2.2.2.1,⟨hk.2.2.2.2.2.1,hk.2.2.2.2.2.2⟩⟩⟩)))
           (case aS=>exact (below_size (by repeat (first|(with_reducible first|exact HB.out|apply below_alloc|apply pw_below_drewN|apply below_drew1|refine below_set ?_ GE340.out|refine below_set ?_ GE341.out|refine below_set ?_ GE349.out)|exact HB.out))))
           (case aL=>have:=LMc14.out;omega)
           intro v368 w55 ho hb hg hat
           rw [← Ny367.out] at ho
           have n0_:=Aside0.mk (blk_grown (g:=gb340) (o:=.cells #[.int .u8 a0_0,.int .u8 a0_1,.int .u8 a0_2,.int .u8 a0_3,.int .u8 a0_4,.int .u8 a0_5,.int .u8 a0_6,.int .u8 a0_7,.int .u8 a0_8,.int .u8 a0_9,.int .u8 a0_10,.int .u8 a0_11] 24 (0,0)) (by (with_reducible repeat (first|refine blk_drewN ?_ _|refine blk_drew ?_|refine blk_alloc ?_ _));exact BK340.out) hg (Kd.N_ne HO358.out BK340.out (by decide)))
           have n1_:=Aside0.mk (blk_grown (g:=gb341) (o:=.cells #[.int .u8 a2_0,.int .u8 a2_1] 40 (0,0)) (by (with_reducible repeat (first|refine blk_drewN ?_ _|refine blk_drew ?_|refine blk_alloc ?_ _));exact BK341.out) hg (Kd.N_ne HO358.out BK341.out (by decide)))
           have n2_:=Aside0.mk (Kd.R_over' (by (with_reducible repeat (first|apply Kd.R_alloc|apply Kd.R_drewN|apply Kd.R_drew));exact HO345.out) (Kd.N_typed (by (with_reducible repeat (first|apply Kd.N_alloc|apply Kd.N_drewN|apply Kd.N_drew));exact HO358.out)) (by decide) hg)
           have n3_:=Aside0.mk (blk_grown (g:=gb349) (o:=.cells #[.slice Ao38 t343.length co38,.int .i64 t346,.int .i64 t347,.int .i64 t348] 29 (0,0)) (by (with_reducible repeat (first|refine blk_drewN ?_ _|refine blk_drew ?_|refine blk_alloc ?_ _));exact BK349.out) hg (Kd.N_ne HO358.out BK349.out (by decide)))
           have n4_:=Aside0.mk (Kd.N_afterv (ok:=(fun k_=>some k_≠(.slice Ao38 t343.length co38 : Value).ownBlock∧some k_≠(.slice Ao48 t353.length co48 : Value).ownBlock∧some k_≠(.slice Ao56 t364.length co56 : Value).ownBlock∧k_≠gb340∧k_≠gb341∧k_≠gb349)) (by (with_reducible repeat (first|apply Kd.N_alloc|apply Kd.N_drewN|apply Kd.N_drew));exact Kd.N_mono HO352.out (fun _ hk=>⟨⟨hk.1,⟨hk.2.1,⟨hk.2.2.2.1,⟨hk.2.2.2.2.1,⟨hk.2.2.2.2.2.1,hk.2.2.2.2.2.2⟩⟩⟩⟩⟩,hk.2.2.1⟩)) hg hat)
           have n5_:=Aside0.mk (Kd.N_afterv (ok:=(fun k_=>some k_≠(.slice Ao38 t343.length co38 : Value).ownBlock∧some k_≠(.slice Ao56 t364.length co56 : Value).ownBlock∧k_≠gb340∧k_≠gb341∧k_≠gb349)) (by (with_reducible repeat (first|apply Kd.N_alloc|apply Kd.N_drewN|apply Kd.N_drew));exact Kd.N_mono HO355.out (fun _ hk=>⟨⟨hk.1,⟨hk.2.2.1,⟨hk.2.2.2.1,⟨hk.2.2.2.2.1,hk.2.2.2.2.2⟩⟩⟩⟩,hk.2.1⟩)) hg hat)
           have n6_:=Aside0.mk (Kd.V_afterv (ok:=(fun k_=>some k_≠(.slice Ao38 t343.length co38 : Value).ownBlock∧some k_≠(.slice Ao56 t364.length co56 : Value).ownBlock∧k_≠gb340∧k_≠gb341∧k_≠gb349)) (by (with_reducible repeat (first|apply Kd.V_alloc|apply Kd.V_drewN|apply Kd.V_drew));exact Kd.V_mono HO363.out (fun _ hk=>⟨⟨hk.1,⟨hk.2.2.1,⟨hk.2.2.2.1,⟨hk.2.2.2.2.1,hk.2.2.2.2.2⟩⟩⟩⟩,hk.2.1⟩)) hg hat)
           have n7_:=Aside0.mk (Kd.N_afterv (ok:=(fun k_=>some k_≠(.slice Ao38 t343.length co38 : Value).ownBlock∧k_≠gb340∧k_≠gb341∧k_≠gb349)) (by (with_reducible repeat (first|apply Kd.N_alloc|apply Kd.N_drewN|apply Kd.N_drew));exact Kd.N_mono HO366.out (fun _ hk=>⟨⟨hk.1,⟨hk.2.2.1,⟨hk.2.2.2.1,hk.2.2.2.2⟩⟩⟩,hk.2.1⟩)) hg hat)
           have n8_:=Aside0.mk (hb)
           have n9_:=Aside0.mk (ho)
           clear BK340
           clear BK341
           clear HO345
           clear BK349
           clear HO352
           clear HO355
           clear HO363
           clear HO366
           clear HB
           clear HO358
           have BK340:=n0_
           have BK341:=n1_
           have HO345:=n2_
           have BK349:=n3_
           have HO352:=n4_
           have HO355:=n5_
           have HO363:=n6_
           have HO366:=n7_
           have HB:=n8_
           have HO369:=n9_
           clear n0_ n1_ n2_ n3_ n4_ n5_ n6_ n7_ n8_ n9_
           clear ho hb hg hat
           refine hK.out _ _ ⟨(blk_cell BK349.out 0).trans rfl,(blk_cell BK349.out 1).trans rfl,(blk_cell BK349.out 2).trans rfl,(blk_cell BK349.out 3).trans rfl⟩ (fun hHeld=>?_)
           clear hK K
           refine norm_ (a':=?_) ?_ ?_
           rotate_left
           ·show Act.put _ (some 48) _=_
            simp only [Act.put,List.setIfInBounds_toArray,List.set_cons_zero,List.set_cons_succ,i64_w,i32_w]
            rfl
           refine pure_ (i:=7) (N:=some 12) (v:=?_) (a':=?_) #[true,true,true,true,true,true,true,true] rfl rfl (any_of HT_.out (by kernel_rfl)) (fun _ _ _ h=>h) (Or.inl ⟨by rfl,?_⟩) ?_ ?_
           rotate_left;(intro w';go_simp;with_reducible rfl);rotate_left;(simp only [Act.put,List.setIfInBounds_toArray,List.set_cons_zero,List.set_cons_succ,i64_w,i32_w];rfl)
           refine done_ (done_of HT_.out (by kernel_rfl)) ?_
           (try clear hHeld)
           try go_wp2
           have n0_:=Aside0.mk (Kd.R_drew HO345.out)
           have n1_:=Aside0.mk (Kd.N_drew HO352.out)
           have n2_:=Aside0.mk (Kd.N_drew HO355.out)
           have n3_:=Aside0.mk (Kd.V_drew HO363.out)
           have n4_:=Aside0.mk (Kd.N_drew HO366.out)
           have n5_:=Aside0.mk (Kd.N_drew HO369.out)
           have n6_:=Aside0.mk (blk_drew BK340.out)
           have n7_:=Aside0.mk (blk_drew BK341.out)
           have n8_:=Aside0.mk (blk_drew BK349.out)
           have n9_:=Aside0.mk (below_drew1 HB.out)
           clear HO345
           clear HO352
           clear HO355
           clear HO363
           clear HO366
           clear HO369
           clear BK340
           clear BK341
           clear BK349
           clear HB
           have HO345:=n0_
           have HO352:=n1_
           have HO355:=n2_
           have HO363:=n3_
           have HO366:=n4_
           have HO369:=n5_
           have BK340:=n6_
           have BK341:=n7_
           have BK349:=n8_
           have HB:=n9_
           clear n0_ n1_ n2_ n3_ n4_ n5_ n6_ n7_ n8_ n9_
           have q58 : ((ji20) : Int)≤((t353.length : Int) : Int):=of_decide_eq_true (by first|(with_reducible assumption)|assumption)
           obtain ⟨i058,hi058,_,hsz58,_⟩:=info_parts info36
           have hroom58 : t353.length≤co48:=(Kd.N_reads' HO355.out).2.1
           have hC58 : Kd.F (Kd.slice 45 k45) _ _ Ao48 t353.length t353:=(Kd.V_at (base:=w.heap.size) (Kd.N_V HO355.out)).2.2
           have ql58 : ((ji10) : Int)≤((ji20) : Int):=of_decide_eq_true (by first|(with_reducible assumption)|assumption)
           have q058 : (0 : Int)≤((ji10) : Int):=of_decide_eq_true (by first|(with_reducible assumption)|assumption)
           have hcut58:=cut_mid (P:=Try.prog) 25 36 .i64 .i64 Try.underlying25 hi058 1 hsz58 Ao48 t353.length co48 (ji10) (ji20) q058 ql58 q58 hroom58
           have hr58:=Kd.F_mid (lo:=((ji10) : Int).toNat) (hi:=((ji20) : Int).toNat) (c:=co48) hC58 (by omega) (by omega) hroom58
           obtain ⟨A58,hA58⟩ : ∃ Z_,Z_=(if co48=((ji10) : Int).toNat then Ao48 else (Ao48 : Option Addr).map (·.add (((ji10) : Int).toNat * 1))):=⟨_,rfl⟩
           obtain ⟨c58,hc58⟩ : ∃ z_,z_=co48 - ((ji10) : Int).toNat:=⟨_,rfl⟩
           have hy58 : y370.length=((ji20) : Int).toNat - ((ji10) : Int).toNat:=(by rw [Ny370.out,List.length_drop,List.length_take] <;> omega)
           rw [show ((t353).take ((ji20) : Int).toNat).drop ((ji10) : Int).toNat=y370 from Ny370.out.symm] at hr58
           replace hr58 : Kd.F (Kd.slice 45 k45) _ _ A58 y370.length y370:=(by rw [hA58];exact hr58)
           rw [← hy58,← hA58,← hc58] at hcut58
           have HO374:=Aside0.mk (show Kd.V (Kd.slice 45 k45) 36 _ w.heap.size _ (.slice A58 y370.length c58) y370 from Kd.V_mk (by rw [hy58,hc58];exact Nat.sub_le_sub_right (Nat.le_trans (by omega) hroom58) _) hr58)
           have HC374:=Aside0.mk (show y370.length≤c58 from by rw [hy58,hc58];exact Nat.sub_le_sub_right (Nat.le_trans (by omega) hroom58) _)
           clear hr58 hC58 hroom58 hi058 hsz58 hc58
           have KY58:=Aside0.mk hy58
           have KA58:=Aside0.mk hA58
           clear hy58 hA58
           replace q58:=eq_true q58
           refine start_ (n:=9) (S:=fun w'=>w'.cell? ⟨gb349,0,none⟩=some (.slice Ao38 t343.length co38)∧w'.cell? ⟨gb349,1,none⟩=some (.int .i64 t346)∧w'.cell? ⟨gb349,2,none⟩=some (.int .i64 t347)∧w'.cell? ⟨gb349,3,none⟩=some (.int .i64 t348)) (ds:=[]) #[false,false,false,false,false,false,false,false,false] (by kernel_rfl) rfl rfl ⟨(blk_cell BK349.out 0).trans rfl,(blk_cell BK349.out 1).trans rfl,(blk_cell BK349.out 2).trans rfl,(blk_cell BK349.out 3).trans rfl⟩ (fun hHeld=>?_);refine with_tabW thresherlaw13_FoldParts.tab7 thresherlaw13_FoldParts.bits7 (fun HT_ HW_=>?_)
           generalize w55.drew=w57 at HO345 HO352 HO355 HO363 HO366 HO369 BK340 BK341 BK349 HB HO374 hHeld ⊢
           refine pure_ (i:=0) (N:=some 49) (v:=?_) (a':=?_) #[true,false,false,false,false,false,false,false,false] rfl rfl (any_of HT_.out (by kernel_rfl)) (fun _ _ _ h=>h) (Or.inl ⟨by rfl,?_⟩) ?_ ?_
           rotate_left;(intro w';go_simp;with_reducible rfl);rotate_left;(simp only [Act.put,List.setIfInBounds_toArray,List.set_cons_zero,List.set_cons_succ,i64_w,i32_w];rfl)
           refine pure_ (i:=2) (N:=some 51) (v:=?_) (a':=?_) #[true,false,true,false,false,false,false,false,false] rfl rfl (any_of HT_.out (by kernel_rfl)) (fun _ _ _ h=>h) (Or.inl ⟨by rfl,?_⟩) ?_ ?_
           rotate_left;(intro w';go_simp;with_reducible rfl);rotate_left;(simp only [Act.put,List.setIfInBounds_toArray,List.set_cons_zero,List.set_cons_succ,i64_w,i32_w];rfl)
           refine pure_ (i:=3) (N:=some 52) (v:=?_) (a':=?_) #[true,false,true,true,false,false,false,false,false] rfl rfl (any_of HT_.out (by kernel_rfl)) (fun _ _ _ h=>h) (Or.inl ⟨by rfl,?_⟩) ?_ ?_
           rotate_left;(intro w';go_simp;with_reducible rfl);rotate_left;(simp only [Act.put,List.setIfInBounds_toArray,List.set_cons_zero,List.set_cons_succ,i64_w,i32_w];rfl)
           refine pure_ (i:=4) (N:=some 53) (v:=?_) (a':=?_) #[true,false,true,true,true,false,false,false,false] rfl rfl (any_of HT_.out (by kernel_rfl)) (fun _ _ _ h=>h) (Or.inl ⟨by rfl,?_⟩) ?_ ?_
           rotate_left;(intro w';go_simp;with_reducible rfl);rotate_left;(simp only [Act.put,List.setIfInBounds_toArray,List.set_cons_zero,List.set_cons_succ,i64_w,i32_w];rfl)
           refine pure_ (i:=5) (N:=some 54) (v:=?_) (a':=?_) #[true,false,true,true,true,true,false,false,false] rfl rfl (any_of HT_.out (by kernel_rfl)) (fun _ _ _ h=>h) (Or.inl ⟨by rfl,?_⟩) ?_ ?_
           rotate_left;(intro w';go_simp;with_reducible rfl);rotate_left;(simp only [Act.put,List.setIfInBounds_toArray,List.set_cons_zero,List.set_cons_succ,i64_w,i32_w];rfl)
           refine take_ (i:=1) (N:=some 50) (v:=?_) (a':=?_) #[true,true,true,true,true,true,false,false,false] rfl rfl (take_ofW HT_.out HW_.out (by kernel_rfl)) (fun _ _ _ h=>h) (Or.inl ⟨by rfl,?_⟩) hHeld ?_ ?_
           rotate_left;(rintro w' ⟨s0,s1,s2,s3⟩;go_simp;with_reducible rfl);rotate_left;(simp only [Act.put,List.setIfInBounds_toArray,List.set_cons_zero,List.set_cons_succ,i64_w,i32_w];rfl)
           refine one_ (i:=6) (N:=some 55) #[true,true,true,true,true,true,true,false,false] rfl rfl (one_of HT_.out (by kernel_rfl)) (by decide) (fun K hK=>?_)
           refine goes_ Try.func13 (by kernel_rfl) rfl #[.agg #[.slice Ao38 t343.length co38,.int .i64 t346,.int .i64 t347,.int .i64 t348],.slice A58 y370.length c58] (by rfl) rfl rfl (by (try simp only [List.map_toArray,List.map_cons,List.map_nil]);first|done|rfl|(simp only [List.length_drop,List.length_take];rfl)) ?_
           with_reducible refine (fold_Rows.calls k _ _ t343 t346 t347 t348 (fun k_=>((some k_≠(.slice Ao38 t343.length co38 : Value).ownBlock∧(some k_≠(.slice Ao56 t364.length co56 : Value).ownBlock∧(k_≠gb340∧(k_≠gb341∧k_≠gb349))))∧some k_≠(v368 : Value).ownBlock)) _ _ y370 t375 _ ?side1 ?side2 ?side3 A18.out).mono ?_
           (case side1=>repeat (first|exact (Kd.R_reads' HO345.out).2.2|(with_reducible refine Kd.C_alloc ?_ _)|(with_reducible refine Kd.C_drewN ?_ _)|(with_reducible refine Kd.C_drew ?_)))
           (case side2=>exact (Kd.R_reads' HO345.out).2.1)
           (case side3=>exact HO374.out)
           rintro e w59 ⟨v376,rfl,ho0,hb⟩
           refine ⟨_,rfl,?_⟩
           have n0_:=Aside0.mk (Kd.R_below (by (with_reducible repeat (first|apply Kd.R_alloc|apply Kd.R_drewN|apply Kd.R_drew));exact HO345.out) hb)
           have n1_:=Aside0.mk (Kd.N_elder' (by (with_reducible repeat (first|apply Kd.N_alloc|apply Kd.N_drewN|apply Kd.N_drew));exact HO352.out) (by first|exact Kd.N_base ho0|exact Kd.S_base ho0) hb)
           have n2_:=Aside0.mk (Kd.N_elder' (by (with_reducible repeat (first|apply Kd.N_alloc|apply Kd.N_drewN|apply Kd.N_drew));exact HO355.out) (by first|exact Kd.N_base ho0|exact Kd.S_base ho0) hb)
           have n3_:=Aside0.mk (Kd.V_elder' (by (with_reducible repeat (first|apply Kd.V_alloc|apply Kd.V_drewN|apply Kd.V_drew));exact HO363.out) (by first|exact Kd.N_base ho0|exact Kd.S_base ho0) hb)
           have n4_:=Aside0.mk (Kd.N_elder' (by (with_reducible repeat (first|apply Kd.N_alloc|apply Kd.N_drewN|apply Kd.N_drew));exact HO366.out) (by first|exact Kd.N_base ho0|exact Kd.S_base ho0) hb)
           have n5_:=Aside0.mk (Kd.N_elder' (by (with_reducible repeat (first|apply Kd.N_alloc|apply Kd.N_drewN|apply Kd.N_drew));exact HO369.out) (by first|exact Kd.N_base ho0|exact Kd.S_base ho0) hb)
           have n6_:=Aside0.mk (Kd.V_elder' (by (with_reducible repeat (first|apply Kd.V_alloc|apply Kd.V_drewN|apply Kd.V_drew));exact HO374.out) (by first|exact Kd.N_base ho0|exact Kd.S_base ho0) hb)
           have n7_:=Aside0.mk (Kd.N_lower (Kd.N_mono (ok':=fun k_=>some k_≠(.slice Ao38 t343.length co38 : Value).ownBlock∧some k_≠(.slice Ao56 t364.length co56 : Value).ownBlock∧some k_≠(v368 : Value).ownBlock∧k_≠gb340∧k_≠gb341∧k_≠gb349) ho0 (fun k_ hk_=>⟨Or.elim hk_ (fun hs_=>hs_.1.1) (fun hn_=>(Kd.fresh' (Kd.R_lt (by (with_reducible repeat (first|apply Kd.R_alloc|apply Kd.R_drewN|apply Kd.R_drew));exact HO345.out)) k_ hn_)),Or.elim hk_ (fun hs_=>hs_.1.2.1) (fun hn_=>(Kd.fresh' (Kd.N_lt (by (with_reducible repeat (first|apply Kd.N_alloc|apply Kd.N_drewN|apply Kd.N_drew));exact HO366.out)) k_ hn_)),Or.elim hk_ (fun hs_=>hs_.2) (fun hn_=>(Kd.fresh' (Kd.N_lt (by (with_reducible repeat (first|apply Kd.N_alloc|apply Kd.N_drewN|apply Kd.N_drew));exact HO369.out)) k_ hn_)),Or.elim hk_ (fun hs_=>hs_.1.2.2.1) (fun hn_=>(Kd.freshB (g:=gb340) (o:=.cells #[.int .u8 a0_0,.int .u8 a0_1,.int .u8 a0_2,.int .u8 a0_3,.int .u8 a0_4,.int .u8 a0_5,.int .u8 a0_6,.int .u8 a0_7,.int .u8 a0_8,.int .u8 a0_9,.int .u8 a0_10,.int .u8 a0_11] 24 (0,0)) (by (with_reducible repeat (first|refine blk_drewN ?_ _|refine blk_drew ?_|refine blk_alloc ?_ _));exact BK340.out) k_ hn_)),Or.elim hk_ (fun hs_=>hs_.1.2.2.2.1) (fun hn_=>(Kd.freshB (g:=gb341) (o:=.cells #[.int .u8 a2_0,.int .u8 a2_1] 40 (0,0)) (by (with_reducible repeat (first|refine blk_drewN ?_ _|refine blk_drew ?_|refine blk_alloc ?_ _));exact BK341.out) k_ hn_)),Or.elim hk_ (fun hs_=>hs_.1.2.2.2.2) (fun hn_=>(Kd.freshB (g:=gb349) (o:=.cells #[.slice Ao38 t343.length co38,.int .i64 t346,.int .i64 t347,.int .i64 t348] 29 (0,0)) (by (with_reducible repeat (first|refine blk_drewN ?_ _|refine blk_drew ?_|refine blk_alloc ?_ _));exact BK349.out) k_ hn_))⟩)) (below_size (by repeat (first|(with_reducible first|exact HB.out|apply below_alloc|apply pw_below_drewN|apply below_drew1|refine below_set ?_ GE340.out|refine below_set ?_ GE341.out|refine below_set ?_ GE349.out)|exact HB.out))))
           have n8_:=Aside0.mk (blk_below (g:=gb340) (o:=.cells #[.int .u8 a0_0,.int .u8 a0_1,.int .u8 a0_2,.int .u8 a0_3,.int .u8 a0_4,.int .u8 a0_5,.int .u8 a0_6,.int .u8 a0_7,.int .u8 a0_8,.int .u8 a0_9,.int .u8 a0_10,.int .u8 a0_11] 24 (0,0)) (by (with_reducible repeat (first|refine blk_drewN ?_ _|refine blk_drew ?_|refine blk_alloc ?_ _));exact BK340.out) hb)
           have n9_:=Aside0.mk (blk_below (g:=gb341) (o:=.cells #[.int .u8 a2_0,.int .u8 a2_1] 40 (0,0)) (by (with_reducible repeat (first|refine blk_drewN ?_ _|refine blk_drew ?_|refine blk_alloc ?_ _));exact BK341.out) hb)
           have n10_:=Aside0.mk (blk_below (g:=gb349) (o:=.cells #[.slice Ao38 t343.length co38,.int .i64 t346,.int .i64 t347,.int .i64 t348] 29 (0,0)) (by (with_reducible repeat (first|refine blk_drewN ?_ _|refine blk_drew ?_|refine blk_alloc ?_ _));exact BK349.out) hb)
           have n11_:=Aside0.mk (below_step (by repeat (first|(with_reducible first|exact HB.out|apply below_alloc|apply pw_below_drewN|apply below_drew1|refine below_set ?_ GE340.out|refine below_set ?_ GE341.out|refine below_set ?_ GE349.out)|exact HB.out)) hb)
           clear HO345
           clear HO352
           clear HO355
           clear HO363
           clear HO366
           clear HO369
           clear HO374
           clear BK340
           clear BK341
           clear BK349
           clear HB
           have HO345:=n0_
           have HO352:=n1_
           have HO355:=n2_
           have HO363:=n3_
           have HO366:=n4_
           have HO369:=n5_
           have HO374:=n6_
           have HO377:=n7_
           have BK340:=n8_
           have BK341:=n9_
           have BK349:=n10_
           have HB:=n11_
           clear n0_ n1_ n2_ n3_ n4_ n5_ n6_ n7_ n8_ n9_ n10_ n11_
           (try clear hb)
           (try clear hb2)
           (try clear hk)
           (try clear hi)
           (try clear ho0)
           obtain ⟨Ao61,co61,eo61⟩:=Kd.N_slice HO377.out
           (first|subst eo61|(injection eo61 with f1_ f2_ f3_;have f4_:=f1_.symm;have f5_:=f3_.symm;clear f1_ f2_ f3_;subst f4_;subst f5_))
           refine hK.out _ _ ⟨(blk_cell BK349.out 0).trans rfl,(blk_cell BK349.out 1).trans rfl,(blk_cell BK349.out 2).trans rfl,(blk_cell BK349.out 3).trans rfl⟩ (fun hHeld=>?_)
           clear hK K
           refine norm_ (a':=?_) ?_ ?_
           rotate_left
           ·show Act.put _ (some 55) _=_
            simp only [Act.put,List.setIfInBounds_toArray,List.set_cons_zero,List.set_cons_succ,i64_w,i32_w]
            rfl
           refine one_ (i:=7) (N:=some 56) #[true,true,true,true,true,true,true,true,false] rfl rfl (one_of HT_.out (by kernel_rfl)) (by decide) (fun K hK=>?_)
           refine Kd.N_append_rows_step (Kd.slice 45 k45) (w0:=w) w.heap.size (by rfl) (.tmp 49) (.tmp 55) 25 36 (.slice none 0 0) 24 rfl Try.underlying25 info36 rfl (by decide) (by omega) v368 y367 t375 _ _ _ (fun k_=>some k_≠(.slice Ao38 t343.length co38 : Value).ownBlock∧k_≠gb340∧k_≠gb341∧k_≠gb349) (fun k_=>((fun k_=>some k_≠(.slice Ao38 t343.length co38 : Value).ownBlock∧k_≠gb340∧k_≠gb341∧k_≠gb349)) k_∧some k_≠(v368 : Value).ownBlock) rfl rfl ?aO ?aR (fun _ hk=>hk) ?aF ?aB ?aS ?aL ?_
           (case aR=>exact (by skip;exact Kd.N_F (Kd.N_mono (ok':=(fun k_=>((fun k_=>some k_≠(.slice Ao38 t343.length co38 : Value).ownBlock∧k_≠gb340∧k_≠gb341∧k_≠gb349)) k_∧some k_≠(v368 : Value).ownBlock)) (HO377.out) (fun k_ hk=>⟨⟨hk.1,⟨hk.2.2.2.1,⟨hk.2.2.2.2.1,hk.2.2.2.2.2⟩⟩⟩,hk.2.2.1⟩))))
           (case aB=>exact (by repeat (first|(with_reducible first|exact HB.out|apply below_alloc|apply pw_below_drewN|apply below_drew1|refine below_set ?_ GE340.out|refine below_set ?_ GE341.out|refine below_set ?_ GE349.out)|exact HB.out)))
           (case aF=>exact (fun k_ hk=>⟨Kd.fresh' (Kd.R_lt (by (with_reducible repeat (first|apply Kd.R_alloc|apply Kd.R_drewN|apply Kd.R_drew));exact HO345.out)) k_ hk,Kd.freshB (g:=gb340) (o:=.cells #[.int .u8 a0_0,.int .u8 a0_1,.int .u8 a0_2,.int .u8 a0_3,.int .u8 a0_4,.int .u8 a0_5,.int .u8 a0_6,.int .u8 a0_7,.int .u8 a0_8,.int .u8 a0_9,.int .u8 a0_10,.int .u8 a0_11] 24 (0,0)) (by (with_reducible repeat (first|refine blk_drewN ?_ _|refine blk_drew ?_|refine blk_alloc ?_ _));exact BK340.out) k_ hk,Kd.freshB (g:=gb341) (o:=.cells #[.int .u8 a2_0,.int .u8 a2_1] 40 (0,0)) (by (with_reducible repeat (first|refine blk_drewN ?_ _|refine blk_drew ?_|refine blk_alloc ?_ _));exact BK341.out) k_ hk,Kd.freshB (g:=gb349) (o:=.cells #[.slice Ao38 t343.length co38,.int .i64 t346,.int .i64 t347,.int .i64 t348] 29 (0,0)) (by (with_reducible repeat (first|refine blk_drewN ?_ _|refine blk_drew ?_|refine blk_alloc ?_ _));exact BK349.out) k_ hk⟩))
           (case aO=>exact (by (with_reducible repeat (first|apply Kd.N_alloc|apply Kd.N_drewN|apply Kd.N_drew));exact Kd.N_mono HO369.out (fun _ hk=>⟨hk.1.1,⟨hk.1.2.1,⟨hk.1.2.2.1,hk.1.2.2.2⟩⟩⟩)))
           (case aS=>exact (below_size (by repeat (first|(with_reducible first|exact HB.out|apply below_alloc|apply pw_below_drewN|apply below_drew1|refine below_set ?_ GE340.out|refine below_set ?_ GE341.out|refine below_set ?_ GE349.out)|exact HB.out))))
           (case aL=>have:=LMc19.out;omega)
           intro v379 w60 ho hb hg hat
           rw [← Ny378.out] at ho
           have n0_:=Aside0.mk (blk_grown (g:=gb340) (o:=.cells #[.int .u8 a0_0,.int .u8 a0_1,.int .u8 a0_2,.int .u8 a0_3,.int .u8 a0_4,.int .u8 a0_5,.int .u8 a0_6,.int .u8 a0_7,.int .u8 a0_8,.int .u8 a0_9,.int .u8 a0_10,.int .u8 a0_11] 24 (0,0)) (by (with_reducible repeat (first|refine blk_drewN ?_ _|refine blk_drew ?_|refine blk_alloc ?_ _));exact BK340.out) hg (Kd.N_ne HO369.out BK340.out (by decide)))
           have n1_:=Aside0.mk (blk_grown (g:=gb341) (o:=.cells #[.int .u8 a2_0,.int .u8 a2_1] 40 (0,0)) (by (with_reducible repeat (first|refine blk_drewN ?_ _|refine blk_drew ?_|refine blk_alloc ?_ _));exact BK341.out) hg (Kd.N_ne HO369.out BK341.out (by decide)))
           have n2_:=Aside0.mk (Kd.R_over' (by (with_reducible repeat (first|apply Kd.R_alloc|apply Kd.R_drewN|apply Kd.R_drew));exact HO345.out) (Kd.N_typed (by (with_reducible repeat (first|apply Kd.N_alloc|apply Kd.N_drewN|apply Kd.N_drew));exact HO369.out)) (by decide) hg)
           have n3_:=Aside0.mk (blk_grown (g:=gb349) (o:=.cells #[.slice Ao38 t343.length co38,.int .i64 t346,.int .i64 t347,.int .i64 t348] 29 (0,0)) (by (with_reducible repeat (first|refine blk_drewN ?_ _|refine blk_drew ?_|refine blk_alloc ?_ _));exact BK349.out) hg (Kd.N_ne HO369.out BK349.out (by decide)))
           have n4_:=Aside0.mk (Kd.N_afterv (ok:=(fun k_=>some k_≠(.slice Ao38 t343.length co38 : Value).ownBlock∧some k_≠(.slice Ao48 t353.length co48 : Value).ownBlock∧some k_≠(.slice Ao56 t364.length co56 : Value).ownBlock∧some k_≠(.slice Ao61 t375.length co61 : Value).ownBlock∧k_≠gb340∧k_≠gb341∧k_≠gb349)) (by (with_reducible repeat (first|apply Kd.N_alloc|apply Kd.N_drewN|apply Kd.N_drew));exact Kd.N_mono HO352.out (fun _ hk=>⟨⟨hk.1.1.1,⟨hk.1.1.2.1,⟨hk.1.1.2.2.1,⟨hk.2,⟨hk.1.1.2.2.2.1,⟨hk.1.1.2.2.2.2.1,hk.1.1.2.2.2.2.2⟩⟩⟩⟩⟩⟩,hk.1.2⟩)) hg hat)
           have n5_:=Aside0.mk (Kd.N_afterv (ok:=(fun k_=>some k_≠(.slice Ao38 t343.length co38 : Value).ownBlock∧some k_≠(.slice Ao56 t364.length co56 : Value).ownBlock∧some k_≠(.slice Ao61 t375.length co61 : Value).ownBlock∧k_≠gb340∧k_≠gb341∧k_≠gb349)) (by (with_reducible repeat (first|apply Kd.N_alloc|apply Kd.N_drewN|apply Kd.N_drew));exact Kd.N_mono HO355.out (fun _ hk=>⟨⟨hk.1.1.1,⟨hk.1.1.2.1,⟨hk.2,⟨hk.1.1.2.2.1,⟨hk.1.1.2.2.2.1,hk.1.1.2.2.2.2⟩⟩⟩⟩⟩,hk.1.2⟩)) hg hat)
           have n6_:=Aside0.mk (Kd.V_afterv (ok:=(fun k_=>some k_≠(.slice Ao38 t343.length co38 : Value).ownBlock∧some k_≠(.slice Ao56 t364.length co56 : Value).ownBlock∧some k_≠(.slice Ao61 t375.length co61 : Value).ownBlock∧k_≠gb340∧k_≠gb341∧k_≠gb349)) (by (with_reducible repeat (first|apply Kd.V_alloc|apply Kd.V_drewN|apply Kd.V_drew));exact Kd.V_mono HO363.out (fun _ hk=>⟨⟨hk.1.1.1,⟨hk.1.1.2.1,⟨hk.2,⟨hk.1.1.2.2.1,⟨hk.1.1.2.2.2.1,hk.1.1.2.2.2.2⟩⟩⟩⟩⟩,hk.1.2⟩)) hg hat)
           have n7_:=Aside0.mk (Kd.N_afterv (ok:=(fun k_=>some k_≠(.slice Ao38 t343.length co38 : Value).ownBlock∧some k_≠(.slice Ao61 t375.length co61 : Value).ownBlock∧k_≠gb340∧k_≠gb341∧k_≠gb349)) (by (with_reducible repeat (first|apply Kd.N_alloc|apply Kd.N_drewN|apply Kd.N_drew));exact Kd.N_mono HO366.out (fun _ hk=>⟨⟨hk.1.1.1,⟨hk.2,⟨hk.1.1.2.1,⟨hk.1.1.2.2.1,hk.1.1.2.2.2⟩⟩⟩⟩,hk.1.2⟩)) hg hat)
           have n8_:=Aside0.mk (Kd.V_afterv (ok:=(fun k_=>some k_≠(.slice Ao38 t343.length co38 : Value).ownBlock∧some k_≠(.slice Ao56 t364.length co56 : Value).ownBlock∧some k_≠(.slice Ao61 t375.length co61 : Value).ownBlock∧k_≠gb340∧k_≠gb341∧k_≠gb349)) (by (with_reducible repeat (first|apply Kd.V_alloc|apply Kd.V_drewN|apply Kd.V_drew));exact Kd.V_mono HO374.out (fun _ hk=>⟨⟨hk.1.1.1,⟨hk.1.1.2.1,⟨hk.2,⟨hk.1.1.2.2.1,⟨hk.1.1.2.2.2.1,hk.1.1.2.2.2.2⟩⟩⟩⟩⟩,hk.1.2⟩)) hg hat)
           have n9_:=Aside0.mk (Kd.N_afterv (ok:=(fun k_=>some k_≠(.slice Ao38 t343.length co38 : Value).ownBlock∧some k_≠(.slice Ao56 t364.length co56 : Value).ownBlock∧k_≠gb340∧k_≠gb341∧k_≠gb349)) (by (with_reducible repeat (first|apply Kd.N_alloc|apply Kd.N_drewN|apply Kd.N_drew));exact Kd.N_mono HO377.out (fun _ hk=>⟨⟨hk.1,⟨hk.2.1,⟨hk.2.2.2.1,⟨hk.2.2.2.2.1,hk.2.2.2.2.2⟩⟩⟩⟩,hk.2.2.1⟩)) hg hat)
           have n10_:=Aside0.mk (hb)
           have n11_:=Aside0.mk (ho)
           clear BK340
           clear BK341
           clear HO345
           clear BK349
           clear HO352
           clear HO355
           clear HO363
           clear HO366
           clear HO374
           clear HO377
           clear HB
           clear HO369
           have BK340:=n0_
           have BK341:=n1_
           have HO345:=n2_
           have BK349:=n3_
           have HO352:=n4_
           have HO355:=n5_
           have HO363:=n6_
           have HO366:=n7_
           have HO374:=n8_
           have HO377:=n9_
           have HB:=n10_
           have HO380:=n11_
           clear n0_ n1_ n2_ n3_ n4_ n5_ n6_ n7_ n8_ n9_ n10_ n11_
           clear ho hb hg hat
           refine hK.out _ _ ⟨(blk_cell BK349.out 0).trans rfl,(blk_cell BK349.out 1).trans rfl,(blk_cell BK349.out 2).trans rfl,(blk_cell BK349.out 3).trans rfl⟩ (fun hHeld=>?_)
           clear hK K
           refine norm_ (a':=?_) ?_ ?_
           rotate_left
           ·show Act.put _ (some 56) _=_
            simp only [Act.put,List.setIfInBounds_toArray,List.set_cons_zero,List.set_cons_succ,i64_w,i32_w]
            rfl
           refine pure_ (i:=8) (N:=some 12) (v:=?_) (a':=?_) #[true,true,true,true,true,true,true,true,true] rfl rfl (any_of HT_.out (by kernel_rfl)) (fun _ _ _ h=>h) (Or.inl ⟨by rfl,?_⟩) ?_ ?_
           rotate_left;(intro w';go_simp;with_reducible rfl);rotate_left;(simp only [Act.put,List.setIfInBounds_toArray,List.set_cons_zero,List.set_cons_succ,i64_w,i32_w];rfl)
           refine done_ (done_of HT_.out (by kernel_rfl)) ?_
           (try clear hHeld)
           try go_wp2
           have n0_:=Aside0.mk (Kd.R_drew HO345.out)
           have n1_:=Aside0.mk (Kd.N_drew HO352.out)
           have n2_:=Aside0.mk (Kd.N_drew HO355.out)
           have n3_:=Aside0.mk (Kd.V_drew HO363.out)
           have n4_:=Aside0.mk (Kd.N_drew HO366.out)
           have n5_:=Aside0.mk (Kd.V_drew HO374.out)
           have n6_:=Aside0.mk (Kd.N_drew HO377.out)
           have n7_:=Aside0.mk (Kd.N_drew HO380.out)
           have n8_:=Aside0.mk (blk_drew BK340.out)
           have n9_:=Aside0.mk (blk_drew BK341.out)
           have n10_:=Aside0.mk (blk_drew BK349.out)
           have n11_:=Aside0.mk (below_drew1 HB.out)
           clear HO345
           clear HO352
           clear HO355
           clear HO363
           clear HO366
           clear HO374
           clear HO377
           clear HO380
           clear BK340
           clear BK341
           clear BK349
           clear HB
           have HO345:=n0_
           have HO352:=n1_
           have HO355:=n2_
           have HO363:=n3_
           have HO366:=n4_
           have HO374:=n5_
           have HO377:=n6_
           have HO380:=n7_
           have BK340:=n8_
           have BK341:=n9_
           have BK349:=n10_
           have HB:=n11_
           clear n0_ n1_ n2_ n3_ n4_ n5_ n6_ n7_ n8_ n9_ n10_ n11_
           have q63 : ((ji20) : Int)≤((t353.length : Int) : Int):=of_decide_eq_true (by first|(with_reducible assumption)|assumption)
           obtain ⟨i063,hi063,_,hsz63,_⟩:=info_parts info36
           have hroom63 : t353.length≤co48:=(Kd.N_reads' HO355.out).2.1
           have hC63 : Kd.F (Kd.slice 45 k45) _ _ Ao48 t353.length t353:=(Kd.V_at (base:=w.heap.size) (Kd.N_V HO355.out)).2.2
           have q063 : (0 : Int)≤((ji20) : Int):=of_decide_eq_true (by first|(with_reducible assumption)|assumption)
           have hcut63:=cut_from (P:=Try.prog) 25 36 .i64 Try.underlying25 hi063 1 hsz63 Ao48 t353.length co48 (ji20) q063 q63
           have hr63:=Kd.F_cut (m:=((ji20) : Int).toNat) (c:=co48) hC63 (by omega) hroom63
           obtain ⟨A63,hA63⟩ : ∃ Z_,Z_=(if co48=((ji20) : Int).toNat then Ao48 else (Ao48 : Option Addr).map (·.add (((ji20) : Int).toNat * 1))):=⟨_,rfl⟩
           obtain ⟨c63,hc63⟩ : ∃ z_,z_=co48 - ((ji20) : Int).toNat:=⟨_,rfl⟩
           have hy63 : y381.length=t353.length - ((ji20) : Int).toNat:=(by rw [Ny381.out,List.length_drop] <;> omega)
           rw [show (t353).drop ((ji20) : Int).toNat=y381 from Ny381.out.symm] at hr63
           replace hr63 : Kd.F (Kd.slice 45 k45) _ _ A63 y381.length y381:=(by rw [hA63];exact hr63)
           rw [← hy63,← hA63,← hc63] at hcut63
           have HO385:=Aside0.mk (show Kd.V (Kd.slice 45 k45) 36 _ w.heap.size _ (.slice A63 y381.length c63) y381 from Kd.V_mk (by rw [hy63,hc63];exact Nat.sub_le_sub_right hroom63 _) hr63)
           have HC385:=Aside0.mk (show y381.length≤c63 from by rw [hy63,hc63];exact Nat.sub_le_sub_right hroom63 _)
           clear hr63 hC63 hroom63 hi063 hsz63 hc63
           have KY63:=Aside0.mk hy63
           have KA63:=Aside0.mk hA63
           clear hy63 hA63
           replace q63:=eq_true q63
           refine start_ (n:=8) (S:=fun w'=>w'.cell? ⟨gb349,0,none⟩=some (.slice Ao38 t343.length co38)∧w'.cell? ⟨gb349,1,none⟩=some (.int .i64 t346)∧w'.cell? ⟨gb349,2,none⟩=some (.int .i64 t347)∧w'.cell? ⟨gb349,3,none⟩=some (.int .i64 t348)) (ds:=[]) #[false,false,false,false,false,false,false,false] (by kernel_rfl) rfl rfl ⟨(blk_cell BK349.out 0).trans rfl,(blk_cell BK349.out 1).trans rfl,(blk_cell BK349.out 2).trans rfl,(blk_cell BK349.out 3).trans rfl⟩ (fun hHeld=>?_);refine with_tabW thresherlaw13_FoldParts.tab8 thresherlaw13_FoldParts.bits8 (fun HT_ HW_=>?_)
           generalize w60.drew=w62 at HO345 HO352 HO355 HO363 HO366 HO374 HO377 HO380 BK340 BK341 BK349 HB HO385 hHeld ⊢
           refine pure_ (i:=0) (N:=some 57) (v:=?_) (a':=?_) #[true,false,false,false,false,false,false,false] rfl rfl (any_of HT_.out (by kernel_rfl)) (fun _ _ _ h=>h) (Or.inl ⟨by rfl,?_⟩) ?_ ?_
           rotate_left;(intro w';go_simp;with_reducible rfl);rotate_left;(simp only [Act.put,List.setIfInBounds_toArray,List.set_cons_zero,List.set_cons_succ,i64_w,i32_w];rfl)
           refine pure_ (i:=2) (N:=some 59) (v:=?_) (a':=?_) #[true,false,true,false,false,false,false,false] rfl rfl (any_of HT_.out (by kernel_rfl)) (fun _ _ _ h=>h) (Or.inl ⟨by rfl,?_⟩) ?_ ?_
           rotate_left;(intro w';go_simp;with_reducible rfl);rotate_left;(simp only [Act.put,List.setIfInBounds_toArray,List.set_cons_zero,List.set_cons_succ,i64_w,i32_w];rfl)
           refine pure_ (i:=3) (N:=some 60) (v:=?_) (a':=?_) #[true,false,true,true,false,false,false,false] rfl rfl (any_of HT_.out (by kernel_rfl)) (fun _ _ _ h=>h) (Or.inl ⟨by rfl,?_⟩) ?_ ?_
           rotate_left;(intro w';go_simp;with_reducible rfl);rotate_left;(simp only [Act.put,List.setIfInBounds_toArray,List.set_cons_zero,List.set_cons_succ,i64_w,i32_w];rfl)
           refine pure_ (i:=4) (N:=some 61) (v:=?_) (a':=?_) #[true,false,true,true,true,false,false,false] rfl rfl (any_of HT_.out (by kernel_rfl)) (fun _ _ _ h=>h) (Or.inl ⟨by rfl,?_⟩) ?_ ?_
           rotate_left;(intro w';go_simp;with_reducible rfl);rotate_left;(simp only [Act.put,List.setIfInBounds_toArray,List.set_cons_zero,List.set_cons_succ,i64_w,i32_w];rfl)
           refine take_ (i:=1) (N:=some 58) (v:=?_) (a':=?_) #[true,true,true,true,true,false,false,false] rfl rfl (take_ofW HT_.out HW_.out (by kernel_rfl)) (fun _ _ _ h=>h) (Or.inl ⟨by rfl,?_⟩) hHeld ?_ ?_
           rotate_left;(rintro w' ⟨s0,s1,s2,s3⟩;go_simp;with_reducible rfl);rotate_left;(simp only [Act.put,List.setIfInBounds_toArray,List.set_cons_zero,List.set_cons_succ,i64_w,i32_w];rfl)
           refine one_ (i:=5) (N:=some 62) #[true,true,true,true,true,true,false,false] rfl rfl (one_of HT_.out (by kernel_rfl)) (by decide) (fun K hK=>?_)
           refine goes_ Try.func13 (by kernel_rfl) rfl #[.agg #[.slice Ao38 t343.length co38,.int .i64 t346,.int .i64 t347,.int .i64 t348],.slice A63 y381.length c63] (by rfl) rfl rfl (by (try simp only [List.map_toArray,List.map_cons,List.map_nil]);first|done|rfl|(simp only [List.length_drop,List.length_take];rfl)) ?_
           with_reducible refine (fold_Rows.calls k _ _ t343 t346 t347 t348 (fun k_=>((some k_≠(.slice Ao38 t343.length co38 : Value).ownBlock∧(some k_≠(.slice Ao56 t364.length co56 : Value).ownBlock∧(some k_≠(.slice Ao61 t375.length co61 : Value).ownBlock∧(k_≠gb340∧(k_≠gb341∧k_≠gb349)))))∧some k_≠(v379 : Value).ownBlock)) _ _ y381 t386 _ ?side1 ?side2 ?side3 A23.out).mono ?_
           (case side1=>repeat (first|exact (Kd.R_reads' HO345.out).2.2|(with_reducible refine Kd.C_alloc ?_ _)|(with_reducible refine Kd.C_drewN ?_ _)|(with_reducible refine Kd.C_drew ?_)))
           (case side2=>exact (Kd.R_reads' HO345.out).2.1)
           (case side3=>exact HO385.out)
           rintro e w64 ⟨v387,rfl,ho0,hb⟩
           refine ⟨_,rfl,?_⟩
           have n0_:=Aside0.mk (Kd.R_below (by (with_reducible repeat (first|apply Kd.R_alloc|apply Kd.R_drewN|apply Kd.R_drew));exact HO345.out) hb)
           have n1_:=Aside0.mk (Kd.N_elder' (by (with_reducible repeat (first|apply Kd.N_alloc|apply Kd.N_drewN|apply Kd.N_drew));exact HO352.out) (by first|exact Kd.N_base ho0|exact Kd.S_base ho0) hb)
           have n2_:=Aside0.mk (Kd.N_elder' (by (with_reducible repeat (first|apply Kd.N_alloc|apply Kd.N_drewN|apply Kd.N_drew));exact HO355.out) (by first|exact Kd.N_base ho0|exact Kd.S_base ho0) hb)
           have n3_:=Aside0.mk (Kd.V_elder' (by (with_reducible repeat (first|apply Kd.V_alloc|apply Kd.V_drewN|apply Kd.V_drew));exact HO363.out) (by first|exact Kd.N_base ho0|exact Kd.S_base ho0) hb)
           have n4_:=Aside0.mk (Kd.N_elder' (by (with_reducible repeat (first|apply Kd.N_alloc|apply Kd.N_drewN|apply Kd.N_drew));exact HO366.out) (by first|exact Kd.N_base ho0|exact Kd.S_base ho0) hb)
           have n5_:=Aside0.mk (Kd.V_elder' (by (with_reducible repeat (first|apply Kd.V_alloc|apply Kd.V_drewN|apply Kd.V_drew));exact HO374.out) (by first|exact Kd.N_base ho0|exact Kd.S_base ho0) hb)
           have n6_:=Aside0.mk (Kd.N_elder' (by (with_reducible repeat (first|apply Kd.N_alloc|apply Kd.N_drewN|apply Kd.N_drew));exact HO377.out) (by first|exact Kd.N_base ho0|exact Kd.S_base ho0) hb)
           have n7_:=Aside0.mk (Kd.N_elder' (by (with_reducible repeat (first|apply Kd.N_alloc|apply Kd.N_drewN|apply Kd.N_drew));exact HO380.out) (by first|exact Kd.N_base ho0|exact Kd.S_base ho0) hb)
           have n8_:=Aside0.mk (Kd.V_elder' (by (with_reducible repeat (first|apply Kd.V_alloc|apply Kd.V_drewN|apply Kd.V_drew));exact HO385.out) (by first|exact Kd.N_base ho0|exact Kd.S_base ho0) hb)
           have n9_:=Aside0.mk (Kd.N_lower (Kd.N_mono (ok':=fun k_=>some k_≠(.slice Ao38 t343.length co38 : Value).ownBlock∧some k_≠(.slice Ao56 t364.length co56 : Value).ownBlock∧some k_≠(.slice Ao61 t375.length co61 : Value).ownBlock∧some k_≠(v379 : Value).ownBlock∧k_≠gb340∧k_≠gb341∧k_≠gb349) ho0 (fun k_ hk_=>⟨Or.elim hk_ (fun hs_=>hs_.1.1) (fun hn_=>(Kd.fresh' (Kd.R_lt (by (with_reducible repeat (first|apply Kd.R_alloc|apply Kd.R_drewN|apply Kd.R_drew));exact HO345.out)) k_ hn_)),Or.elim hk_ (fun hs_=>hs_.1.2.1) (fun hn_=>(Kd.fresh' (Kd.N_lt (by (with_reducible repeat (first|apply Kd.N_alloc|apply Kd.N_drewN|apply Kd.N_drew));exact HO366.out)) k_ hn_)),Or.elim hk_ (fun hs_=>hs_.1.2.2.1) (fun hn_=>(Kd.fresh' (Kd.N_lt (by (with_reducible repeat (first|apply Kd.N_alloc|apply Kd.N_drewN|apply Kd.N_drew));exact HO377.out)) k_ hn_)),Or.elim hk_ (fun hs_=>hs_.2) (fun hn_=>(Kd.fresh' (Kd.N_lt (by (with_reducible repeat (first|apply Kd.N_alloc|apply Kd.N_drewN|apply Kd.N_drew));exact HO380.out)) k_ hn_)),Or.elim hk_ (fun hs_=>hs_.1.2.2.2.1) (fun hn_=>(Kd.freshB (g:=gb340) (o:=.cells #[.int .u8 a0_0,.int .u8 a0_1,.int .u8 a0_2,.int .u8 a0_3,.int .u8 a0_4,.int .u8 a0_5,.int .u8 a0_6,.int .u8 a0_7,.int .u8 a0_8,.int .u8 a0_9,.int .u8 a0_10,.int .u8 a0_11] 24 (0,0)) (by (with_reducible repeat (first|refine blk_drewN ?_ _|refine blk_drew ?_|refine blk_alloc ?_ _));exact BK340.out) k_ hn_)),Or.elim hk_ (fun hs_=>hs_.1.2.2.2.2.1) (fun hn_=>(Kd.freshB (g:=gb341) (o:=.cells #[.int .u8 a2_0,.int .u8 a2_1] 40 (0,0)) (by (with_reducible repeat (first|refine blk_drewN ?_ _|refine blk_drew ?_|refine blk_alloc ?_ _));exact BK341.out) k_ hn_)),Or.elim hk_ (fun hs_=>hs_.1.2.2.2.2.2) (fun hn_=>(Kd.freshB (g:=gb349) (o:=.cells #[.slice Ao38 t343.length co38,.int .i64 t346,.int .i64 t347,.int .i64 t348] 29 (0,0)) (by (with_reducible repeat (first|refine blk_drewN ?_ _|refine blk_drew ?_|refine blk_alloc ?_ _));exact BK349.out) k_ hn_))⟩)) (below_size (by repeat (first|(with_reducible first|exact HB.out|apply below_alloc|apply pw_below_drewN|apply below_drew1|refine below_set ?_ GE340.out|refine below_set ?_ GE341.out|refine below_set ?_ GE349.out)|exact HB.out))))
           have n10_:=Aside0.mk (blk_below (g:=gb340) (o:=.cells #[.int .u8 a0_0,.int .u8 a0_1,.int .u8 a0_2,.int .u8 a0_3,.int .u8 a0_4,.int .u8 a0_5,.int .u8 a0_6,.int .u8 a0_7,.int .u8 a0_8,.int .u8 a0_9,.int .u8 a0_10,.int .u8 a0_11] 24 (0,0)) (by (with_reducible repeat (first|refine blk_drewN ?_ _|refine blk_drew ?_|refine blk_alloc ?_ _));exact BK340.out) hb)
           have n11_:=Aside0.mk (blk_below (g:=gb341) (o:=.cells #[.int .u8 a2_0,.int .u8 a2_1] 40 (0,0)) (by (with_reducible repeat (first|refine blk_drewN ?_ _|refine blk_drew ?_|refine blk_alloc ?_ _));exact BK341.out) hb)
           have n12_:=Aside0.mk (blk_below (g:=gb349) (o:=.cells #[.slice Ao38 t343.length co38,.int .i64 t346,.int .i64 t347,.int .i64 t348] 29 (0,0)) (by (with_reducible repeat (first|refine blk_drewN ?_ _|refine blk_drew ?_|refine blk_alloc ?_ _));exact BK349.out) hb)
           have n13_:=Aside0.mk (below_step (by repeat (first|(with_reducible first|exact HB.out|apply below_alloc|apply pw_below_drewN|apply below_drew1|refine below_set ?_ GE340.out|refine below_set ?_ GE341.out|refine below_set ?_ GE349.out)|exact HB.out)) hb)
           clear HO345
           clear HO352
           clear HO355
           clear HO363
           clear HO366
           clear HO374
           clear HO377
           clear HO380
           clear HO385
           clear BK340
           clear BK341
           clear BK349
           clear HB
           have HO345:=n0_
           have HO352:=n1_
           have HO355:=n2_
           have HO363:=n3_
           have HO366:=n4_
           have HO374:=n5_
           have HO377:=n6_
           have HO380:=n7_
           have HO385:=n8_
           have HO388:=n9_
           have BK340:=n10_
           have BK341:=n11_
           have BK349:=n12_
           have HB:=n13_
           clear n0_ n1_ n2_ n3_ n4_ n5_ n6_ n7_ n8_ n9_ n10_ n11_ n12_ n13_
           (try clear hb)
           (try clear hb2)
           (try clear hk)
           (try clear hi)
           (try clear ho0)
           obtain ⟨Ao66,co66,eo66⟩:=Kd.N_slice HO388.out
           (first|subst eo66|(injection eo66 with f1_ f2_ f3_;have f4_:=f1_.symm;have f5_:=f3_.symm;clear f1_ f2_ f3_;subst f4_;subst f5_))
           refine hK.out _ _ ⟨(blk_cell BK349.out 0).trans rfl,(blk_cell BK349.out 1).trans rfl,(blk_cell BK349.out 2).trans rfl,(blk_cell BK349.out 3).trans rfl⟩ (fun hHeld=>?_)
           clear hK K
           refine norm_ (a':=?_) ?_ ?_
           rotate_left
           ·show Act.put _ (some 62) _=_
            simp only [Act.put,List.setIfInBounds_toArray,List.set_cons_zero,List.set_cons_succ,i64_w,i32_w]
            rfl
           refine one_ (i:=6) (N:=some 63) #[true,true,true,true,true,true,true,false] rfl rfl (one_of HT_.out (by kernel_rfl)) (by decide) (fun K hK=>?_)
           refine Kd.N_append_rows_step (Kd.slice 45 k45) (w0:=w) w.heap.size (by rfl) (.tmp 57) (.tmp 62) 25 36 (.slice none 0 0) 24 rfl Try.underlying25 info36 rfl (by decide) (by omega) v379 y378 t386 _ _ _ (fun k_=>some k_≠(.slice Ao38 t343.length co38 : Value).ownBlock∧k_≠gb340∧k_≠gb341∧k_≠gb349) (fun k_=>((fun k_=>some k_≠(.slice Ao38 t343.length co38 : Value).ownBlock∧k_≠gb340∧k_≠gb341∧k_≠gb349)) k_∧some k_≠(v379 : Value).ownBlock) rfl rfl ?aO ?aR (fun _ hk=>hk) ?aF ?aB ?aS ?aL ?_
           (case aR=>exact (by skip;exact Kd.N_F (Kd.N_mono (ok':=(fun k_=>((fun k_=>some k_≠(.slice Ao38 t343.length co38 : Value).ownBlock∧k_≠gb340∧k_≠gb341∧k_≠gb349)) k_∧some k_≠(v379 : Value).ownBlock)) (HO388.out) (fun k_ hk=>⟨⟨hk.1,⟨hk.2.2.2.2.1,⟨hk.2.2.2.2.2.1,hk.2.2.2.2.2.2⟩⟩⟩,hk.2.2.2.1⟩))))
           (case aB=>exact (by repeat (first|(with_reducible first|exact HB.out|apply below_alloc|apply pw_below_drewN|apply below_drew1|refine below_set ?_ GE340.out|refine below_set ?_ GE341.out|refine below_set ?_ GE349.out)|exact HB.out)))
           (case aF=>exact (fun k_ hk=>⟨Kd.fresh' (Kd.R_lt (by (with_reducible repeat (first|apply Kd.R_alloc|apply Kd.R_drewN|apply Kd.R_drew));exact HO345.out)) k_ hk,Kd.freshB (g:=gb340) (o:=.cells #[.int .u8 a0_0,.int .u8 a0_1,.int .u8 a0_2,.int .u8 a0_3,.int .u8 a0_4,.int .u8 a0_5,.int .u8 a0_6,.int .u8 a0_7,.int .u8 a0_8,.int .u8 a0_9,.int .u8 a0_10,.int .u8 a0_11] 24 (0,0)) (by (with_reducible repeat (first|refine blk_drewN ?_ _|refine blk_drew ?_|refine blk_alloc ?_ _));exact BK340.out) k_ hk,Kd.freshB (g:=gb341) (o:=.cells #[.int .u8 a2_0,.int .u8 a2_1] 40 (0,0)) (by (with_reducible repeat (first|refine blk_drewN ?_ _|refine blk_drew ?_|refine blk_alloc ?_ _));exact BK341.out) k_ hk,Kd.freshB (g:=gb349) (o:=.cells #[.slice Ao38 t343.length co38,.int .i64 t346,.int .i64 t347,.int .i64 t348] 29 (0,0)) (by (with_reducible repeat (first|refine blk_drewN ?_ _|refine blk_drew ?_|refine blk_alloc ?_ _));exact BK349.out) k_ hk⟩))
           (case aO=>exact (by (with_reducible repeat (first|apply Kd.N_alloc|apply Kd.N_drewN|apply Kd.N_drew));exact Kd.N_mono HO380.out (fun _ hk=>⟨hk.1.1,⟨hk.1.2.1,⟨hk.1.2.2.1,hk.1.2.2.2⟩⟩⟩)))
           (case aS=>exact (below_size (by repeat (first|(with_reducible first|exact HB.out|apply below_alloc|apply pw_below_drewN|apply below_drew1|refine below_set ?_ GE340.out|refine below_set ?_ GE341.out|refine below_set ?_ GE349.out)|exact HB.out))))
           (case aL=>have:=LMc24.out;omega)
           intro v390 w65 ho hb hg hat
           rw [← Ny389.out] at ho
           have n0_:=Aside0.mk (blk_grown (g:=gb340) (o:=.cells #[.int .u8 a0_0,.int .u8 a0_1,.int .u8 a0_2,.int .u8 a0_3,.int .u8 a0_4,.int .u8 a0_5,.int .u8 a0_6,.int .u8 a0_7,.int .u8 a0_8,.int .u8 a0_9,.int .u8 a0_10,.int .u8 a0_11] 24 (0,0)) (by (with_reducible repeat (first|refine blk_drewN ?_ _|refine blk_drew ?_|refine blk_alloc ?_ _));exact BK340.out) hg (Kd.N_ne HO380.out BK340.out (by decide)))
           have n1_:=Aside0.mk (blk_grown (g:=gb341) (o:=.cells #[.int .u8 a2_0,.int .u8 a2_1] 40 (0,0)) (by (with_reducible repeat (first|refine blk_drewN ?_ _|refine blk_drew ?_|refine blk_alloc ?_ _));exact BK341.out) hg (Kd.N_ne HO380.out BK341.out (by decide)))
           have n2_:=Aside0.mk (Kd.R_over' (by (with_reducible repeat (first|apply Kd.R_alloc|apply Kd.R_drewN|apply Kd.R_drew));exact HO345.out) (Kd.N_typed (by (with_reducible repeat (first|apply Kd.N_alloc|apply Kd.N_drewN|apply Kd.N_drew));exact HO380.out)) (by decide) hg)
           have n3_:=Aside0.mk (blk_grown (g:=gb349) (o:=.cells #[.slice Ao38 t343.length co38,.int .i64 t346,.int .i64 t347,.int .i64 t348] 29 (0,0)) (by (with_reducible repeat (first|refine blk_drewN ?_ _|refine blk_drew ?_|refine blk_alloc ?_ _));exact BK349.out) hg (Kd.N_ne HO380.out BK349.out (by decide)))
           have n4_:=Aside0.mk (Kd.N_afterv (ok:=(fun k_=>some k_≠(.slice Ao38 t343.length co38 : Value).ownBlock∧some k_≠(.slice Ao48 t353.length co48 : Value).ownBlock∧some k_≠(.slice Ao56 t364.length co56 : Value).ownBlock∧some k_≠(.slice Ao61 t375.length co61 : Value).ownBlock∧some k_≠(.slice Ao66 t386.length co66 : Value).ownBlock∧k_≠gb340∧k_≠gb341∧k_≠gb349)) (by (with_reducible repeat (first|apply Kd.N_alloc|apply Kd.N_drewN|apply Kd.N_drew));exact Kd.N_mono HO352.out (fun _ hk=>⟨⟨hk.1.1.1,⟨hk.1.1.2.1,⟨hk.1.1.2.2.1,⟨hk.1.1.2.2.2.1,⟨hk.2,⟨hk.1.1.2.2.2.2.1,⟨hk.1.1.2.2.2.2.2.1,hk.1.1.2.2.2.2.2.2⟩⟩⟩⟩⟩⟩⟩,hk.1.2⟩)) hg hat)
           have n5_:=Aside0.mk (Kd.N_afterv (ok:=(fun k_=>some k_≠(.slice Ao38 t343.length co38 : Value).ownBlock∧some k_≠(.slice Ao56 t364.length co56 : Value).ownBlock∧some k_≠(.slice Ao61 t375.length co61 : Value).ownBlock∧some k_≠(.slice Ao66 t386.length co66 : Value).ownBlock∧k_≠gb340∧k_≠gb341∧k_≠gb349)) (by (with_reducible repeat (first|apply Kd.N_alloc|apply Kd.N_drewN|apply Kd.N_drew));exact Kd.N_mono HO355.out (fun _ hk=>⟨⟨hk.1.1.1,⟨hk.1.1.2.1,⟨hk.1.1.2.2.1,⟨hk.2,⟨hk.1.1.2.2.2.1,⟨hk.1.1.2.2.2.2.1,hk.1.1.2.2.2.2.2⟩⟩⟩⟩⟩⟩,hk.1.2⟩)) hg hat)
           have n6_:=Aside0.mk (Kd.V_afterv (ok:=(fun k_=>some k_≠(.slice Ao38 t343.length co38 : Value).ownBlock∧some k_≠(.slice Ao56 t364.length co56 : Value).ownBlock∧some k_≠(.slice Ao61 t375.length co61 : Value).ownBlock∧some k_≠(.slice Ao66 t386.length co66 : Value).ownBlock∧k_≠gb340∧k_≠gb341∧k_≠gb349)) (by (with_reducible repeat (first|apply Kd.V_alloc|apply Kd.V_drewN|apply Kd.V_drew));exact Kd.V_mono HO363.out (fun _ hk=>⟨⟨hk.1.1.1,⟨hk.1.1.2.1,⟨hk.1.1.2.2.1,⟨hk.2,⟨hk.1.1.2.2.2.1,⟨hk.1.1.2.2.2.2.1,hk.1.1.2.2.2.2.2⟩⟩⟩⟩⟩⟩,hk.1.2⟩)) hg hat)
           have n7_:=Aside0.mk (Kd.N_afterv (ok:=(fun k_=>some k_≠(.slice Ao38 t343.length co38 : Value).ownBlock∧some k_≠(.slice Ao61 t375.length co61 : Value).ownBlock∧some k_≠(.slice Ao66 t386.length co66 : Value).ownBlock∧k_≠gb340∧k_≠gb341∧k_≠gb349)) (by (with_reducible repeat (first|apply Kd.N_alloc|apply Kd.N_drewN|apply Kd.N_drew));exact Kd.N_mono HO366.out (fun _ hk=>⟨⟨hk.1.1.1,⟨hk.1.1.2.1,⟨hk.2,⟨hk.1.1.2.2.1,⟨hk.1.1.2.2.2.1,hk.1.1.2.2.2.2⟩⟩⟩⟩⟩,hk.1.2⟩)) hg hat)
           have n8_:=Aside0.mk (Kd.V_afterv (ok:=(fun k_=>some k_≠(.slice Ao38 t343.length co38 : Value).ownBlock∧some k_≠(.slice Ao56 t364.length co56 : Value).ownBlock∧some k_≠(.slice Ao61 t375.length co61 : Value).ownBlock∧some k_≠(.slice Ao66 t386.length co66 : Value).ownBlock∧k_≠gb340∧k_≠gb341∧k_≠gb349)) (by (with_reducible repeat (first|apply Kd.V_alloc|apply Kd.V_drewN|apply Kd.V_drew));exact Kd.V_mono HO374.out (fun _ hk=>⟨⟨hk.1.1.1,⟨hk.1.1.2.1,⟨hk.1.1.2.2.1,⟨hk.2,⟨hk.1.1.2.2.2.1,⟨hk.1.1.2.2.2.2.1,hk.1.1.2.2.2.2.2⟩⟩⟩⟩⟩⟩,hk.1.2⟩)) hg hat)
           have n9_:=Aside0.mk (Kd.N_afterv (ok:=(fun k_=>some k_≠(.slice Ao38 t343.length co38 : Value).ownBlock∧some k_≠(.slice Ao56 t364.length co56 : Value).ownBlock∧some k_≠(.slice Ao66 t386.length co66 : Value).ownBlock∧k_≠gb340∧k_≠gb341∧k_≠gb349)) (by (with_reducible repeat (first|apply Kd.N_alloc|apply Kd.N_drewN|apply Kd.N_drew));exact Kd.N_mono HO377.out (fun _ hk=>⟨⟨hk.1.1.1,⟨hk.1.1.2.1,⟨hk.2,⟨hk.1.1.2.2.1,⟨hk.1.1.2.2.2.1,hk.1.1.2.2.2.2⟩⟩⟩⟩⟩,hk.1.2⟩)) hg hat)
           have n10_:=Aside0.mk (Kd.V_afterv (ok:=(fun k_=>some k_≠(.slice Ao38 t343.length co38 : Value).ownBlock∧some k_≠(.slice Ao56 t364.length co56 : Value).ownBlock∧some k_≠(.slice Ao61 t375.length co61 : Value).ownBlock∧some k_≠(.slice Ao66 t386.length co66 : Value).ownBlock∧k_≠gb340∧k_≠gb341∧k_≠gb349)) (by (with_reducible repeat (first|apply Kd.V_alloc|apply Kd.V_drewN|apply Kd.V_drew));exact Kd.V_mono HO385.out (fun _ hk=>⟨⟨hk.1.1.1,⟨hk.1.1.2.1,⟨hk.1.1.2.2.1,⟨hk.2,⟨hk.1.1.2.2.2.1,⟨hk.1.1.2.2.2.2.1,hk.1.1.2.2.2.2.2⟩⟩⟩⟩⟩⟩,hk.1.2⟩)) hg hat)
           have n11_:=Aside0.mk (Kd.N_afterv (ok:=(fun k_=>some k_≠(.slice Ao38 t343.length co38 : Value).ownBlock∧some k_≠(.slice Ao56 t364.length co56 : Value).ownBlock∧some k_≠(.slice Ao61 t375.length co61 : Value).ownBlock∧k_≠gb340∧k_≠gb341∧k_≠gb349)) (by (with_reducible repeat (first|apply Kd.N_alloc|apply Kd.N_drewN|apply Kd.N_drew));exact Kd.N_mono HO388.out (fun _ hk=>⟨⟨hk.1,⟨hk.2.1,⟨hk.2.2.1,⟨hk.2.2.2.2.1,⟨hk.2.2.2.2.2.1,hk.2.2.2.2.2.2⟩⟩⟩⟩⟩,hk.2.2.2.1⟩)) hg hat)
           have n12_:=Aside0.mk (hb)
           have n13_:=Aside0.mk (ho)
           clear BK340
           clear BK341
           clear HO345
           clear BK349
           clear HO352
           clear HO355
           clear HO363
           clear HO366
           clear HO374
           clear HO377
           clear HO385
           clear HO388
           clear HB
           clear HO380
           have BK340:=n0_
           have BK341:=n1_
           have HO345:=n2_
           have BK349:=n3_
           have HO352:=n4_
           have HO355:=n5_
           have HO363:=n6_
           have HO366:=n7_
           have HO374:=n8_
           have HO377:=n9_
           have HO385:=n10_
           have HO388:=n11_
           have HB:=n12_
           have HO391:=n13_
           clear n0_ n1_ n2_ n3_ n4_ n5_ n6_ n7_ n8_ n9_ n10_ n11_ n12_ n13_
           clear ho hb hg hat
           refine hK.out _ _ ⟨(blk_cell BK349.out 0).trans rfl,(blk_cell BK349.out 1).trans rfl,(blk_cell BK349.out 2).trans rfl,(blk_cell BK349.out 3).trans rfl⟩ (fun hHeld=>?_)
           clear hK K
           refine norm_ (a':=?_) ?_ ?_
           rotate_left
           ·show Act.put _ (some 63) _=_
            simp only [Act.put,List.setIfInBounds_toArray,List.set_cons_zero,List.set_cons_succ,i64_w,i32_w]
            rfl
           refine pure_ (i:=7) (N:=some 12) (v:=?_) (a':=?_) #[true,true,true,true,true,true,true,true] rfl rfl (any_of HT_.out (by kernel_rfl)) (fun _ _ _ h=>h) (Or.inl ⟨by rfl,?_⟩) ?_ ?_
           rotate_left;(intro w';go_simp;with_reducible rfl);rotate_left;(simp only [Act.put,List.setIfInBounds_toArray,List.set_cons_zero,List.set_cons_succ,i64_w,i32_w];rfl)
           refine done_ (done_of HT_.out (by kernel_rfl)) ?_
           (try clear hHeld)
           have hcz67_0 : w65.cell? ⟨gb349,0,none⟩=some (.slice Ao38 t343.length co38):=(blk_cell BK349.out 0).trans rfl
           have hcz67_1 : w65.cell? ⟨gb349,1,none⟩=some (.int .i64 t346):=(blk_cell BK349.out 1).trans rfl
           have hcz67_2 : w65.cell? ⟨gb349,2,none⟩=some (.int .i64 t347):=(blk_cell BK349.out 2).trans rfl
           have hcz67_3 : w65.cell? ⟨gb349,3,none⟩=some (.int .i64 t348):=(blk_cell BK349.out 3).trans rfl
           have hfz67_0:=blk_frozen BK349.out 0
           have hfz67_1:=blk_frozen BK349.out 1
           have hfz67_2:=blk_frozen BK349.out 2
           have hfz67_3:=blk_frozen BK349.out 3
           go_upto_region 12 with (first|((with_reducible refine gate_callee (f:=13) rfl ?_);refine goesL_ (some 66) rfl rfl Try.func13 (by kernel_rfl) rfl #[.agg #[.slice Ao38 t343.length co38,.int .i64 t346,.int .i64 t347,.int .i64 t348],.slice Ao48 t353.length co48] rfl (by (try simp only [List.map_toArray,List.map_cons,List.map_nil]);first|done|rfl|(simp only [List.length_drop,List.length_take];rfl)) ?_;(with_reducible refine (fold_Rows.calls k _ _ t343 t346 t347 t348 (fun k_=>((some k_≠(.slice Ao38 t343.length co38 : Value).ownBlock∧(some k_≠(.slice Ao56 t364.length co56 : Value).ownBlock∧(some k_≠(.slice Ao61 t375.length co61 : Value).ownBlock∧(some k_≠(.slice Ao66 t386.length co66 : Value).ownBlock∧(k_≠gb340∧(k_≠gb341∧k_≠gb349))))))∧some k_≠(v390 : Value).ownBlock)) _ _ t353 t392 _ ?side1 ?side2 ?side3 A25.out).mono ?_);(case side1=>repeat (first|exact (Kd.R_reads' HO345.out).2.2|(with_reducible refine Kd.C_alloc ?_ _)|(with_reducible refine Kd.C_drewN ?_ _)|(with_reducible refine Kd.C_drew ?_)));(case side2=>exact (Kd.R_reads' HO345.out).2.1);(case side3=>exact Kd.N_V (HO355.out));rintro e w68 ⟨v393,rfl,ho0,hb⟩;refine ⟨_,rfl,?_⟩;have n0_:=Aside0.mk (Kd.R_below (by (with_reducible repeat (first|apply Kd.R_alloc|apply Kd.R_drewN|apply Kd.R_drew));exact HO345.out) hb);have n1_:=Aside0.mk (Kd.N_elder' (by (with_reducible repeat (first|apply Kd.N_alloc|apply Kd.N_drewN|apply Kd.N_drew));exact HO352.out) (by first|exact Kd.N_base ho0|exact Kd.S_base ho0) hb);have n2_:=Aside0.mk (Kd.N_elder' (by (with_reducible repeat (first|apply Kd.N_alloc|apply Kd.N_drewN|apply Kd.N_drew));exact HO355.out) (by first|exact Kd.N_base ho0|exact Kd.S_base ho0) hb);have n3_:=Aside0.mk (Kd.V_elder' (by (with_reducible repeat (first|apply Kd.V_alloc|apply Kd.V_drewN|apply Kd.V_drew));exact HO363.out) (by first|exact Kd.N_base ho0|exact Kd.S_base ho0) hb);have n4_:=Aside0.mk (Kd.N_elder' (by (with_reducible repeat (first|apply Kd.N_alloc|apply Kd.N_drewN|apply Kd.N_drew));exact HO366.out) (by first|exact Kd.N_base ho0|exact Kd.S_base ho0) hb);have n5_:=Aside0.mk (Kd.V_elder' (by (with_reducible repeat (first|apply Kd.V_alloc|apply Kd.V_drewN|apply Kd.V_drew));exact HO374.out) (by first|exact Kd.N_base ho0|exact Kd.S_base ho0) hb);have n6_:=Aside0.mk (Kd.N_elder' (by (with_reducible repeat (first|apply Kd.N_alloc|apply Kd.N_drewN|apply Kd.N_drew));exact HO377.out) (by first|exact Kd.N_base ho0|exact Kd.S_base ho0) hb);have n7_:=Aside0.mk (Kd.V_elder' (by (with_reducible repeat (first|apply Kd.V_alloc|apply Kd.V_drewN|apply Kd.V_drew));exact HO385.out) (by first|exact Kd.N_base ho0|exact Kd.S_base ho0) hb);have n8_:=Aside0.mk (Kd.N_elder' (by (with_reducible repeat (first|apply Kd.N_alloc|apply Kd.N_drewN|apply Kd.N_drew));exact HO388.out) (by first|exact Kd.N_base ho0|exact Kd.S_base ho0) hb);have n9_:=Aside0.mk (Kd.N_elder' (by (with_reducible repeat (first|apply Kd.N_alloc|apply Kd.N_drewN|apply Kd.N_drew));exact HO391.out) (by first|exact Kd.N_base ho0|exact Kd.S_base ho0) hb);have n10_:=Aside0.mk (Kd.N_lower (Kd.N_mono (ok':=fun k_=>some k_≠(.slice Ao38 t343.length co38 : Value).ownBlock∧some k_≠(.slice Ao56 t364.length co56 : Value).ownBlock∧some k_≠(.slice Ao61 t375.length co61 : Value).ownBlock∧some k_≠(.slice Ao66 t386.length co66 : Value).ownBlock∧some k_≠(v390 : Value).ownBlock∧k_≠gb340∧k_≠gb341∧k_≠gb349) ho0 (fun k_ hk_=>⟨Or.elim hk_ (fun hs_=>hs_.1.1) (fun hn_=>(Kd.fresh' (Kd.R_lt (by (with_reducible repeat (first|apply Kd.R_alloc|apply Kd.R_drewN|apply Kd.R_drew));exact HO345.out)) k_ hn_)),Or.elim hk_ (fun hs_=>hs_.1.2.1) (fun hn_=>(Kd.fresh' (Kd.N_lt (by (with_reducible repeat (first|apply Kd.N_alloc|apply Kd.N_drewN|apply Kd.N_drew));exact HO366.out)) k_ hn_)),Or.elim hk_ (fun hs_=>hs_.1.2.2.1) (fun hn_=>(Kd.fresh' (Kd.N_lt (by (with_reducible repeat (first|apply Kd.N_alloc|apply Kd.N_drewN|apply Kd.N_drew));exact HO377.out)) k_ hn_)),Or.elim hk_ (fun hs_=>hs_.1.2.2.2.1) (fun hn_=>(Kd.fresh' (Kd.N_lt (by (with_reducible repeat (first|apply Kd.N_alloc|apply Kd.N_drewN|apply Kd.N_drew));exact HO388.out)) k_ hn_)),Or.elim hk_ (fun hs_=>hs_.2) (fun hn_=>(Kd.fresh' (Kd.N_lt (by (with_reducible repeat (first|apply Kd.N_alloc|apply Kd.N_drewN|apply Kd.N_drew));exact HO391.out)) k_ hn_)),Or.elim hk_ (fun hs_=>hs_.1.2.2.2.2.1) (fun hn_=>(Kd.freshB (g:=gb340) (o:=.cells #[.int .u8 a0_0,.int .u8 a0_1,.int .u8 a0_2,.int .u8 a0_3,.int .u8 a0_4,.int .u8 a0_5,.int .u8 a0_6,.int .u8 a0_7,.int .u8 a0_8,.int .u8 a0_9,.int .u8 a0_10,.int .u8 a0_11] 24 (0,0)) (by (with_reducible repeat (first|refine blk_drewN ?_ _|refine blk_drew ?_|refine blk_alloc ?_ _));exact BK340.out) k_ hn_)),Or.elim hk_ (fun hs_=>hs_.1.2.2.2.2.2.1) (fun hn_=>(Kd.freshB (g:=gb341) (o:=.cells #[.int .u8 a2_0,.int .u8 a2_1] 40 (0,0)) (by (with_reducible repeat (first|refine blk_drewN ?_ _|refine blk_drew ?_|refine blk_alloc ?_ _));exact BK341.out) k_ hn_)),Or.elim hk_ (fun hs_=>hs_.1.2.2.2.2.2.2) (fun hn_=>(Kd.freshB (g:=gb349) (o:=.cells #[.slice Ao38 t343.length co38,.int .i64 t346,.int .i64 t347,.int .i64 t348] 29 (0,0)) (by (with_reducible repeat (first|refine blk_drewN ?_ _|refine blk_drew ?_|refine blk_alloc ?_ _));exact BK349.out) k_ hn_))⟩)) (below_size (by repeat (first|(with_reducible first|exact HB.out|apply below_alloc|apply pw_below_drewN|apply below_drew1|refine below_set ?_ GE340.out|refine below_set ?_ GE341.out|refine below_set ?_ GE349.out)|exact HB.out))));have n11_:=Aside0.mk (blk_below (g:=gb340) (o:=.cells #[.int .u8 a0_0,.int .u8 a0_1,.int .u8 a0_2,.int .u8 a0_3,.int .u8 a0_4,.int .u8 a0_5,.int .u8 a0_6,.int .u8 a0_7,.int .u8 a0_8,.int .u8 a0_9,.int .u8 a0_10,.int .u8 a0_11] 24 (0,0)) (by (with_reducible repeat (first|refine blk_drewN ?_ _|refine blk_drew ?_|refine blk_alloc ?_ _));exact BK340.out) hb);have n12_:=Aside0.mk (blk_below (g:=gb341) (o:=.cells #[.int .u8 a2_0,.int .u8 a2_1] 40 (0,0)) (by (with_reducible repeat (first|refine blk_drewN ?_ _|refine blk_drew ?_|refine blk_alloc ?_ _));exact BK341.out) hb);have n13_:=Aside0.mk (blk_below (g:=gb349) (o:=.cells #[.slice Ao38 t343.length co38,.int .i64 t346,.int .i64 t347,.int .i64 t348] 29 (0,0)) (by (with_reducible repeat (first|refine blk_drewN ?_ _|refine blk_drew ?_|refine blk_alloc ?_ _));exact BK349.out) hb);have n14_:=Aside0.mk (below_step (by repeat (first|(with_reducible first|exact HB.out|apply below_alloc|apply pw_below_drewN|apply below_drew1|refine below_set ?_ GE340.out|refine below_set ?_ GE341.out|refine below_set ?_ GE349.out)|exact HB.out)) hb);clear HO345;clear HO352;clear HO355;clear HO363;clear HO366;clear HO374;clear HO377;clear HO385;clear HO388;clear HO391;clear BK340;clear BK341;clear BK349;clear HB;have HO345:=n0_;have HO352:=n1_;have HO355:=n2_;have HO363:=n3_;have HO366:=n4_;have HO374:=n5_;have HO377:=n6_;have HO385:=n7_;have HO388:=n8_;have HO391:=n9_;have HO394:=n10_;have BK340:=n11_;have BK341:=n12_;have BK349:=n13_;have HB:=n14_;clear n0_ n1_ n2_ n3_ n4_ n5_ n6_ n7_ n8_ n9_ n10_ n11_ n12_ n13_ n14_;(try clear hb);(try clear hb2);(try clear hk);(try clear hi);(try clear ho0);have hcz69_0 : w68.cell? ⟨gb349,0,none⟩=some (.slice Ao38 t343.length co38):=(blk_cell BK349.out 0).trans rfl;have hcz69_1 : w68.cell? ⟨gb349,1,none⟩=some (.int .i64 t346):=(blk_cell BK349.out 1).trans rfl;have hcz69_2 : w68.cell? ⟨gb349,2,none⟩=some (.int .i64 t347):=(blk_cell BK349.out 2).trans rfl;have hcz69_3 : w68.cell? ⟨gb349,3,none⟩=some (.int .i64 t348):=(blk_cell BK349.out 3).trans rfl;have hfz69_0:=blk_frozen BK349.out 0;have hfz69_1:=blk_frozen BK349.out 1;have hfz69_2:=blk_frozen BK349.out 2;have hfz69_3:=blk_frozen BK349.out 3;obtain ⟨Ao70,co70,eo70⟩:=Kd.N_slice HO391.out;subst eo70)|((with_reducible refine gate_callee (f:=13) rfl ?_);refine goesL_ (some 69) rfl rfl Try.func13 (by kernel_rfl) rfl #[.agg #[.slice Ao38 t343.length co38,.int .i64 t346,.int .i64 t347,.int .i64 t348],.slice Ao70 y389.length co70] rfl (by (try simp only [List.map_toArray,List.map_cons,List.map_nil]);first|done|rfl|(simp only [List.length_drop,List.length_take];rfl)) ?_;(with_reducible refine (fold_Rows.calls k _ _ t343 t346 t347 t348 (fun k_=>((some k_≠(.slice Ao38 t343.length co38 : Value).ownBlock∧(k_≠gb340∧(k_≠gb341∧k_≠gb349)))∧some k_≠(v393 : Value).ownBlock)) _ _ y389 t395 _ ?side1 ?side2 ?side3 A26.out).mono ?_);(case side1=>repeat (first|exact (Kd.R_reads' HO345.out).2.2|(with_reducible refine Kd.C_alloc ?_ _)|(with_reducible refine Kd.C_drewN ?_ _)|(with_reducible refine Kd.C_drew ?_)));(case side2=>exact (Kd.R_reads' HO345.out).2.1);(case side3=>exact Kd.N_V (HO391.out));rintro e w71 ⟨v396,rfl,ho0,hb⟩;refine ⟨_,rfl,?_⟩;have n0_:=Aside0.mk (Kd.R_below (by (with_reducible repeat (first|apply Kd.R_alloc|apply Kd.R_drewN|apply Kd.R_drew));exact HO345.out) hb);have n1_:=Aside0.mk (Kd.N_elder' (by (with_reducible repeat (first|apply Kd.N_alloc|apply Kd.N_drewN|apply Kd.N_drew));exact HO352.out) (by first|exact Kd.N_base ho0|exact Kd.S_base ho0) hb);have n2_:=Aside0.mk (Kd.N_elder' (by (with_reducible repeat (first|apply Kd.N_alloc|apply Kd.N_drewN|apply Kd.N_drew));exact HO355.out) (by first|exact Kd.N_base ho0|exact Kd.S_base ho0) hb);have n3_:=Aside0.mk (Kd.V_elder' (by (with_reducible repeat (first|apply Kd.V_alloc|apply Kd.V_drewN|apply Kd.V_drew));exact HO363.out) (by first|exact Kd.N_base ho0|exact Kd.S_base ho0) hb);have n4_:=Aside0.mk (Kd.N_elder' (by (with_reducible repeat (first|apply Kd.N_alloc|apply Kd.N_drewN|apply Kd.N_drew));exact HO366.out) (by first|exact Kd.N_base ho0|exact Kd.S_base ho0) hb);have n5_:=Aside0.mk (Kd.V_elder' (by (with_reducible repeat (first|apply Kd.V_alloc|apply Kd.V_drewN|apply Kd.V_drew));exact HO374.out) (by first|exact Kd.N_base ho0|exact Kd.S_base ho0) hb);have n6_:=Aside0.mk (Kd.N_elder' (by (with_reducible repeat (first|apply Kd.N_alloc|apply Kd.N_drewN|apply Kd.N_drew));exact HO377.out) (by first|exact Kd.N_base ho0|exact Kd.S_base ho0) hb);have n7_:=Aside0.mk (Kd.V_elder' (by (with_reducible repeat (first|apply Kd.V_alloc|apply Kd.V_drewN|apply Kd.V_drew));exact HO385.out) (by first|exact Kd.N_base ho0|exact Kd.S_base ho0) hb);have n8_:=Aside0.mk (Kd.N_elder' (by (with_reducible repeat (first|apply Kd.N_alloc|apply Kd.N_drewN|apply Kd.N_drew));exact HO388.out) (by first|exact Kd.N_base ho0|exact Kd.S_base ho0) hb);have n9_:=Aside0.mk (Kd.N_elder' (by (with_reducible repeat (first|apply Kd.N_alloc|apply Kd.N_drewN|apply Kd.N_drew));exact HO391.out) (by first|exact Kd.N_base ho0|exact Kd.S_base ho0) hb);have n10_:=Aside0.mk (Kd.N_elder' (by (with_reducible repeat (first|apply Kd.N_alloc|apply Kd.N_drewN|apply Kd.N_drew));exact HO394.out) (by first|exact Kd.N_base ho0|exact Kd.S_base ho0) hb);have n11_:=Aside0.mk (Kd.N_lower (Kd.N_mono (ok':=fun k_=>some k_≠(.slice Ao38 t343.length co38 : Value).ownBlock∧some k_≠(v393 : Value).ownBlock∧k_≠gb340∧k_≠gb341∧k_≠gb349) ho0 (fun k_ hk_=>⟨Or.elim hk_ (fun hs_=>hs_.1.1) (fun hn_=>(Kd.fresh' (Kd.R_lt (by (with_reducible repeat (first|apply Kd.R_alloc|apply Kd.R_drewN|apply Kd.R_drew));exact HO345.out)) k_ hn_)),Or.elim hk_ (fun hs_=>hs_.2) (fun hn_=>(Kd.fresh' (Kd.N_lt (by (with_reducible repeat (first|apply Kd.N_alloc|apply Kd.N_drewN|apply Kd.N_drew));exact HO394.out)) k_ hn_)),Or.elim hk_ (fun hs_=>hs_.1.2.1) (fun hn_=>(Kd.freshB (g:=gb340) (o:=.cells #[.int .u8 a0_0,.int .u8 a0_1,.int .u8 a0_2,.int .u8 a0_3,.int .u8 a0_4,.int .u8 a0_5,.int .u8 a0_6,.int .u8 a0_7,.int .u8 a0_8,.int .u8 a0_9,.int .u8 a0_10,.int .u8 a0_11] 24 (0,0)) (by (with_reducible repeat (first|refine blk_drewN ?_ _|refine blk_drew ?_|refine blk_alloc ?_ _));exact BK340.out) k_ hn_)),Or.elim hk_ (fun hs_=>hs_.1.2.2.1) (fun hn_=>(Kd.freshB (g:=gb341) (o:=.cells #[.int .u8 a2_0,.int .u8 a2_1] 40 (0,0)) (by (with_reducible repeat (first|refine blk_drewN ?_ _|refine blk_drew ?_|refine blk_alloc ?_ _));exact BK341.out) k_ hn_)),Or.elim hk_ (fun hs_=>hs_.1.2.2.2) (fun hn_=>(Kd.freshB (g:=gb349) (o:=.cells #[.slice Ao38 t343.length co38,.int .i64 t346,.int .i64 t347,.int .i64 t348] 29 (0,0)) (by (with_reducible repeat (first|refine blk_drewN ?_ _|refine blk_drew ?_|refine blk_alloc ?_ _));exact BK349.out) k_ hn_))⟩)) (below_size (by repeat (first|(with_reducible first|exact HB.out|apply below_alloc|apply pw_below_drewN|apply below_drew1|refine below_set ?_ GE340.out|refine below_set ?_ GE341.out|refine below_set ?_ GE349.out)|exact HB.out))));have n12_:=Aside0.mk (blk_below (g:=gb340) (o:=.cells #[.int .u8 a0_0,.int .u8 a0_1,.int .u8 a0_2,.int .u8 a0_3,.int .u8 a0_4,.int .u8 a0_5,.int .u8 a0_6,.int .u8 a0_7,.int .u8 a0_8,.int .u8 a0_9,.int .u8 a0_10,.int .u8 a0_11] 24 (0,0)) (by (with_reducible repeat (first|refine blk_drewN ?_ _|refine blk_drew ?_|refine blk_alloc ?_ _));exact BK340.out) hb);have n13_:=Aside0.mk (blk_below (g:=gb341) (o:=.cells #[.int .u8 a2_0,.int .u8 a2_1] 40 (0,0)) (by (with_reducible repeat (first|refine blk_drewN ?_ _|refine blk_drew ?_|refine blk_alloc ?_ _));exact BK341.out) hb);have n14_:=Aside0.mk (blk_below (g:=gb349) (o:=.cells #[.slice Ao38 t343.length co38,.int .i64 t346,.int .i64 t347,.int .i64 t348] 29 (0,0)) (by (with_reducible repeat (first|refine blk_drewN ?_ _|refine blk_drew ?_|refine blk_alloc ?_ _));exact BK349.out) hb);have n15_:=Aside0.mk (below_step (by repeat (first|(with_reducible first|exact HB.out|apply below_alloc|apply pw_below_drewN|apply below_drew1|refine below_set ?_ GE340.out|refine below_set ?_ GE341.out|refine below_set ?_ GE349.out)|exact HB.out)) hb);clear HO345;clear HO352;clear HO355;clear HO363;clear HO366;clear HO374;clear HO377;clear HO385;clear HO388;clear HO391;clear HO394;clear BK340;clear BK341;clear BK349;clear HB;have HO345:=n0_;have HO352:=n1_;have HO355:=n2_;have HO363:=n3_;have HO366:=n4_;have HO374:=n5_;have HO377:=n6_;have HO385:=n7_;have HO388:=n8_;have HO391:=n9_;have HO394:=n10_;have HO397:=n11_;have BK340:=n12_;have BK341:=n13_;have BK349:=n14_;have HB:=n15_;clear n0_ n1_ n2_ n3_ n4_ n5_ n6_ n7_ n8_ n9_ n10_ n11_ n12_ n13_ n14_ n15_;(try clear hb);(try clear hb2);(try clear hk);(try clear hi);(try clear ho0);obtain ⟨Ao72,co72,eo72⟩:=Kd.N_slice HO397.out;subst eo72;obtain ⟨Ao73,co73,eo73⟩:=Kd.N_slice HO394.out;subst eo73)|((with_reducible refine gate_callee (f:=12) rfl ?_);refine goesL_ (some 71) rfl rfl Try.func12 (by kernel_rfl) rfl #[.slice Ao72 t395.length co72,.slice Ao73 t392.length co73] rfl (by (try simp only [List.map_toArray,List.map_cons,List.map_nil]);first|done|rfl|(simp only [List.length_drop,List.length_take];rfl)) ?_;(with_reducible refine (thresherref04_Rows.calls k _ _ t395 _ _ t392 t398 _ ?side1 ?side2 ?side3 ?side4 A27.out).mono ?_);(case side1=>repeat (first|exact (Kd.N_reads' HO397.out).2.2|(with_reducible refine Kd.C_alloc ?_ _)|(with_reducible refine Kd.C_drewN ?_ _)|(with_reducible refine Kd.C_drew ?_)));(case side2=>exact (Kd.N_reads' HO397.out).2.1);(case side3=>repeat (first|exact (Kd.N_reads' HO394.out).2.2|(with_reducible refine Kd.C_alloc ?_ _)|(with_reducible refine Kd.C_drewN ?_ _)|(with_reducible refine Kd.C_drew ?_)));(case side4=>exact (Kd.N_reads' HO394.out).2.1);rintro e w' ⟨rfl,⟨nd,rfl⟩⟩;refine ⟨_,rfl,?_⟩;have hcz74_0 : w71.cell? ⟨gb349,0,none⟩=some (.slice Ao38 t343.length co38):=(blk_cell BK349.out 0).trans rfl;have hcz74_1 : w71.cell? ⟨gb349,1,none⟩=some (.int .i64 t346):=(blk_cell BK349.out 1).trans rfl;have hcz74_2 : w71.cell? ⟨gb349,2,none⟩=some (.int .i64 t347):=(blk_cell BK349.out 2).trans rfl;have hcz74_3 : w71.cell? ⟨gb349,3,none⟩=some (.int .i64 t348):=(blk_cell BK349.out 3).trans rfl;have hfz74_0:=blk_frozen BK349.out 0;have hfz74_1:=blk_frozen BK349.out 1;have hfz74_2:=blk_frozen BK349.out 2;have hfz74_3:=blk_frozen BK349.out 3)|((with_reducible refine gate_callee (f:=13) rfl ?_);refine goesL_ (some 74) rfl rfl Try.func13 (by kernel_rfl) rfl #[.agg #[.slice Ao38 t343.length co38,.int .i64 t346,.int .i64 t347,.int .i64 t348],.slice Ao73 t392.length co73] rfl (by (try simp only [List.map_toArray,List.map_cons,List.map_nil]);first|done|rfl|(simp only [List.length_drop,List.length_take];rfl)) ?_;(with_reducible refine (fold_Rows.calls k _ _ t343 t346 t347 t348 (fun k_=>((some k_≠(.slice Ao38 t343.length co38 : Value).ownBlock∧(some k_≠(.slice Ao56 t364.length co56 : Value).ownBlock∧(some k_≠(.slice Ao61 t375.length co61 : Value).ownBlock∧(some k_≠(.slice Ao66 t386.length co66 : Value).ownBlock∧(some k_≠(.slice Ao70 y389.length co70 : Value).ownBlock∧(k_≠gb340∧(k_≠gb341∧k_≠gb349)))))))∧some k_≠(.slice Ao72 t395.length co72 : Value).ownBlock)) _ _ t392 t399 _ ?side1 ?side2 ?side3 A28.out).mono ?_);(case side1=>repeat (first|exact (Kd.R_reads' HO345.out).2.2|(with_reducible refine Kd.C_alloc ?_ _)|(with_reducible refine Kd.C_drewN ?_ _)|(with_reducible refine Kd.C_drew ?_)));(case side2=>exact (Kd.R_reads' HO345.out).2.1);(case side3=>exact Kd.N_V (HO394.out));rintro e w75 ⟨v400,rfl,ho0,hb⟩;refine ⟨_,rfl,?_⟩;have n0_:=Aside0.mk (Kd.R_below (by (with_reducible repeat (first|apply Kd.R_alloc|apply Kd.R_drewN|apply Kd.R_drew));exact HO345.out) hb);have n1_:=Aside0.mk (Kd.N_elder' (by (with_reducible repeat (first|apply Kd.N_alloc|apply Kd.N_drewN|apply Kd.N_drew));exact HO352.out) (by first|exact Kd.N_base ho0|exact Kd.S_base ho0) hb);have n2_:=Aside0.mk (Kd.N_elder' (by (with_reducible repeat (first|apply Kd.N_alloc|apply Kd.N_drewN|apply Kd.N_drew));exact HO355.out) (by first|exact Kd.N_base ho0|exact Kd.S_base ho0) hb);have n3_:=Aside0.mk (Kd.V_elder' (by (with_reducible repeat (first|apply Kd.V_alloc|apply Kd.V_drewN|apply Kd.V_drew));exact HO363.out) (by first|exact Kd.N_base ho0|exact Kd.S_base ho0) hb);have n4_:=Aside0.mk (Kd.N_elder' (by (with_reducible repeat (first|apply Kd.N_alloc|apply Kd.N_drewN|apply Kd.N_drew));exact HO366.out) (by first|exact Kd.N_base ho0|exact Kd.S_base ho0) hb);have n5_:=Aside0.mk (Kd.V_elder' (by (with_reducible repeat (first|apply Kd.V_alloc|apply Kd.V_drewN|apply Kd.V_drew));exact HO374.out) (by first|exact Kd.N_base ho0|exact Kd.S_base ho0) hb);have n6_:=Aside0.mk (Kd.N_elder' (by (with_reducible repeat (first|apply Kd.N_alloc|apply Kd.N_drewN|apply Kd.N_drew));exact HO377.out) (by first|exact Kd.N_base ho0|exact Kd.S_base ho0) hb);have n7_:=Aside0.mk (Kd.V_elder' (by (with_reducible repeat (first|apply Kd.V_alloc|apply Kd.V_drewN|apply Kd.V_drew));exact HO385.out) (by first|exact Kd.N_base ho0|exact Kd.S_base ho0) hb);have n8_:=Aside0.mk (Kd.N_elder' (by (with_reducible repeat (first|apply Kd.N_alloc|apply Kd.N_drewN|apply Kd.N_drew));exact HO388.out) (by first|exact Kd.N_base ho0|exact Kd.S_base ho0) hb);have n9_:=Aside0.mk (Kd.N_elder' (by (with_reducible repeat (first|apply Kd.N_alloc|apply Kd.N_drewN|apply Kd.N_drew));exact HO391.out) (by first|exact Kd.N_base ho0|exact Kd.S_base ho0) hb);have n10_:=Aside0.mk (Kd.N_elder' (by (with_reducible repeat (first|apply Kd.N_alloc|apply Kd.N_drewN|apply Kd.N_drew));exact HO394.out) (by first|exact Kd.N_base ho0|exact Kd.S_base ho0) hb);have n11_:=Aside0.mk (Kd.N_elder' (by (with_reducible repeat (first|apply Kd.N_alloc|apply Kd.N_drewN|apply Kd.N_drew));exact HO397.out) (by first|exact Kd.N_base ho0|exact Kd.S_base ho0) hb);have n12_:=Aside0.mk (Kd.N_lower (Kd.N_mono (ok':=fun k_=>some k_≠(.slice Ao38 t343.length co38 : Value).ownBlock∧some k_≠(.slice Ao56 t364.length co56 : Value).ownBlock∧some k_≠(.slice Ao61 t375.length co61 : Value).ownBlock∧some k_≠(.slice Ao66 t386.length co66 : Value).ownBlock∧some k_≠(.slice Ao70 y389.length co70 : Value).ownBlock∧some k_≠(.slice Ao72 t395.length co72 : Value).ownBlock∧k_≠gb340∧k_≠gb341∧k_≠gb349) ho0 (fun k_ hk_=>⟨Or.elim hk_ (fun hs_=>hs_.1.1) (fun hn_=>(Kd.fresh' (Kd.R_lt (by (with_reducible repeat (first|apply Kd.R_alloc|apply Kd.R_drewN|apply Kd.R_drew));exact HO345.out)) k_ hn_)),Or.elim hk_ (fun hs_=>hs_.1.2.1) (fun hn_=>(Kd.fresh' (Kd.N_lt (by (with_reducible repeat (first|apply Kd.N_alloc|apply Kd.N_drewN|apply Kd.N_drew));exact HO366.out)) k_ hn_)),Or.elim hk_ (fun hs_=>hs_.1.2.2.1) (fun hn_=>(Kd.fresh' (Kd.N_lt (by (with_reducible repeat (first|apply Kd.N_alloc|apply Kd.N_drewN|apply Kd.N_drew));exact HO377.out)) k_ hn_)),Or.elim hk_ (fun hs_=>hs_.1.2.2.2.1) (fun hn_=>(Kd.fresh' (Kd.N_lt (by (with_reducible repeat (first|apply Kd.N_alloc|apply Kd.N_drewN|apply Kd.N_drew));exact HO388.out)) k_ hn_)),Or.elim hk_ (fun hs_=>hs_.1.2.2.2.2.1) (fun hn_=>(Kd.fresh' (Kd.N_lt (by (with_reducible repeat (first|apply Kd.N_alloc|apply Kd.N_drewN|apply Kd.N_drew));exact HO391.out)) k_ hn_)),Or.elim hk_ (fun hs_=>hs_.2) (fun hn_=>(Kd.fresh' (Kd.N_lt (by (with_reducible repeat (first|apply Kd.N_alloc|apply Kd.N_drewN|apply Kd.N_drew));exact HO397.out)) k_ hn_)),Or.elim hk_ (fun hs_=>hs_.1.2.2.2.2.2.1) (fun hn_=>(Kd.freshB (g:=gb340) (o:=.cells #[.int .u8 a0_0,.int .u8 a0_1,.int .u8 a0_2,.int .u8 a0_3,.int .u8 a0_4,.int .u8 a0_5,.int .u8 a0_6,.int .u8 a0_7,.int .u8 a0_8,.int .u8 a0_9,.int .u8 a0_10,.int .u8 a0_11] 24 (0,0)) (by (with_reducible repeat (first|refine blk_drewN ?_ _|refine blk_drew ?_|refine blk_alloc ?_ _));exact BK340.out) k_ hn_)),Or.elim hk_ (fun hs_=>hs_.1.2.2.2.2.2.2.1) (fun hn_=>(Kd.freshB (g:=gb341) (o:=.cells #[.int .u8 a2_0,.int .u8 a2_1] 40 (0,0)) (by (with_reducible repeat (first|refine blk_drewN ?_ _|refine blk_drew ?_|refine blk_alloc ?_ _));exact BK341.out) k_ hn_)),Or.elim hk_ (fun hs_=>hs_.1.2.2.2.2.2.2.2) (fun hn_=>(Kd.freshB (g:=gb349) (o:=.cells #[.slice Ao38 t343.length co38,.int .i64 t346,.int .i64 t347,.int .i64 t348] 29 (0,0)) (by (with_reducible repeat (first|refine blk_drewN ?_ _|refine blk_drew ?_|refine blk_alloc ?_ _));exact BK349.out) k_ hn_))⟩)) (below_size (by repeat (first|(with_reducible first|exact HB.out|apply below_alloc|apply pw_below_drewN|apply below_drew1|refine below_set ?_ GE340.out|refine below_set ?_ GE341.out|refine below_set ?_ GE349.out)|exact HB.out))));have n13_:=Aside0.mk (blk_below (g:=gb340) (o:=.cells #[.int .u8 a0_0,.int .u8 a0_1,.int .u8 a0_2,.int .u8 a0_3,.int .u8 a0_4,.int .u8 a0_5,.int .u8 a0_6,.int .u8 a0_7,.int .u8 a0_8,.int .u8 a0_9,.int .u8 a0_10,.int .u8 a0_11] 24 (0,0)) (by (with_reducible repeat (first|refine blk_drewN ?_ _|refine blk_drew ?_|refine blk_alloc ?_ _));exact BK340.out) hb);have n14_:=Aside0.mk (blk_below (g:=gb341) (o:=.cells #[.int .u8 a2_0,.int .u8 a2_1] 40 (0,0)) (by (with_reducible repeat (first|refine blk_drewN ?_ _|refine blk_drew ?_|refine blk_alloc ?_ _));exact BK341.out) hb);have n15_:=Aside0.mk (blk_below (g:=gb349) (o:=.cells #[.slice Ao38 t343.length co38,.int .i64 t346,.int .i64 t347,.int .i64 t348] 29 (0,0)) (by (with_reducible repeat (first|refine blk_drewN ?_ _|refine blk_drew ?_|refine blk_alloc ?_ _));exact BK349.out) hb);have n16_:=Aside0.mk (below_step (by repeat (first|(with_reducible first|exact HB.out|apply below_alloc|apply pw_below_drewN|apply below_drew1|refine below_set ?_ GE340.out|refine below_set ?_ GE341.out|refine below_set ?_ GE349.out)|exact HB.out)) hb);clear HO345;clear HO352;clear HO355;clear HO363;clear HO366;clear HO374;clear HO377;clear HO385;clear HO388;clear HO391;clear HO394;clear HO397;clear BK340;clear BK341;clear BK349;clear HB;have HO345:=n0_;have HO352:=n1_;have HO355:=n2_;have HO363:=n3_;have HO366:=n4_;have HO374:=n5_;have HO377:=n6_;have HO385:=n7_;have HO388:=n8_;have HO391:=n9_;have HO394:=n10_;have HO397:=n11_;have HO401:=n12_;have BK340:=n13_;have BK341:=n14_;have BK349:=n15_;have HB:=n16_;clear n0_ n1_ n2_ n3_ n4_ n5_ n6_ n7_ n8_ n9_ n10_ n11_ n12_ n13_ n14_ n15_ n16_;(try clear hb);(try clear hb2);(try clear hk);(try clear hi);(try clear ho0);obtain ⟨Ao76,co76,eo76⟩:=Kd.N_slice HO401.out;subst eo76)|((with_reducible refine gate_callee (f:=12) rfl ?_);refine goesL_ (some 76) rfl rfl Try.func12 (by kernel_rfl) rfl #[.slice Ao76 t399.length co76,.slice Ao73 t392.length co73] rfl (by (try simp only [List.map_toArray,List.map_cons,List.map_nil]);first|done|rfl|(simp only [List.length_drop,List.length_take];rfl)) ?_;(with_reducible refine (thresherref04_Rows.calls k _ _ t399 _ _ t392 t402 _ ?side1 ?side2 ?side3 ?side4 A29.out).mono ?_);(case side1=>repeat (first|exact (Kd.N_reads' HO401.out).2.2|(with_reducible refine Kd.C_alloc ?_ _)|(with_reducible refine Kd.C_drewN ?_ _)|(with_reducible refine Kd.C_drew ?_)));(case side2=>exact (Kd.N_reads' HO401.out).2.1);(case side3=>repeat (first|exact (Kd.N_reads' HO394.out).2.2|(with_reducible refine Kd.C_alloc ?_ _)|(with_reducible refine Kd.C_drewN ?_ _)|(with_reducible refine Kd.C_drew ?_)));(case side4=>exact (Kd.N_reads' HO394.out).2.1);rintro e w' ⟨rfl,⟨nd,rfl⟩⟩;refine ⟨_,rfl,?_⟩))
           (try simp only [Act.put,List.setIfInBounds_toArray,List.set_cons_zero,List.set_cons_succ])
           go_cut [6] (fun v6 wc=>∃ (kq : Nat) (x6_29 : Bool),v6=.bool x6_29∧Aside0 (thresherlaw13_FoldParts.j0 kq x6_29=some r)∧Aside0 (kq≤k)∧Aside0 (Kd.R (Kd.int .i64) 3 wc w.heap.size (fun _=>True) (.slice Ao38 t343.length co38) t343)∧Aside0 (wc.heap[gb340]?=some (.cells #[.int .u8 a0_0,.int .u8 a0_1,.int .u8 a0_2,.int .u8 a0_3,.int .u8 a0_4,.int .u8 a0_5,.int .u8 a0_6,.int .u8 a0_7,.int .u8 a0_8,.int .u8 a0_9,.int .u8 a0_10,.int .u8 a0_11] 24 (0,0)))∧Aside0 (wc.heap[gb341]?=some (.cells #[.int .u8 a2_0,.int .u8 a2_1] 40 (0,0)))∧Aside0 (wc.heap[gb349]?=some (.cells #[(.slice Ao38 t343.length co38),.int .i64 t346,.int .i64 t347,.int .i64 t348] 29 (0,0)))∧Aside0 (Below w.heap.size w wc))
           case first =>
            have H:=HC30.out
            clear HC30
            by_cases c77 : t342=true
            ·subst c77
             have H1 : (if t398=true then (thresherlaw13_FoldParts.j0 k t402) else (thresherlaw13_FoldParts.j0 k false))=some r:=by rw [if_pos rfl] at H;exact H
             clear H
             have H:=H1
             clear H1
             by_cases c78 : t398=true
             ·subst c78
              have H1 : (thresherlaw13_FoldParts.j0 k t402)=some r:=by rw [if_pos rfl] at H;exact H
              clear H
              have H:=H1
              clear H1
              have H':=Aside0.mk H
              clear H
              go_wp2
              go_meet
              case rel=>exact ⟨_,(t402),(by first|rfl|(simp;done)|(simp [*];done)),(by first|exact H'|(subst_vars;exact H')),⟨by first|omega|exact Nat.le_refl _⟩,⟨by (with_reducible repeat (first|apply Kd.R_alloc|apply Kd.R_drewN|apply Kd.R_drew));exact HO345.out⟩,⟨by (with_reducible repeat (first|refine blk_drewN ?_ _|refine blk_drew ?_|refine blk_alloc ?_ _));exact BK340.out⟩,⟨by (with_reducible repeat (first|refine blk_drewN ?_ _|refine blk_drew ?_|refine blk_alloc ?_ _));exact BK341.out⟩,⟨by (with_reducible repeat (first|refine blk_drewN ?_ _|refine blk_drew ?_|refine blk_alloc ?_ _));exact BK349.out⟩,⟨by repeat (first|(with_reducible first|exact HB.out|apply below_alloc|apply pw_below_drewN|apply below_drew1|refine below_set ?_ GE340.out|refine below_set ?_ GE341.out|refine below_set ?_ GE349.out)|exact HB.out)⟩⟩
             ·replace c78:=Bool.eq_false_iff.mpr c78
              subst c78
              have H1 : (thresherlaw13_FoldParts.j0 k false)=some r:=by rw [if_neg (show ¬ (false=true) by decide)] at H;exact H
              clear H
              have H:=H1
              clear H1
              have H':=Aside0.mk H
              clear H
              go_wp2
              go_meet
              case rel=>exact ⟨_,(false),(by first|rfl|(simp;done)|(simp [*];done)),(by first|exact H'|(subst_vars;exact H')),⟨by first|omega|exact Nat.le_refl _⟩,⟨by (with_reducible repeat (first|apply Kd.R_alloc|apply Kd.R_drewN|apply Kd.R_drew));exact HO345.out⟩,⟨by (with_reducible repeat (first|refine blk_drewN ?_ _|refine blk_drew ?_|refine blk_alloc ?_ _));exact BK340.out⟩,⟨by (with_reducible repeat (first|refine blk_drewN ?_ _|refine blk_drew ?_|refine blk_alloc ?_ _));exact BK341.out⟩,⟨by (with_reducible repeat (first|refine blk_drewN ?_ _|refine blk_drew ?_|refine blk_alloc ?_ _));exact BK349.out⟩,⟨by repeat (first|(with_reducible first|exact HB.out|apply below_alloc|apply pw_below_drewN|apply below_drew1|refine below_set ?_ GE340.out|refine below_set ?_ GE341.out|refine below_set ?_ GE349.out)|exact HB.out)⟩⟩
            ·replace c77:=Bool.eq_false_iff.mpr c77
             subst c77
             have H1 : (thresherlaw13_FoldParts.j0 k false)=some r:=by rw [if_neg (show ¬ (false=true) by decide)] at H;exact H
             clear H
             have H:=H1
             clear H1
             have H':=Aside0.mk H
             clear H
             go_wp2
             go_meet
             case rel=>exact ⟨_,(false),(by first|rfl|(simp;done)|(simp [*];done)),(by first|exact H'|(subst_vars;exact H')),⟨by first|omega|exact Nat.le_refl _⟩,⟨by (with_reducible repeat (first|apply Kd.R_alloc|apply Kd.R_drewN|apply Kd.R_drew));exact HO345.out⟩,⟨by (with_reducible repeat (first|refine blk_drewN ?_ _|refine blk_drew ?_|refine blk_alloc ?_ _));exact BK340.out⟩,⟨by (with_reducible repeat (first|refine blk_drewN ?_ _|refine blk_drew ?_|refine blk_alloc ?_ _));exact BK341.out⟩,⟨by (with_reducible repeat (first|refine blk_drewN ?_ _|refine blk_drew ?_|refine blk_alloc ?_ _));exact BK349.out⟩,⟨by repeat (first|(with_reducible first|exact HB.out|apply below_alloc|apply pw_below_drewN|apply below_drew1|refine below_set ?_ GE340.out|refine below_set ?_ GE341.out|refine below_set ?_ GE349.out)|exact HB.out)⟩⟩
           case rest =>
            clear HC30
            try clear c1
            try clear c2
            try clear p2
            try clear c5
            try clear q5
            try clear c6
            try clear q6
            try clear c7
            try clear c12
            try clear c13
            try clear c14
            try clear c19
            try clear c24
            try clear c58
            try clear q58
            try clear c63
            try clear q63
            try clear c77
            try clear c78
            try clear hcz67_0
            try clear hcz67_1
            try clear hcz67_2
            try clear hcz67_3
            try clear hcz69_0
            try clear hcz69_1
            try clear hcz69_2
            try clear hcz69_3
            try clear hcz74_0
            try clear hcz74_1
            try clear hcz74_2
            try clear hcz74_3
            try clear hfz67_0
            try clear hfz67_1
            try clear hfz67_2
            try clear hfz67_3
            try clear hfz69_0
            try clear hfz69_1
            try clear hfz69_2
            try clear hfz69_3
            try clear hfz74_0
            try clear hfz74_1
            try clear hfz74_2
            try clear hfz74_3
            try clear q058
            try clear q063
            try clear q58
            try clear q63
            obtain ⟨kq,x6_29,rfl,HA,HJ29,HO_350000,BK340,BK341,BK349,HB⟩:=hcut
            cases kq with
            | zero=>exact absurd HA.out (by simp [thresherlaw13_FoldParts.j0])
            | succ kj29 =>
             have H:=HA.out
             clear HA
             simp only [thresherlaw13_FoldParts.j0] at H
             obtain rfl:=Option.some.inj H
             go_wp2
             go_ret
             exact ⟨by first|rfl|(simp [errW_none,errW_some] <;> rfl)|(simp only [← hji10,← hji20];first|rfl|(simp [errW_none,errW_some] <;> rfl))|(simp [*,errW_none,errW_some] <;> rfl),by repeat (first|(with_reducible first|exact HB.out|apply below_alloc|apply pw_below_drewN|apply below_drew1|refine below_set ?_ GE340.out|refine below_set ?_ GE341.out|refine below_set ?_ GE349.out)|exact HB.out)⟩
          ·rw [if_neg c24] at H
           exact absurd H (by simp)
         ·rw [if_neg c21] at H
          exact absurd H (by simp)
        ·rw [if_neg c19] at H
         exact absurd H (by simp)
       ·rw [if_neg c17] at H
        exact absurd H (by simp)
      ·rw [if_neg c16] at H
       exact absurd H (by simp)
     ·rw [if_neg c14] at H
      exact absurd H (by simp)
    ·rw [if_neg c12] at H
     exact absurd H (by simp)
   ·rw [if_neg c11] at H
    exact absurd H (by simp)
end Go.Proofs.Ytmanchjamkpklaa.P

