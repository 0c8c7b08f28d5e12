/- Texts of MergeHalves. Merged: Px21. -/
import Derived.Test.YtfiandejapgkoaaQMergeHalvesPx0
import Derived.Test.YtfiandejapgkoaaQMergeHalvesPx3
import Derived.Test.YtfiandejapgkoaaQMergeHalvesPx5
import Derived.Test.YtfiandejapgkoaaQMergeHalvesPx8
import Derived.Test.YtfiandejapgkoaaQMergeHalvesPx9
import Derived.Test.YtfiandejapgkoaaQMergeHalvesPx10
import Derived.Test.YtfiandejapgkoaaQMergeHalvesPx14
import Derived.Test.YtfiandejapgkoaaMMergeHalves1
namespace Go.Proofs.Ytfiandejapgkoaa.P
open Go.RowKit Go.Proofs.YtfiandejapgkoaaW.PrintWords Go.Proofs.YtfiandejapgkoaaW.PrintLast Go.Proofs.YtfiandejapgkoaaW.PrintMore
attribute [local go_sem] max2_int min2_int max_two min_two max_three min_three max_four min_four   -- for this text's walks alone
set_option linter.unusedVariables false
set_option linter.unusedSimpArgs false
def thresherlaw14_MergeHalves.j0 : Nat→Bool→Option (Bool)
 | 0,_=>none
 | k + 1,x6=>some x6
def thresherlaw14_MergeHalves.f (k : Nat) (a0_0 : Int) (a0_1 : Int) (a0_2 : Int) (a0_3 : Int) (a0_4 : Int) (a0_5 : Int) (a0_6 : Int) (a0_7 : Int) (a0_8 : Int) (a0_9 : Int) (a0_10 : Int) (a0_11 : Int) (l1 : List (List (S31))) (a2_0 : Int) (a2_1 : Int) : Option (Bool):=(thresherlaw14_shown.f k).bind fun t570=>((thresherlaw14_made.f k a0_0 a0_1 a0_2 a0_3 a0_4 a0_5 a0_6 a0_7 a0_8 a0_9 a0_10 a0_11).bind fun bt571=>((thresherref04_Fits.f k bt571.1 bt571.2.1 bt571.2.2.1 bt571.2.2.2 l1 60).bind fun t578=>((thresherref09_Sort.f k bt571.1 bt571.2.1 bt571.2.2.1 bt571.2.2.2 t578).bind fun t581=>(if (wrap64 ((t581.length : Int) + 1))=0 then (none) else (if (wrap64 ((wrap64 ((t581.length : Int) - (Int.tmod (wrap64 (a2_0)) (wrap64 ((t581.length : Int) + 1))))) + 1))=0 then (none) else (if 0≤(Int.tmod (wrap64 (a2_0)) (wrap64 ((t581.length : Int) + 1))) then (if (Int.tmod (wrap64 (a2_0)) (wrap64 ((t581.length : Int) + 1)))≤(t581.length : Int) then (if (Int.tmod (wrap64 (a2_0)) (wrap64 ((t581.length : Int) + 1)))≤(wrap64 ((Int.tmod (wrap64 (a2_0)) (wrap64 ((t581.length : Int) + 1))) + (Int.tmod (wrap64 (a2_1)) (wrap64 ((wrap64 ((t581.length : Int) - (Int.tmod (wrap64 (a2_0)) (wrap64 ((t581.length : Int) + 1))))) + 1))))) then (if (wrap64 ((Int.tmod (wrap64 (a2_0)) (wrap64 ((t581.length : Int) + 1))) + (Int.tmod (wrap64 (a2_1)) (wrap64 ((wrap64 ((t581.length : Int) - (Int.tmod (wrap64 (a2_0)) (wrap64 ((t581.length : Int) + 1))))) + 1)))))≤(t581.length : Int) then (if 0≤(wrap64 ((Int.tmod (wrap64 (a2_0)) (wrap64 ((t581.length : Int) + 1))) + (Int.tmod (wrap64 (a2_1)) (wrap64 ((wrap64 ((t581.length : Int) - (Int.tmod (wrap64 (a2_0)) (wrap64 ((t581.length : Int) + 1))))) + 1))))) then ((merge_Rows.f k bt571.1 bt571.2.1 bt571.2.2.1 bt571.2.2.2 (([(t581.take ((Int.tmod (wrap64 (a2_0)) (wrap64 ((t581.length : Int) + 1))) : Int).toNat),((t581.take ((wrap64 ((Int.tmod (wrap64 (a2_0)) (wrap64 ((t581.length : Int) + 1))) + (Int.tmod (wrap64 (a2_1)) (wrap64 ((wrap64 ((t581.length : Int) - (Int.tmod (wrap64 (a2_0)) (wrap64 ((t581.length : Int) + 1))))) + 1))))) : Int).toNat).drop ((Int.tmod (wrap64 (a2_0)) (wrap64 ((t581.length : Int) + 1))) : Int).toNat),(([] : List (List (S31)))),(t581.drop ((wrap64 ((Int.tmod (wrap64 (a2_0)) (wrap64 ((t581.length : Int) + 1))) + (Int.tmod (wrap64 (a2_1)) (wrap64 ((wrap64 ((t581.length : Int) - (Int.tmod (wrap64 (a2_0)) (wrap64 ((t581.length : Int) + 1))))) + 1))))) : Int).toNat)] : List (List (List (S31)))))).bind fun t605=>((thresherref04_Rows.f k t605 t581).bind fun t608=>((merge_Folded.f k bt571.1 bt571.2.1 bt571.2.2.1 bt571.2.2.2 (([(t581.take ((Int.tmod (wrap64 (a2_0)) (wrap64 ((t581.length : Int) + 1))) : Int).toNat),(t581.drop ((Int.tmod (wrap64 (a2_0)) (wrap64 ((t581.length : Int) + 1))) : Int).toNat)] : List (List (List (S31)))))).bind fun t622=>((merge_Folded.f k bt571.1 bt571.2.1 bt571.2.2.1 bt571.2.2.2 (([t581] : List (List (List (S31)))))).bind fun t628=>((thresherref04_Rows.f k t622 t628).bind fun t631=>(if t570=true then (if t608=true then (thresherlaw14_MergeHalves.j0 k t631) else (thresherlaw14_MergeHalves.j0 k false)) else (thresherlaw14_MergeHalves.j0 k false))))))) else (none)) else (none)) else (none)) else (none)) else (none)))))))
theorem thresherlaw14_MergeHalves.mono_l : ∀ k,(∀ y0,LeO (thresherlaw14_MergeHalves.j0 k y0) (thresherlaw14_MergeHalves.j0 (k + 1) y0))
 | 0=>fun _ r h=>by simp [thresherlaw14_MergeHalves.j0] at h
 | k + 1=>by
  have ih0:=thresherlaw14_MergeHalves.mono_l k
  ·intro y0
   unfold thresherlaw14_MergeHalves.j0
   repeat' first
   | (with_reducible exact ih0 _)
   | (with_reducible exact merge_Folded.mono _ _ _ _ _ _)
   | (with_reducible exact merge_Rows.mono _ _ _ _ _ _)
   | (with_reducible exact thresherlaw14_made.mono _ _ _ _ _ _ _ _ _ _ _ _ _)
   | (with_reducible exact thresherlaw14_shown.mono _)
   | (with_reducible exact thresherref04_Fits.mono _ _ _ _ _ _ _)
   | (with_reducible exact thresherref04_Rows.mono _ _ _)
   | (with_reducible exact thresherref09_Sort.mono _ _ _ _ _ _)
   | (with_reducible exact LeO.refl _)
   | (with_reducible exact LeO.none _)
   | (with_reducible refine LeO.ite ?_ ?_)
   | (with_reducible refine LeO.bind ?_ (fun _=>?_))
   | exact ih0 _
   | exact merge_Folded.mono _ _ _ _ _ _
   | exact merge_Rows.mono _ _ _ _ _ _
   | exact thresherlaw14_made.mono _ _ _ _ _ _ _ _ _ _ _ _ _
   | exact thresherlaw14_shown.mono _
   | exact thresherref04_Fits.mono _ _ _ _ _ _ _
   | exact thresherref04_Rows.mono _ _ _
   | exact thresherref09_Sort.mono _ _ _ _ _ _
   | exact LeO.none _
   | refine LeO.ite ?_ ?_
   | refine LeO.bind ?_ (fun _=>?_)
theorem thresherlaw14_MergeHalves.mono : ∀ a0 a1 a2 a3 a4 a5 a6 a7 a8 a9 a10 a11 a12 a13 a14 k,LeO (thresherlaw14_MergeHalves.f k a0 a1 a2 a3 a4 a5 a6 a7 a8 a9 a10 a11 a12 a13 a14) (thresherlaw14_MergeHalves.f (k + 1) a0 a1 a2 a3 a4 a5 a6 a7 a8 a9 a10 a11 a12 a13 a14):=by
 intro a0 a1 a2 a3 a4 a5 a6 a7 a8 a9 a10 a11 a12 a13 a14 k
 have ih0:=thresherlaw14_MergeHalves.mono_l k
 unfold thresherlaw14_MergeHalves.f
 repeat' first
   | (with_reducible exact ih0 _)
   | (with_reducible exact merge_Folded.mono _ _ _ _ _ _)
   | (with_reducible exact merge_Rows.mono _ _ _ _ _ _)
   | (with_reducible exact thresherlaw14_made.mono _ _ _ _ _ _ _ _ _ _ _ _ _)
   | (with_reducible exact thresherlaw14_shown.mono _)
   | (with_reducible exact thresherref04_Fits.mono _ _ _ _ _ _ _)
   | (with_reducible exact thresherref04_Rows.mono _ _ _)
   | (with_reducible exact thresherref09_Sort.mono _ _ _ _ _ _)
   | (with_reducible exact LeO.refl _)
   | (with_reducible exact LeO.none _)
   | (with_reducible refine LeO.ite ?_ ?_)
   | (with_reducible refine LeO.bind ?_ (fun _=>?_))
   | exact ih0 _
   | exact merge_Folded.mono _ _ _ _ _ _
   | exact merge_Rows.mono _ _ _ _ _ _
   | exact thresherlaw14_made.mono _ _ _ _ _ _ _ _ _ _ _ _ _
   | exact thresherlaw14_shown.mono _
   | exact thresherref04_Fits.mono _ _ _ _ _ _ _
   | exact thresherref04_Rows.mono _ _ _
   | exact thresherref09_Sort.mono _ _ _ _ _ _
   | exact LeO.none _
   | refine LeO.ite ?_ ?_
   | refine LeO.bind ?_ (fun _=>?_)
def thresherlaw14_MergeHalves.T6 : Bool × List (List Nat × List Nat):=(true,[([],[]),([],[]),([],[]),([1,2],[1,2]),([],[]),([],[]),([],[]),([4,5,6],[4,5,6]),([],[]),([],[]),([],[]),([9,10],[9,10]),([3,7,8,11],[3,7,8,11]),([0,12],[0,12]),([13,13,0,1,2,3,4,5,6,7,8,9,10,11,12,13],[13])])
def thresherlaw14_MergeHalves.B6 : List Nat:=[0,0,0,6,0,0,0,112,0,0,0,1536,4094,8191,16383]
theorem thresherlaw14_MergeHalves.tab6 : rtab .any (opsOf Try.f7 6)=thresherlaw14_MergeHalves.T6:=by kernel_rfl
theorem thresherlaw14_MergeHalves.bits6 : waitsOk thresherlaw14_MergeHalves.T6.2 thresherlaw14_MergeHalves.B6=true:=by kernel_rfl
def thresherlaw14_MergeHalves.T8 : Bool × List (List Nat × List Nat):=(true,[([],[]),([],[]),([],[]),([1,2],[1,2]),([],[]),([],[]),([4,5],[4,5]),([3,6],[3,6]),([0,7],[0,7]),([],[]),([],[]),([10],[10]),([9,11,8],[9,11]),([8,12,12],[8,12]),([13,13,0,1,2,3,4,5,6,7,8,9,10,11,12,13],[13])])
def thresherlaw14_MergeHalves.B8 : List Nat:=[0,0,0,6,0,0,48,126,255,0,0,1024,4095,8191,16383]
theorem thresherlaw14_MergeHalves.tab8 : rtab .any (opsOf Try.f7 8)=thresherlaw14_MergeHalves.T8:=by kernel_rfl
theorem thresherlaw14_MergeHalves.bits8 : waitsOk thresherlaw14_MergeHalves.T8.2 thresherlaw14_MergeHalves.B8=true:=by kernel_rfl
set_option maxHeartbeats 8000000 in
set_option maxRecDepth 100000 in
theorem thresherlaw14_MergeHalves.calls (k : Nat) (a0_0 : Int) (a0_1 : Int) (a0_2 : Int) (a0_3 : Int) (a0_4 : Int) (a0_5 : Int) (a0_6 : Int) (a0_7 : Int) (a0_8 : Int) (a0_9 : Int) (a0_10 : Int) (a0_11 : Int) (A1 : Option Addr) (c1 : Nat) (l1 : List (List (S31))) (a2_0 : Int) (a2_1 : Int) (r : Bool) (w : World) (hr1 : Kd.C (Kd.slice 31 k31) w A1 l1.length l1) (hc1 : l1.length≤c1) (h : thresherlaw14_MergeHalves.f k a0_0 a0_1 a0_2 a0_3 a0_4 a0_5 a0_6 a0_7 a0_8 a0_9 a0_10 a0_11 l1 a2_0 a2_1=some r) :
  Calls Try.prog 7 #[.agg #[.int .u8 a0_0,.int .u8 a0_1,.int .u8 a0_2,.int .u8 a0_3,.int .u8 a0_4,.int .u8 a0_5,.int .u8 a0_6,.int .u8 a0_7,.int .u8 a0_8,.int .u8 a0_9,.int .u8 a0_10,.int .u8 a0_11],.slice A1 l1.length c1,.agg #[.int .u8 a2_0,.int .u8 a2_1]] w fun e w'=>e=.returned (.bool r)∧Below w.heap.size w w':=by
 have hu38:=Try.underlying38
 have hu43:=Try.underlying43
 have hu26:=Try.underlying26
 have HR1:=Aside0.mk hr1
 have HC1:=Aside0.mk hc1
 clear hr1 hc1
 have HB:=Aside0.mk (Below.refl w.heap.size w)
 have H : ((thresherlaw14_shown.f k).bind fun t570=>((thresherlaw14_made.f k a0_0 a0_1 a0_2 a0_3 a0_4 a0_5 a0_6 a0_7 a0_8 a0_9 a0_10 a0_11).bind fun bt571=>((thresherref04_Fits.f k bt571.1 bt571.2.1 bt571.2.2.1 bt571.2.2.2 l1 60).bind fun t578=>((thresherref09_Sort.f k bt571.1 bt571.2.1 bt571.2.2.1 bt571.2.2.2 t578).bind fun t581=>(if (wrap64 ((t581.length : Int) + 1))=0 then (none) else (if (wrap64 ((wrap64 ((t581.length : Int) - (Int.tmod (wrap64 (a2_0)) (wrap64 ((t581.length : Int) + 1))))) + 1))=0 then (none) else (if 0≤(Int.tmod (wrap64 (a2_0)) (wrap64 ((t581.length : Int) + 1))) then (if (Int.tmod (wrap64 (a2_0)) (wrap64 ((t581.length : Int) + 1)))≤(t581.length : Int) then (if (Int.tmod (wrap64 (a2_0)) (wrap64 ((t581.length : Int) + 1)))≤(wrap64 ((Int.tmod (wrap64 (a2_0)) (wrap64 ((t581.length : Int) + 1))) + (Int.tmod (wrap64 (a2_1)) (wrap64 ((wrap64 ((t581.length : Int) - (Int.tmod (wrap64 (a2_0)) (wrap64 ((t581.length : Int) + 1))))) + 1))))) then (if (wrap64 ((Int.tmod (wrap64 (a2_0)) (wrap64 ((t581.length : Int) + 1))) + (Int.tmod (wrap64 (a2_1)) (wrap64 ((wrap64 ((t581.length : Int) - (Int.tmod (wrap64 (a2_0)) (wrap64 ((t581.length : Int) + 1))))) + 1)))))≤(t581.length : Int) then (if 0≤(wrap64 ((Int.tmod (wrap64 (a2_0)) (wrap64 ((t581.length : Int) + 1))) + (Int.tmod (wrap64 (a2_1)) (wrap64 ((wrap64 ((t581.length : Int) - (Int.tmod (wrap64 (a2_0)) (wrap64 ((t581.length : Int) + 1))))) + 1))))) then ((merge_Rows.f k bt571.1 bt571.2.1 bt571.2.2.1 bt571.2.2.2 (([(t581.take ((Int.tmod (wrap64 (a2_0)) (wrap64 ((t581.length : Int) + 1))) : Int).toNat),((t581.take ((wrap64 ((Int.tmod (wrap64 (a2_0)) (wrap64 ((t581.length : Int) + 1))) + (Int.tmod (wrap64 (a2_1)) (wrap64 ((wrap64 ((t581.length : Int) - (Int.tmod (wrap64 (a2_0)) (wrap64 ((t581.length : Int) + 1))))) + 1))))) : Int).toNat).drop ((Int.tmod (wrap64 (a2_0)) (wrap64 ((t581.length : Int) + 1))) : Int).toNat),(([] : List (List (S31)))),(t581.drop ((wrap64 ((Int.tmod (wrap64 (a2_0)) (wrap64 ((t581.length : Int) + 1))) + (Int.tmod (wrap64 (a2_1)) (wrap64 ((wrap64 ((t581.length : Int) - (Int.tmod (wrap64 (a2_0)) (wrap64 ((t581.length : Int) + 1))))) + 1))))) : Int).toNat)] : List (List (List (S31)))))).bind fun t605=>((thresherref04_Rows.f k t605 t581).bind fun t608=>((merge_Folded.f k bt571.1 bt571.2.1 bt571.2.2.1 bt571.2.2.2 (([(t581.take ((Int.tmod (wrap64 (a2_0)) (wrap64 ((t581.length : Int) + 1))) : Int).toNat),(t581.drop ((Int.tmod (wrap64 (a2_0)) (wrap64 ((t581.length : Int) + 1))) : Int).toNat)] : List (List (List (S31)))))).bind fun t622=>((merge_Folded.f k bt571.1 bt571.2.1 bt571.2.2.1 bt571.2.2.2 (([t581] : List (List (List (S31)))))).bind fun t628=>((thresherref04_Rows.f k t622 t628).bind fun t631=>(if t570=true then (if t608=true then (thresherlaw14_MergeHalves.j0 k t631) else (thresherlaw14_MergeHalves.j0 k false)) else (thresherlaw14_MergeHalves.j0 k false))))))) else (none)) else (none)) else (none)) else (none)) else (none))))))))=some r:=h
 clear h
 replace H:=Option.bind_eq_some_iff.mp H
 obtain ⟨t570,A40,H⟩:=H
 replace H : ((thresherlaw14_made.f k a0_0 a0_1 a0_2 a0_3 a0_4 a0_5 a0_6 a0_7 a0_8 a0_9 a0_10 a0_11).bind fun bt571=>((thresherref04_Fits.f k bt571.1 bt571.2.1 bt571.2.2.1 bt571.2.2.2 l1 60).bind fun t578=>((thresherref09_Sort.f k bt571.1 bt571.2.1 bt571.2.2.1 bt571.2.2.2 t578).bind fun t581=>(if (wrap64 ((t581.length : Int) + 1))=0 then (none) else (if (wrap64 ((wrap64 ((t581.length : Int) - (Int.tmod (wrap64 (a2_0)) (wrap64 ((t581.length : Int) + 1))))) + 1))=0 then (none) else (if 0≤(Int.tmod (wrap64 (a2_0)) (wrap64 ((t581.length : Int) + 1))) then (if (Int.tmod (wrap64 (a2_0)) (wrap64 ((t581.length : Int) + 1)))≤(t581.length : Int) then (if (Int.tmod (wrap64 (a2_0)) (wrap64 ((t581.length : Int) + 1)))≤(wrap64 ((Int.tmod (wrap64 (a2_0)) (wrap64 ((t581.length : Int) + 1))) + (Int.tmod (wrap64 (a2_1)) (wrap64 ((wrap64 ((t581.length : Int) - (Int.tmod (wrap64 (a2_0)) (wrap64 ((t581.length : Int) + 1))))) + 1))))) then (if (wrap64 ((Int.tmod (wrap64 (a2_0)) (wrap64 ((t581.length : Int) + 1))) + (Int.tmod (wrap64 (a2_1)) (wrap64 ((wrap64 ((t581.length : Int) - (Int.tmod (wrap64 (a2_0)) (wrap64 ((t581.length : Int) + 1))))) + 1)))))≤(t581.length : Int) then (if 0≤(wrap64 ((Int.tmod (wrap64 (a2_0)) (wrap64 ((t581.length : Int) + 1))) + (Int.tmod (wrap64 (a2_1)) (wrap64 ((wrap64 ((t581.length : Int) - (Int.tmod (wrap64 (a2_0)) (wrap64 ((t581.length : Int) + 1))))) + 1))))) then ((merge_Rows.f k bt571.1 bt571.2.1 bt571.2.2.1 bt571.2.2.2 (([(t581.take ((Int.tmod (wrap64 (a2_0)) (wrap64 ((t581.length : Int) + 1))) : Int).toNat),((t581.take ((wrap64 ((Int.tmod (wrap64 (a2_0)) (wrap64 ((t581.length : Int) + 1))) + (Int.tmod (wrap64 (a2_1)) (wrap64 ((wrap64 ((t581.length : Int) - (Int.tmod (wrap64 (a2_0)) (wrap64 ((t581.length : Int) + 1))))) + 1))))) : Int).toNat).drop ((Int.tmod (wrap64 (a2_0)) (wrap64 ((t581.length : Int) + 1))) : Int).toNat),(([] : List (List (S31)))),(t581.drop ((wrap64 ((Int.tmod (wrap64 (a2_0)) (wrap64 ((t581.length : Int) + 1))) + (Int.tmod (wrap64 (a2_1)) (wrap64 ((wrap64 ((t581.length : Int) - (Int.tmod (wrap64 (a2_0)) (wrap64 ((t581.length : Int) + 1))))) + 1))))) : Int).toNat)] : List (List (List (S31)))))).bind fun t605=>((thresherref04_Rows.f k t605 t581).bind fun t608=>((merge_Folded.f k bt571.1 bt571.2.1 bt571.2.2.1 bt571.2.2.2 (([(t581.take ((Int.tmod (wrap64 (a2_0)) (wrap64 ((t581.length : Int) + 1))) : Int).toNat),(t581.drop ((Int.tmod (wrap64 (a2_0)) (wrap64 ((t581.length : Int) + 1))) : Int).toNat)] : List (List (List (S31)))))).bind fun t622=>((merge_Folded.f k bt571.1 bt571.2.1 bt571.2.2.1 bt571.2.2.2 (([t581] : List (List (List (S31)))))).bind fun t628=>((thresherref04_Rows.f k t622 t628).bind fun t631=>(if t570=true then (if t608=true then (thresherlaw14_MergeHalves.j0 k t631) else (thresherlaw14_MergeHalves.j0 k false)) else (thresherlaw14_MergeHalves.j0 k false))))))) else (none)) else (none)) else (none)) else (none)) else (none)))))))=some r:=H
 have A4:=Aside0.mk A40
 clear A40
 replace H:=Option.bind_eq_some_iff.mp H
 obtain ⟨⟨t571,t574,t575,t576⟩,A50,H⟩:=H
 replace H : ((thresherref04_Fits.f k t571 t574 t575 t576 l1 60).bind fun t578=>((thresherref09_Sort.f k t571 t574 t575 t576 t578).bind fun t581=>(if (wrap64 ((t581.length : Int) + 1))=0 then (none) else (if (wrap64 ((wrap64 ((t581.length : Int) - (Int.tmod (wrap64 (a2_0)) (wrap64 ((t581.length : Int) + 1))))) + 1))=0 then (none) else (if 0≤(Int.tmod (wrap64 (a2_0)) (wrap64 ((t581.length : Int) + 1))) then (if (Int.tmod (wrap64 (a2_0)) (wrap64 ((t581.length : Int) + 1)))≤(t581.length : Int) then (if (Int.tmod (wrap64 (a2_0)) (wrap64 ((t581.length : Int) + 1)))≤(wrap64 ((Int.tmod (wrap64 (a2_0)) (wrap64 ((t581.length : Int) + 1))) + (Int.tmod (wrap64 (a2_1)) (wrap64 ((wrap64 ((t581.length : Int) - (Int.tmod (wrap64 (a2_0)) (wrap64 ((t581.length : Int) + 1))))) + 1))))) then (if (wrap64 ((Int.tmod (wrap64 (a2_0)) (wrap64 ((t581.length : Int) + 1))) + (Int.tmod (wrap64 (a2_1)) (wrap64 ((wrap64 ((t581.length : Int) - (Int.tmod (wrap64 (a2_0)) (wrap64 ((t581.length : Int) + 1))))) + 1)))))≤(t581.length : Int) then (if 0≤(wrap64 ((Int.tmod (wrap64 (a2_0)) (wrap64 ((t581.length : Int) + 1))) + (Int.tmod (wrap64 (a2_1)) (wrap64 ((wrap64 ((t581.length : Int) - (Int.tmod (wrap64 (a2_0)) (wrap64 ((t581.length : Int) + 1))))) + 1))))) then ((merge_Rows.f k t571 t574 t575 t576 (([(t581.take ((Int.tmod (wrap64 (a2_0)) (wrap64 ((t581.length : Int) + 1))) : Int).toNat),((t581.take ((wrap64 ((Int.tmod (wrap64 (a2_0)) (wrap64 ((t581.length : Int) + 1))) + (Int.tmod (wrap64 (a2_1)) (wrap64 ((wrap64 ((t581.length : Int) - (Int.tmod (wrap64 (a2_0)) (wrap64 ((t581.length : Int) + 1))))) + 1))))) : Int).toNat).drop ((Int.tmod (wrap64 (a2_0)) (wrap64 ((t581.length : Int) + 1))) : Int).toNat),(([] : List (List (S31)))),(t581.drop ((wrap64 ((Int.tmod (wrap64 (a2_0)) (wrap64 ((t581.length : Int) + 1))) + (Int.tmod (wrap64 (a2_1)) (wrap64 ((wrap64 ((t581.length : Int) - (Int.tmod (wrap64 (a2_0)) (wrap64 ((t581.length : Int) + 1))))) + 1))))) : Int).toNat)] : List (List (List (S31)))))).bind fun t605=>((thresherref04_Rows.f k t605 t581).bind fun t608=>((merge_Folded.f k t571 t574 t575 t576 (([(t581.take ((Int.tmod (wrap64 (a2_0)) (wrap64 ((t581.length : Int) + 1))) : Int).toNat),(t581.drop ((Int.tmod (wrap64 (a2_0)) (wrap64 ((t581.length : Int) + 1))) : Int).toNat)] : List (List (List (S31)))))).bind fun t622=>((merge_Folded.f k t571 t574 t575 t576 (([t581] : List (List (List (S31)))))).bind fun t628=>((thresherref04_Rows.f k t622 t628).bind fun t631=>(if t570=true then (if t608=true then (thresherlaw14_MergeHalves.j0 k t631) else (thresherlaw14_MergeHalves.j0 k false)) else (thresherlaw14_MergeHalves.j0 k false))))))) else (none)) else (none)) else (none)) else (none)) else (none))))))=some r:=H
 have A5:=Aside0.mk A50
 clear A50
 replace H:=Option.bind_eq_some_iff.mp H
 obtain ⟨t578,A60,H⟩:=H
 replace H : ((thresherref09_Sort.f k t571 t574 t575 t576 t578).bind fun t581=>(if (wrap64 ((t581.length : Int) + 1))=0 then (none) else (if (wrap64 ((wrap64 ((t581.length : Int) - (Int.tmod (wrap64 (a2_0)) (wrap64 ((t581.length : Int) + 1))))) + 1))=0 then (none) else (if 0≤(Int.tmod (wrap64 (a2_0)) (wrap64 ((t581.length : Int) + 1))) then (if (Int.tmod (wrap64 (a2_0)) (wrap64 ((t581.length : Int) + 1)))≤(t581.length : Int) then (if (Int.tmod (wrap64 (a2_0)) (wrap64 ((t581.length : Int) + 1)))≤(wrap64 ((Int.tmod (wrap64 (a2_0)) (wrap64 ((t581.length : Int) + 1))) + (Int.tmod (wrap64 (a2_1)) (wrap64 ((wrap64 ((t581.length : Int) - (Int.tmod (wrap64 (a2_0)) (wrap64 ((t581.length : Int) + 1))))) + 1))))) then (if (wrap64 ((Int.tmod (wrap64 (a2_0)) (wrap64 ((t581.length : Int) + 1))) + (Int.tmod (wrap64 (a2_1)) (wrap64 ((wrap64 ((t581.length : Int) - (Int.tmod (wrap64 (a2_0)) (wrap64 ((t581.length : Int) + 1))))) + 1)))))≤(t581.length : Int) then (if 0≤(wrap64 ((Int.tmod (wrap64 (a2_0)) (wrap64 ((t581.length : Int) + 1))) + (Int.tmod (wrap64 (a2_1)) (wrap64 ((wrap64 ((t581.length : Int) - (Int.tmod (wrap64 (a2_0)) (wrap64 ((t581.length : Int) + 1))))) + 1))))) then ((merge_Rows.f k t571 t574 t575 t576 (([(t581.take ((Int.tmod (wrap64 (a2_0)) (wrap64 ((t581.length : Int) + 1))) : Int).toNat),((t581.take ((wrap64 ((Int.tmod (wrap64 (a2_0)) (wrap64 ((t581.length : Int) + 1))) + (Int.tmod (wrap64 (a2_1)) (wrap64 ((wrap64 ((t581.length : Int) - (Int.tmod (wrap64 (a2_0)) (wrap64 ((t581.length : Int) + 1))))) + 1))))) : Int).toNat).drop ((Int.tmod (wrap64 (a2_0)) (wrap64 ((t581.length : Int) + 1))) : Int).toNat),(([] : List (List (S31)))),(t581.drop ((wrap64 ((Int.tmod (wrap64 (a2_0)) (wrap64 ((t581.length : Int) + 1))) + (Int.tmod (wrap64 (a2_1)) (wrap64 ((wrap64 ((t581.length : Int) - (Int.tmod (wrap64 (a2_0)) (wrap64 ((t581.length : Int) + 1))))) + 1))))) : Int).toNat)] : List (List (List (S31)))))).bind fun t605=>((thresherref04_Rows.f k t605 t581).bind fun t608=>((merge_Folded.f k t571 t574 t575 t576 (([(t581.take ((Int.tmod (wrap64 (a2_0)) (wrap64 ((t581.length : Int) + 1))) : Int).toNat),(t581.drop ((Int.tmod (wrap64 (a2_0)) (wrap64 ((t581.length : Int) + 1))) : Int).toNat)] : List (List (List (S31)))))).bind fun t622=>((merge_Folded.f k t571 t574 t575 t576 (([t581] : List (List (List (S31)))))).bind fun t628=>((thresherref04_Rows.f k t622 t628).bind fun t631=>(if t570=true then (if t608=true then (thresherlaw14_MergeHalves.j0 k t631) else (thresherlaw14_MergeHalves.j0 k false)) else (thresherlaw14_MergeHalves.j0 k false))))))) else (none)) else (none)) else (none)) else (none)) else (none)))))=some r:=H
 have A6:=Aside0.mk A60
 clear A60
 replace H:=Option.bind_eq_some_iff.mp H
 obtain ⟨t581,A70,H⟩:=H
 replace H : (if (wrap64 ((t581.length : Int) + 1))=0 then (none) else (if (wrap64 ((wrap64 ((t581.length : Int) - (Int.tmod (wrap64 (a2_0)) (wrap64 ((t581.length : Int) + 1))))) + 1))=0 then (none) else (if 0≤(Int.tmod (wrap64 (a2_0)) (wrap64 ((t581.length : Int) + 1))) then (if (Int.tmod (wrap64 (a2_0)) (wrap64 ((t581.length : Int) + 1)))≤(t581.length : Int) then (if (Int.tmod (wrap64 (a2_0)) (wrap64 ((t581.length : Int) + 1)))≤(wrap64 ((Int.tmod (wrap64 (a2_0)) (wrap64 ((t581.length : Int) + 1))) + (Int.tmod (wrap64 (a2_1)) (wrap64 ((wrap64 ((t581.length : Int) - (Int.tmod (wrap64 (a2_0)) (wrap64 ((t581.length : Int) + 1))))) + 1))))) then (if (wrap64 ((Int.tmod (wrap64 (a2_0)) (wrap64 ((t581.length : Int) + 1))) + (Int.tmod (wrap64 (a2_1)) (wrap64 ((wrap64 ((t581.length : Int) - (Int.tmod (wrap64 (a2_0)) (wrap64 ((t581.length : Int) + 1))))) + 1)))))≤(t581.length : Int) then (if 0≤(wrap64 ((Int.tmod (wrap64 (a2_0)) (wrap64 ((t581.length : Int) + 1))) + (Int.tmod (wrap64 (a2_1)) (wrap64 ((wrap64 ((t581.length : Int) - (Int.tmod (wrap64 (a2_0)) (wrap64 ((t581.length : Int) + 1))))) + 1))))) then ((merge_Rows.f k t571 t574 t575 t576 (([(t581.take ((Int.tmod (wrap64 (a2_0)) (wrap64 ((t581.length : Int) + 1))) : Int).toNat),((t581.take ((wrap64 ((Int.tmod (wrap64 (a2_0)) (wrap64 ((t581.length : Int) + 1))) + (Int.tmod (wrap64 (a2_1)) (wrap64 ((wrap64 ((t581.length : Int) - (Int.tmod (wrap64 (a2_0)) (wrap64 ((t581.length : Int) + 1))))) + 1))))) : Int).toNat).drop ((Int.tmod (wrap64 (a2_0)) (wrap64 ((t581.length : Int) + 1))) : Int).toNat),(([] : List (List (S31)))),(t581.drop ((wrap64 ((Int.tmod (wrap64 (a2_0)) (wrap64 ((t581.length : Int) + 1))) + (Int.tmod (wrap64 (a2_1)) (wrap64 ((wrap64 ((t581.length : Int) - (Int.tmod (wrap64 (a2_0)) (wrap64 ((t581.length : Int) + 1))))) + 1))))) : Int).toNat)] : List (List (List (S31)))))).bind fun t605=>((thresherref04_Rows.f k t605 t581).bind fun t608=>((merge_Folded.f k t571 t574 t575 t576 (([(t581.take ((Int.tmod (wrap64 (a2_0)) (wrap64 ((t581.length : Int) + 1))) : Int).toNat),(t581.drop ((Int.tmod (wrap64 (a2_0)) (wrap64 ((t581.length : Int) + 1))) : Int).toNat)] : List (List (List (S31)))))).bind fun t622=>((merge_Folded.f k t571 t574 t575 t576 (([t581] : List (List (List (S31)))))).bind fun t628=>((thresherref04_Rows.f k t622 t628).bind fun t631=>(if t570=true then (if t608=true then (thresherlaw14_MergeHalves.j0 k t631) else (thresherlaw14_MergeHalves.j0 k false)) else (thresherlaw14_MergeHalves.j0 k false))))))) else (none)) else (none)) else (none)) else (none)) else (none))))=some r:=H
 have A7:=Aside0.mk A70
 clear A70
 by_cases c8 : (wrap64 ((t581.length : Int) + 1))=0
 ·rw [if_pos c8] at H
  exact absurd H (by simp)
 ·rw [if_neg c8] at H
  have c8b0 : ((wrap64 ((t581.length : Int) + 1)) == 0)=false:=beq_eq_false_iff_ne.mpr c8
  have c8b1 : ((wrap64 ((t581.length : Int) + 1)) != 0)=true:=bne_iff_ne.mpr c8
  by_cases c9 : (wrap64 ((wrap64 ((t581.length : Int) - (Int.tmod (wrap64 (a2_0)) (wrap64 ((t581.length : Int) + 1))))) + 1))=0
  ·rw [if_pos c9] at H
   exact absurd H (by simp)
  ·rw [if_neg c9] at H
   have c9b0 : ((wrap64 ((wrap64 ((t581.length : Int) - (Int.tmod (wrap64 (a2_0)) (wrap64 ((t581.length : Int) + 1))))) + 1)) == 0)=false:=beq_eq_false_iff_ne.mpr c9
   have c9b1 : ((wrap64 ((wrap64 ((t581.length : Int) - (Int.tmod (wrap64 (a2_0)) (wrap64 ((t581.length : Int) + 1))))) + 1)) != 0)=true:=bne_iff_ne.mpr c9
   obtain ⟨ji10,hji10⟩ : ∃ j_ : Int,(Int.tmod (wrap64 (a2_0)) (wrap64 ((t581.length : Int) + 1)))=j_:=⟨_,rfl⟩
   replace H : (if 0≤(ji10) then (if (ji10)≤(t581.length : Int) then (if (ji10)≤(wrap64 ((ji10) + (Int.tmod (wrap64 (a2_1)) (wrap64 ((wrap64 ((t581.length : Int) - (ji10))) + 1))))) then (if (wrap64 ((ji10) + (Int.tmod (wrap64 (a2_1)) (wrap64 ((wrap64 ((t581.length : Int) - (ji10))) + 1)))))≤(t581.length : Int) then (if 0≤(wrap64 ((ji10) + (Int.tmod (wrap64 (a2_1)) (wrap64 ((wrap64 ((t581.length : Int) - (ji10))) + 1))))) then ((merge_Rows.f k t571 t574 t575 t576 (([(t581.take ((ji10) : Int).toNat),((t581.take ((wrap64 ((ji10) + (Int.tmod (wrap64 (a2_1)) (wrap64 ((wrap64 ((t581.length : Int) - (ji10))) + 1))))) : Int).toNat).drop ((ji10) : Int).toNat),(([] : List (List (S31)))),(t581.drop ((wrap64 ((ji10) + (Int.tmod (wrap64 (a2_1)) (wrap64 ((wrap64 ((t581.length : Int) - (ji10))) + 1))))) : Int).toNat)] : List (List (List (S31)))))).bind fun t605=>((thresherref04_Rows.f k t605 t581).bind fun t608=>((merge_Folded.f k t571 t574 t575 t576 (([(t581.take ((ji10) : Int).toNat),(t581.drop ((ji10) : Int).toNat)] : List (List (List (S31)))))).bind fun t622=>((merge_Folded.f k t571 t574 t575 t576 (([t581] : List (List (List (S31)))))).bind fun t628=>((thresherref04_Rows.f k t622 t628).bind fun t631=>(if t570=true then (if t608=true then (thresherlaw14_MergeHalves.j0 k t631) else (thresherlaw14_MergeHalves.j0 k false)) else (thresherlaw14_MergeHalves.j0 k false))))))) else (none)) else (none)) else (none)) else (none)) else (none))=some r:=by first|(rw [hji10] at H;exact H)|(simp only [hji10] at H ⊢;exact H)
   (try rw [hji10] at c9b0)
   (try rw [hji10] at c9)
   (try rw [hji10] at c9b1)
   (try rw [hji10] at A4)
   (try rw [hji10] at A5)
   (try rw [hji10] at A6)
   (try rw [hji10] at A7)
   by_cases c11 : 0≤(ji10)
   ·rw [if_pos c11] at H
    have c11b0:=eq_true c11
    have c11b1 : decide (0≤(ji10))=true:=decide_eq_true c11
    clear c11
    by_cases c12 : (ji10)≤(t581.length : Int)
    ·rw [if_pos c12] at H
     have c12b0:=eq_true c12
     have c12b1 : decide ((ji10)≤(t581.length : Int))=true:=decide_eq_true c12
     clear c12
     obtain ⟨y584,hy584⟩ : ∃ y_ : List (List (S31)),y_=(t581.take ((ji10) : Int).toNat):=⟨_,rfl⟩
     replace H : (if (ji10)≤(wrap64 ((ji10) + (Int.tmod (wrap64 (a2_1)) (wrap64 ((wrap64 ((t581.length : Int) - (ji10))) + 1))))) then (if (wrap64 ((ji10) + (Int.tmod (wrap64 (a2_1)) (wrap64 ((wrap64 ((t581.length : Int) - (ji10))) + 1)))))≤(t581.length : Int) then (if 0≤(wrap64 ((ji10) + (Int.tmod (wrap64 (a2_1)) (wrap64 ((wrap64 ((t581.length : Int) - (ji10))) + 1))))) then ((merge_Rows.f k t571 t574 t575 t576 (([y584,((t581.take ((wrap64 ((ji10) + (Int.tmod (wrap64 (a2_1)) (wrap64 ((wrap64 ((t581.length : Int) - (ji10))) + 1))))) : Int).toNat).drop ((ji10) : Int).toNat),(([] : List (List (S31)))),(t581.drop ((wrap64 ((ji10) + (Int.tmod (wrap64 (a2_1)) (wrap64 ((wrap64 ((t581.length : Int) - (ji10))) + 1))))) : Int).toNat)] : List (List (List (S31)))))).bind fun t605=>((thresherref04_Rows.f k t605 t581).bind fun t608=>((merge_Folded.f k t571 t574 t575 t576 (([(t581.take ((ji10) : Int).toNat),(t581.drop ((ji10) : Int).toNat)] : List (List (List (S31)))))).bind fun t622=>((merge_Folded.f k t571 t574 t575 t576 (([t581] : List (List (List (S31)))))).bind fun t628=>((thresherref04_Rows.f k t622 t628).bind fun t631=>(if t570=true then (if t608=true then (thresherlaw14_MergeHalves.j0 k t631) else (thresherlaw14_MergeHalves.j0 k false)) else (thresherlaw14_MergeHalves.j0 k false))))))) else (none)) else (none)) else (none))=some r:=by first|(rw [hy584];with_reducible exact H)|(have H2_:=(Option.bind_some _ _).symm.trans H;rw [hy584];with_reducible exact H2_)|(have H2_:=(Option.bind_some _ _).symm.trans H;with_reducible exact H2_)|with_reducible exact H|(rw [hy584];exact H)|exact H
     have Ny584:=Aside0.mk hy584
     clear hy584
     have c13b0:=eq_true (of_decide_eq_true (by first|(with_reducible assumption)|assumption) : 0≤(ji10))
     by_cases c14 : (ji10)≤(wrap64 ((ji10) + (Int.tmod (wrap64 (a2_1)) (wrap64 ((wrap64 ((t581.length : Int) - (ji10))) + 1)))))
     ·rw [if_pos c14] at H
      have c14b0:=eq_true c14
      have c14b1 : decide ((ji10)≤(wrap64 ((ji10) + (Int.tmod (wrap64 (a2_1)) (wrap64 ((wrap64 ((t581.length : Int) - (ji10))) + 1))))))=true:=decide_eq_true c14
      by_cases c15 : (wrap64 ((ji10) + (Int.tmod (wrap64 (a2_1)) (wrap64 ((wrap64 ((t581.length : Int) - (ji10))) + 1)))))≤(t581.length : Int)
      ·rw [if_pos c15] at H
       have c15b0:=eq_true c15
       have c15b1 : decide ((wrap64 ((ji10) + (Int.tmod (wrap64 (a2_1)) (wrap64 ((wrap64 ((t581.length : Int) - (ji10))) + 1)))))≤(t581.length : Int))=true:=decide_eq_true c15
       obtain ⟨y589,hy589⟩ : ∃ y_ : List (List (S31)),y_=((t581.take ((wrap64 ((ji10) + (Int.tmod (wrap64 (a2_1)) (wrap64 ((wrap64 ((t581.length : Int) - (ji10))) + 1))))) : Int).toNat).drop ((ji10) : Int).toNat):=⟨_,rfl⟩
       replace H : (if 0≤(wrap64 ((ji10) + (Int.tmod (wrap64 (a2_1)) (wrap64 ((wrap64 ((t581.length : Int) - (ji10))) + 1))))) then ((merge_Rows.f k t571 t574 t575 t576 (([y584,y589,(([] : List (List (S31)))),(t581.drop ((wrap64 ((ji10) + (Int.tmod (wrap64 (a2_1)) (wrap64 ((wrap64 ((t581.length : Int) - (ji10))) + 1))))) : Int).toNat)] : List (List (List (S31)))))).bind fun t605=>((thresherref04_Rows.f k t605 t581).bind fun t608=>((merge_Folded.f k t571 t574 t575 t576 (([(t581.take ((ji10) : Int).toNat),(t581.drop ((ji10) : Int).toNat)] : List (List (List (S31)))))).bind fun t622=>((merge_Folded.f k t571 t574 t575 t576 (([t581] : List (List (List (S31)))))).bind fun t628=>((thresherref04_Rows.f k t622 t628).bind fun t631=>(if t570=true then (if t608=true then (thresherlaw14_MergeHalves.j0 k t631) else (thresherlaw14_MergeHalves.j0 k false)) else (thresherlaw14_MergeHalves.j0 k false))))))) else (none))=some r:=by first|(rw [hy589];with_reducible exact H)|(have H2_:=(Option.bind_some _ _).symm.trans H;rw [hy589];with_reducible exact H2_)|(have H2_:=(Option.bind_some _ _).symm.trans H;with_reducible exact H2_)|with_reducible exact H|(rw [hy589];exact H)|exact H
       have Ny589:=Aside0.mk hy589
       clear hy589
       obtain ⟨y594,hy594⟩ : ∃ y_ : List (List (S31)),y_=(([] : List (List (S31)))):=⟨_,rfl⟩
       replace H : (if 0≤(wrap64 ((ji10) + (Int.tmod (wrap64 (a2_1)) (wrap64 ((wrap64 ((t581.length : Int) - (ji10))) + 1))))) then ((merge_Rows.f k t571 t574 t575 t576 (([y584,y589,y594,(t581.drop ((wrap64 ((ji10) + (Int.tmod (wrap64 (a2_1)) (wrap64 ((wrap64 ((t581.length : Int) - (ji10))) + 1))))) : Int).toNat)] : List (List (List (S31)))))).bind fun t605=>((thresherref04_Rows.f k t605 t581).bind fun t608=>((merge_Folded.f k t571 t574 t575 t576 (([(t581.take ((ji10) : Int).toNat),(t581.drop ((ji10) : Int).toNat)] : List (List (List (S31)))))).bind fun t622=>((merge_Folded.f k t571 t574 t575 t576 (([t581] : List (List (List (S31)))))).bind fun t628=>((thresherref04_Rows.f k t622 t628).bind fun t631=>(if t570=true then (if t608=true then (thresherlaw14_MergeHalves.j0 k t631) else (thresherlaw14_MergeHalves.j0 k false)) else (thresherlaw14_MergeHalves.j0 k false))))))) else (none))=some r:=by first|(rw [hy594];with_reducible exact H)|(have H2_:=(Option.bind_some _ _).symm.trans H;rw [hy594];with_reducible exact H2_)|(have H2_:=(Option.bind_some _ _).symm.trans H;with_reducible exact H2_)|with_reducible exact H|(rw [hy594];exact H)|exact H
       have Ny594:=Aside0.mk hy594
       clear hy594
       obtain ⟨ji16,hji16⟩ : ∃ j_ : Int,(wrap64 ((ji10) + (Int.tmod (wrap64 (a2_1)) (wrap64 ((wrap64 ((t581.length : Int) - (ji10))) + 1)))))=j_:=⟨_,rfl⟩
       replace H : (if 0≤(ji16) then ((merge_Rows.f k t571 t574 t575 t576 (([y584,y589,y594,(t581.drop ((ji16) : Int).toNat)] : List (List (List (S31)))))).bind fun t605=>((thresherref04_Rows.f k t605 t581).bind fun t608=>((merge_Folded.f k t571 t574 t575 t576 (([(t581.take ((ji10) : Int).toNat),(t581.drop ((ji10) : Int).toNat)] : List (List (List (S31)))))).bind fun t622=>((merge_Folded.f k t571 t574 t575 t576 (([t581] : List (List (List (S31)))))).bind fun t628=>((thresherref04_Rows.f k t622 t628).bind fun t631=>(if t570=true then (if t608=true then (thresherlaw14_MergeHalves.j0 k t631) else (thresherlaw14_MergeHalves.j0 k false)) else (thresherlaw14_MergeHalves.j0 k false))))))) else (none))=some r:=by first|(rw [hji16] at H;exact H)|(simp only [hji16] at H ⊢;exact H)
       (try rw [hji16] at c14b0)
       (try rw [hji16] at c14)
       (try rw [hji16] at c14b1)
       (try rw [hji16] at c14)
       (try rw [hji16] at c15b0)
       (try rw [hji16] at c15)
       (try rw [hji16] at c15b1)
       (try rw [hji16] at c15)
       (try rw [hji16] at A4)
       (try rw [hji16] at A5)
       (try rw [hji16] at A6)
       (try rw [hji16] at A7)
       (try rw [hji16] at Ny589)
       have hji16w : (IntKind.i64.wrap ((ji10) + (Int.tmod (wrap64 (a2_1)) (wrap64 ((wrap64 ((t581.length : Int) - (ji10))) + 1)))))=ji16:=(i64_w _).trans hji16
       by_cases c17 : 0≤(ji16)
       ·rw [if_pos c17] at H
        have c17b0:=eq_true c17
        have c17b1 : decide (0≤(ji16))=true:=decide_eq_true c17
        clear c17
        have c18b0:=eq_true (of_decide_eq_true (by first|(with_reducible assumption)|assumption) : (ji16)≤(t581.length : Int))
        obtain ⟨y597,hy597⟩ : ∃ y_ : List (List (S31)),y_=(t581.drop ((ji16) : Int).toNat):=⟨_,rfl⟩
        replace H : ((merge_Rows.f k t571 t574 t575 t576 (([y584,y589,y594,y597] : List (List (List (S31)))))).bind fun t605=>((thresherref04_Rows.f k t605 t581).bind fun t608=>((merge_Folded.f k t571 t574 t575 t576 (([(t581.take ((ji10) : Int).toNat),(t581.drop ((ji10) : Int).toNat)] : List (List (List (S31)))))).bind fun t622=>((merge_Folded.f k t571 t574 t575 t576 (([t581] : List (List (List (S31)))))).bind fun t628=>((thresherref04_Rows.f k t622 t628).bind fun t631=>(if t570=true then (if t608=true then (thresherlaw14_MergeHalves.j0 k t631) else (thresherlaw14_MergeHalves.j0 k false)) else (thresherlaw14_MergeHalves.j0 k false)))))))=some r:=by first|(rw [hy597];with_reducible exact H)|(have H2_:=(Option.bind_some _ _).symm.trans H;rw [hy597];with_reducible exact H2_)|(have H2_:=(Option.bind_some _ _).symm.trans H;with_reducible exact H2_)|with_reducible exact H|(rw [hy597];exact H)|exact H
        have Ny597:=Aside0.mk hy597
        clear hy597
        obtain ⟨y602,hy602⟩ : ∃ y_ : List (List (List (S31))),y_=(([y584,y589,y594,y597] : List (List (List (S31))))):=⟨_,rfl⟩
        replace H : ((merge_Rows.f k t571 t574 t575 t576 y602).bind fun t605=>((thresherref04_Rows.f k t605 t581).bind fun t608=>((merge_Folded.f k t571 t574 t575 t576 (([(t581.take ((ji10) : Int).toNat),(t581.drop ((ji10) : Int).toNat)] : List (List (List (S31)))))).bind fun t622=>((merge_Folded.f k t571 t574 t575 t576 (([t581] : List (List (List (S31)))))).bind fun t628=>((thresherref04_Rows.f k t622 t628).bind fun t631=>(if t570=true then (if t608=true then (thresherlaw14_MergeHalves.j0 k t631) else (thresherlaw14_MergeHalves.j0 k false)) else (thresherlaw14_MergeHalves.j0 k false)))))))=some r:=by first|(rw [hy602];with_reducible exact H)|(have H2_:=(Option.bind_some _ _).symm.trans H;rw [hy602];with_reducible exact H2_)|(have H2_:=(Option.bind_some _ _).symm.trans H;with_reducible exact H2_)|with_reducible exact H|(rw [hy602];exact H)|exact H
        have Ny602:=Aside0.mk hy602
        clear hy602
        replace H:=Option.bind_eq_some_iff.mp H
        obtain ⟨t605,A190,H⟩:=H
        replace H : ((thresherref04_Rows.f k t605 t581).bind fun t608=>((merge_Folded.f k t571 t574 t575 t576 (([(t581.take ((ji10) : Int).toNat),(t581.drop ((ji10) : Int).toNat)] : List (List (List (S31)))))).bind fun t622=>((merge_Folded.f k t571 t574 t575 t576 (([t581] : List (List (List (S31)))))).bind fun t628=>((thresherref04_Rows.f k t622 t628).bind fun t631=>(if t570=true then (if t608=true then (thresherlaw14_MergeHalves.j0 k t631) else (thresherlaw14_MergeHalves.j0 k false)) else (thresherlaw14_MergeHalves.j0 k false))))))=some r:=H
        have A19:=Aside0.mk A190
        clear A190
        replace H:=Option.bind_eq_some_iff.mp H
        obtain ⟨t608,A200,H⟩:=H
        replace H : ((merge_Folded.f k t571 t574 t575 t576 (([(t581.take ((ji10) : Int).toNat),(t581.drop ((ji10) : Int).toNat)] : List (List (List (S31)))))).bind fun t622=>((merge_Folded.f k t571 t574 t575 t576 (([t581] : List (List (List (S31)))))).bind fun t628=>((thresherref04_Rows.f k t622 t628).bind fun t631=>(if t570=true then (if t608=true then (thresherlaw14_MergeHalves.j0 k t631) else (thresherlaw14_MergeHalves.j0 k false)) else (thresherlaw14_MergeHalves.j0 k false)))))=some r:=H
        have A20:=Aside0.mk A200
        clear A200
        have c21b0:=eq_true (of_decide_eq_true (by first|(with_reducible assumption)|assumption) : 0≤(ji10))
        have c22b0:=eq_true (of_decide_eq_true (by first|(with_reducible assumption)|assumption) : (ji10)≤(t581.length : Int))
        have hy609 : y584=(t581.take ((ji10) : Int).toNat):=Ny584.out
        replace H : ((merge_Folded.f k t571 t574 t575 t576 (([y584,(t581.drop ((ji10) : Int).toNat)] : List (List (List (S31)))))).bind fun t622=>((merge_Folded.f k t571 t574 t575 t576 (([t581] : List (List (List (S31)))))).bind fun t628=>((thresherref04_Rows.f k t622 t628).bind fun t631=>(if t570=true then (if t608=true then (thresherlaw14_MergeHalves.j0 k t631) else (thresherlaw14_MergeHalves.j0 k false)) else (thresherlaw14_MergeHalves.j0 k false)))))=some r:=by first|(rw [hy609];with_reducible exact H)|(have H2_:=(Option.bind_some _ _).symm.trans H;rw [hy609];with_reducible exact H2_)|(have H2_:=(Option.bind_some _ _).symm.trans H;with_reducible exact H2_)|with_reducible exact H|(rw [hy609];exact H)|exact H
        have Ny609:=Aside0.mk hy609
        clear hy609
        have c23b0:=eq_true (of_decide_eq_true (by first|(with_reducible assumption)|assumption) : 0≤(ji10))
        have c24b0:=eq_true (of_decide_eq_true (by first|(with_reducible assumption)|assumption) : (ji10)≤(t581.length : Int))
        obtain ⟨y614,hy614⟩ : ∃ y_ : List (List (S31)),y_=(t581.drop ((ji10) : Int).toNat):=⟨_,rfl⟩
        replace H : ((merge_Folded.f k t571 t574 t575 t576 (([y584,y614] : List (List (List (S31)))))).bind fun t622=>((merge_Folded.f k t571 t574 t575 t576 (([t581] : List (List (List (S31)))))).bind fun t628=>((thresherref04_Rows.f k t622 t628).bind fun t631=>(if t570=true then (if t608=true then (thresherlaw14_MergeHalves.j0 k t631) else (thresherlaw14_MergeHalves.j0 k false)) else (thresherlaw14_MergeHalves.j0 k false)))))=some r:=by first|(rw [hy614];with_reducible exact H)|(have H2_:=(Option.bind_some _ _).symm.trans H;rw [hy614];with_reducible exact H2_)|(have H2_:=(Option.bind_some _ _).symm.trans H;with_reducible exact H2_)|with_reducible exact H|(rw [hy614];exact H)|exact H
        have Ny614:=Aside0.mk hy614
        clear hy614
        obtain ⟨y619,hy619⟩ : ∃ y_ : List (List (List (S31))),y_=(([y584,y614] : List (List (List (S31))))):=⟨_,rfl⟩
        replace H : ((merge_Folded.f k t571 t574 t575 t576 y619).bind fun t622=>((merge_Folded.f k t571 t574 t575 t576 (([t581] : List (List (List (S31)))))).bind fun t628=>((thresherref04_Rows.f k t622 t628).bind fun t631=>(if t570=true then (if t608=true then (thresherlaw14_MergeHalves.j0 k t631) else (thresherlaw14_MergeHalves.j0 k false)) else (thresherlaw14_MergeHalves.j0 k false)))))=some r:=by first|(rw [hy619];with_reducible exact H)|(have H2_:=(Option.bind_some _ _).symm.trans H;rw [hy619];with_reducible exact H2_)|(have H2_:=(Option.bind_some _ _).symm.trans H;with_reducible exact H2_)|with_reducible exact H|(rw [hy619];exact H)|exact H
        have Ny619:=Aside0.mk hy619
        clear hy619
        replace H:=Option.bind_eq_some_iff.mp H
        obtain ⟨t622,A250,H⟩:=H
        replace H : ((merge_Folded.f k t571 t574 t575 t576 (([t581] : List (List (List (S31)))))).bind fun t628=>((thresherref04_Rows.f k t622 t628).bind fun t631=>(if t570=true then (if t608=true then (thresherlaw14_MergeHalves.j0 k t631) else (thresherlaw14_MergeHalves.j0 k false)) else (thresherlaw14_MergeHalves.j0 k false))))=some r:=H
        have A25:=Aside0.mk A250
        clear A250
        obtain ⟨y625,hy625⟩ : ∃ y_ : List (List (List (S31))),y_=(([t581] : List (List (List (S31))))):=⟨_,rfl⟩
        replace H : ((merge_Folded.f k t571 t574 t575 t576 y625).bind fun t628=>((thresherref04_Rows.f k t622 t628).bind fun t631=>(if t570=true then (if t608=true then (thresherlaw14_MergeHalves.j0 k t631) else (thresherlaw14_MergeHalves.j0 k false)) else (thresherlaw14_MergeHalves.j0 k false))))=some r:=by first|(rw [hy625];with_reducible exact H)|(have H2_:=(Option.bind_some _ _).symm.trans H;rw [hy625];with_reducible exact H2_)|(have H2_:=(Option.bind_some _ _).symm.trans H;with_reducible exact H2_)|with_reducible exact H|(rw [hy625];exact H)|exact H
        have Ny625:=Aside0.mk hy625
        clear hy625
        replace H:=Option.bind_eq_some_iff.mp H
        obtain ⟨t628,A260,H⟩:=H
        replace H : ((thresherref04_Rows.f k t622 t628).bind fun t631=>(if t570=true then (if t608=true then (thresherlaw14_MergeHalves.j0 k t631) else (thresherlaw14_MergeHalves.j0 k false)) else (thresherlaw14_MergeHalves.j0 k false)))=some r:=H
        have A26:=Aside0.mk A260
        clear A260
        replace H:=Option.bind_eq_some_iff.mp H
        obtain ⟨t631,A270,H⟩:=H
        replace H : (if t570=true then (if t608=true then (thresherlaw14_MergeHalves.j0 k t631) else (thresherlaw14_MergeHalves.j0 k false)) else (thresherlaw14_MergeHalves.j0 k false))=some r:=H
        have A27:=Aside0.mk A270
        clear A270
        have HC28:=Aside0.mk H
        clear H
        go_enter Try.func7,Try.ntmps7
        try go_wp2_with (first|((with_reducible refine gate_dst (N:=3) rfl ?_);refine box_event ?hg (N:=3) ?hd (cs:=#[.int .u8 a0_0,.int .u8 a0_1,.int .u8 a0_2,.int .u8 a0_3,.int .u8 a0_4,.int .u8 a0_5,.int .u8 a0_6,.int .u8 a0_7,.int .u8 a0_8,.int .u8 a0_9,.int .u8 a0_10,.int .u8 a0_11]) (t:=38) ?hr ?_;(case hd=>rfl);(case hg=>rfl);(case hr=>first|(go_simp;done)|(go_simp;rfl));intro gb568 hg w29 hbox hb;have n0_:=Aside0.mk (below_step (below_up HB.out) hb);have n1_:=Aside0.mk (hbox);have n2_:=Aside0.mk ((by rw [hg];exact (below_size (below_up HB.out)) : w.heap.size≤gb568));have n3_:=Aside0.mk ((by rw [hg];exact (below_size (below_up HB.out)) : w.heap.size≤gb568));clear HB;have HB:=n0_;have BK568:=n1_;have GW568:=n2_;have GE568:=n3_;clear n0_ n1_ n2_ n3_;clear hb hbox hg)|((with_reducible refine gate_dst (N:=5) rfl ?_);refine box_event ?hg (N:=5) ?hd (cs:=#[.int .u8 a2_0,.int .u8 a2_1]) (t:=43) ?hr ?_;(case hd=>rfl);(case hg=>rfl);(case hr=>first|(go_simp;done)|(go_simp;rfl));intro gb569 hg w30 hbox hb;have n0_:=Aside0.mk (blk_below (blk_up BK568.out) hb);have n1_:=Aside0.mk (below_step (below_go HB.out) hb);have n2_:=Aside0.mk (hbox);have n3_:=Aside0.mk ((by rw [hg];exact (below_size (below_go HB.out)) : w.heap.size≤gb569));have n4_:=Aside0.mk ((by rw [hg];exact (below_size (below_go HB.out)) : w.heap.size≤gb569));have n5_:=Aside0.mk ((by rw [hg];exact Nat.ne_of_lt (blk_lt (blk_up BK568.out)) : gb568≠gb569));have n6_:=Aside0.mk ((by rw [hg];exact Nat.ne_of_gt (blk_lt (blk_up BK568.out)) : gb569≠gb568));clear BK568;clear HB;have BK568:=n0_;have HB:=n1_;have BK569:=n2_;have GW569:=n3_;have GE569:=n4_;have NB568_569:=n5_;have NB569_568:=n6_;clear n0_ n1_ n2_ n3_ n4_ n5_ n6_;clear hb hbox hg)|((with_reducible refine gate_callee (f:=8) rfl ?_);refine goesL_ (some 15) rfl rfl Try.func8 (by kernel_rfl) rfl #[] rfl (by (try simp only [List.map_toArray,List.map_cons,List.map_nil]);first|done|rfl|(simp only [List.length_drop,List.length_take];rfl)) ?_;(with_reducible refine (thresherlaw14_shown.calls k  t570 _ A4.out).mono ?_);rintro e w31 ⟨rfl,hb⟩;refine ⟨_,rfl,?_⟩;have n0_:=Aside0.mk (blk_below (blk_up BK568.out) hb);have n1_:=Aside0.mk (blk_below (blk_up BK569.out) hb);have n2_:=Aside0.mk (below_step (below_go HB.out) hb);clear BK568;clear BK569;clear HB;have BK568:=n0_;have BK569:=n1_;have HB:=n2_;clear n0_ n1_ n2_;(try clear hb);(try clear hb2);(try clear hk);(try clear hi);have hnb32:=NB568_569.out;have hnc32:=NB569_568.out;have hcz33_0 : w31.cell? ⟨gb568,0,none⟩=some (.int .u8 a0_0):=(blk_cell BK568.out 0).trans rfl;have hcz33_1 : w31.cell? ⟨gb568,1,none⟩=some (.int .u8 a0_1):=(blk_cell BK568.out 1).trans rfl;have hcz33_2 : w31.cell? ⟨gb568,2,none⟩=some (.int .u8 a0_2):=(blk_cell BK568.out 2).trans rfl;have hcz33_3 : w31.cell? ⟨gb568,3,none⟩=some (.int .u8 a0_3):=(blk_cell BK568.out 3).trans rfl;have hcz33_4 : w31.cell? ⟨gb568,4,none⟩=some (.int .u8 a0_4):=(blk_cell BK568.out 4).trans rfl;have hcz33_5 : w31.cell? ⟨gb568,5,none⟩=some (.int .u8 a0_5):=(blk_cell BK568.out 5).trans rfl;have hcz33_6 : w31.cell? ⟨gb568,6,none⟩=some (.int .u8 a0_6):=(blk_cell BK568.out 6).trans rfl;have hcz33_7 : w31.cell? ⟨gb568,7,none⟩=some (.int .u8 a0_7):=(blk_cell BK568.out 7).trans rfl;have hcz33_8 : w31.cell? ⟨gb568,8,none⟩=some (.int .u8 a0_8):=(blk_cell BK568.out 8).trans rfl;have hcz33_9 : w31.cell? ⟨gb568,9,none⟩=some (.int .u8 a0_9):=(blk_cell BK568.out 9).trans rfl;have hcz33_10 : w31.cell? ⟨gb568,10,none⟩=some (.int .u8 a0_10):=(blk_cell BK568.out 10).trans rfl;have hcz33_11 : w31.cell? ⟨gb568,11,none⟩=some (.int .u8 a0_11):=(blk_cell BK568.out 11).trans rfl;have hfz33_0:=blk_frozen BK568.out 0;have hfz33_1:=blk_frozen BK568.out 1;have hfz33_2:=blk_frozen BK568.out 2;have hfz33_3:=blk_frozen BK568.out 3;have hfz33_4:=blk_frozen BK568.out 4;have hfz33_5:=blk_frozen BK568.out 5;have hfz33_6:=blk_frozen BK568.out 6;have hfz33_7:=blk_frozen BK568.out 7;have hfz33_8:=blk_frozen BK568.out 8;have hfz33_9:=blk_frozen BK568.out 9;have hfz33_10:=blk_frozen BK568.out 10;have hfz33_11:=blk_frozen BK568.out 11)|((with_reducible refine gate_callee (f:=10) rfl ?_);refine goesL_ (some 17) rfl rfl Try.func10 (by kernel_rfl) rfl #[.agg #[.int .u8 a0_0,.int .u8 a0_1,.int .u8 a0_2,.int .u8 a0_3,.int .u8 a0_4,.int .u8 a0_5,.int .u8 a0_6,.int .u8 a0_7,.int .u8 a0_8,.int .u8 a0_9,.int .u8 a0_10,.int .u8 a0_11]] rfl (by (try simp only [List.map_toArray,List.map_cons,List.map_nil]);first|done|rfl|(simp only [List.length_drop,List.length_take];rfl)) ?_;(with_reducible refine (thresherlaw14_made.calls k a0_0 a0_1 a0_2 a0_3 a0_4 a0_5 a0_6 a0_7 a0_8 a0_9 a0_10 a0_11 t571 t574 t575 t576 _ A5.out).mono ?_);rintro e w34 ⟨v572,rfl,ho0,hb⟩;refine ⟨_,rfl,?_⟩;have n0_:=Aside0.mk (Kd.R_lower ho0 (below_size (below_go HB.out)));have n1_:=Aside0.mk (blk_below (blk_up BK568.out) hb);have n2_:=Aside0.mk (blk_below (blk_up BK569.out) hb);have n3_:=Aside0.mk (below_step (below_go HB.out) hb);clear BK568;clear BK569;clear HB;have HO573:=n0_;have BK568:=n1_;have BK569:=n2_;have HB:=n3_;clear n0_ n1_ n2_ n3_;(try clear hb);(try clear hb2);(try clear hk);(try clear hi);(try clear ho0))|((with_reducible refine gate_dst (N:=8) rfl ?_);refine box_event ?hg (N:=8) ?hd (cs:=#[.slice none 0 0,.int .i64 0,.int .i64 0,.int .i64 0]) (t:=26) ?hr ?_;(case hd=>rfl);(case hg=>rfl);(case hr=>first|(go_simp;done)|(go_simp;rfl));intro gb577 hg w35 hbox hb;have n0_:=Aside0.mk (Kd.R_below (R_up HO573.out) hb);have n1_:=Aside0.mk (blk_below (blk_up BK568.out) hb);have n2_:=Aside0.mk (blk_below (blk_up BK569.out) hb);have n3_:=Aside0.mk (below_step (below_go HB.out) hb);have n4_:=Aside0.mk (hbox);have n5_:=Aside0.mk ((by rw [hg];exact (below_size (below_go HB.out)) : w.heap.size≤gb577));have n6_:=Aside0.mk ((by rw [hg];exact (below_size (below_go HB.out)) : w.heap.size≤gb577));have n7_:=Aside0.mk ((by rw [hg];exact Nat.ne_of_lt (blk_lt (blk_up BK568.out)) : gb568≠gb577));have n8_:=Aside0.mk ((by rw [hg];exact Nat.ne_of_gt (blk_lt (blk_up BK568.out)) : gb577≠gb568));have n9_:=Aside0.mk ((by rw [hg];exact Nat.ne_of_lt (blk_lt (blk_up BK569.out)) : gb569≠gb577));have n10_:=Aside0.mk ((by rw [hg];exact Nat.ne_of_gt (blk_lt (blk_up BK569.out)) : gb577≠gb569));clear HO573;clear BK568;clear BK569;clear HB;have HO573:=n0_;have BK568:=n1_;have BK569:=n2_;have HB:=n3_;have BK577:=n4_;have GW577:=n5_;have GE577:=n6_;have NB568_577:=n7_;have NB577_568:=n8_;have NB569_577:=n9_;have NB577_569:=n10_;clear n0_ n1_ n2_ n3_ n4_ n5_ n6_ n7_ n8_ n9_ n10_;clear hb hbox hg;obtain ⟨Ao36,co36,eo36⟩:=Kd.R_slice HO573.out;subst eo36;have hnb37:=NB577_568.out;have hnc37:=NB568_577.out;have hnb38:=NB577_569.out;have hnc38:=NB569_577.out;have hcz39_0 : w35.cell? ⟨gb577,0,none⟩=some (.slice none 0 0):=(blk_cell BK577.out 0).trans rfl;have hcz39_1 : w35.cell? ⟨gb577,1,none⟩=some (.int .i64 0):=(blk_cell BK577.out 1).trans rfl;have hcz39_2 : w35.cell? ⟨gb577,2,none⟩=some (.int .i64 0):=(blk_cell BK577.out 2).trans rfl;have hcz39_3 : w35.cell? ⟨gb577,3,none⟩=some (.int .i64 0):=(blk_cell BK577.out 3).trans rfl;have hfz39_0:=blk_frozen BK577.out 0;have hfz39_1:=blk_frozen BK577.out 1;have hfz39_2:=blk_frozen BK577.out 2;have hfz39_3:=blk_frozen BK577.out 3))
        have n0_ : Aside0 (Kd.R (Kd.int .i64) 3 ((((w35.setCell ⟨gb577,0,none⟩ (.slice Ao36 t571.length co36)).setCell ⟨gb577,1,none⟩ (.int .i64 t574)).setCell ⟨gb577,2,none⟩ (.int .i64 t575)).setCell ⟨gb577,3,none⟩ (.int .i64 t576)) w.heap.size (fun _=>True) (.slice Ao36 t571.length co36) t571):=⟨by (with_reducible repeat (first|apply Kd.R_alloc|apply Kd.R_drewN|apply Kd.R_drew));exact Kd.R_mono (Kd.R_far (p:=⟨gb577,3,none⟩) (Kd.R_far (p:=⟨gb577,2,none⟩) (Kd.R_far (p:=⟨gb577,1,none⟩) (Kd.R_far (p:=⟨gb577,0,none⟩) (Kd.R_types HO573.out BK577.out (by decide)) (fun _ hk=>hk.2) (.slice Ao36 t571.length co36)) (fun _ hk=>hk.2) (.int .i64 t574)) (fun _ hk=>hk.2) (.int .i64 t575)) (fun _ hk=>hk.2) (.int .i64 t576)) (fun _ hk=>trivial)⟩
        have n1_ : Aside0 (((((w35.setCell ⟨gb577,0,none⟩ (.slice Ao36 t571.length co36)).setCell ⟨gb577,1,none⟩ (.int .i64 t574)).setCell ⟨gb577,2,none⟩ (.int .i64 t575)).setCell ⟨gb577,3,none⟩ (.int .i64 t576)).heap[gb568]?=some (.cells #[.int .u8 a0_0,.int .u8 a0_1,.int .u8 a0_2,.int .u8 a0_3,.int .u8 a0_4,.int .u8 a0_5,.int .u8 a0_6,.int .u8 a0_7,.int .u8 a0_8,.int .u8 a0_9,.int .u8 a0_10,.int .u8 a0_11] 38 (0,0))):=⟨by (with_reducible repeat (first|refine blk_drewN ?_ _|refine blk_drew ?_|refine blk_alloc ?_ _));refine blk_far ?_ NB568_577.out _;(with_reducible repeat (first|refine blk_drewN ?_ _|refine blk_drew ?_|refine blk_alloc ?_ _));refine blk_far ?_ NB568_577.out _;(with_reducible repeat (first|refine blk_drewN ?_ _|refine blk_drew ?_|refine blk_alloc ?_ _));refine blk_far ?_ NB568_577.out _;(with_reducible repeat (first|refine blk_drewN ?_ _|refine blk_drew ?_|refine blk_alloc ?_ _));refine blk_far ?_ NB568_577.out _;(with_reducible repeat (first|refine blk_drewN ?_ _|refine blk_drew ?_|refine blk_alloc ?_ _));exact BK568.out⟩
        have n2_ : Aside0 (((((w35.setCell ⟨gb577,0,none⟩ (.slice Ao36 t571.length co36)).setCell ⟨gb577,1,none⟩ (.int .i64 t574)).setCell ⟨gb577,2,none⟩ (.int .i64 t575)).setCell ⟨gb577,3,none⟩ (.int .i64 t576)).heap[gb569]?=some (.cells #[.int .u8 a2_0,.int .u8 a2_1] 43 (0,0))):=⟨by (with_reducible repeat (first|refine blk_drewN ?_ _|refine blk_drew ?_|refine blk_alloc ?_ _));refine blk_far ?_ NB569_577.out _;(with_reducible repeat (first|refine blk_drewN ?_ _|refine blk_drew ?_|refine blk_alloc ?_ _));refine blk_far ?_ NB569_577.out _;(with_reducible repeat (first|refine blk_drewN ?_ _|refine blk_drew ?_|refine blk_alloc ?_ _));refine blk_far ?_ NB569_577.out _;(with_reducible repeat (first|refine blk_drewN ?_ _|refine blk_drew ?_|refine blk_alloc ?_ _));refine blk_far ?_ NB569_577.out _;(with_reducible repeat (first|refine blk_drewN ?_ _|refine blk_drew ?_|refine blk_alloc ?_ _));exact BK569.out⟩
        have n3_ : Aside0 (((((w35.setCell ⟨gb577,0,none⟩ (.slice Ao36 t571.length co36)).setCell ⟨gb577,1,none⟩ (.int .i64 t574)).setCell ⟨gb577,2,none⟩ (.int .i64 t575)).setCell ⟨gb577,3,none⟩ (.int .i64 t576)).heap[gb577]?=some (.cells #[.slice Ao36 t571.length co36,.int .i64 t574,.int .i64 t575,.int .i64 t576] 26 (0,0))):=⟨by (with_reducible repeat (first|refine blk_drewN ?_ _|refine blk_drew ?_|refine blk_alloc ?_ _));refine blk_put (cs:=#[.slice Ao36 t571.length co36,.int .i64 t574,.int .i64 t575,.int .i64 0]) ?_ 3 _ rfl;(with_reducible repeat (first|refine blk_drewN ?_ _|refine blk_drew ?_|refine blk_alloc ?_ _));refine blk_put (cs:=#[.slice Ao36 t571.length co36,.int .i64 t574,.int .i64 0,.int .i64 0]) ?_ 2 _ rfl;(with_reducible repeat (first|refine blk_drewN ?_ _|refine blk_drew ?_|refine blk_alloc ?_ _));refine blk_put (cs:=#[.slice Ao36 t571.length co36,.int .i64 0,.int .i64 0,.int .i64 0]) ?_ 1 _ rfl;(with_reducible repeat (first|refine blk_drewN ?_ _|refine blk_drew ?_|refine blk_alloc ?_ _));refine blk_put (cs:=#[.slice none 0 0,.int .i64 0,.int .i64 0,.int .i64 0]) ?_ 0 _ rfl;(with_reducible repeat (first|refine blk_drewN ?_ _|refine blk_drew ?_|refine blk_alloc ?_ _));exact BK577.out⟩
        have n4_ : Aside0 (Below w.heap.size w ((((w35.setCell ⟨gb577,0,none⟩ (.slice Ao36 t571.length co36)).setCell ⟨gb577,1,none⟩ (.int .i64 t574)).setCell ⟨gb577,2,none⟩ (.int .i64 t575)).setCell ⟨gb577,3,none⟩ (.int .i64 t576))):=⟨by repeat (first|(with_reducible first|exact HB.out|apply below_alloc|apply pw_below_drewN|apply below_drew1|refine below_set ?_ GE568.out|refine below_set ?_ GE569.out|refine below_set ?_ GE577.out)|exact HB.out)⟩
        (try clear HO573)
        (try clear BK568)
        (try clear BK569)
        (try clear BK577)
        (try clear HB)
        generalize ((((w35.setCell ⟨gb577,0,none⟩ (.slice Ao36 t571.length co36)).setCell ⟨gb577,1,none⟩ (.int .i64 t574)).setCell ⟨gb577,2,none⟩ (.int .i64 t575)).setCell ⟨gb577,3,none⟩ (.int .i64 t576))=w40 at n0_ n1_ n2_ n3_ n4_ ⊢
        have HO573:=n0_
        have BK568:=n1_
        have BK569:=n2_
        have BK577:=n3_
        have HB:=n4_
        clear n0_ n1_ n2_ n3_ n4_
        have n0_:=Aside0.mk (Kd.R_drew HO573.out)
        have n1_:=Aside0.mk (blk_drew BK568.out)
        have n2_:=Aside0.mk (blk_drew BK569.out)
        have n3_:=Aside0.mk (blk_drew BK577.out)
        have n4_:=Aside0.mk (below_drew1 HB.out)
        clear HO573
        clear BK568
        clear BK569
        clear BK577
        clear HB
        have HO573:=n0_
        have BK568:=n1_
        have BK569:=n2_
        have BK577:=n3_
        have HB:=n4_
        clear n0_ n1_ n2_ n3_ n4_
        refine start_ (n:=6) (S:=fun w'=>w'.cell? ⟨gb577,0,none⟩=some (.slice Ao36 t571.length co36)∧w'.cell? ⟨gb577,1,none⟩=some (.int .i64 t574)∧w'.cell? ⟨gb577,2,none⟩=some (.int .i64 t575)∧w'.cell? ⟨gb577,3,none⟩=some (.int .i64 t576)) (ds:=[]) #[false,false,false,false,false,false] (by kernel_rfl) rfl rfl ⟨(blk_cell BK577.out 0).trans rfl,(blk_cell BK577.out 1).trans rfl,(blk_cell BK577.out 2).trans rfl,(blk_cell BK577.out 3).trans rfl⟩ (fun hHeld=>?_)
        generalize w40.drew=w41 at HO573 BK568 BK569 BK577 HB hHeld ⊢
        refine pure_ (i:=2) (N:=some 20) (v:=?_) (a':=?_) #[false,false,true,false,false,false] rfl rfl (by kernel_rfl) (fun _ _ _ h=>h) (Or.inl ⟨by rfl,?_⟩) ?_ ?_
        rotate_left;(intro w';go_simp;with_reducible rfl);rotate_left;(simp only [Act.put,List.setIfInBounds_toArray,List.set_cons_zero,List.set_cons_succ,i64_w,i32_w];rfl)
        refine take_ (i:=0) (N:=some 18) (v:=?_) (a':=?_) #[true,false,true,false,false,false] rfl rfl (by kernel_rfl) (fun _ _ _ h=>h) (Or.inl ⟨by rfl,?_⟩) hHeld ?_ ?_
        rotate_left;(rintro w' ⟨s0,s1,s2,s3⟩;go_simp;with_reducible rfl);rotate_left;(simp only [Act.put,List.setIfInBounds_toArray,List.set_cons_zero,List.set_cons_succ,i64_w,i32_w];rfl)
        refine take_ (i:=1) (N:=some 19) (v:=?_) (a':=?_) #[true,true,true,false,false,false] rfl rfl (by kernel_rfl) (fun _ _ _ h=>h) (Or.inl ⟨by rfl,?_⟩) hHeld ?_ ?_
        rotate_left;(rintro w' ⟨s0,s1,s2,s3⟩;go_simp;with_reducible rfl);rotate_left;(simp only [Act.put,List.setIfInBounds_toArray,List.set_cons_zero,List.set_cons_succ,i64_w,i32_w];rfl)
        refine one_ (i:=3) (N:=some 21) #[true,true,true,true,false,false] rfl rfl (by kernel_rfl) (by decide) (fun K hK=>?_)
        refine goes_ Try.func18 (by kernel_rfl) rfl #[.agg #[.slice Ao36 t571.length co36,.int .i64 t574,.int .i64 t575,.int .i64 t576],.slice A1 l1.length c1,.int .i64 60] (by rfl) rfl rfl (by (try simp only [List.map_toArray,List.map_cons,List.map_nil]);first|done|rfl|(simp only [List.length_drop,List.length_take];rfl)) ?_
        with_reducible refine (thresherref04_Fits.calls k _ _ t571 t574 t575 t576 _ _ l1 60 t578 _ ?side1 ?side2 ?side3 ?side4 A6.out).mono ?_
        (case side1=>repeat (first|exact (Kd.R_reads' HO573.out).2.2|(with_reducible refine Kd.C_alloc ?_ _)|(with_reducible refine Kd.C_drewN ?_ _)|(with_reducible refine Kd.C_drew ?_)))
        (case side2=>exact (Kd.R_reads' HO573.out).2.1)
        (case side3=>repeat (first|exact (Kd.C_below HR1.out HB.out)|(with_reducible refine Kd.C_alloc ?_ _)|(with_reducible refine Kd.C_drewN ?_ _)|(with_reducible refine Kd.C_drew ?_)))
        (case side4=>exact HC1.out)
        rintro e w42 ⟨v579,rfl,ho0,hb⟩
        refine ⟨_,rfl,?_⟩
        have n0_:=Aside0.mk (Kd.R_below (R_up HO573.out) hb)
        have n1_:=Aside0.mk (Kd.N_lower (Kd.N_mono (ok':=fun k_=>some k_≠(.slice Ao36 t571.length co36 : Value).ownBlock∧k_≠gb568∧k_≠gb569∧k_≠gb577) (Kd.S_N (Kd.S_bound ho0)) (fun k_ hk_=>⟨(Kd.fresh' (Kd.R_lt (R_up HO573.out)) k_ hk_.2.1),(Kd.freshB (blk_up BK568.out) k_ hk_.2.1),(Kd.freshB (blk_up BK569.out) k_ hk_.2.1),(Kd.freshB (blk_up BK577.out) k_ hk_.2.1)⟩)) (below_size (below_go HB.out)))
        have n2_:=Aside0.mk (blk_below (blk_up BK568.out) hb)
        have n3_:=Aside0.mk (blk_below (blk_up BK569.out) hb)
        have n4_:=Aside0.mk (blk_below (blk_up BK577.out) hb)
        have n5_:=Aside0.mk (below_step (below_go HB.out) hb)
        clear HO573
        clear BK568
        clear BK569
        clear BK577
        clear HB
        have HO573:=n0_
        have HO580:=n1_
        have BK568:=n2_
        have BK569:=n3_
        have BK577:=n4_
        have HB:=n5_
        clear n0_ n1_ n2_ n3_ n4_ n5_
        (try clear hb)
        (try clear hb2)
        (try clear hk)
        (try clear hi)
        (try clear ho0)
        obtain ⟨Ao43,co43,eo43⟩:=Kd.N_slice HO580.out
        (first|subst eo43|(injection eo43 with f1_ f2_ f3_;have f4_:=f1_.symm;have f5_:=f3_.symm;clear f1_ f2_ f3_;subst f4_;subst f5_))
        refine hK.out _ _ ⟨(blk_cell BK577.out 0).trans rfl,(blk_cell BK577.out 1).trans rfl,(blk_cell BK577.out 2).trans rfl,(blk_cell BK577.out 3).trans rfl⟩ (fun hHeld=>?_)
        clear hK K
        refine norm_ (a':=?_) ?_ ?_
        rotate_left
        ·show Act.put _ (some 21) _=_
         simp only [Act.put,List.setIfInBounds_toArray,List.set_cons_zero,List.set_cons_succ,i64_w,i32_w]
         rfl
        refine one_ (i:=4) (N:=some 22) #[true,true,true,true,true,false] rfl rfl (by kernel_rfl) (by decide) (fun K hK=>?_)
        refine goes_ Try.func17 (by kernel_rfl) rfl #[.agg #[.slice Ao36 t571.length co36,.int .i64 t574,.int .i64 t575,.int .i64 t576],.slice Ao43 t578.length co43] (by rfl) rfl rfl (by (try simp only [List.map_toArray,List.map_cons,List.map_nil]);first|done|rfl|(simp only [List.length_drop,List.length_take];rfl)) ?_
        with_reducible refine (thresherref09_Sort.calls k _ _ t571 t574 t575 t576 (fun k_=>(some k_≠(.slice Ao36 t571.length co36 : Value).ownBlock∧(k_≠gb568∧(k_≠gb569∧k_≠gb577)))) _ _ t578 t581 _ ?side1 ?side2 ?side3 A7.out).mono ?_
        (case side1=>repeat (first|exact (Kd.R_reads' HO573.out).2.2|(with_reducible refine Kd.C_alloc ?_ _)|(with_reducible refine Kd.C_drewN ?_ _)|(with_reducible refine Kd.C_drew ?_)))
        (case side2=>exact (Kd.R_reads' HO573.out).2.1)
        (case side3=>first|exact Kd.N_V (HO580.out)|exact Kd.N_V (Kd.N_mono HO580.out (fun k_ hk_=>by ((try (simp only [and_assoc] at hk_));(repeat (obtain ⟨_,hk_⟩:=hk_));(repeat' apply And.intro)<;>assumption))))
        rintro e w44 ⟨v582,rfl,ho0,hb⟩
        refine ⟨_,rfl,?_⟩
        have n0_:=Aside0.mk (Kd.R_below (R_up HO573.out) hb)
        have n1_:=Aside0.mk (Kd.N_elder' (N_up HO580.out) (by first|exact Kd.N_base ho0|exact Kd.S_base ho0) hb)
        have n2_:=Aside0.mk (Kd.N_lower (Kd.N_mono (ok':=fun k_=>some k_≠(.slice Ao36 t571.length co36 : Value).ownBlock∧k_≠gb568∧k_≠gb569∧k_≠gb577) ho0 (fun k_ hk_=>⟨Or.elim hk_ (fun hs_=>hs_.1) (fun hn_=>(Kd.fresh' (Kd.R_lt (R_up HO573.out)) k_ hn_)),Or.elim hk_ (fun hs_=>hs_.2.1) (fun hn_=>(Kd.freshB (blk_up BK568.out) k_ hn_)),Or.elim hk_ (fun hs_=>hs_.2.2.1) (fun hn_=>(Kd.freshB (blk_up BK569.out) k_ hn_)),Or.elim hk_ (fun hs_=>hs_.2.2.2) (fun hn_=>(Kd.freshB (blk_up BK577.out) k_ hn_))⟩)) (below_size (below_go HB.out)))
        have n3_:=Aside0.mk (blk_below (blk_up BK568.out) hb)
        have n4_:=Aside0.mk (blk_below (blk_up BK569.out) hb)
        have n5_:=Aside0.mk (blk_below (blk_up BK577.out) hb)
        have n6_:=Aside0.mk (below_step (below_go HB.out) hb)
        clear HO573
        clear HO580
        clear BK568
        clear BK569
        clear BK577
        clear HB
        have HO573:=n0_
        have HO580:=n1_
        have HO583:=n2_
        have BK568:=n3_
        have BK569:=n4_
        have BK577:=n5_
        have HB:=n6_
        clear n0_ n1_ n2_ n3_ n4_ n5_ n6_
        (try clear hb)
        (try clear hb2)
        (try clear hk)
        (try clear hi)
        (try clear ho0)
        refine hK.out _ _ ⟨(blk_cell BK577.out 0).trans rfl,(blk_cell BK577.out 1).trans rfl,(blk_cell BK577.out 2).trans rfl,(blk_cell BK577.out 3).trans rfl⟩ (fun hHeld=>?_)
        clear hK K
        refine norm_ (a':=?_) ?_ ?_
        rotate_left
        ·show Act.put _ (some 22) _=_
         simp only [Act.put,List.setIfInBounds_toArray,List.set_cons_zero,List.set_cons_succ,i64_w,i32_w]
         rfl
        refine pure_ (i:=5) (N:=some 9) (v:=?_) (a':=?_) #[true,true,true,true,true,true] rfl rfl (by kernel_rfl) (fun _ _ _ h=>h) (Or.inl ⟨by rfl,?_⟩) ?_ ?_
        rotate_left;(intro w';go_simp;with_reducible rfl);rotate_left;(simp only [Act.put,List.setIfInBounds_toArray,List.set_cons_zero,List.set_cons_succ,i64_w,i32_w];rfl)
        refine done_ (by kernel_rfl) ?_
        have hcz45_0 : w44.cell? ⟨gb569,0,none⟩=some (.int .u8 a2_0):=(blk_cell BK569.out 0).trans rfl
        have hcz45_1 : w44.cell? ⟨gb569,1,none⟩=some (.int .u8 a2_1):=(blk_cell BK569.out 1).trans rfl
        have hfz45_0:=blk_frozen BK569.out 0
        have hfz45_1:=blk_frozen BK569.out 1
        obtain ⟨Ao46,co46,eo46⟩:=Kd.N_slice HO583.out
        subst eo46
        try go_wp2
        have n0_:=Aside0.mk (Kd.R_drew HO573.out)
        have n1_:=Aside0.mk (Kd.N_drew HO580.out)
        have n2_:=Aside0.mk (Kd.N_drew HO583.out)
        have n3_:=Aside0.mk (blk_drew BK568.out)
        have n4_:=Aside0.mk (blk_drew BK569.out)
        have n5_:=Aside0.mk (blk_drew BK577.out)
        have n6_:=Aside0.mk (below_drew1 HB.out)
        clear HO573
        clear HO580
        clear HO583
        clear BK568
        clear BK569
        clear BK577
        clear HB
        have HO573:=n0_
        have HO580:=n1_
        have HO583:=n2_
        have BK568:=n3_
        have BK569:=n4_
        have BK577:=n5_
        have HB:=n6_
        clear n0_ n1_ n2_ n3_ n4_ n5_ n6_
        have q48 : ((ji10) : Int)≤((t581.length : Int) : Int):=of_decide_eq_true (by first|(with_reducible assumption)|assumption)
        obtain ⟨i048,hi048,_,hsz48,_⟩:=info_parts info33
        have hroom48 : t581.length≤co46:=(Kd.N_reads' HO583.out).2.1
        have hC48 : Kd.F (Kd.slice 31 k31) _ _ Ao46 t581.length t581:=(Kd.V_at (base:=w.heap.size) (Kd.N_V HO583.out)).2.2
        have hcut48:=cut_to (P:=Try.prog) 28 33 .i64 Try.underlying28 hi048 Ao46 t581.length co46 (ji10) (of_decide_eq_true (by first|(with_reducible assumption)|assumption)) q48 hroom48
        have hr48:=Kd.F_take (m:=((ji10) : Int).toNat) hC48 (by omega)
        have hy48 : y584.length=((ji10) : Int).toNat:=(by rw [Ny584.out,List.length_take];omega)
        rw [← Ny584.out] at hr48
        rw [← hy48] at hcut48
        have HO588:=Aside0.mk (show Kd.V (Kd.slice 31 k31) 33 _ w.heap.size _ (.slice Ao46 y584.length co46) y584 from Kd.V_mk (by omega) hr48)
        have HC588:=Aside0.mk (show y584.length≤co46 from by omega)
        clear hr48 hC48 hroom48 hi048 hsz48
        have KY48:=Aside0.mk hy48
        clear hy48
        replace q48:=eq_true q48
        have q49 : ((ji16) : Int)≤((t581.length : Int) : Int):=of_decide_eq_true (by first|(with_reducible assumption)|assumption)
        obtain ⟨i049,hi049,_,hsz49,_⟩:=info_parts info33
        have hroom49 : t581.length≤co46:=(Kd.N_reads' HO583.out).2.1
        have hC49 : Kd.F (Kd.slice 31 k31) _ _ Ao46 t581.length t581:=(Kd.V_at (base:=w.heap.size) (Kd.N_V HO583.out)).2.2
        have ql49 : ((ji10) : Int)≤((ji16) : Int):=of_decide_eq_true (by first|(with_reducible assumption)|assumption)
        have q049 : (0 : Int)≤((ji10) : Int):=of_decide_eq_true (by first|(with_reducible assumption)|assumption)
        have hcut49:=cut_mid (P:=Try.prog) 28 33 .i64 .i64 Try.underlying28 hi049 1 hsz49 Ao46 t581.length co46 (ji10) (ji16) q049 ql49 q49 hroom49
        have hr49:=Kd.F_mid (lo:=((ji10) : Int).toNat) (hi:=((ji16) : Int).toNat) (c:=co46) hC49 (by omega) (by omega) hroom49
        obtain ⟨A49,hA49⟩ : ∃ Z_,Z_=(if co46=((ji10) : Int).toNat then Ao46 else (Ao46 : Option Addr).map (·.add (((ji10) : Int).toNat * 1))):=⟨_,rfl⟩
        obtain ⟨c49,hc49⟩ : ∃ z_,z_=co46 - ((ji10) : Int).toNat:=⟨_,rfl⟩
        have hy49 : y589.length=((ji16) : Int).toNat - ((ji10) : Int).toNat:=(by rw [Ny589.out,List.length_drop,List.length_take] <;> omega)
        rw [show ((t581).take ((ji16) : Int).toNat).drop ((ji10) : Int).toNat=y589 from Ny589.out.symm] at hr49
        replace hr49 : Kd.F (Kd.slice 31 k31) _ _ A49 y589.length y589:=(by rw [hA49];exact hr49)
        rw [← hy49,← hA49,← hc49] at hcut49
        have HO593:=Aside0.mk (show Kd.V (Kd.slice 31 k31) 33 _ w.heap.size _ (.slice A49 y589.length c49) y589 from Kd.V_mk (by rw [hy49,hc49];exact Nat.sub_le_sub_right (Nat.le_trans (by omega) hroom49) _) hr49)
        have HC593:=Aside0.mk (show y589.length≤c49 from by rw [hy49,hc49];exact Nat.sub_le_sub_right (Nat.le_trans (by omega) hroom49) _)
        clear hr49 hC49 hroom49 hi049 hsz49 hc49
        have KY49:=Aside0.mk hy49
        have KA49:=Aside0.mk hA49
        clear hy49 hA49
        replace q49:=eq_true q49
        have q50 : ((ji16) : Int)≤((t581.length : Int) : Int):=of_decide_eq_true (by first|(with_reducible assumption)|assumption)
        obtain ⟨i050,hi050,_,hsz50,_⟩:=info_parts info33
        have hroom50 : t581.length≤co46:=(Kd.N_reads' HO583.out).2.1
        have hC50 : Kd.F (Kd.slice 31 k31) _ _ Ao46 t581.length t581:=(Kd.V_at (base:=w.heap.size) (Kd.N_V HO583.out)).2.2
        have q050 : (0 : Int)≤((ji16) : Int):=of_decide_eq_true (by first|(with_reducible assumption)|assumption)
        have hcut50:=cut_from (P:=Try.prog) 28 33 .i64 Try.underlying28 hi050 1 hsz50 Ao46 t581.length co46 (ji16) q050 q50
        have hr50:=Kd.F_cut (m:=((ji16) : Int).toNat) (c:=co46) hC50 (by omega) hroom50
        obtain ⟨A50,hA50⟩ : ∃ Z_,Z_=(if co46=((ji16) : Int).toNat then Ao46 else (Ao46 : Option Addr).map (·.add (((ji16) : Int).toNat * 1))):=⟨_,rfl⟩
        obtain ⟨c50,hc50⟩ : ∃ z_,z_=co46 - ((ji16) : Int).toNat:=⟨_,rfl⟩
        have hy50 : y597.length=t581.length - ((ji16) : Int).toNat:=(by rw [Ny597.out,List.length_drop] <;> omega)
        rw [show (t581).drop ((ji16) : Int).toNat=y597 from Ny597.out.symm] at hr50
        replace hr50 : Kd.F (Kd.slice 31 k31) _ _ A50 y597.length y597:=(by rw [hA50];exact hr50)
        rw [← hy50,← hA50,← hc50] at hcut50
        have HO601:=Aside0.mk (show Kd.V (Kd.slice 31 k31) 33 _ w.heap.size _ (.slice A50 y597.length c50) y597 from Kd.V_mk (by rw [hy50,hc50];exact Nat.sub_le_sub_right hroom50 _) hr50)
        have HC601:=Aside0.mk (show y597.length≤c50 from by rw [hy50,hc50];exact Nat.sub_le_sub_right hroom50 _)
        clear hr50 hC50 hroom50 hi050 hsz50 hc50
        have KY50:=Aside0.mk hy50
        have KA50:=Aside0.mk hA50
        clear hy50 hA50
        replace q50:=eq_true q50
        refine start_ (n:=15) (S:=fun w'=>w'.cell? ⟨gb577,0,none⟩=some (.slice Ao36 t571.length co36)∧w'.cell? ⟨gb577,1,none⟩=some (.int .i64 t574)∧w'.cell? ⟨gb577,2,none⟩=some (.int .i64 t575)∧w'.cell? ⟨gb577,3,none⟩=some (.int .i64 t576)) (ds:=[]) #[false,false,false,false,false,false,false,false,false,false,false,false,false,false,false] (by kernel_rfl) rfl rfl ⟨(blk_cell BK577.out 0).trans rfl,(blk_cell BK577.out 1).trans rfl,(blk_cell BK577.out 2).trans rfl,(blk_cell BK577.out 3).trans rfl⟩ (fun hHeld=>?_);refine with_tabW thresherlaw14_MergeHalves.tab6 thresherlaw14_MergeHalves.bits6 (fun HT_ HW_=>?_)
        generalize w44.drew=w47 at HO573 HO580 HO583 BK568 BK569 BK577 HB HO588 HO593 HO601 hHeld ⊢
        refine pure_ (i:=1) (N:=some 42) (v:=?_) (a':=?_) #[false,true,false,false,false,false,false,false,false,false,false,false,false,false,false] rfl rfl (any_of HT_.out (by kernel_rfl)) (fun _ _ _ h=>h) (Or.inl ⟨by rfl,?_⟩) ?_ ?_
        rotate_left;(intro w';go_simp;with_reducible rfl);rotate_left;(simp only [Act.put,List.setIfInBounds_toArray,List.set_cons_zero,List.set_cons_succ,i64_w,i32_w];rfl)
        refine pure_ (i:=2) (N:=some 43) (v:=?_) (a':=?_) #[false,true,true,false,false,false,false,false,false,false,false,false,false,false,false] rfl rfl (any_of HT_.out (by kernel_rfl)) (fun _ _ _ h=>h) (Or.inl ⟨by rfl,?_⟩) ?_ ?_
        rotate_left;(intro w';go_simp;with_reducible rfl);rotate_left;(simp only [Act.put,List.setIfInBounds_toArray,List.set_cons_zero,List.set_cons_succ,i64_w,i32_w];rfl)
        refine pure_ (i:=3) (N:=some 44) (v:=?_) (a':=?_) #[false,true,true,true,false,false,false,false,false,false,false,false,false,false,false] rfl rfl (any_of HT_.out (by kernel_rfl)) (fun _ _ _ h=>h) (Or.inl ⟨by rfl,?_⟩) ?_ ?_
        rotate_left;(intro w';go_simp;with_reducible rfl);rotate_left;(simp only [Act.put,List.setIfInBounds_toArray,List.set_cons_zero,List.set_cons_succ,i64_w,i32_w];rfl)
        refine pure_ (i:=4) (N:=some 45) (v:=?_) (a':=?_) #[false,true,true,true,true,false,false,false,false,false,false,false,false,false,false] rfl rfl (any_of HT_.out (by kernel_rfl)) (fun _ _ _ h=>h) (Or.inl ⟨by rfl,?_⟩) ?_ ?_
        rotate_left;(intro w';go_simp;with_reducible rfl);rotate_left;(simp only [Act.put,List.setIfInBounds_toArray,List.set_cons_zero,List.set_cons_succ,i64_w,i32_w];rfl)
        refine pure_ (i:=5) (N:=some 46) (v:=?_) (a':=?_) #[false,true,true,true,true,true,false,false,false,false,false,false,false,false,false] rfl rfl (any_of HT_.out (by kernel_rfl)) (fun _ _ _ h=>h) (Or.inl ⟨by rfl,?_⟩) ?_ ?_
        rotate_left;(intro w';go_simp;with_reducible rfl);rotate_left;(simp only [Act.put,List.setIfInBounds_toArray,List.set_cons_zero,List.set_cons_succ,i64_w,i32_w];rfl)
        refine pure_ (i:=6) (N:=some 47) (v:=?_) (a':=?_) #[false,true,true,true,true,true,true,false,false,false,false,false,false,false,false] rfl rfl (any_of HT_.out (by kernel_rfl)) (fun _ _ _ h=>h) (Or.inl ⟨by rfl,?_⟩) ?_ ?_
        rotate_left;(intro w';go_simp;with_reducible rfl);rotate_left;(simp only [Act.put,List.setIfInBounds_toArray,List.set_cons_zero,List.set_cons_succ,i64_w,i32_w];rfl)
        refine pure_ (i:=7) (N:=some 48) (v:=?_) (a':=?_) #[false,true,true,true,true,true,true,true,false,false,false,false,false,false,false] rfl rfl (any_of HT_.out (by kernel_rfl)) (fun _ _ _ h=>h) (Or.inl ⟨by rfl,?_⟩) ?_ ?_
        rotate_left;(intro w';go_simp;with_reducible rfl);rotate_left;(simp only [Act.put,List.setIfInBounds_toArray,List.set_cons_zero,List.set_cons_succ,i64_w,i32_w];rfl)
        refine pure_ (i:=9) (N:=some 50) (v:=?_) (a':=?_) #[false,true,true,true,true,true,true,true,false,true,false,false,false,false,false] rfl rfl (any_of HT_.out (by kernel_rfl)) (fun _ _ _ h=>h) (Or.inl ⟨by rfl,?_⟩) ?_ ?_
        rotate_left;(intro w';go_simp;with_reducible rfl);rotate_left;(simp only [Act.put,List.setIfInBounds_toArray,List.set_cons_zero,List.set_cons_succ,i64_w,i32_w];rfl)
        refine pure_ (i:=10) (N:=some 51) (v:=?_) (a':=?_) #[false,true,true,true,true,true,true,true,false,true,true,false,false,false,false] rfl rfl (any_of HT_.out (by kernel_rfl)) (fun _ _ _ h=>h) (Or.inl ⟨by rfl,?_⟩) ?_ ?_
        rotate_left;(intro w';go_simp;with_reducible rfl);rotate_left;(simp only [Act.put,List.setIfInBounds_toArray,List.set_cons_zero,List.set_cons_succ,i64_w,i32_w];rfl)
        refine pure_ (i:=11) (N:=some 52) (v:=?_) (a':=?_) #[false,true,true,true,true,true,true,true,false,true,true,true,false,false,false] rfl rfl (any_of HT_.out (by kernel_rfl)) (fun _ _ _ h=>h) (Or.inl ⟨by rfl,?_⟩) ?_ ?_
        rotate_left;(intro w';go_simp;with_reducible rfl);rotate_left;(simp only [Act.put,List.setIfInBounds_toArray,List.set_cons_zero,List.set_cons_succ,i64_w,i32_w];rfl)
        refine take_ (i:=0) (N:=some 41) (v:=?_) (a':=?_) #[true,true,true,true,true,true,true,true,false,true,true,true,false,false,false] rfl rfl (take_ofW HT_.out HW_.out (by kernel_rfl)) (fun _ _ _ h=>h) (Or.inl ⟨by rfl,?_⟩) hHeld ?_ ?_
        rotate_left;(rintro w' ⟨s0,s1,s2,s3⟩;go_simp;with_reducible rfl);rotate_left;(simp only [Act.put,List.setIfInBounds_toArray,List.set_cons_zero,List.set_cons_succ,i64_w,i32_w];rfl)
        refine one_ (i:=8) (N:=some 49) #[true,true,true,true,true,true,true,true,true,true,true,true,false,false,false] rfl rfl (one_of HT_.out (by kernel_rfl)) (by decide) (fun K hK=>?_)
        refine Kd.N_lit_step (Kd.slice 31 k31) _ 33 ?hg (N':=49) ?hd (xs:=([] : List (List (S31)))) (inner:=[]) (ok:=(fun k_=>some k_≠(.slice Ao36 t571.length co36 : Value).ownBlock∧some k_≠(.slice Ao43 t578.length co43 : Value).ownBlock∧some k_≠(.slice Ao46 t581.length co46 : Value).ownBlock∧k_≠gb568∧k_≠gb569∧k_≠gb577)) (okp:=(fun k_=>some k_≠(.slice Ao36 t571.length co36 : Value).ownBlock∧some k_≠(.slice Ao43 t578.length co43 : Value).ownBlock∧some k_≠(.slice Ao46 t581.length co46 : Value).ownBlock∧k_≠gb568∧k_≠gb569∧k_≠gb577)) ?hr ?hp (fun _ hk=>hk) ((show ∀ k_,w47.heap.size≤k_→(fun k_=>some k_≠(.slice Ao36 t571.length co36 : Value).ownBlock∧some k_≠(.slice Ao43 t578.length co43 : Value).ownBlock∧some k_≠(.slice Ao46 t581.length co46 : Value).ownBlock∧k_≠gb568∧k_≠gb569∧k_≠gb577) k_ from fun k_ hk=>⟨Kd.fresh' (Kd.R_lt (R_up HO573.out)) k_ hk,Kd.fresh' (Kd.N_lt (N_up HO580.out)) k_ hk,Kd.fresh' (Kd.N_lt (N_up HO583.out)) k_ hk,Kd.freshB (blk_up BK568.out) k_ hk,Kd.freshB (blk_up BK569.out) k_ hk,Kd.freshB (blk_up BK577.out) k_ hk⟩) _ (Nat.le_refl _)) (Below.refl _ _) (Nat.le_refl _) (by simp) ?_;(case hd=>rfl);(case hg=>rfl);(case hr=>first|(go_simp;done)|(go_simp;rfl));(case hp=>exact (Reps.none _ _))
        intro v595 w51 ho52 hb hg_ hnew_
        clear hg_ hnew_
        (first|rw [← Ny594.out] at ho52|(simp only [Int.reduceToNat] at ho52;rw [← Ny594.out] at ho52))
        have n0_:=Aside0.mk (Kd.R_below (R_up HO573.out) hb)
        have n1_:=Aside0.mk (Kd.N_elder' (N_up HO580.out) (Kd.N_base ho52) hb)
        have n2_:=Aside0.mk (Kd.N_elder' (N_up HO583.out) (Kd.N_base ho52) hb)
        have n3_:=Aside0.mk (Kd.V_elder' (V_up HO588.out) (Kd.N_base ho52) hb)
        have n4_:=Aside0.mk (Kd.V_elder' (V_up HO593.out) (Kd.N_base ho52) hb)
        have n5_:=Aside0.mk (Kd.V_elder' (V_up HO601.out) (Kd.N_base ho52) hb)
        have n6_:=Aside0.mk (Kd.N_lower ho52 (below_size (below_go HB.out)))
        have n7_:=Aside0.mk (blk_below (blk_up BK568.out) hb)
        have n8_:=Aside0.mk (blk_below (blk_up BK569.out) hb)
        have n9_:=Aside0.mk (blk_below (blk_up BK577.out) hb)
        have n10_:=Aside0.mk (below_step (below_go HB.out) hb)
        clear HO573
        clear HO580
        clear HO583
        clear HO588
        clear HO593
        clear HO601
        clear BK568
        clear BK569
        clear BK577
        clear HB
        have HO573:=n0_
        have HO580:=n1_
        have HO583:=n2_
        have HO588:=n3_
        have HO593:=n4_
        have HO601:=n5_
        have HO596:=n6_
        have BK568:=n7_
        have BK569:=n8_
        have BK577:=n9_
        have HB:=n10_
        clear n0_ n1_ n2_ n3_ n4_ n5_ n6_ n7_ n8_ n9_ n10_
        clear hb ho52
        obtain ⟨Ao53,co53,eo53⟩:=Kd.N_slice HO596.out
        (first|subst eo53|(injection eo53 with f1_ f2_ f3_;have f4_:=f1_.symm;have f5_:=f3_.symm;clear f1_ f2_ f3_;subst f4_;subst f5_))
        refine hK.out _ _ ⟨(blk_cell BK577.out 0).trans rfl,(blk_cell BK577.out 1).trans rfl,(blk_cell BK577.out 2).trans rfl,(blk_cell BK577.out 3).trans rfl⟩ (fun hHeld=>?_)
        clear hK K
        refine norm_ (a':=?_) ?_ ?_
        rotate_left
        ·show Act.put _ (some 49) _=_
         simp only [Act.put,List.setIfInBounds_toArray,List.set_cons_zero,List.set_cons_succ,i64_w,i32_w]
         rfl
        refine one_ (i:=12) (N:=some 53) #[true,true,true,true,true,true,true,true,true,true,true,true,true,false,false] rfl rfl (one_of HT_.out (by kernel_rfl)) (by decide) (fun K hK=>?_)
        refine Kd.N_lit_step (Kd.slice 33 (Kd.slice 31 k31)) _ 28 ?hg (N':=53) ?hd (xs:=([y584,y589,y594,y597] : List (List (List (S31))))) (inner:=[.slice Ao46 y584.length co46,.slice A49 y589.length c49,.slice Ao53 y594.length co53,.slice A50 y597.length c50]) (ok:=(fun k_=>some k_≠(.slice Ao36 t571.length co36 : Value).ownBlock∧k_≠gb568∧k_≠gb569∧k_≠gb577)) (okp:=(fun k_=>some k_≠(.slice Ao36 t571.length co36 : Value).ownBlock∧k_≠gb568∧k_≠gb569∧k_≠gb577)) ?hr ?hp (fun _ hk=>hk) ((show ∀ k_,w51.heap.size≤k_→(fun k_=>some k_≠(.slice Ao36 t571.length co36 : Value).ownBlock∧k_≠gb568∧k_≠gb569∧k_≠gb577) k_ from fun k_ hk=>⟨Kd.fresh' (Kd.R_lt (R_up HO573.out)) k_ hk,Kd.freshB (blk_up BK568.out) k_ hk,Kd.freshB (blk_up BK569.out) k_ hk,Kd.freshB (blk_up BK577.out) k_ hk⟩) _ (Nat.le_refl _)) (Below.refl _ _) (Nat.le_refl _) (by simp) ?_;(case hd=>rfl);(case hg=>rfl);(case hr=>first|(go_simp;done)|(go_simp;rfl));(case hp=>exact (Reps.one (show Kd.FK (Kd.slice 33 (Kd.slice 31 k31)) _ _ y584 [.slice Ao46 y584.length co46] from (Kd.FK_slice_mk (Kd.V_reads' (Kd.V_mono (ok':=(fun k_=>some k_≠(.slice Ao36 t571.length co36 : Value).ownBlock∧k_≠gb568∧k_≠gb569∧k_≠gb577)) (HO588.out) (fun k_ hk=>by first|exact ⟨hk.1.1,⟨hk.1.2.1,⟨hk.1.2.2.1,hk.1.2.2.2⟩⟩⟩|((try (simp only [and_assoc] at hk));(repeat (obtain ⟨_,hk⟩:=hk));(repeat' apply And.intro)<;>assumption)))).2.1 (Kd.V_F (Kd.V_mono (ok':=(fun k_=>some k_≠(.slice Ao36 t571.length co36 : Value).ownBlock∧k_≠gb568∧k_≠gb569∧k_≠gb577)) (HO588.out) (fun k_ hk=>by first|exact ⟨hk.1.1,⟨hk.1.2.1,⟨hk.1.2.2.1,hk.1.2.2.2⟩⟩⟩|((try (simp only [and_assoc] at hk));(repeat (obtain ⟨_,hk⟩:=hk));(repeat' apply And.intro)<;>assumption)))))) (Reps.one (show Kd.FK (Kd.slice 33 (Kd.slice 31 k31)) _ _ y589 [.slice A49 y589.length c49] from (Kd.FK_slice_mk (Kd.V_reads' (Kd.V_mono (ok':=(fun k_=>some k_≠(.slice Ao36 t571.length co36 : Value).ownBlock∧k_≠gb568∧k_≠gb569∧k_≠gb577)) (HO593.out) (fun k_ hk=>by first|exact ⟨hk.1.1,⟨hk.1.2.1,⟨hk.1.2.2.1,hk.1.2.2.2⟩⟩⟩|((try (simp only [and_assoc] at hk));(repeat (obtain ⟨_,hk⟩:=hk));(repeat' apply And.intro)<;>assumption)))).2.1 (Kd.V_F (Kd.V_mono (ok':=(fun k_=>some k_≠(.slice Ao36 t571.length co36 : Value).ownBlock∧k_≠gb568∧k_≠gb569∧k_≠gb577)) (HO593.out) (fun k_ hk=>by first|exact ⟨hk.1.1,⟨hk.1.2.1,⟨hk.1.2.2.1,hk.1.2.2.2⟩⟩⟩|((try (simp only [and_assoc] at hk));(repeat (obtain ⟨_,hk⟩:=hk));(repeat' apply And.intro)<;>assumption)))))) (Reps.one (show Kd.FK (Kd.slice 33 (Kd.slice 31 k31)) _ _ y594 [.slice Ao53 y594.length co53] from (Kd.FK_slice_mk (Kd.N_reads' (Kd.N_mono (ok':=(fun k_=>some k_≠(.slice Ao36 t571.length co36 : Value).ownBlock∧k_≠gb568∧k_≠gb569∧k_≠gb577)) (HO596.out) (fun k_ hk=>by first|exact ⟨hk.1,⟨hk.2.2.2.1,⟨hk.2.2.2.2.1,hk.2.2.2.2.2⟩⟩⟩|((try (simp only [and_assoc] at hk));(repeat (obtain ⟨_,hk⟩:=hk));(repeat' apply And.intro)<;>assumption)))).2.1 (Kd.N_F (Kd.N_mono (ok':=(fun k_=>some k_≠(.slice Ao36 t571.length co36 : Value).ownBlock∧k_≠gb568∧k_≠gb569∧k_≠gb577)) (HO596.out) (fun k_ hk=>by first|exact ⟨hk.1,⟨hk.2.2.2.1,⟨hk.2.2.2.2.1,hk.2.2.2.2.2⟩⟩⟩|((try (simp only [and_assoc] at hk));(repeat (obtain ⟨_,hk⟩:=hk));(repeat' apply And.intro)<;>assumption)))))) (Reps.one (show Kd.FK (Kd.slice 33 (Kd.slice 31 k31)) _ _ y597 [.slice A50 y597.length c50] from (Kd.FK_slice_mk (Kd.V_reads' (Kd.V_mono (ok':=(fun k_=>some k_≠(.slice Ao36 t571.length co36 : Value).ownBlock∧k_≠gb568∧k_≠gb569∧k_≠gb577)) (HO601.out) (fun k_ hk=>by first|exact ⟨hk.1.1,⟨hk.1.2.1,⟨hk.1.2.2.1,hk.1.2.2.2⟩⟩⟩|((try (simp only [and_assoc] at hk));(repeat (obtain ⟨_,hk⟩:=hk));(repeat' apply And.intro)<;>assumption)))).2.1 (Kd.V_F (Kd.V_mono (ok':=(fun k_=>some k_≠(.slice Ao36 t571.length co36 : Value).ownBlock∧k_≠gb568∧k_≠gb569∧k_≠gb577)) (HO601.out) (fun k_ hk=>by first|exact ⟨hk.1.1,⟨hk.1.2.1,⟨hk.1.2.2.1,hk.1.2.2.2⟩⟩⟩|((try (simp only [and_assoc] at hk));(repeat (obtain ⟨_,hk⟩:=hk));(repeat' apply And.intro)<;>assumption)))))) (Reps.none _ _))))))
        intro v603 w54 ho55 hb hg_ hnew_
        clear hg_ hnew_
        (first|rw [← Ny602.out] at ho55|(simp only [Int.reduceToNat] at ho55;rw [← Ny602.out] at ho55))
        have n0_:=Aside0.mk (Kd.R_below (R_up HO573.out) hb)
        have n1_:=Aside0.mk (Kd.N_elder' (N_up HO580.out) (Kd.N_base ho55) hb)
        have n2_:=Aside0.mk (Kd.N_elder' (N_up HO583.out) (Kd.N_base ho55) hb)
        have n3_:=Aside0.mk (Kd.V_elder' (V_up HO588.out) (Kd.N_base ho55) hb)
        have n4_:=Aside0.mk (Kd.V_elder' (V_up HO593.out) (Kd.N_base ho55) hb)
        have n5_:=Aside0.mk (Kd.V_elder' (V_up HO601.out) (Kd.N_base ho55) hb)
        have n6_:=Aside0.mk (Kd.N_lower ho55 (below_size (below_go HB.out)))
        have n7_:=Aside0.mk (blk_below (blk_up BK568.out) hb)
        have n8_:=Aside0.mk (blk_below (blk_up BK569.out) hb)
        have n9_:=Aside0.mk (blk_below (blk_up BK577.out) hb)
        have n10_:=Aside0.mk (below_step (below_go HB.out) hb)
        clear HO573
        clear HO580
        clear HO583
        clear HO588
        clear HO593
        clear HO601
        clear BK568
        clear BK569
        clear BK577
        clear HB
        clear HO596
        have HO573:=n0_
        have HO580:=n1_
        have HO583:=n2_
        have HO588:=n3_
        have HO593:=n4_
        have HO601:=n5_
        have HO604:=n6_
        have BK568:=n7_
        have BK569:=n8_
        have BK577:=n9_
        have HB:=n10_
        clear n0_ n1_ n2_ n3_ n4_ n5_ n6_ n7_ n8_ n9_ n10_
        clear hb ho55
        obtain ⟨Ao56,co56,eo56⟩:=Kd.N_slice HO604.out
        (first|subst eo56|(injection eo56 with f1_ f2_ f3_;have f4_:=f1_.symm;have f5_:=f3_.symm;clear f1_ f2_ f3_;subst f4_;subst f5_))
        refine hK.out _ _ ⟨(blk_cell BK577.out 0).trans rfl,(blk_cell BK577.out 1).trans rfl,(blk_cell BK577.out 2).trans rfl,(blk_cell BK577.out 3).trans rfl⟩ (fun hHeld=>?_)
        clear hK K
        refine norm_ (a':=?_) ?_ ?_
        rotate_left
        ·show Act.put _ (some 53) _=_
         simp only [Act.put,List.setIfInBounds_toArray,List.set_cons_zero,List.set_cons_succ,i64_w,i32_w]
         rfl
        refine one_ (i:=13) (N:=some 54) #[true,true,true,true,true,true,true,true,true,true,true,true,true,true,false] rfl rfl (one_of HT_.out (by kernel_rfl)) (by decide) (fun K hK=>?_)
        refine goes_ Try.func9 (by kernel_rfl) rfl #[.agg #[.slice Ao36 t571.length co36,.int .i64 t574,.int .i64 t575,.int .i64 t576],.slice Ao56 y602.length co56] (by rfl) rfl rfl (by (try simp only [List.map_toArray,List.map_cons,List.map_nil]);first|done|rfl|(simp only [List.length_drop,List.length_take];rfl)) ?_
        with_reducible refine (merge_Rows.calls k _ _ t571 t574 t575 t576 (fun k_=>(some k_≠(.slice Ao36 t571.length co36 : Value).ownBlock∧(k_≠gb568∧(k_≠gb569∧k_≠gb577)))) _ _ y602 t605 _ ?side1 ?side2 ?side3 A19.out).mono ?_
        (case side1=>repeat (first|exact (Kd.R_reads' HO573.out).2.2|(with_reducible refine Kd.C_alloc ?_ _)|(with_reducible refine Kd.C_drewN ?_ _)|(with_reducible refine Kd.C_drew ?_)))
        (case side2=>exact (Kd.R_reads' HO573.out).2.1)
        (case side3=>first|exact Kd.N_V (HO604.out)|exact Kd.N_V (Kd.N_mono HO604.out (fun k_ hk_=>by ((try (simp only [and_assoc] at hk_));(repeat (obtain ⟨_,hk_⟩:=hk_));(repeat' apply And.intro)<;>assumption))))
        rintro e w57 ⟨v606,rfl,ho0,hb⟩
        refine ⟨_,rfl,?_⟩
        have n0_:=Aside0.mk (Kd.R_below (R_up HO573.out) hb)
        have n1_:=Aside0.mk (Kd.N_elder' (N_up HO580.out) (by first|exact Kd.N_base ho0|exact Kd.S_base ho0) hb)
        have n2_:=Aside0.mk (Kd.N_elder' (N_up HO583.out) (by first|exact Kd.N_base ho0|exact Kd.S_base ho0) hb)
        have n3_:=Aside0.mk (Kd.V_elder' (V_up HO588.out) (by first|exact Kd.N_base ho0|exact Kd.S_base ho0) hb)
        have n4_:=Aside0.mk (Kd.V_elder' (V_up HO593.out) (by first|exact Kd.N_base ho0|exact Kd.S_base ho0) hb)
        have n5_:=Aside0.mk (Kd.V_elder' (V_up HO601.out) (by first|exact Kd.N_base ho0|exact Kd.S_base ho0) hb)
        have n6_:=Aside0.mk (Kd.N_elder' (N_up HO604.out) (by first|exact Kd.N_base ho0|exact Kd.S_base ho0) hb)
        have n7_:=Aside0.mk (Kd.N_lower (Kd.N_mono (ok':=fun k_=>some k_≠(.slice Ao36 t571.length co36 : Value).ownBlock∧k_≠gb568∧k_≠gb569∧k_≠gb577) ho0 (fun k_ hk_=>⟨Or.elim hk_ (fun hs_=>hs_.1) (fun hn_=>(Kd.fresh' (Kd.R_lt (R_up HO573.out)) k_ hn_)),Or.elim hk_ (fun hs_=>hs_.2.1) (fun hn_=>(Kd.freshB (blk_up BK568.out) k_ hn_)),Or.elim hk_ (fun hs_=>hs_.2.2.1) (fun hn_=>(Kd.freshB (blk_up BK569.out) k_ hn_)),Or.elim hk_ (fun hs_=>hs_.2.2.2) (fun hn_=>(Kd.freshB (blk_up BK577.out) k_ hn_))⟩)) (below_size (below_go HB.out)))
        have n8_:=Aside0.mk (blk_below (blk_up BK568.out) hb)
        have n9_:=Aside0.mk (blk_below (blk_up BK569.out) hb)
        have n10_:=Aside0.mk (blk_below (blk_up BK577.out) hb)
        have n11_:=Aside0.mk (below_step (below_go HB.out) hb)
        clear HO573
        clear HO580
        clear HO583
        clear HO588
        clear HO593
        clear HO601
        clear HO604
        clear BK568
        clear BK569
        clear BK577
        clear HB
        have HO573:=n0_
        have HO580:=n1_
        have HO583:=n2_
        have HO588:=n3_
        have HO593:=n4_
        have HO601:=n5_
        have HO604:=n6_
        have HO607:=n7_
        have BK568:=n8_
        have BK569:=n9_
        have BK577:=n10_
        have HB:=n11_
        clear n0_ n1_ n2_ n3_ n4_ n5_ n6_ n7_ n8_ n9_ n10_ n11_
        (try clear hb)
        (try clear hb2)
        (try clear hk)
        (try clear hi)
        (try clear ho0)
        refine hK.out _ _ ⟨(blk_cell BK577.out 0).trans rfl,(blk_cell BK577.out 1).trans rfl,(blk_cell BK577.out 2).trans rfl,(blk_cell BK577.out 3).trans rfl⟩ (fun hHeld=>?_)
        clear hK K
        refine norm_ (a':=?_) ?_ ?_
        rotate_left
        ·show Act.put _ (some 54) _=_
         simp only [Act.put,List.setIfInBounds_toArray,List.set_cons_zero,List.set_cons_succ,i64_w,i32_w]
         rfl
        refine pure_ (i:=14) (N:=some 12) (v:=?_) (a':=?_) #[true,true,true,true,true,true,true,true,true,true,true,true,true,true,true] rfl rfl (any_of HT_.out (by kernel_rfl)) (fun _ _ _ h=>h) (Or.inl ⟨by rfl,?_⟩) ?_ ?_
        rotate_left;(intro w';go_simp;with_reducible rfl);rotate_left;(simp only [Act.put,List.setIfInBounds_toArray,List.set_cons_zero,List.set_cons_succ,i64_w,i32_w];rfl)
        refine done_ (done_of HT_.out (by kernel_rfl)) ?_
        (try clear hHeld)
        obtain ⟨Ao58,co58,eo58⟩:=Kd.N_slice HO607.out
        subst eo58
        try go_wp2_with (first|((with_reducible refine gate_callee (f:=12) rfl ?_);refine goesL_ (some 57) rfl rfl Try.func12 (by kernel_rfl) rfl #[.slice Ao58 t605.length co58,.slice Ao46 t581.length co46] rfl (by (try simp only [List.map_toArray,List.map_cons,List.map_nil]);first|done|rfl|(simp only [List.length_drop,List.length_take];rfl)) ?_;(with_reducible refine (thresherref04_Rows.calls k _ _ t605 _ _ t581 t608 _ ?side1 ?side2 ?side3 ?side4 A20.out).mono ?_);(case side1=>repeat (first|exact (Kd.N_reads' HO607.out).2.2|(with_reducible refine Kd.C_alloc ?_ _)|(with_reducible refine Kd.C_drewN ?_ _)|(with_reducible refine Kd.C_drew ?_)));(case side2=>exact (Kd.N_reads' HO607.out).2.1);(case side3=>repeat (first|exact (Kd.N_reads' HO583.out).2.2|(with_reducible refine Kd.C_alloc ?_ _)|(with_reducible refine Kd.C_drewN ?_ _)|(with_reducible refine Kd.C_drew ?_)));(case side4=>exact (Kd.N_reads' HO583.out).2.1);rintro e w' ⟨rfl,⟨nd,rfl⟩⟩;refine ⟨_,rfl,?_⟩))
        (try (rw [drewN_self w57];generalize hq_ : World.drewN w57 _=w57;have n0_ : Aside0 (Kd.R (Kd.int .i64) 3 w57 w.heap.size (fun _=>True) (.slice Ao36 t571.length co36) t571):=⟨by rw [← hq_];exact (R_up HO573.out)⟩;have n1_ : Aside0 (Kd.N (Kd.slice 31 k31) 33 w57 w.heap.size (fun k_=>some k_≠(.slice Ao36 t571.length co36 : Value).ownBlock∧some k_≠(.slice Ao46 t581.length co46 : Value).ownBlock∧some k_≠(.slice Ao56 y602.length co56 : Value).ownBlock∧some k_≠(.slice Ao58 t605.length co58 : Value).ownBlock∧k_≠gb568∧k_≠gb569∧k_≠gb577) (.slice Ao43 t578.length co43) t578):=⟨by rw [← hq_];exact (by (with_reducible repeat (first|apply Kd.N_alloc|apply Kd.N_drewN|apply Kd.N_drew));exact Kd.N_mono HO580.out (fun _ hk=>by first|exact ⟨hk.1.1.1.1.1,⟨hk.1.1.1.2,⟨hk.1.2,⟨hk.2,⟨hk.1.1.1.1.2.1,⟨hk.1.1.1.1.2.2.1,hk.1.1.1.1.2.2.2⟩⟩⟩⟩⟩⟩|((try (simp only [and_assoc] at hk));(repeat (obtain ⟨_,hk⟩:=hk));(repeat' apply And.intro)<;>assumption)))⟩;have n2_ : Aside0 (Kd.N (Kd.slice 31 k31) 33 w57 w.heap.size (fun k_=>some k_≠(.slice Ao36 t571.length co36 : Value).ownBlock∧some k_≠(.slice Ao56 y602.length co56 : Value).ownBlock∧some k_≠(.slice Ao58 t605.length co58 : Value).ownBlock∧k_≠gb568∧k_≠gb569∧k_≠gb577) (.slice Ao46 t581.length co46) t581):=⟨by rw [← hq_];exact (by (with_reducible repeat (first|apply Kd.N_alloc|apply Kd.N_drewN|apply Kd.N_drew));exact Kd.N_mono HO583.out (fun _ hk=>by first|exact ⟨hk.1.1.1.1,⟨hk.1.2,⟨hk.2,⟨hk.1.1.1.2.1,⟨hk.1.1.1.2.2.1,hk.1.1.1.2.2.2⟩⟩⟩⟩⟩|((try (simp only [and_assoc] at hk));(repeat (obtain ⟨_,hk⟩:=hk));(repeat' apply And.intro)<;>assumption)))⟩;have n3_ : Aside0 (Kd.V (Kd.slice 31 k31) 33 w57 w.heap.size (fun k_=>some k_≠(.slice Ao36 t571.length co36 : Value).ownBlock∧some k_≠(.slice Ao56 y602.length co56 : Value).ownBlock∧some k_≠(.slice Ao58 t605.length co58 : Value).ownBlock∧k_≠gb568∧k_≠gb569∧k_≠gb577) (.slice Ao46 y584.length co46) y584):=⟨by rw [← hq_];exact (by (with_reducible repeat (first|apply Kd.V_alloc|apply Kd.V_drewN|apply Kd.V_drew));exact Kd.V_mono HO588.out (fun _ hk=>by first|exact ⟨hk.1.1.1.1,⟨hk.1.2,⟨hk.2,⟨hk.1.1.1.2.1,⟨hk.1.1.1.2.2.1,hk.1.1.1.2.2.2⟩⟩⟩⟩⟩|((try (simp only [and_assoc] at hk));(repeat (obtain ⟨_,hk⟩:=hk));(repeat' apply And.intro)<;>assumption)))⟩;have n4_ : Aside0 (Kd.V (Kd.slice 31 k31) 33 w57 w.heap.size (fun k_=>some k_≠(.slice Ao36 t571.length co36 : Value).ownBlock∧some k_≠(.slice Ao56 y602.length co56 : Value).ownBlock∧some k_≠(.slice Ao58 t605.length co58 : Value).ownBlock∧k_≠gb568∧k_≠gb569∧k_≠gb577) (.slice A49 y589.length c49) y589):=⟨by rw [← hq_];exact (by (with_reducible repeat (first|apply Kd.V_alloc|apply Kd.V_drewN|apply Kd.V_drew));exact Kd.V_mono HO593.out (fun _ hk=>by first|exact ⟨hk.1.1.1.1,⟨hk.1.2,⟨hk.2,⟨hk.1.1.1.2.1,⟨hk.1.1.1.2.2.1,hk.1.1.1.2.2.2⟩⟩⟩⟩⟩|((try (simp only [and_assoc] at hk));(repeat (obtain ⟨_,hk⟩:=hk));(repeat' apply And.intro)<;>assumption)))⟩;have n5_ : Aside0 (Kd.V (Kd.slice 31 k31) 33 w57 w.heap.size (fun k_=>some k_≠(.slice Ao36 t571.length co36 : Value).ownBlock∧some k_≠(.slice Ao56 y602.length co56 : Value).ownBlock∧some k_≠(.slice Ao58 t605.length co58 : Value).ownBlock∧k_≠gb568∧k_≠gb569∧k_≠gb577) (.slice A50 y597.length c50) y597):=⟨by rw [← hq_];exact (by (with_reducible repeat (first|apply Kd.V_alloc|apply Kd.V_drewN|apply Kd.V_drew));exact Kd.V_mono HO601.out (fun _ hk=>by first|exact ⟨hk.1.1.1.1,⟨hk.1.2,⟨hk.2,⟨hk.1.1.1.2.1,⟨hk.1.1.1.2.2.1,hk.1.1.1.2.2.2⟩⟩⟩⟩⟩|((try (simp only [and_assoc] at hk));(repeat (obtain ⟨_,hk⟩:=hk));(repeat' apply And.intro)<;>assumption)))⟩;have n6_ : Aside0 (Kd.N (Kd.slice 33 (Kd.slice 31 k31)) 28 w57 w.heap.size (fun k_=>some k_≠(.slice Ao36 t571.length co36 : Value).ownBlock∧some k_≠(.slice Ao58 t605.length co58 : Value).ownBlock∧k_≠gb568∧k_≠gb569∧k_≠gb577) (.slice Ao56 y602.length co56) y602):=⟨by rw [← hq_];exact (by (with_reducible repeat (first|apply Kd.N_alloc|apply Kd.N_drewN|apply Kd.N_drew));exact Kd.N_mono HO604.out (fun _ hk=>by first|exact ⟨hk.1.1,⟨hk.2,⟨hk.1.2.1,⟨hk.1.2.2.1,hk.1.2.2.2⟩⟩⟩⟩|((try (simp only [and_assoc] at hk));(repeat (obtain ⟨_,hk⟩:=hk));(repeat' apply And.intro)<;>assumption)))⟩;have n7_ : Aside0 (Kd.N (Kd.slice 31 k31) 33 w57 w.heap.size (fun k_=>some k_≠(.slice Ao36 t571.length co36 : Value).ownBlock∧k_≠gb568∧k_≠gb569∧k_≠gb577) (.slice Ao58 t605.length co58) t605):=⟨by rw [← hq_];exact (N_up HO607.out)⟩;have n8_ : Aside0 (w57.heap[gb568]?=some (.cells #[.int .u8 a0_0,.int .u8 a0_1,.int .u8 a0_2,.int .u8 a0_3,.int .u8 a0_4,.int .u8 a0_5,.int .u8 a0_6,.int .u8 a0_7,.int .u8 a0_8,.int .u8 a0_9,.int .u8 a0_10,.int .u8 a0_11] 38 (0,0))):=⟨by rw [← hq_];exact (blk_up BK568.out)⟩;have n9_ : Aside0 (w57.heap[gb569]?=some (.cells #[.int .u8 a2_0,.int .u8 a2_1] 43 (0,0))):=⟨by rw [← hq_];exact (blk_up BK569.out)⟩;have n10_ : Aside0 (w57.heap[gb577]?=some (.cells #[.slice Ao36 t571.length co36,.int .i64 t574,.int .i64 t575,.int .i64 t576] 26 (0,0))):=⟨by rw [← hq_];exact (blk_up BK577.out)⟩;have n11_ : Aside0 (Below w.heap.size w w57):=⟨by rw [← hq_];exact (below_go HB.out)⟩;clear HO573 HO580 HO583 HO588 HO593 HO601 HO604 HO607 BK568 BK569 BK577 HB hq_;have HO573:=n0_;have HO580:=n1_;have HO583:=n2_;have HO588:=n3_;have HO593:=n4_;have HO601:=n5_;have HO604:=n6_;have HO607:=n7_;have BK568:=n8_;have BK569:=n9_;have BK577:=n10_;have HB:=n11_;clear n0_ n1_ n2_ n3_ n4_ n5_ n6_ n7_ n8_ n9_ n10_ n11_))
        have n0_:=Aside0.mk (Kd.R_drew HO573.out)
        have n1_:=Aside0.mk (Kd.N_drew HO580.out)
        have n2_:=Aside0.mk (Kd.N_drew HO583.out)
        have n3_:=Aside0.mk (Kd.V_drew HO588.out)
        have n4_:=Aside0.mk (Kd.V_drew HO593.out)
        have n5_:=Aside0.mk (Kd.V_drew HO601.out)
        have n6_:=Aside0.mk (Kd.N_drew HO604.out)
        have n7_:=Aside0.mk (Kd.N_drew HO607.out)
        have n8_:=Aside0.mk (blk_drew BK568.out)
        have n9_:=Aside0.mk (blk_drew BK569.out)
        have n10_:=Aside0.mk (blk_drew BK577.out)
        have n11_:=Aside0.mk (below_drew1 HB.out)
        clear HO573
        clear HO580
        clear HO583
        clear HO588
        clear HO593
        clear HO601
        clear HO604
        clear HO607
        clear BK568
        clear BK569
        clear BK577
        clear HB
        have HO573:=n0_
        have HO580:=n1_
        have HO583:=n2_
        have HO588:=n3_
        have HO593:=n4_
        have HO601:=n5_
        have HO604:=n6_
        have HO607:=n7_
        have BK568:=n8_
        have BK569:=n9_
        have BK577:=n10_
        have HB:=n11_
        clear n0_ n1_ n2_ n3_ n4_ n5_ n6_ n7_ n8_ n9_ n10_ n11_
        have q60 : ((ji10) : Int)≤((t581.length : Int) : Int):=of_decide_eq_true (by first|(with_reducible assumption)|assumption)
        obtain ⟨i060,hi060,_,hsz60,_⟩:=info_parts info33
        have hroom60 : t581.length≤co46:=(Kd.N_reads' HO583.out).2.1
        have hC60 : Kd.F (Kd.slice 31 k31) _ _ Ao46 t581.length t581:=(Kd.V_at (base:=w.heap.size) (Kd.N_V HO583.out)).2.2
        have hcut60:=cut_to (P:=Try.prog) 28 33 .i64 Try.underlying28 hi060 Ao46 t581.length co46 (ji10) (of_decide_eq_true (by first|(with_reducible assumption)|assumption)) q60 hroom60
        have hr60:=Kd.F_take (m:=((ji10) : Int).toNat) hC60 (by omega)
        have hy60 : y584.length=((ji10) : Int).toNat:=(by rw [Ny609.out,List.length_take];omega)
        rw [← Ny609.out] at hr60
        rw [← hy60] at hcut60
        have HO613:=Aside0.mk (show Kd.V (Kd.slice 31 k31) 33 _ w.heap.size _ (.slice Ao46 y584.length co46) y584 from Kd.V_mk (by omega) hr60)
        have HC613:=Aside0.mk (show y584.length≤co46 from by omega)
        clear hr60 hC60 hroom60 hi060 hsz60
        have KY60:=Aside0.mk hy60
        clear hy60
        replace q60:=eq_true q60
        have q61 : ((ji10) : Int)≤((t581.length : Int) : Int):=of_decide_eq_true (by first|(with_reducible assumption)|assumption)
        obtain ⟨i061,hi061,_,hsz61,_⟩:=info_parts info33
        have hroom61 : t581.length≤co46:=(Kd.N_reads' HO583.out).2.1
        have hC61 : Kd.F (Kd.slice 31 k31) _ _ Ao46 t581.length t581:=(Kd.V_at (base:=w.heap.size) (Kd.N_V HO583.out)).2.2
        have q061 : (0 : Int)≤((ji10) : Int):=of_decide_eq_true (by first|(with_reducible assumption)|assumption)
        have hcut61:=cut_from (P:=Try.prog) 28 33 .i64 Try.underlying28 hi061 1 hsz61 Ao46 t581.length co46 (ji10) q061 q61
        have hr61:=Kd.F_cut (m:=((ji10) : Int).toNat) (c:=co46) hC61 (by omega) hroom61
        obtain ⟨A61,hA61⟩ : ∃ Z_,Z_=(if co46=((ji10) : Int).toNat then Ao46 else (Ao46 : Option Addr).map (·.add (((ji10) : Int).toNat * 1))):=⟨_,rfl⟩
        obtain ⟨c61,hc61⟩ : ∃ z_,z_=co46 - ((ji10) : Int).toNat:=⟨_,rfl⟩
        have hy61 : y614.length=t581.length - ((ji10) : Int).toNat:=(by rw [Ny614.out,List.length_drop] <;> omega)
        rw [show (t581).drop ((ji10) : Int).toNat=y614 from Ny614.out.symm] at hr61
        replace hr61 : Kd.F (Kd.slice 31 k31) _ _ A61 y614.length y614:=(by rw [hA61];exact hr61)
        rw [← hy61,← hA61,← hc61] at hcut61
        have HO618:=Aside0.mk (show Kd.V (Kd.slice 31 k31) 33 _ w.heap.size _ (.slice A61 y614.length c61) y614 from Kd.V_mk (by rw [hy61,hc61];exact Nat.sub_le_sub_right hroom61 _) hr61)
        have HC618:=Aside0.mk (show y614.length≤c61 from by rw [hy61,hc61];exact Nat.sub_le_sub_right hroom61 _)
        clear hr61 hC61 hroom61 hi061 hsz61 hc61
        have KY61:=Aside0.mk hy61
        have KA61:=Aside0.mk hA61
        clear hy61 hA61
        replace q61:=eq_true q61
        refine start_ (n:=15) (S:=fun w'=>w'.cell? ⟨gb577,0,none⟩=some (.slice Ao36 t571.length co36)∧w'.cell? ⟨gb577,1,none⟩=some (.int .i64 t574)∧w'.cell? ⟨gb577,2,none⟩=some (.int .i64 t575)∧w'.cell? ⟨gb577,3,none⟩=some (.int .i64 t576)) (ds:=[]) #[false,false,false,false,false,false,false,false,false,false,false,false,false,false,false] (by kernel_rfl) rfl rfl ⟨(blk_cell BK577.out 0).trans rfl,(blk_cell BK577.out 1).trans rfl,(blk_cell BK577.out 2).trans rfl,(blk_cell BK577.out 3).trans rfl⟩ (fun hHeld=>?_);refine with_tabW thresherlaw14_MergeHalves.tab8 thresherlaw14_MergeHalves.bits8 (fun HT_ HW_=>?_)
        generalize w57.drew=w59 at HO573 HO580 HO583 HO588 HO593 HO601 HO604 HO607 BK568 BK569 BK577 HB HO613 HO618 hHeld ⊢
        refine pure_ (i:=1) (N:=some 59) (v:=?_) (a':=?_) #[false,true,false,false,false,false,false,false,false,false,false,false,false,false,false] rfl rfl (any_of HT_.out (by kernel_rfl)) (fun _ _ _ h=>h) (Or.inl ⟨by rfl,?_⟩) ?_ ?_
        rotate_left;(intro w';go_simp;with_reducible rfl);rotate_left;(simp only [Act.put,List.setIfInBounds_toArray,List.set_cons_zero,List.set_cons_succ,i64_w,i32_w];rfl)
        refine pure_ (i:=2) (N:=some 60) (v:=?_) (a':=?_) #[false,true,true,false,false,false,false,false,false,false,false,false,false,false,false] rfl rfl (any_of HT_.out (by kernel_rfl)) (fun _ _ _ h=>h) (Or.inl ⟨by rfl,?_⟩) ?_ ?_
        rotate_left;(intro w';go_simp;with_reducible rfl);rotate_left;(simp only [Act.put,List.setIfInBounds_toArray,List.set_cons_zero,List.set_cons_succ,i64_w,i32_w];rfl)
        refine pure_ (i:=3) (N:=some 61) (v:=?_) (a':=?_) #[false,true,true,true,false,false,false,false,false,false,false,false,false,false,false] rfl rfl (any_of HT_.out (by kernel_rfl)) (fun _ _ _ h=>h) (Or.inl ⟨by rfl,?_⟩) ?_ ?_
        rotate_left;(intro w';go_simp;with_reducible rfl);rotate_left;(simp only [Act.put,List.setIfInBounds_toArray,List.set_cons_zero,List.set_cons_succ,i64_w,i32_w];rfl)
        refine pure_ (i:=4) (N:=some 62) (v:=?_) (a':=?_) #[false,true,true,true,true,false,false,false,false,false,false,false,false,false,false] rfl rfl (any_of HT_.out (by kernel_rfl)) (fun _ _ _ h=>h) (Or.inl ⟨by rfl,?_⟩) ?_ ?_
        rotate_left;(intro w';go_simp;with_reducible rfl);rotate_left;(simp only [Act.put,List.setIfInBounds_toArray,List.set_cons_zero,List.set_cons_succ,i64_w,i32_w];rfl)
        refine pure_ (i:=5) (N:=some 63) (v:=?_) (a':=?_) #[false,true,true,true,true,true,false,false,false,false,false,false,false,false,false] rfl rfl (any_of HT_.out (by kernel_rfl)) (fun _ _ _ h=>h) (Or.inl ⟨by rfl,?_⟩) ?_ ?_
        rotate_left;(intro w';go_simp;with_reducible rfl);rotate_left;(simp only [Act.put,List.setIfInBounds_toArray,List.set_cons_zero,List.set_cons_succ,i64_w,i32_w];rfl)
        refine pure_ (i:=6) (N:=some 64) (v:=?_) (a':=?_) #[false,true,true,true,true,true,true,false,false,false,false,false,false,false,false] rfl rfl (any_of HT_.out (by kernel_rfl)) (fun _ _ _ h=>h) (Or.inl ⟨by rfl,?_⟩) ?_ ?_
        rotate_left;(intro w';go_simp;with_reducible rfl);rotate_left;(simp only [Act.put,List.setIfInBounds_toArray,List.set_cons_zero,List.set_cons_succ,i64_w,i32_w];rfl)
        refine pure_ (i:=10) (N:=some 68) (v:=?_) (a':=?_) #[false,true,true,true,true,true,true,false,false,false,true,false,false,false,false] rfl rfl (any_of HT_.out (by kernel_rfl)) (fun _ _ _ h=>h) (Or.inl ⟨by rfl,?_⟩) ?_ ?_
        rotate_left;(intro w';go_simp;with_reducible rfl);rotate_left;(simp only [Act.put,List.setIfInBounds_toArray,List.set_cons_zero,List.set_cons_succ,i64_w,i32_w];rfl)
        refine take_ (i:=0) (N:=some 58) (v:=?_) (a':=?_) #[true,true,true,true,true,true,true,false,false,false,true,false,false,false,false] rfl rfl (take_ofW HT_.out HW_.out (by kernel_rfl)) (fun _ _ _ h=>h) (Or.inl ⟨by rfl,?_⟩) hHeld ?_ ?_
        rotate_left;(rintro w' ⟨s0,s1,s2,s3⟩;go_simp;with_reducible rfl);rotate_left;(simp only [Act.put,List.setIfInBounds_toArray,List.set_cons_zero,List.set_cons_succ,i64_w,i32_w];rfl)
        refine take_ (i:=9) (N:=some 67) (v:=?_) (a':=?_) #[true,true,true,true,true,true,true,false,false,true,true,false,false,false,false] rfl rfl (take_ofW HT_.out HW_.out (by kernel_rfl)) (fun _ _ _ h=>h) (Or.inl ⟨by rfl,?_⟩) hHeld ?_ ?_
        rotate_left;(rintro w' ⟨s0,s1,s2,s3⟩;go_simp;with_reducible rfl);rotate_left;(simp only [Act.put,List.setIfInBounds_toArray,List.set_cons_zero,List.set_cons_succ,i64_w,i32_w];rfl)
        refine join_ (σ:=Value × Value × Value) 3 #[true,true,true,true,true,true,true,true,true,true,true,true,false,false,false] (fun s_=>[(65,s_.1),(66,s_.2.1),(69,s_.2.2)]) (fun s_ w'=>(w'.cell? ⟨gb577,0,none⟩=some (.slice Ao36 t571.length co36)∧w'.cell? ⟨gb577,1,none⟩=some (.int .i64 t574)∧w'.cell? ⟨gb577,2,none⟩=some (.int .i64 t575)∧w'.cell? ⟨gb577,3,none⟩=some (.int .i64 t576))∧(Kd.R (Kd.int .i64) 3 w' w.heap.size (fun _=>True) (.slice Ao36 t571.length co36) t571)∧(Kd.N (Kd.slice 31 k31) 33 w' w.heap.size (fun k_=>some k_≠(.slice Ao36 t571.length co36 : Value).ownBlock∧some k_≠(.slice Ao56 y602.length co56 : Value).ownBlock∧some k_≠(.slice Ao58 t605.length co58 : Value).ownBlock∧some k_≠(s_.1 : Value).ownBlock∧some k_≠(s_.2.1 : Value).ownBlock∧some k_≠(s_.2.2 : Value).ownBlock∧k_≠gb568∧k_≠gb569∧k_≠gb577) (.slice Ao43 t578.length co43) t578)∧(Kd.V (Kd.slice 31 k31) 33 w' w.heap.size (fun k_=>some k_≠(.slice Ao36 t571.length co36 : Value).ownBlock∧some k_≠(.slice Ao56 y602.length co56 : Value).ownBlock∧some k_≠(.slice Ao58 t605.length co58 : Value).ownBlock∧some k_≠(s_.1 : Value).ownBlock∧some k_≠(s_.2.1 : Value).ownBlock∧some k_≠(s_.2.2 : Value).ownBlock∧k_≠gb568∧k_≠gb569∧k_≠gb577) (.slice Ao46 y584.length co46) y584)∧(Kd.V (Kd.slice 31 k31) 33 w' w.heap.size (fun k_=>some k_≠(.slice Ao36 t571.length co36 : Value).ownBlock∧some k_≠(.slice Ao56 y602.length co56 : Value).ownBlock∧some k_≠(.slice Ao58 t605.length co58 : Value).ownBlock∧some k_≠(s_.1 : Value).ownBlock∧some k_≠(s_.2.1 : Value).ownBlock∧some k_≠(s_.2.2 : Value).ownBlock∧k_≠gb568∧k_≠gb569∧k_≠gb577) (.slice A49 y589.length c49) y589)∧(Kd.V (Kd.slice 31 k31) 33 w' w.heap.size (fun k_=>some k_≠(.slice Ao36 t571.length co36 : Value).ownBlock∧some k_≠(.slice Ao56 y602.length co56 : Value).ownBlock∧some k_≠(.slice Ao58 t605.length co58 : Value).ownBlock∧some k_≠(s_.1 : Value).ownBlock∧some k_≠(s_.2.1 : Value).ownBlock∧some k_≠(s_.2.2 : Value).ownBlock∧k_≠gb568∧k_≠gb569∧k_≠gb577) (.slice A50 y597.length c50) y597)∧(Kd.N (Kd.slice 33 (Kd.slice 31 k31)) 28 w' w.heap.size (fun k_=>some k_≠(.slice Ao36 t571.length co36 : Value).ownBlock∧some k_≠(.slice Ao58 t605.length co58 : Value).ownBlock∧some k_≠(s_.1 : Value).ownBlock∧some k_≠(s_.2.1 : Value).ownBlock∧some k_≠(s_.2.2 : Value).ownBlock∧k_≠gb568∧k_≠gb569∧k_≠gb577) (.slice Ao56 y602.length co56) y602)∧(Kd.N (Kd.slice 31 k31) 33 w' w.heap.size (fun k_=>some k_≠(.slice Ao36 t571.length co36 : Value).ownBlock∧some k_≠(s_.1 : Value).ownBlock∧some k_≠(s_.2.1 : Value).ownBlock∧some k_≠(s_.2.2 : Value).ownBlock∧k_≠gb568∧k_≠gb569∧k_≠gb577) (.slice Ao58 t605.length co58) t605)∧(Kd.V (Kd.slice 31 k31) 33 w' w.heap.size (fun k_=>some k_≠(.slice Ao36 t571.length co36 : Value).ownBlock∧some k_≠(.slice Ao56 y602.length co56 : Value).ownBlock∧some k_≠(.slice Ao58 t605.length co58 : Value).ownBlock∧some k_≠(s_.1 : Value).ownBlock∧some k_≠(s_.2.1 : Value).ownBlock∧some k_≠(s_.2.2 : Value).ownBlock∧k_≠gb568∧k_≠gb569∧k_≠gb577) (.slice Ao46 y584.length co46) y584)∧(Kd.V (Kd.slice 31 k31) 33 w' w.heap.size (fun k_=>some k_≠(.slice Ao36 t571.length co36 : Value).ownBlock∧some k_≠(.slice Ao56 y602.length co56 : Value).ownBlock∧some k_≠(.slice Ao58 t605.length co58 : Value).ownBlock∧some k_≠(s_.1 : Value).ownBlock∧some k_≠(s_.2.1 : Value).ownBlock∧some k_≠(s_.2.2 : Value).ownBlock∧k_≠gb568∧k_≠gb569∧k_≠gb577) (.slice A61 y614.length c61) y614)∧(Kd.N (Kd.slice 33 (Kd.slice 31 k31)) 28 w' w.heap.size (fun k_=>some k_≠(.slice Ao36 t571.length co36 : Value).ownBlock∧some k_≠(.slice Ao56 y602.length co56 : Value).ownBlock∧some k_≠(.slice Ao58 t605.length co58 : Value).ownBlock∧some k_≠(s_.2.1 : Value).ownBlock∧some k_≠(s_.2.2 : Value).ownBlock∧k_≠gb568∧k_≠gb569∧k_≠gb577) s_.1 y619)∧(Kd.N (Kd.slice 31 k31) 33 w' w.heap.size (fun k_=>some k_≠(.slice Ao36 t571.length co36 : Value).ownBlock∧some k_≠(.slice Ao56 y602.length co56 : Value).ownBlock∧some k_≠(.slice Ao58 t605.length co58 : Value).ownBlock∧some k_≠(s_.2.2 : Value).ownBlock∧k_≠gb568∧k_≠gb569∧k_≠gb577) s_.2.1 t622)∧(Kd.N (Kd.slice 33 (Kd.slice 31 k31)) 28 w' w.heap.size (fun k_=>some k_≠(.slice Ao36 t571.length co36 : Value).ownBlock∧some k_≠(.slice Ao56 y602.length co56 : Value).ownBlock∧some k_≠(.slice Ao58 t605.length co58 : Value).ownBlock∧some k_≠(s_.1 : Value).ownBlock∧some k_≠(s_.2.1 : Value).ownBlock∧k_≠gb568∧k_≠gb569∧k_≠gb577) s_.2.2 y625)∧(w'.heap[gb568]?=some (.cells #[.int .u8 a0_0,.int .u8 a0_1,.int .u8 a0_2,.int .u8 a0_3,.int .u8 a0_4,.int .u8 a0_5,.int .u8 a0_6,.int .u8 a0_7,.int .u8 a0_8,.int .u8 a0_9,.int .u8 a0_10,.int .u8 a0_11] 38 (0,0)))∧(w'.heap[gb569]?=some (.cells #[.int .u8 a2_0,.int .u8 a2_1] 43 (0,0)))∧(w'.heap[gb577]?=some (.cells #[.slice Ao36 t571.length co36,.int .i64 t574,.int .i64 t575,.int .i64 t576] 26 (0,0)))∧(Below w.heap.size w w')) ?_ ?_
        rotate_left
        ·intro hCont
         refine two_ (i:=7) (j:=11) (Ni:=some 65) (Nj:=some 69) #[true,true,true,true,true,true,true,true,false,true,true,false,false,false,false] #[true,true,true,true,true,true,true,false,false,true,true,true,false,false,false] rfl rfl rfl rfl (two_of HT_.out (by kernel_rfl)) (by decide) (by decide) (fun K hK=>?_) (fun K hK=>?_)
         ·skip
          refine Kd.N_lit_step (Kd.slice 33 (Kd.slice 31 k31)) _ 28 ?hg (N':=65) ?hd (xs:=([y584,y614] : List (List (List (S31))))) (inner:=[.slice Ao46 y584.length co46,.slice A61 y614.length c61]) (ok:=(fun k_=>some k_≠(.slice Ao36 t571.length co36 : Value).ownBlock∧some k_≠(.slice Ao56 y602.length co56 : Value).ownBlock∧some k_≠(.slice Ao58 t605.length co58 : Value).ownBlock∧k_≠gb568∧k_≠gb569∧k_≠gb577)) (okp:=(fun k_=>some k_≠(.slice Ao36 t571.length co36 : Value).ownBlock∧some k_≠(.slice Ao56 y602.length co56 : Value).ownBlock∧some k_≠(.slice Ao58 t605.length co58 : Value).ownBlock∧k_≠gb568∧k_≠gb569∧k_≠gb577)) ?hr ?hp (fun _ hk=>hk) ((show ∀ k_,w59.heap.size≤k_→(fun k_=>some k_≠(.slice Ao36 t571.length co36 : Value).ownBlock∧some k_≠(.slice Ao56 y602.length co56 : Value).ownBlock∧some k_≠(.slice Ao58 t605.length co58 : Value).ownBlock∧k_≠gb568∧k_≠gb569∧k_≠gb577) k_ from fun k_ hk=>⟨Kd.fresh' (Kd.R_lt (R_up HO573.out)) k_ hk,Kd.fresh' (Kd.N_lt (N_up HO604.out)) k_ hk,Kd.fresh' (Kd.N_lt (N_up HO607.out)) k_ hk,Kd.freshB (blk_up BK568.out) k_ hk,Kd.freshB (blk_up BK569.out) k_ hk,Kd.freshB (blk_up BK577.out) k_ hk⟩) _ (Nat.le_refl _)) (Below.refl _ _) (Nat.le_refl _) (by simp) ?_;(case hd=>rfl);(case hg=>rfl);(case hr=>first|(go_simp;done)|(go_simp;rfl));(case hp=>exact (Reps.one (show Kd.FK (Kd.slice 33 (Kd.slice 31 k31)) _ _ y584 [.slice Ao46 y584.length co46] from (Kd.FK_slice_mk (Kd.V_reads' (Kd.V_mono (ok':=(fun k_=>some k_≠(.slice Ao36 t571.length co36 : Value).ownBlock∧some k_≠(.slice Ao56 y602.length co56 : Value).ownBlock∧some k_≠(.slice Ao58 t605.length co58 : Value).ownBlock∧k_≠gb568∧k_≠gb569∧k_≠gb577)) (HO613.out) (fun k_ hk=>by first|exact ⟨hk.1.1.1.1,⟨hk.1.2,⟨hk.2,⟨hk.1.1.1.2.1,⟨hk.1.1.1.2.2.1,hk.1.1.1.2.2.2⟩⟩⟩⟩⟩|((try (simp only [and_assoc] at hk));(repeat (obtain ⟨_,hk⟩:=hk));(repeat' apply And.intro)<;>assumption)))).2.1 (Kd.V_F (Kd.V_mono (ok':=(fun k_=>some k_≠(.slice Ao36 t571.length co36 : Value).ownBlock∧some k_≠(.slice Ao56 y602.length co56 : Value).ownBlock∧some k_≠(.slice Ao58 t605.length co58 : Value).ownBlock∧k_≠gb568∧k_≠gb569∧k_≠gb577)) (HO613.out) (fun k_ hk=>by first|exact ⟨hk.1.1.1.1,⟨hk.1.2,⟨hk.2,⟨hk.1.1.1.2.1,⟨hk.1.1.1.2.2.1,hk.1.1.1.2.2.2⟩⟩⟩⟩⟩|((try (simp only [and_assoc] at hk));(repeat (obtain ⟨_,hk⟩:=hk));(repeat' apply And.intro)<;>assumption)))))) (Reps.one (show Kd.FK (Kd.slice 33 (Kd.slice 31 k31)) _ _ y614 [.slice A61 y614.length c61] from (Kd.FK_slice_mk (Kd.V_reads' (Kd.V_mono (ok':=(fun k_=>some k_≠(.slice Ao36 t571.length co36 : Value).ownBlock∧some k_≠(.slice Ao56 y602.length co56 : Value).ownBlock∧some k_≠(.slice Ao58 t605.length co58 : Value).ownBlock∧k_≠gb568∧k_≠gb569∧k_≠gb577)) (HO618.out) (fun k_ hk=>by first|exact ⟨hk.1.1.1.1,⟨hk.1.2,⟨hk.2,⟨hk.1.1.1.2.1,⟨hk.1.1.1.2.2.1,hk.1.1.1.2.2.2⟩⟩⟩⟩⟩|((try (simp only [and_assoc] at hk));(repeat (obtain ⟨_,hk⟩:=hk));(repeat' apply And.intro)<;>assumption)))).2.1 (Kd.V_F (Kd.V_mono (ok':=(fun k_=>some k_≠(.slice Ao36 t571.length co36 : Value).ownBlock∧some k_≠(.slice Ao56 y602.length co56 : Value).ownBlock∧some k_≠(.slice Ao58 t605.length co58 : Value).ownBlock∧k_≠gb568∧k_≠gb569∧k_≠gb577)) (HO618.out) (fun k_ hk=>by first|exact ⟨hk.1.1.1.1,⟨hk.1.2,⟨hk.2,⟨hk.1.1.1.2.1,⟨hk.1.1.1.2.2.1,hk.1.1.1.2.2.2⟩⟩⟩⟩⟩|((try (simp only [and_assoc] at hk));(repeat (obtain ⟨_,hk⟩:=hk));(repeat' apply And.intro)<;>assumption)))))) (Reps.none _ _))))
          intro v620 w62 ho63 hb hg_ hnew_
          clear hg_ hnew_
          (first|rw [← Ny619.out] at ho63|(simp only [Int.reduceToNat] at ho63;rw [← Ny619.out] at ho63))
          have n0_:=Aside0.mk (Kd.R_below (R_up HO573.out) hb)
          have n1_:=Aside0.mk (Kd.N_elder' (N_up HO580.out) (Kd.N_base ho63) hb)
          have n2_:=Aside0.mk (Kd.N_elder' (N_up HO583.out) (Kd.N_base ho63) hb)
          have n3_:=Aside0.mk (Kd.V_elder' (V_up HO588.out) (Kd.N_base ho63) hb)
          have n4_:=Aside0.mk (Kd.V_elder' (V_up HO593.out) (Kd.N_base ho63) hb)
          have n5_:=Aside0.mk (Kd.V_elder' (V_up HO601.out) (Kd.N_base ho63) hb)
          have n6_:=Aside0.mk (Kd.N_elder' (N_up HO604.out) (Kd.N_base ho63) hb)
          have n7_:=Aside0.mk (Kd.N_elder' (N_up HO607.out) (Kd.N_base ho63) hb)
          have n8_:=Aside0.mk (Kd.V_elder' (V_up HO613.out) (Kd.N_base ho63) hb)
          have n9_:=Aside0.mk (Kd.V_elder' (V_up HO618.out) (Kd.N_base ho63) hb)
          have n10_:=Aside0.mk (Kd.N_lower ho63 (below_size (below_go HB.out)))
          have n11_:=Aside0.mk (blk_below (blk_up BK568.out) hb)
          have n12_:=Aside0.mk (blk_below (blk_up BK569.out) hb)
          have n13_:=Aside0.mk (blk_below (blk_up BK577.out) hb)
          have n14_:=Aside0.mk (below_step (below_go HB.out) hb)
          clear HO573
          clear HO580
          clear HO583
          clear HO588
          clear HO593
          clear HO601
          clear HO604
          clear HO607
          clear HO613
          clear HO618
          clear BK568
          clear BK569
          clear BK577
          clear HB
          have HO573:=n0_
          have HO580:=n1_
          have HO583:=n2_
          have HO588:=n3_
          have HO593:=n4_
          have HO601:=n5_
          have HO604:=n6_
          have HO607:=n7_
          have HO613:=n8_
          have HO618:=n9_
          have HO621:=n10_
          have BK568:=n11_
          have BK569:=n12_
          have BK577:=n13_
          have HB:=n14_
          clear n0_ n1_ n2_ n3_ n4_ n5_ n6_ n7_ n8_ n9_ n10_ n11_ n12_ n13_ n14_
          clear hb ho63
          obtain ⟨Ao64,co64,eo64⟩:=Kd.N_slice HO621.out
          (first|subst eo64|(injection eo64 with f1_ f2_ f3_;have f4_:=f1_.symm;have f5_:=f3_.symm;clear f1_ f2_ f3_;subst f4_;subst f5_))
          refine hK.out _ _ ⟨(blk_cell BK577.out 0).trans rfl,(blk_cell BK577.out 1).trans rfl,(blk_cell BK577.out 2).trans rfl,(blk_cell BK577.out 3).trans rfl⟩ (fun hHeld=>?_)
          clear hK K
          refine norm_ (a':=?_) ?_ ?_
          rotate_left
          ·show Act.put _ (some 65) _=_
           simp only [Act.put,List.setIfInBounds_toArray,List.set_cons_zero,List.set_cons_succ,i64_w,i32_w]
           rfl
          refine two_ (i:=8) (j:=11) (Ni:=some 66) (Nj:=some 69) #[true,true,true,true,true,true,true,true,true,true,true,false,false,false,false] #[true,true,true,true,true,true,true,true,false,true,true,true,false,false,false] rfl rfl rfl rfl (two_of HT_.out (by kernel_rfl)) (by decide) (by decide) (fun K hK=>?_) (fun K hK=>?_)
          ·skip
           refine goes_ Try.func14 (by kernel_rfl) rfl #[.agg #[.slice Ao36 t571.length co36,.int .i64 t574,.int .i64 t575,.int .i64 t576],.slice Ao64 y619.length co64] (by rfl) rfl rfl (by (try simp only [List.map_toArray,List.map_cons,List.map_nil]);first|done|rfl|(simp only [List.length_drop,List.length_take];rfl)) ?_
           with_reducible refine (merge_Folded.calls k _ _ t571 t574 t575 t576 (fun k_=>(some k_≠(.slice Ao36 t571.length co36 : Value).ownBlock∧(some k_≠(.slice Ao56 y602.length co56 : Value).ownBlock∧(some k_≠(.slice Ao58 t605.length co58 : Value).ownBlock∧(k_≠gb568∧(k_≠gb569∧k_≠gb577)))))) _ _ y619 t622 _ ?side1 ?side2 ?side3 A25.out).mono ?_
           (case side1=>repeat (first|exact (Kd.R_reads' HO573.out).2.2|(with_reducible refine Kd.C_alloc ?_ _)|(with_reducible refine Kd.C_drewN ?_ _)|(with_reducible refine Kd.C_drew ?_)))
           (case side2=>exact (Kd.R_reads' HO573.out).2.1)
           (case side3=>first|exact Kd.N_V (HO621.out)|exact Kd.N_V (Kd.N_mono HO621.out (fun k_ hk_=>by ((try (simp only [and_assoc] at hk_));(repeat (obtain ⟨_,hk_⟩:=hk_));(repeat' apply And.intro)<;>assumption))))
           rintro e w65 ⟨v623,rfl,ho0,hb⟩
           refine ⟨_,rfl,?_⟩
           have n0_:=Aside0.mk (Kd.R_below (R_up HO573.out) hb)
           have n1_:=Aside0.mk (Kd.N_elder' (N_up HO580.out) (by first|exact Kd.N_base ho0|exact Kd.S_base ho0) hb)
           have n2_:=Aside0.mk (Kd.N_elder' (N_up HO583.out) (by first|exact Kd.N_base ho0|exact Kd.S_base ho0) hb)
           have n3_:=Aside0.mk (Kd.V_elder' (V_up HO588.out) (by first|exact Kd.N_base ho0|exact Kd.S_base ho0) hb)
           have n4_:=Aside0.mk (Kd.V_elder' (V_up HO593.out) (by first|exact Kd.N_base ho0|exact Kd.S_base ho0) hb)
           have n5_:=Aside0.mk (Kd.V_elder' (V_up HO601.out) (by first|exact Kd.N_base ho0|exact Kd.S_base ho0) hb)
           have n6_:=Aside0.mk (Kd.N_elder' (N_up HO604.out) (by first|exact Kd.N_base ho0|exact Kd.S_base ho0) hb)
           have n7_:=Aside0.mk (Kd.N_elder' (N_up HO607.out) (by first|exact Kd.N_base ho0|exact Kd.S_base ho0) hb)
           have n8_:=Aside0.mk (Kd.V_elder' (V_up HO613.out) (by first|exact Kd.N_base ho0|exact Kd.S_base ho0) hb)
           have n9_:=Aside0.mk (Kd.V_elder' (V_up HO618.out) (by first|exact Kd.N_base ho0|exact Kd.S_base ho0) hb)
           have n10_:=Aside0.mk (Kd.N_elder' (N_up HO621.out) (by first|exact Kd.N_base ho0|exact Kd.S_base ho0) hb)
           have n11_:=Aside0.mk (Kd.N_lower (Kd.N_mono (ok':=fun k_=>some k_≠(.slice Ao36 t571.length co36 : Value).ownBlock∧some k_≠(.slice Ao56 y602.length co56 : Value).ownBlock∧some k_≠(.slice Ao58 t605.length co58 : Value).ownBlock∧k_≠gb568∧k_≠gb569∧k_≠gb577) ho0 (fun k_ hk_=>⟨Or.elim hk_ (fun hs_=>hs_.1) (fun hn_=>(Kd.fresh' (Kd.R_lt (R_up HO573.out)) k_ hn_)),Or.elim hk_ (fun hs_=>hs_.2.1) (fun hn_=>(Kd.fresh' (Kd.N_lt (N_up HO604.out)) k_ hn_)),Or.elim hk_ (fun hs_=>hs_.2.2.1) (fun hn_=>(Kd.fresh' (Kd.N_lt (N_up HO607.out)) k_ hn_)),Or.elim hk_ (fun hs_=>hs_.2.2.2.1) (fun hn_=>(Kd.freshB (blk_up BK568.out) k_ hn_)),Or.elim hk_ (fun hs_=>hs_.2.2.2.2.1) (fun hn_=>(Kd.freshB (blk_up BK569.out) k_ hn_)),Or.elim hk_ (fun hs_=>hs_.2.2.2.2.2) (fun hn_=>(Kd.freshB (blk_up BK577.out) k_ hn_))⟩)) (below_size (below_go HB.out)))
           have n12_:=Aside0.mk (blk_below (blk_up BK568.out) hb)
           have n13_:=Aside0.mk (blk_below (blk_up BK569.out) hb)
           have n14_:=Aside0.mk (blk_below (blk_up BK577.out) hb)
           have n15_:=Aside0.mk (below_step (below_go HB.out) hb)
           clear HO573
           clear HO580
           clear HO583
           clear HO588
           clear HO593
           clear HO601
           clear HO604
           clear HO607
           clear HO613
           clear HO618
           clear HO621
           clear BK568
           clear BK569
           clear BK577
           clear HB
           have HO573:=n0_
           have HO580:=n1_
           have HO583:=n2_
           have HO588:=n3_
           have HO593:=n4_
           have HO601:=n5_
           have HO604:=n6_
           have HO607:=n7_
           have HO613:=n8_
           have HO618:=n9_
           have HO621:=n10_
           have HO624:=n11_
           have BK568:=n12_
           have BK569:=n13_
           have BK577:=n14_
           have HB:=n15_
           clear n0_ n1_ n2_ n3_ n4_ n5_ n6_ n7_ n8_ n9_ n10_ n11_ n12_ n13_ n14_ n15_
           (try clear hb)
           (try clear hb2)
           (try clear hk)
           (try clear hi)
           (try clear ho0)
           refine hK.out _ _ ⟨(blk_cell BK577.out 0).trans rfl,(blk_cell BK577.out 1).trans rfl,(blk_cell BK577.out 2).trans rfl,(blk_cell BK577.out 3).trans rfl⟩ (fun hHeld=>?_)
           clear hK K
           refine norm_ (a':=?_) ?_ ?_
           rotate_left
           ·show Act.put _ (some 66) _=_
            simp only [Act.put,List.setIfInBounds_toArray,List.set_cons_zero,List.set_cons_succ,i64_w,i32_w]
            rfl
           refine one_ (i:=11) (N:=some 69) #[true,true,true,true,true,true,true,true,true,true,true,true,false,false,false] rfl rfl (one_of HT_.out (by kernel_rfl)) (by decide) (fun K hK=>?_)
           refine Kd.N_lit_step (Kd.slice 33 (Kd.slice 31 k31)) _ 28 ?hg (N':=69) ?hd (xs:=([t581] : List (List (List (S31))))) (inner:=[.slice Ao46 t581.length co46]) (ok:=(fun k_=>some k_≠(.slice Ao36 t571.length co36 : Value).ownBlock∧some k_≠(.slice Ao56 y602.length co56 : Value).ownBlock∧some k_≠(.slice Ao58 t605.length co58 : Value).ownBlock∧some k_≠(.slice Ao64 y619.length co64 : Value).ownBlock∧some k_≠(v623 : Value).ownBlock∧k_≠gb568∧k_≠gb569∧k_≠gb577)) (okp:=(fun k_=>some k_≠(.slice Ao36 t571.length co36 : Value).ownBlock∧some k_≠(.slice Ao56 y602.length co56 : Value).ownBlock∧some k_≠(.slice Ao58 t605.length co58 : Value).ownBlock∧some k_≠(.slice Ao64 y619.length co64 : Value).ownBlock∧some k_≠(v623 : Value).ownBlock∧k_≠gb568∧k_≠gb569∧k_≠gb577)) ?hr ?hp (fun _ hk=>hk) ((show ∀ k_,w65.heap.size≤k_→(fun k_=>some k_≠(.slice Ao36 t571.length co36 : Value).ownBlock∧some k_≠(.slice Ao56 y602.length co56 : Value).ownBlock∧some k_≠(.slice Ao58 t605.length co58 : Value).ownBlock∧some k_≠(.slice Ao64 y619.length co64 : Value).ownBlock∧some k_≠(v623 : Value).ownBlock∧k_≠gb568∧k_≠gb569∧k_≠gb577) k_ from fun k_ hk=>⟨Kd.fresh' (Kd.R_lt (R_up HO573.out)) k_ hk,Kd.fresh' (Kd.N_lt (N_up HO604.out)) k_ hk,Kd.fresh' (Kd.N_lt (N_up HO607.out)) k_ hk,Kd.fresh' (Kd.N_lt (N_up HO621.out)) k_ hk,Kd.fresh' (Kd.N_lt (N_up HO624.out)) k_ hk,Kd.freshB (blk_up BK568.out) k_ hk,Kd.freshB (blk_up BK569.out) k_ hk,Kd.freshB (blk_up BK577.out) k_ hk⟩) _ (Nat.le_refl _)) (Below.refl _ _) (Nat.le_refl _) (by simp) ?_;(case hd=>rfl);(case hg=>rfl);(case hr=>first|(go_simp;done)|(go_simp;rfl));(case hp=>exact (Reps.one (show Kd.FK (Kd.slice 33 (Kd.slice 31 k31)) _ _ t581 [.slice Ao46 t581.length co46] from (Kd.FK_slice_mk (Kd.N_reads' (Kd.N_mono (ok':=(fun k_=>some k_≠(.slice Ao36 t571.length co36 : Value).ownBlock∧some k_≠(.slice Ao56 y602.length co56 : Value).ownBlock∧some k_≠(.slice Ao58 t605.length co58 : Value).ownBlock∧some k_≠(.slice Ao64 y619.length co64 : Value).ownBlock∧some k_≠(v623 : Value).ownBlock∧k_≠gb568∧k_≠gb569∧k_≠gb577)) (HO583.out) (fun k_ hk=>by first|exact ⟨hk.1.1.1.1.1.1,⟨hk.1.1.1.2,⟨hk.1.1.2,⟨hk.1.2,⟨hk.2,⟨hk.1.1.1.1.1.2.1,⟨hk.1.1.1.1.1.2.2.1,hk.1.1.1.1.1.2.2.2⟩⟩⟩⟩⟩⟩⟩|((try (simp only [and_assoc] at hk));(repeat (obtain ⟨_,hk⟩:=hk));(repeat' apply And.intro)<;>assumption)))).2.1 (Kd.N_F (Kd.N_mono (ok':=(fun k_=>some k_≠(.slice Ao36 t571.length co36 : Value).ownBlock∧some k_≠(.slice Ao56 y602.length co56 : Value).ownBlock∧some k_≠(.slice Ao58 t605.length co58 : Value).ownBlock∧some k_≠(.slice Ao64 y619.length co64 : Value).ownBlock∧some k_≠(v623 : Value).ownBlock∧k_≠gb568∧k_≠gb569∧k_≠gb577)) (HO583.out) (fun k_ hk=>by first|exact ⟨hk.1.1.1.1.1.1,⟨hk.1.1.1.2,⟨hk.1.1.2,⟨hk.1.2,⟨hk.2,⟨hk.1.1.1.1.1.2.1,⟨hk.1.1.1.1.1.2.2.1,hk.1.1.1.1.1.2.2.2⟩⟩⟩⟩⟩⟩⟩|((try (simp only [and_assoc] at hk));(repeat (obtain ⟨_,hk⟩:=hk));(repeat' apply And.intro)<;>assumption)))))) (Reps.none _ _)))
           intro v626 w66 ho67 hb hg_ hnew_
           clear hg_ hnew_
           (first|rw [← Ny625.out] at ho67|(simp only [Int.reduceToNat] at ho67;rw [← Ny625.out] at ho67))
           have n0_:=Aside0.mk (Kd.R_below (R_up HO573.out) hb)
           have n1_:=Aside0.mk (Kd.N_elder' (N_up HO580.out) (Kd.N_base ho67) hb)
           have n2_:=Aside0.mk (Kd.V_elder' (V_up HO588.out) (Kd.N_base ho67) hb)
           have n3_:=Aside0.mk (Kd.V_elder' (V_up HO593.out) (Kd.N_base ho67) hb)
           have n4_:=Aside0.mk (Kd.V_elder' (V_up HO601.out) (Kd.N_base ho67) hb)
           have n5_:=Aside0.mk (Kd.N_elder' (N_up HO604.out) (Kd.N_base ho67) hb)
           have n6_:=Aside0.mk (Kd.N_elder' (N_up HO607.out) (Kd.N_base ho67) hb)
           have n7_:=Aside0.mk (Kd.V_elder' (V_up HO613.out) (Kd.N_base ho67) hb)
           have n8_:=Aside0.mk (Kd.V_elder' (V_up HO618.out) (Kd.N_base ho67) hb)
           have n9_:=Aside0.mk (Kd.N_elder' (N_up HO621.out) (Kd.N_base ho67) hb)
           have n10_:=Aside0.mk (Kd.N_elder' (N_up HO624.out) (Kd.N_base ho67) hb)
           have n11_:=Aside0.mk (Kd.N_lower ho67 (below_size (below_go HB.out)))
           have n12_:=Aside0.mk (blk_below (blk_up BK568.out) hb)
           have n13_:=Aside0.mk (blk_below (blk_up BK569.out) hb)
           have n14_:=Aside0.mk (blk_below (blk_up BK577.out) hb)
           have n15_:=Aside0.mk (below_step (below_go HB.out) hb)
           clear HO573
           clear HO580
           clear HO588
           clear HO593
           clear HO601
           clear HO604
           clear HO607
           clear HO613
           clear HO618
           clear HO621
           clear HO624
           clear BK568
           clear BK569
           clear BK577
           clear HB
           clear HO583
           have HO573:=n0_
           have HO580:=n1_
           have HO588:=n2_
           have HO593:=n3_
           have HO601:=n4_
           have HO604:=n5_
           have HO607:=n6_
           have HO613:=n7_
           have HO618:=n8_
           have HO621:=n9_
           have HO624:=n10_
           have HO627:=n11_
           have BK568:=n12_
           have BK569:=n13_
           have BK577:=n14_
           have HB:=n15_
           clear n0_ n1_ n2_ n3_ n4_ n5_ n6_ n7_ n8_ n9_ n10_ n11_ n12_ n13_ n14_ n15_
           clear hb ho67
           refine hK.out _ _ ⟨(blk_cell BK577.out 0).trans rfl,(blk_cell BK577.out 1).trans rfl,(blk_cell BK577.out 2).trans rfl,(blk_cell BK577.out 3).trans rfl⟩ (fun hHeld=>?_)
           clear hK K
           refine norm_ (a':=?_) ?_ ?_
           rotate_left
           ·show Act.put _ (some 69) _=_
            simp only [Act.put,List.setIfInBounds_toArray,List.set_cons_zero,List.set_cons_succ,i64_w,i32_w]
            rfl
           exact norm_ (by simp only [putAll,Act.put,List.setIfInBounds_toArray,List.set_cons_zero,List.set_cons_succ]) (hCont (.slice Ao64 y619.length co64,v623,v626) _ ⟨hHeld,(R_up HO573.out),(by (with_reducible repeat (first|apply Kd.N_alloc|apply Kd.N_drewN|apply Kd.N_drew));exact Kd.N_mono HO580.out (fun _ hk=>by first|exact ⟨hk.1.1.1.1.1.1.1.1,⟨hk.1.1.1.1.2,⟨hk.1.1.1.2,⟨hk.1.1.2,⟨hk.1.2,⟨hk.2,⟨hk.1.1.1.1.1.1.1.2.1,⟨hk.1.1.1.1.1.1.1.2.2.1,hk.1.1.1.1.1.1.1.2.2.2⟩⟩⟩⟩⟩⟩⟩⟩|((try (simp only [and_assoc] at hk));(repeat (obtain ⟨_,hk⟩:=hk));(repeat' apply And.intro)<;>assumption))),(by (with_reducible repeat (first|apply Kd.V_alloc|apply Kd.V_drewN|apply Kd.V_drew));exact Kd.V_mono HO588.out (fun _ hk=>by first|exact ⟨hk.1.1.1.1.1.1.1,⟨hk.1.1.1.1.2,⟨hk.1.1.1.2,⟨hk.1.1.2,⟨hk.1.2,⟨hk.2,⟨hk.1.1.1.1.1.1.2.1,⟨hk.1.1.1.1.1.1.2.2.1,hk.1.1.1.1.1.1.2.2.2⟩⟩⟩⟩⟩⟩⟩⟩|((try (simp only [and_assoc] at hk));(repeat (obtain ⟨_,hk⟩:=hk));(repeat' apply And.intro)<;>assumption))),(by (with_reducible repeat (first|apply Kd.V_alloc|apply Kd.V_drewN|apply Kd.V_drew));exact Kd.V_mono HO593.out (fun _ hk=>by first|exact ⟨hk.1.1.1.1.1.1.1,⟨hk.1.1.1.1.2,⟨hk.1.1.1.2,⟨hk.1.1.2,⟨hk.1.2,⟨hk.2,⟨hk.1.1.1.1.1.1.2.1,⟨hk.1.1.1.1.1.1.2.2.1,hk.1.1.1.1.1.1.2.2.2⟩⟩⟩⟩⟩⟩⟩⟩|((try (simp only [and_assoc] at hk));(repeat (obtain ⟨_,hk⟩:=hk));(repeat' apply And.intro)<;>assumption))),(by (with_reducible repeat (first|apply Kd.V_alloc|apply Kd.V_drewN|apply Kd.V_drew));exact Kd.V_mono HO601.out (fun _ hk=>by first|exact ⟨hk.1.1.1.1.1.1.1,⟨hk.1.1.1.1.2,⟨hk.1.1.1.2,⟨hk.1.1.2,⟨hk.1.2,⟨hk.2,⟨hk.1.1.1.1.1.1.2.1,⟨hk.1.1.1.1.1.1.2.2.1,hk.1.1.1.1.1.1.2.2.2⟩⟩⟩⟩⟩⟩⟩⟩|((try (simp only [and_assoc] at hk));(repeat (obtain ⟨_,hk⟩:=hk));(repeat' apply And.intro)<;>assumption))),(by (with_reducible repeat (first|apply Kd.N_alloc|apply Kd.N_drewN|apply Kd.N_drew));exact Kd.N_mono HO604.out (fun _ hk=>by first|exact ⟨hk.1.1.1.1.1,⟨hk.1.1.1.2,⟨hk.1.1.2,⟨hk.1.2,⟨hk.2,⟨hk.1.1.1.1.2.1,⟨hk.1.1.1.1.2.2.1,hk.1.1.1.1.2.2.2⟩⟩⟩⟩⟩⟩⟩|((try (simp only [and_assoc] at hk));(repeat (obtain ⟨_,hk⟩:=hk));(repeat' apply And.intro)<;>assumption))),(by (with_reducible repeat (first|apply Kd.N_alloc|apply Kd.N_drewN|apply Kd.N_drew));exact Kd.N_mono HO607.out (fun _ hk=>by first|exact ⟨hk.1.1.1.1,⟨hk.1.1.2,⟨hk.1.2,⟨hk.2,⟨hk.1.1.1.2.1,⟨hk.1.1.1.2.2.1,hk.1.1.1.2.2.2⟩⟩⟩⟩⟩⟩|((try (simp only [and_assoc] at hk));(repeat (obtain ⟨_,hk⟩:=hk));(repeat' apply And.intro)<;>assumption))),(by (with_reducible repeat (first|apply Kd.V_alloc|apply Kd.V_drewN|apply Kd.V_drew));exact Kd.V_mono HO613.out (fun _ hk=>by first|exact ⟨hk.1.1.1.1.1.1.1,⟨hk.1.1.1.1.2,⟨hk.1.1.1.2,⟨hk.1.1.2,⟨hk.1.2,⟨hk.2,⟨hk.1.1.1.1.1.1.2.1,⟨hk.1.1.1.1.1.1.2.2.1,hk.1.1.1.1.1.1.2.2.2⟩⟩⟩⟩⟩⟩⟩⟩|((try (simp only [and_assoc] at hk));(repeat (obtain ⟨_,hk⟩:=hk));(repeat' apply And.intro)<;>assumption))),(by (with_reducible repeat (first|apply Kd.V_alloc|apply Kd.V_drewN|apply Kd.V_drew));exact Kd.V_mono HO618.out (fun _ hk=>by first|exact ⟨hk.1.1.1.1.1.1.1,⟨hk.1.1.1.1.2,⟨hk.1.1.1.2,⟨hk.1.1.2,⟨hk.1.2,⟨hk.2,⟨hk.1.1.1.1.1.1.2.1,⟨hk.1.1.1.1.1.1.2.2.1,hk.1.1.1.1.1.1.2.2.2⟩⟩⟩⟩⟩⟩⟩⟩|((try (simp only [and_assoc] at hk));(repeat (obtain ⟨_,hk⟩:=hk));(repeat' apply And.intro)<;>assumption))),(by (with_reducible repeat (first|apply Kd.N_alloc|apply Kd.N_drewN|apply Kd.N_drew));exact Kd.N_mono HO621.out (fun _ hk=>by first|exact ⟨hk.1.1.1,⟨hk.1.1.2.1,⟨hk.1.1.2.2.1,⟨hk.1.2,⟨hk.2,⟨hk.1.1.2.2.2.1,⟨hk.1.1.2.2.2.2.1,hk.1.1.2.2.2.2.2⟩⟩⟩⟩⟩⟩⟩|((try (simp only [and_assoc] at hk));(repeat (obtain ⟨_,hk⟩:=hk));(repeat' apply And.intro)<;>assumption))),(by (with_reducible repeat (first|apply Kd.N_alloc|apply Kd.N_drewN|apply Kd.N_drew));exact Kd.N_mono HO624.out (fun _ hk=>by first|exact ⟨hk.1.1,⟨hk.1.2.1,⟨hk.1.2.2.1,⟨hk.2,⟨hk.1.2.2.2.1,⟨hk.1.2.2.2.2.1,hk.1.2.2.2.2.2⟩⟩⟩⟩⟩⟩|((try (simp only [and_assoc] at hk));(repeat (obtain ⟨_,hk⟩:=hk));(repeat' apply And.intro)<;>assumption))),(N_up HO627.out),(blk_up BK568.out),(blk_up BK569.out),(blk_up BK577.out),(below_go HB.out)⟩)
          ·skip
           refine Kd.N_lit_step (Kd.slice 33 (Kd.slice 31 k31)) _ 28 ?hg (N':=69) ?hd (xs:=([t581] : List (List (List (S31))))) (inner:=[.slice Ao46 t581.length co46]) (ok:=(fun k_=>some k_≠(.slice Ao36 t571.length co36 : Value).ownBlock∧some k_≠(.slice Ao56 y602.length co56 : Value).ownBlock∧some k_≠(.slice Ao58 t605.length co58 : Value).ownBlock∧some k_≠(.slice Ao64 y619.length co64 : Value).ownBlock∧k_≠gb568∧k_≠gb569∧k_≠gb577)) (okp:=(fun k_=>some k_≠(.slice Ao36 t571.length co36 : Value).ownBlock∧some k_≠(.slice Ao56 y602.length co56 : Value).ownBlock∧some k_≠(.slice Ao58 t605.length co58 : Value).ownBlock∧some k_≠(.slice Ao64 y619.length co64 : Value).ownBlock∧k_≠gb568∧k_≠gb569∧k_≠gb577)) ?hr ?hp (fun _ hk=>hk) ((show ∀ k_,w62.heap.size≤k_→(fun k_=>some k_≠(.slice Ao36 t571.length co36 : Value).ownBlock∧some k_≠(.slice Ao56 y602.length co56 : Value).ownBlock∧some k_≠(.slice Ao58 t605.length co58 : Value).ownBlock∧some k_≠(.slice Ao64 y619.length co64 : Value).ownBlock∧k_≠gb568∧k_≠gb569∧k_≠gb577) k_ from fun k_ hk=>⟨Kd.fresh' (Kd.R_lt (R_up HO573.out)) k_ hk,Kd.fresh' (Kd.N_lt (N_up HO604.out)) k_ hk,Kd.fresh' (Kd.N_lt (N_up HO607.out)) k_ hk,Kd.fresh' (Kd.N_lt (N_up HO621.out)) k_ hk,Kd.freshB (blk_up BK568.out) k_ hk,Kd.freshB (blk_up BK569.out) k_ hk,Kd.freshB (blk_up BK577.out) k_ hk⟩) _ (Nat.le_refl _)) (Below.refl _ _) (Nat.le_refl _) (by simp) ?_;(case hd=>rfl);(case hg=>rfl);(case hr=>first|(go_simp;done)|(go_simp;rfl));(case hp=>exact (Reps.one (show Kd.FK (Kd.slice 33 (Kd.slice 31 k31)) _ _ t581 [.slice Ao46 t581.length co46] from (Kd.FK_slice_mk (Kd.N_reads' (Kd.N_mono (ok':=(fun k_=>some k_≠(.slice Ao36 t571.length co36 : Value).ownBlock∧some k_≠(.slice Ao56 y602.length co56 : Value).ownBlock∧some k_≠(.slice Ao58 t605.length co58 : Value).ownBlock∧some k_≠(.slice Ao64 y619.length co64 : Value).ownBlock∧k_≠gb568∧k_≠gb569∧k_≠gb577)) (HO583.out) (fun k_ hk=>by first|exact ⟨hk.1.1.1.1.1,⟨hk.1.1.2,⟨hk.1.2,⟨hk.2,⟨hk.1.1.1.1.2.1,⟨hk.1.1.1.1.2.2.1,hk.1.1.1.1.2.2.2⟩⟩⟩⟩⟩⟩|((try (simp only [and_assoc] at hk));(repeat (obtain ⟨_,hk⟩:=hk));(repeat' apply And.intro)<;>assumption)))).2.1 (Kd.N_F (Kd.N_mono (ok':=(fun k_=>some k_≠(.slice Ao36 t571.length co36 : Value).ownBlock∧some k_≠(.slice Ao56 y602.length co56 : Value).ownBlock∧some k_≠(.slice Ao58 t605.length co58 : Value).ownBlock∧some k_≠(.slice Ao64 y619.length co64 : Value).ownBlock∧k_≠gb568∧k_≠gb569∧k_≠gb577)) (HO583.out) (fun k_ hk=>by first|exact ⟨hk.1.1.1.1.1,⟨hk.1.1.2,⟨hk.1.2,⟨hk.2,⟨hk.1.1.1.1.2.1,⟨hk.1.1.1.1.2.2.1,hk.1.1.1.1.2.2.2⟩⟩⟩⟩⟩⟩|((try (simp only [and_assoc] at hk));(repeat (obtain ⟨_,hk⟩:=hk));(repeat' apply And.intro)<;>assumption)))))) (Reps.none _ _)))
           intro v626 w64 ho65 hb hg_ hnew_
           clear hg_ hnew_
           (first|rw [← Ny625.out] at ho65|(simp only [Int.reduceToNat] at ho65;rw [← Ny625.out] at ho65))
           have n0_:=Aside0.mk (Kd.R_below (R_up HO573.out) hb)
           have n1_:=Aside0.mk (Kd.N_elder' (N_up HO580.out) (Kd.N_base ho65) hb)
           have n2_:=Aside0.mk (Kd.V_elder' (V_up HO588.out) (Kd.N_base ho65) hb)
           have n3_:=Aside0.mk (Kd.V_elder' (V_up HO593.out) (Kd.N_base ho65) hb)
           have n4_:=Aside0.mk (Kd.V_elder' (V_up HO601.out) (Kd.N_base ho65) hb)
           have n5_:=Aside0.mk (Kd.N_elder' (N_up HO604.out) (Kd.N_base ho65) hb)
           have n6_:=Aside0.mk (Kd.N_elder' (N_up HO607.out) (Kd.N_base ho65) hb)
           have n7_:=Aside0.mk (Kd.V_elder' (V_up HO613.out) (Kd.N_base ho65) hb)
           have n8_:=Aside0.mk (Kd.V_elder' (V_up HO618.out) (Kd.N_base ho65) hb)
           have n9_:=Aside0.mk (Kd.N_elder' (N_up HO621.out) (Kd.N_base ho65) hb)
           have n10_:=Aside0.mk (Kd.N_lower ho65 (below_size (below_go HB.out)))
           have n11_:=Aside0.mk (blk_below (blk_up BK568.out) hb)
           have n12_:=Aside0.mk (blk_below (blk_up BK569.out) hb)
           have n13_:=Aside0.mk (blk_below (blk_up BK577.out) hb)
           have n14_:=Aside0.mk (below_step (below_go HB.out) hb)
           clear HO573
           clear HO580
           clear HO588
           clear HO593
           clear HO601
           clear HO604
           clear HO607
           clear HO613
           clear HO618
           clear HO621
           clear BK568
           clear BK569
           clear BK577
           clear HB
           clear HO583
           have HO573:=n0_
           have HO580:=n1_
           have HO588:=n2_
           have HO593:=n3_
           have HO601:=n4_
           have HO604:=n5_
           have HO607:=n6_
           have HO613:=n7_
           have HO618:=n8_
           have HO621:=n9_
           have HO627:=n10_
           have BK568:=n11_
           have BK569:=n12_
           have BK577:=n13_
           have HB:=n14_
           clear n0_ n1_ n2_ n3_ n4_ n5_ n6_ n7_ n8_ n9_ n10_ n11_ n12_ n13_ n14_
           clear hb ho65
           obtain ⟨Ao66,co66,eo66⟩:=Kd.N_slice HO621.out
           (first|subst eo66|(injection eo66 with f1_ f2_ f3_;have f4_:=f1_.symm;have f5_:=f3_.symm;clear f1_ f2_ f3_;subst f4_;subst f5_))
           refine hK.out _ _ ⟨(blk_cell BK577.out 0).trans rfl,(blk_cell BK577.out 1).trans rfl,(blk_cell BK577.out 2).trans rfl,(blk_cell BK577.out 3).trans rfl⟩ (fun hHeld=>?_)
           clear hK K
           refine norm_ (a':=?_) ?_ ?_
           rotate_left
           ·show Act.put _ (some 69) _=_
            simp only [Act.put,List.setIfInBounds_toArray,List.set_cons_zero,List.set_cons_succ,i64_w,i32_w]
            rfl
           refine one_ (i:=8) (N:=some 66) #[true,true,true,true,true,true,true,true,true,true,true,true,false,false,false] rfl rfl (one_of HT_.out (by kernel_rfl)) (by decide) (fun K hK=>?_)
           refine goes_ Try.func14 (by kernel_rfl) rfl #[.agg #[.slice Ao36 t571.length co36,.int .i64 t574,.int .i64 t575,.int .i64 t576],.slice Ao66 y619.length co66] (by rfl) rfl rfl (by (try simp only [List.map_toArray,List.map_cons,List.map_nil]);first|done|rfl|(simp only [List.length_drop,List.length_take];rfl)) ?_
           with_reducible refine (merge_Folded.calls k _ _ t571 t574 t575 t576 (fun k_=>((some k_≠(.slice Ao36 t571.length co36 : Value).ownBlock∧(some k_≠(.slice Ao56 y602.length co56 : Value).ownBlock∧(some k_≠(.slice Ao58 t605.length co58 : Value).ownBlock∧(k_≠gb568∧(k_≠gb569∧k_≠gb577)))))∧some k_≠(v626 : Value).ownBlock)) _ _ y619 t622 _ ?side1 ?side2 ?side3 A25.out).mono ?_
           (case side1=>repeat (first|exact (Kd.R_reads' HO573.out).2.2|(with_reducible refine Kd.C_alloc ?_ _)|(with_reducible refine Kd.C_drewN ?_ _)|(with_reducible refine Kd.C_drew ?_)))
           (case side2=>exact (Kd.R_reads' HO573.out).2.1)
           (case side3=>first|exact Kd.N_V (HO621.out)|exact Kd.N_V (Kd.N_mono HO621.out (fun k_ hk_=>by ((try (simp only [and_assoc] at hk_));(repeat (obtain ⟨_,hk_⟩:=hk_));(repeat' apply And.intro)<;>assumption))))
           rintro e w67 ⟨v623,rfl,ho0,hb⟩
           refine ⟨_,rfl,?_⟩
           have n0_:=Aside0.mk (Kd.R_below (R_up HO573.out) hb)
           have n1_:=Aside0.mk (Kd.N_elder' (N_up HO580.out) (by first|exact Kd.N_base ho0|exact Kd.S_base ho0) hb)
           have n2_:=Aside0.mk (Kd.V_elder' (V_up HO588.out) (by first|exact Kd.N_base ho0|exact Kd.S_base ho0) hb)
           have n3_:=Aside0.mk (Kd.V_elder' (V_up HO593.out) (by first|exact Kd.N_base ho0|exact Kd.S_base ho0) hb)
           have n4_:=Aside0.mk (Kd.V_elder' (V_up HO601.out) (by first|exact Kd.N_base ho0|exact Kd.S_base ho0) hb)
           have n5_:=Aside0.mk (Kd.N_elder' (N_up HO604.out) (by first|exact Kd.N_base ho0|exact Kd.S_base ho0) hb)
           have n6_:=Aside0.mk (Kd.N_elder' (N_up HO607.out) (by first|exact Kd.N_base ho0|exact Kd.S_base ho0) hb)
           have n7_:=Aside0.mk (Kd.V_elder' (V_up HO613.out) (by first|exact Kd.N_base ho0|exact Kd.S_base ho0) hb)
           have n8_:=Aside0.mk (Kd.V_elder' (V_up HO618.out) (by first|exact Kd.N_base ho0|exact Kd.S_base ho0) hb)
           have n9_:=Aside0.mk (Kd.N_elder' (N_up HO621.out) (by first|exact Kd.N_base ho0|exact Kd.S_base ho0) hb)
           have n10_:=Aside0.mk (Kd.N_elder' (N_up HO627.out) (by first|exact Kd.N_base ho0|exact Kd.S_base ho0) hb)
           have n11_:=Aside0.mk (Kd.N_lower (Kd.N_mono (ok':=fun k_=>some k_≠(.slice Ao36 t571.length co36 : Value).ownBlock∧some k_≠(.slice Ao56 y602.length co56 : Value).ownBlock∧some k_≠(.slice Ao58 t605.length co58 : Value).ownBlock∧some k_≠(v626 : Value).ownBlock∧k_≠gb568∧k_≠gb569∧k_≠gb577) ho0 (fun k_ hk_=>⟨Or.elim hk_ (fun hs_=>hs_.1.1) (fun hn_=>(Kd.fresh' (Kd.R_lt (R_up HO573.out)) k_ hn_)),Or.elim hk_ (fun hs_=>hs_.1.2.1) (fun hn_=>(Kd.fresh' (Kd.N_lt (N_up HO604.out)) k_ hn_)),Or.elim hk_ (fun hs_=>hs_.1.2.2.1) (fun hn_=>(Kd.fresh' (Kd.N_lt (N_up HO607.out)) k_ hn_)),Or.elim hk_ (fun hs_=>hs_.2) (fun hn_=>(Kd.fresh' (Kd.N_lt (N_up HO627.out)) k_ hn_)),Or.elim hk_ (fun hs_=>hs_.1.2.2.2.1) (fun hn_=>(Kd.freshB (blk_up BK568.out) k_ hn_)),Or.elim hk_ (fun hs_=>hs_.1.2.2.2.2.1) (fun hn_=>(Kd.freshB (blk_up BK569.out) k_ hn_)),Or.elim hk_ (fun hs_=>hs_.1.2.2.2.2.2) (fun hn_=>(Kd.freshB (blk_up BK577.out) k_ hn_))⟩)) (below_size (below_go HB.out)))
           have n12_:=Aside0.mk (blk_below (blk_up BK568.out) hb)
           have n13_:=Aside0.mk (blk_below (blk_up BK569.out) hb)
           have n14_:=Aside0.mk (blk_below (blk_up BK577.out) hb)
           have n15_:=Aside0.mk (below_step (below_go HB.out) hb)
           clear HO573
           clear HO580
           clear HO588
           clear HO593
           clear HO601
           clear HO604
           clear HO607
           clear HO613
           clear HO618
           clear HO621
           clear HO627
           clear BK568
           clear BK569
           clear BK577
           clear HB
           have HO573:=n0_
           have HO580:=n1_
           have HO588:=n2_
           have HO593:=n3_
           have HO601:=n4_
           have HO604:=n5_
           have HO607:=n6_
           have HO613:=n7_
           have HO618:=n8_
           have HO621:=n9_
           have HO627:=n10_
           have HO624:=n11_
           have BK568:=n12_
           have BK569:=n13_
           have BK577:=n14_
           have HB:=n15_
           clear n0_ n1_ n2_ n3_ n4_ n5_ n6_ n7_ n8_ n9_ n10_ n11_ n12_ n13_ n14_ n15_
           (try clear hb)
           (try clear hb2)
           (try clear hk)
           (try clear hi)
           (try clear ho0)
           refine hK.out _ _ ⟨(blk_cell BK577.out 0).trans rfl,(blk_cell BK577.out 1).trans rfl,(blk_cell BK577.out 2).trans rfl,(blk_cell BK577.out 3).trans rfl⟩ (fun hHeld=>?_)
           clear hK K
           refine norm_ (a':=?_) ?_ ?_
           rotate_left
           ·show Act.put _ (some 66) _=_
            simp only [Act.put,List.setIfInBounds_toArray,List.set_cons_zero,List.set_cons_succ,i64_w,i32_w]
            rfl
           exact norm_ (by simp only [putAll,Act.put,List.setIfInBounds_toArray,List.set_cons_zero,List.set_cons_succ]) (hCont (.slice Ao66 y619.length co66,v623,v626) _ ⟨hHeld,(R_up HO573.out),(by (with_reducible repeat (first|apply Kd.N_alloc|apply Kd.N_drewN|apply Kd.N_drew));exact Kd.N_mono HO580.out (fun _ hk=>by first|exact ⟨hk.1.1.1.1.1.1.1.1,⟨hk.1.1.1.1.2,⟨hk.1.1.1.2,⟨hk.1.1.2,⟨hk.2,⟨hk.1.2,⟨hk.1.1.1.1.1.1.1.2.1,⟨hk.1.1.1.1.1.1.1.2.2.1,hk.1.1.1.1.1.1.1.2.2.2⟩⟩⟩⟩⟩⟩⟩⟩|((try (simp only [and_assoc] at hk));(repeat (obtain ⟨_,hk⟩:=hk));(repeat' apply And.intro)<;>assumption))),(by (with_reducible repeat (first|apply Kd.V_alloc|apply Kd.V_drewN|apply Kd.V_drew));exact Kd.V_mono HO588.out (fun _ hk=>by first|exact ⟨hk.1.1.1.1.1.1.1,⟨hk.1.1.1.1.2,⟨hk.1.1.1.2,⟨hk.1.1.2,⟨hk.2,⟨hk.1.2,⟨hk.1.1.1.1.1.1.2.1,⟨hk.1.1.1.1.1.1.2.2.1,hk.1.1.1.1.1.1.2.2.2⟩⟩⟩⟩⟩⟩⟩⟩|((try (simp only [and_assoc] at hk));(repeat (obtain ⟨_,hk⟩:=hk));(repeat' apply And.intro)<;>assumption))),(by (with_reducible repeat (first|apply Kd.V_alloc|apply Kd.V_drewN|apply Kd.V_drew));exact Kd.V_mono HO593.out (fun _ hk=>by first|exact ⟨hk.1.1.1.1.1.1.1,⟨hk.1.1.1.1.2,⟨hk.1.1.1.2,⟨hk.1.1.2,⟨hk.2,⟨hk.1.2,⟨hk.1.1.1.1.1.1.2.1,⟨hk.1.1.1.1.1.1.2.2.1,hk.1.1.1.1.1.1.2.2.2⟩⟩⟩⟩⟩⟩⟩⟩|((try (simp only [and_assoc] at hk));(repeat (obtain ⟨_,hk⟩:=hk));(repeat' apply And.intro)<;>assumption))),(by (with_reducible repeat (first|apply Kd.V_alloc|apply Kd.V_drewN|apply Kd.V_drew));exact Kd.V_mono HO601.out (fun _ hk=>by first|exact ⟨hk.1.1.1.1.1.1.1,⟨hk.1.1.1.1.2,⟨hk.1.1.1.2,⟨hk.1.1.2,⟨hk.2,⟨hk.1.2,⟨hk.1.1.1.1.1.1.2.1,⟨hk.1.1.1.1.1.1.2.2.1,hk.1.1.1.1.1.1.2.2.2⟩⟩⟩⟩⟩⟩⟩⟩|((try (simp only [and_assoc] at hk));(repeat (obtain ⟨_,hk⟩:=hk));(repeat' apply And.intro)<;>assumption))),(by (with_reducible repeat (first|apply Kd.N_alloc|apply Kd.N_drewN|apply Kd.N_drew));exact Kd.N_mono HO604.out (fun _ hk=>by first|exact ⟨hk.1.1.1.1.1,⟨hk.1.1.1.2,⟨hk.1.1.2,⟨hk.2,⟨hk.1.2,⟨hk.1.1.1.1.2.1,⟨hk.1.1.1.1.2.2.1,hk.1.1.1.1.2.2.2⟩⟩⟩⟩⟩⟩⟩|((try (simp only [and_assoc] at hk));(repeat (obtain ⟨_,hk⟩:=hk));(repeat' apply And.intro)<;>assumption))),(by (with_reducible repeat (first|apply Kd.N_alloc|apply Kd.N_drewN|apply Kd.N_drew));exact Kd.N_mono HO607.out (fun _ hk=>by first|exact ⟨hk.1.1.1.1,⟨hk.1.1.2,⟨hk.2,⟨hk.1.2,⟨hk.1.1.1.2.1,⟨hk.1.1.1.2.2.1,hk.1.1.1.2.2.2⟩⟩⟩⟩⟩⟩|((try (simp only [and_assoc] at hk));(repeat (obtain ⟨_,hk⟩:=hk));(repeat' apply And.intro)<;>assumption))),(by (with_reducible repeat (first|apply Kd.V_alloc|apply Kd.V_drewN|apply Kd.V_drew));exact Kd.V_mono HO613.out (fun _ hk=>by first|exact ⟨hk.1.1.1.1.1.1.1,⟨hk.1.1.1.1.2,⟨hk.1.1.1.2,⟨hk.1.1.2,⟨hk.2,⟨hk.1.2,⟨hk.1.1.1.1.1.1.2.1,⟨hk.1.1.1.1.1.1.2.2.1,hk.1.1.1.1.1.1.2.2.2⟩⟩⟩⟩⟩⟩⟩⟩|((try (simp only [and_assoc] at hk));(repeat (obtain ⟨_,hk⟩:=hk));(repeat' apply And.intro)<;>assumption))),(by (with_reducible repeat (first|apply Kd.V_alloc|apply Kd.V_drewN|apply Kd.V_drew));exact Kd.V_mono HO618.out (fun _ hk=>by first|exact ⟨hk.1.1.1.1.1.1.1,⟨hk.1.1.1.1.2,⟨hk.1.1.1.2,⟨hk.1.1.2,⟨hk.2,⟨hk.1.2,⟨hk.1.1.1.1.1.1.2.1,⟨hk.1.1.1.1.1.1.2.2.1,hk.1.1.1.1.1.1.2.2.2⟩⟩⟩⟩⟩⟩⟩⟩|((try (simp only [and_assoc] at hk));(repeat (obtain ⟨_,hk⟩:=hk));(repeat' apply And.intro)<;>assumption))),(by (with_reducible repeat (first|apply Kd.N_alloc|apply Kd.N_drewN|apply Kd.N_drew));exact Kd.N_mono HO621.out (fun _ hk=>by first|exact ⟨hk.1.1.1,⟨hk.1.1.2.1,⟨hk.1.1.2.2.1,⟨hk.2,⟨hk.1.2,⟨hk.1.1.2.2.2.1,⟨hk.1.1.2.2.2.2.1,hk.1.1.2.2.2.2.2⟩⟩⟩⟩⟩⟩⟩|((try (simp only [and_assoc] at hk));(repeat (obtain ⟨_,hk⟩:=hk));(repeat' apply And.intro)<;>assumption))),(N_up HO624.out),(by (with_reducible repeat (first|apply Kd.N_alloc|apply Kd.N_drewN|apply Kd.N_drew));exact Kd.N_mono HO627.out (fun _ hk=>by first|exact ⟨hk.1.1,⟨hk.1.2.1,⟨hk.1.2.2.1,⟨hk.1.2.2.2.1,⟨hk.2,⟨hk.1.2.2.2.2.1,⟨hk.1.2.2.2.2.2.1,hk.1.2.2.2.2.2.2⟩⟩⟩⟩⟩⟩⟩|((try (simp only [and_assoc] at hk));(repeat (obtain ⟨_,hk⟩:=hk));(repeat' apply And.intro)<;>assumption))),(blk_up BK568.out),(blk_up BK569.out),(blk_up BK577.out),(below_go HB.out)⟩)
         ·skip
          refine Kd.N_lit_step (Kd.slice 33 (Kd.slice 31 k31)) _ 28 ?hg (N':=69) ?hd (xs:=([t581] : List (List (List (S31))))) (inner:=[.slice Ao46 t581.length co46]) (ok:=(fun k_=>some k_≠(.slice Ao36 t571.length co36 : Value).ownBlock∧some k_≠(.slice Ao56 y602.length co56 : Value).ownBlock∧some k_≠(.slice Ao58 t605.length co58 : Value).ownBlock∧k_≠gb568∧k_≠gb569∧k_≠gb577)) (okp:=(fun k_=>some k_≠(.slice Ao36 t571.length co36 : Value).ownBlock∧some k_≠(.slice Ao56 y602.length co56 : Value).ownBlock∧some k_≠(.slice Ao58 t605.length co58 : Value).ownBlock∧k_≠gb568∧k_≠gb569∧k_≠gb577)) ?hr ?hp (fun _ hk=>hk) ((show ∀ k_,w59.heap.size≤k_→(fun k_=>some k_≠(.slice Ao36 t571.length co36 : Value).ownBlock∧some k_≠(.slice Ao56 y602.length co56 : Value).ownBlock∧some k_≠(.slice Ao58 t605.length co58 : Value).ownBlock∧k_≠gb568∧k_≠gb569∧k_≠gb577) k_ from fun k_ hk=>⟨Kd.fresh' (Kd.R_lt (R_up HO573.out)) k_ hk,Kd.fresh' (Kd.N_lt (N_up HO604.out)) k_ hk,Kd.fresh' (Kd.N_lt (N_up HO607.out)) k_ hk,Kd.freshB (blk_up BK568.out) k_ hk,Kd.freshB (blk_up BK569.out) k_ hk,Kd.freshB (blk_up BK577.out) k_ hk⟩) _ (Nat.le_refl _)) (Below.refl _ _) (Nat.le_refl _) (by simp) ?_;(case hd=>rfl);(case hg=>rfl);(case hr=>first|(go_simp;done)|(go_simp;rfl));(case hp=>exact (Reps.one (show Kd.FK (Kd.slice 33 (Kd.slice 31 k31)) _ _ t581 [.slice Ao46 t581.length co46] from (Kd.FK_slice_mk (Kd.N_reads' (Kd.N_mono (ok':=(fun k_=>some k_≠(.slice Ao36 t571.length co36 : Value).ownBlock∧some k_≠(.slice Ao56 y602.length co56 : Value).ownBlock∧some k_≠(.slice Ao58 t605.length co58 : Value).ownBlock∧k_≠gb568∧k_≠gb569∧k_≠gb577)) (HO583.out) (fun k_ hk=>by first|exact ⟨hk.1.1.1.1,⟨hk.1.2,⟨hk.2,⟨hk.1.1.1.2.1,⟨hk.1.1.1.2.2.1,hk.1.1.1.2.2.2⟩⟩⟩⟩⟩|((try (simp only [and_assoc] at hk));(repeat (obtain ⟨_,hk⟩:=hk));(repeat' apply And.intro)<;>assumption)))).2.1 (Kd.N_F (Kd.N_mono (ok':=(fun k_=>some k_≠(.slice Ao36 t571.length co36 : Value).ownBlock∧some k_≠(.slice Ao56 y602.length co56 : Value).ownBlock∧some k_≠(.slice Ao58 t605.length co58 : Value).ownBlock∧k_≠gb568∧k_≠gb569∧k_≠gb577)) (HO583.out) (fun k_ hk=>by first|exact ⟨hk.1.1.1.1,⟨hk.1.2,⟨hk.2,⟨hk.1.1.1.2.1,⟨hk.1.1.1.2.2.1,hk.1.1.1.2.2.2⟩⟩⟩⟩⟩|((try (simp only [and_assoc] at hk));(repeat (obtain ⟨_,hk⟩:=hk));(repeat' apply And.intro)<;>assumption)))))) (Reps.none _ _)))
          intro v626 w62 ho63 hb hg_ hnew_
          clear hg_ hnew_
          (first|rw [← Ny625.out] at ho63|(simp only [Int.reduceToNat] at ho63;rw [← Ny625.out] at ho63))
          have n0_:=Aside0.mk (Kd.R_below (R_up HO573.out) hb)
          have n1_:=Aside0.mk (Kd.N_elder' (N_up HO580.out) (Kd.N_base ho63) hb)
          have n2_:=Aside0.mk (Kd.V_elder' (V_up HO588.out) (Kd.N_base ho63) hb)
          have n3_:=Aside0.mk (Kd.V_elder' (V_up HO593.out) (Kd.N_base ho63) hb)
          have n4_:=Aside0.mk (Kd.V_elder' (V_up HO601.out) (Kd.N_base ho63) hb)
          have n5_:=Aside0.mk (Kd.N_elder' (N_up HO604.out) (Kd.N_base ho63) hb)
          have n6_:=Aside0.mk (Kd.N_elder' (N_up HO607.out) (Kd.N_base ho63) hb)
          have n7_:=Aside0.mk (Kd.V_elder' (V_up HO613.out) (Kd.N_base ho63) hb)
          have n8_:=Aside0.mk (Kd.V_elder' (V_up HO618.out) (Kd.N_base ho63) hb)
          have n9_:=Aside0.mk (Kd.N_lower ho63 (below_size (below_go HB.out)))
          have n10_:=Aside0.mk (blk_below (blk_up BK568.out) hb)
          have n11_:=Aside0.mk (blk_below (blk_up BK569.out) hb)
          have n12_:=Aside0.mk (blk_below (blk_up BK577.out) hb)
          have n13_:=Aside0.mk (below_step (below_go HB.out) hb)
          clear HO573
          clear HO580
          clear HO588
          clear HO593
          clear HO601
          clear HO604
          clear HO607
          clear HO613
          clear HO618
          clear BK568
          clear BK569
          clear BK577
          clear HB
          clear HO583
          have HO573:=n0_
          have HO580:=n1_
          have HO588:=n2_
          have HO593:=n3_
          have HO601:=n4_
          have HO604:=n5_
          have HO607:=n6_
          have HO613:=n7_
          have HO618:=n8_
          have HO627:=n9_
          have BK568:=n10_
          have BK569:=n11_
          have BK577:=n12_
          have HB:=n13_
          clear n0_ n1_ n2_ n3_ n4_ n5_ n6_ n7_ n8_ n9_ n10_ n11_ n12_ n13_
          clear hb ho63
          refine hK.out _ _ ⟨(blk_cell BK577.out 0).trans rfl,(blk_cell BK577.out 1).trans rfl,(blk_cell BK577.out 2).trans rfl,(blk_cell BK577.out 3).trans rfl⟩ (fun hHeld=>?_)
          clear hK K
          refine norm_ (a':=?_) ?_ ?_
          rotate_left
          ·show Act.put _ (some 69) _=_
           simp only [Act.put,List.setIfInBounds_toArray,List.set_cons_zero,List.set_cons_succ,i64_w,i32_w]
           rfl
          refine one_ (i:=7) (N:=some 65) #[true,true,true,true,true,true,true,true,false,true,true,true,false,false,false] rfl rfl (one_of HT_.out (by kernel_rfl)) (by decide) (fun K hK=>?_)
          refine Kd.N_lit_step (Kd.slice 33 (Kd.slice 31 k31)) _ 28 ?hg (N':=65) ?hd (xs:=([y584,y614] : List (List (List (S31))))) (inner:=[.slice Ao46 y584.length co46,.slice A61 y614.length c61]) (ok:=(fun k_=>some k_≠(.slice Ao36 t571.length co36 : Value).ownBlock∧some k_≠(.slice Ao56 y602.length co56 : Value).ownBlock∧some k_≠(.slice Ao58 t605.length co58 : Value).ownBlock∧some k_≠(v626 : Value).ownBlock∧k_≠gb568∧k_≠gb569∧k_≠gb577)) (okp:=(fun k_=>some k_≠(.slice Ao36 t571.length co36 : Value).ownBlock∧some k_≠(.slice Ao56 y602.length co56 : Value).ownBlock∧some k_≠(.slice Ao58 t605.length co58 : Value).ownBlock∧some k_≠(v626 : Value).ownBlock∧k_≠gb568∧k_≠gb569∧k_≠gb577)) ?hr ?hp (fun _ hk=>hk) ((show ∀ k_,w62.heap.size≤k_→(fun k_=>some k_≠(.slice Ao36 t571.length co36 : Value).ownBlock∧some k_≠(.slice Ao56 y602.length co56 : Value).ownBlock∧some k_≠(.slice Ao58 t605.length co58 : Value).ownBlock∧some k_≠(v626 : Value).ownBlock∧k_≠gb568∧k_≠gb569∧k_≠gb577) k_ from fun k_ hk=>⟨Kd.fresh' (Kd.R_lt (R_up HO573.out)) k_ hk,Kd.fresh' (Kd.N_lt (N_up HO604.out)) k_ hk,Kd.fresh' (Kd.N_lt (N_up HO607.out)) k_ hk,Kd.fresh' (Kd.N_lt (N_up HO627.out)) k_ hk,Kd.freshB (blk_up BK568.out) k_ hk,Kd.freshB (blk_up BK569.out) k_ hk,Kd.freshB (blk_up BK577.out) k_ hk⟩) _ (Nat.le_refl _)) (Below.refl _ _) (Nat.le_refl _) (by simp) ?_;(case hd=>rfl);(case hg=>rfl);(case hr=>first|(go_simp;done)|(go_simp;rfl));(case hp=>exact (Reps.one (show Kd.FK (Kd.slice 33 (Kd.slice 31 k31)) _ _ y584 [.slice Ao46 y584.length co46] from (Kd.FK_slice_mk (Kd.V_reads' (Kd.V_mono (ok':=(fun k_=>some k_≠(.slice Ao36 t571.length co36 : Value).ownBlock∧some k_≠(.slice Ao56 y602.length co56 : Value).ownBlock∧some k_≠(.slice Ao58 t605.length co58 : Value).ownBlock∧some k_≠(v626 : Value).ownBlock∧k_≠gb568∧k_≠gb569∧k_≠gb577)) (HO613.out) (fun k_ hk=>by first|exact ⟨hk.1.1.1.1.1,⟨hk.1.1.2,⟨hk.1.2,⟨hk.2,⟨hk.1.1.1.1.2.1,⟨hk.1.1.1.1.2.2.1,hk.1.1.1.1.2.2.2⟩⟩⟩⟩⟩⟩|((try (simp only [and_assoc] at hk));(repeat (obtain ⟨_,hk⟩:=hk));(repeat' apply And.intro)<;>assumption)))).2.1 (Kd.V_F (Kd.V_mono (ok':=(fun k_=>some k_≠(.slice Ao36 t571.length co36 : Value).ownBlock∧some k_≠(.slice Ao56 y602.length co56 : Value).ownBlock∧some k_≠(.slice Ao58 t605.length co58 : Value).ownBlock∧some k_≠(v626 : Value).ownBlock∧k_≠gb568∧k_≠gb569∧k_≠gb577)) (HO613.out) (fun k_ hk=>by first|exact ⟨hk.1.1.1.1.1,⟨hk.1.1.2,⟨hk.1.2,⟨hk.2,⟨hk.1.1.1.1.2.1,⟨hk.1.1.1.1.2.2.1,hk.1.1.1.1.2.2.2⟩⟩⟩⟩⟩⟩|((try (simp only [and_assoc] at hk));(repeat (obtain ⟨_,hk⟩:=hk));(repeat' apply And.intro)<;>assumption)))))) (Reps.one (show Kd.FK (Kd.slice 33 (Kd.slice 31 k31)) _ _ y614 [.slice A61 y614.length c61] from (Kd.FK_slice_mk (Kd.V_reads' (Kd.V_mono (ok':=(fun k_=>some k_≠(.slice Ao36 t571.length co36 : Value).ownBlock∧some k_≠(.slice Ao56 y602.length co56 : Value).ownBlock∧some k_≠(.slice Ao58 t605.length co58 : Value).ownBlock∧some k_≠(v626 : Value).ownBlock∧k_≠gb568∧k_≠gb569∧k_≠gb577)) (HO618.out) (fun k_ hk=>by first|exact ⟨hk.1.1.1.1.1,⟨hk.1.1.2,⟨hk.1.2,⟨hk.2,⟨hk.1.1.1.1.2.1,⟨hk.1.1.1.1.2.2.1,hk.1.1.1.1.2.2.2⟩⟩⟩⟩⟩⟩|((try (simp only [and_assoc] at hk));(repeat (obtain ⟨_,hk⟩:=hk));(repeat' apply And.intro)<;>assumption)))).2.1 (Kd.V_F (Kd.V_mono (ok':=(fun k_=>some k_≠(.slice Ao36 t571.length co36 : Value).ownBlock∧some k_≠(.slice Ao56 y602.length co56 : Value).ownBlock∧some k_≠(.slice Ao58 t605.length co58 : Value).ownBlock∧some k_≠(v626 : Value).ownBlock∧k_≠gb568∧k_≠gb569∧k_≠gb577)) (HO618.out) (fun k_ hk=>by first|exact ⟨hk.1.1.1.1.1,⟨hk.1.1.2,⟨hk.1.2,⟨hk.2,⟨hk.1.1.1.1.2.1,⟨hk.1.1.1.1.2.2.1,hk.1.1.1.1.2.2.2⟩⟩⟩⟩⟩⟩|((try (simp only [and_assoc] at hk));(repeat (obtain ⟨_,hk⟩:=hk));(repeat' apply And.intro)<;>assumption)))))) (Reps.none _ _))))
          intro v620 w64 ho65 hb hg_ hnew_
          clear hg_ hnew_
          (first|rw [← Ny619.out] at ho65|(simp only [Int.reduceToNat] at ho65;rw [← Ny619.out] at ho65))
          have n0_:=Aside0.mk (Kd.R_below (R_up HO573.out) hb)
          have n1_:=Aside0.mk (Kd.N_elder' (N_up HO580.out) (Kd.N_base ho65) hb)
          have n2_:=Aside0.mk (Kd.V_elder' (V_up HO588.out) (Kd.N_base ho65) hb)
          have n3_:=Aside0.mk (Kd.V_elder' (V_up HO593.out) (Kd.N_base ho65) hb)
          have n4_:=Aside0.mk (Kd.V_elder' (V_up HO601.out) (Kd.N_base ho65) hb)
          have n5_:=Aside0.mk (Kd.N_elder' (N_up HO604.out) (Kd.N_base ho65) hb)
          have n6_:=Aside0.mk (Kd.N_elder' (N_up HO607.out) (Kd.N_base ho65) hb)
          have n7_:=Aside0.mk (Kd.V_elder' (V_up HO613.out) (Kd.N_base ho65) hb)
          have n8_:=Aside0.mk (Kd.V_elder' (V_up HO618.out) (Kd.N_base ho65) hb)
          have n9_:=Aside0.mk (Kd.N_elder' (N_up HO627.out) (Kd.N_base ho65) hb)
          have n10_:=Aside0.mk (Kd.N_lower ho65 (below_size (below_go HB.out)))
          have n11_:=Aside0.mk (blk_below (blk_up BK568.out) hb)
          have n12_:=Aside0.mk (blk_below (blk_up BK569.out) hb)
          have n13_:=Aside0.mk (blk_below (blk_up BK577.out) hb)
          have n14_:=Aside0.mk (below_step (below_go HB.out) hb)
          clear HO573
          clear HO580
          clear HO588
          clear HO593
          clear HO601
          clear HO604
          clear HO607
          clear HO613
          clear HO618
          clear HO627
          clear BK568
          clear BK569
          clear BK577
          clear HB
          have HO573:=n0_
          have HO580:=n1_
          have HO588:=n2_
          have HO593:=n3_
          have HO601:=n4_
          have HO604:=n5_
          have HO607:=n6_
          have HO613:=n7_
          have HO618:=n8_
          have HO627:=n9_
          have HO621:=n10_
          have BK568:=n11_
          have BK569:=n12_
          have BK577:=n13_
          have HB:=n14_
          clear n0_ n1_ n2_ n3_ n4_ n5_ n6_ n7_ n8_ n9_ n10_ n11_ n12_ n13_ n14_
          clear hb ho65
          obtain ⟨Ao66,co66,eo66⟩:=Kd.N_slice HO621.out
          (first|subst eo66|(injection eo66 with f1_ f2_ f3_;have f4_:=f1_.symm;have f5_:=f3_.symm;clear f1_ f2_ f3_;subst f4_;subst f5_))
          refine hK.out _ _ ⟨(blk_cell BK577.out 0).trans rfl,(blk_cell BK577.out 1).trans rfl,(blk_cell BK577.out 2).trans rfl,(blk_cell BK577.out 3).trans rfl⟩ (fun hHeld=>?_)
          clear hK K
          refine norm_ (a':=?_) ?_ ?_
          rotate_left
          ·show Act.put _ (some 65) _=_
           simp only [Act.put,List.setIfInBounds_toArray,List.set_cons_zero,List.set_cons_succ,i64_w,i32_w]
           rfl
          refine one_ (i:=8) (N:=some 66) #[true,true,true,true,true,true,true,true,true,true,true,true,false,false,false] rfl rfl (one_of HT_.out (by kernel_rfl)) (by decide) (fun K hK=>?_)
          refine goes_ Try.func14 (by kernel_rfl) rfl #[.agg #[.slice Ao36 t571.length co36,.int .i64 t574,.int .i64 t575,.int .i64 t576],.slice Ao66 y619.length co66] (by rfl) rfl rfl (by (try simp only [List.map_toArray,List.map_cons,List.map_nil]);first|done|rfl|(simp only [List.length_drop,List.length_take];rfl)) ?_
          with_reducible refine (merge_Folded.calls k _ _ t571 t574 t575 t576 (fun k_=>(some k_≠(.slice Ao36 t571.length co36 : Value).ownBlock∧(some k_≠(.slice Ao56 y602.length co56 : Value).ownBlock∧(some k_≠(.slice Ao58 t605.length co58 : Value).ownBlock∧(some k_≠(v626 : Value).ownBlock∧(k_≠gb568∧(k_≠gb569∧k_≠gb577))))))) _ _ y619 t622 _ ?side1 ?side2 ?side3 A25.out).mono ?_
          (case side1=>repeat (first|exact (Kd.R_reads' HO573.out).2.2|(with_reducible refine Kd.C_alloc ?_ _)|(with_reducible refine Kd.C_drewN ?_ _)|(with_reducible refine Kd.C_drew ?_)))
          (case side2=>exact (Kd.R_reads' HO573.out).2.1)
          (case side3=>first|exact Kd.N_V (HO621.out)|exact Kd.N_V (Kd.N_mono HO621.out (fun k_ hk_=>by ((try (simp only [and_assoc] at hk_));(repeat (obtain ⟨_,hk_⟩:=hk_));(repeat' apply And.intro)<;>assumption))))
          rintro e w67 ⟨v623,rfl,ho0,hb⟩
          refine ⟨_,rfl,?_⟩
          have n0_:=Aside0.mk (Kd.R_below (R_up HO573.out) hb)
          have n1_:=Aside0.mk (Kd.N_elder' (N_up HO580.out) (by first|exact Kd.N_base ho0|exact Kd.S_base ho0) hb)
          have n2_:=Aside0.mk (Kd.V_elder' (V_up HO588.out) (by first|exact Kd.N_base ho0|exact Kd.S_base ho0) hb)
          have n3_:=Aside0.mk (Kd.V_elder' (V_up HO593.out) (by first|exact Kd.N_base ho0|exact Kd.S_base ho0) hb)
          have n4_:=Aside0.mk (Kd.V_elder' (V_up HO601.out) (by first|exact Kd.N_base ho0|exact Kd.S_base ho0) hb)
          have n5_:=Aside0.mk (Kd.N_elder' (N_up HO604.out) (by first|exact Kd.N_base ho0|exact Kd.S_base ho0) hb)
          have n6_:=Aside0.mk (Kd.N_elder' (N_up HO607.out) (by first|exact Kd.N_base ho0|exact Kd.S_base ho0) hb)
          have n7_:=Aside0.mk (Kd.V_elder' (V_up HO613.out) (by first|exact Kd.N_base ho0|exact Kd.S_base ho0) hb)
          have n8_:=Aside0.mk (Kd.V_elder' (V_up HO618.out) (by first|exact Kd.N_base ho0|exact Kd.S_base ho0) hb)
          have n9_:=Aside0.mk (Kd.N_elder' (N_up HO627.out) (by first|exact Kd.N_base ho0|exact Kd.S_base ho0) hb)
          have n10_:=Aside0.mk (Kd.N_elder' (N_up HO621.out) (by first|exact Kd.N_base ho0|exact Kd.S_base ho0) hb)
          have n11_:=Aside0.mk (Kd.N_lower (Kd.N_mono (ok':=fun k_=>some k_≠(.slice Ao36 t571.length co36 : Value).ownBlock∧some k_≠(.slice Ao56 y602.length co56 : Value).ownBlock∧some k_≠(.slice Ao58 t605.length co58 : Value).ownBlock∧some k_≠(v626 : Value).ownBlock∧k_≠gb568∧k_≠gb569∧k_≠gb577) ho0 (fun k_ hk_=>⟨Or.elim hk_ (fun hs_=>hs_.1) (fun hn_=>(Kd.fresh' (Kd.R_lt (R_up HO573.out)) k_ hn_)),Or.elim hk_ (fun hs_=>hs_.2.1) (fun hn_=>(Kd.fresh' (Kd.N_lt (N_up HO604.out)) k_ hn_)),Or.elim hk_ (fun hs_=>hs_.2.2.1) (fun hn_=>(Kd.fresh' (Kd.N_lt (N_up HO607.out)) k_ hn_)),Or.elim hk_ (fun hs_=>hs_.2.2.2.1) (fun hn_=>(Kd.fresh' (Kd.N_lt (N_up HO627.out)) k_ hn_)),Or.elim hk_ (fun hs_=>hs_.2.2.2.2.1) (fun hn_=>(Kd.freshB (blk_up BK568.out) k_ hn_)),Or.elim hk_ (fun hs_=>hs_.2.2.2.2.2.1) (fun hn_=>(Kd.freshB (blk_up BK569.out) k_ hn_)),Or.elim hk_ (fun hs_=>hs_.2.2.2.2.2.2) (fun hn_=>(Kd.freshB (blk_up BK577.out) k_ hn_))⟩)) (below_size (below_go HB.out)))
          have n12_:=Aside0.mk (blk_below (blk_up BK568.out) hb)
          have n13_:=Aside0.mk (blk_below (blk_up BK569.out) hb)
          have n14_:=Aside0.mk (blk_below (blk_up BK577.out) hb)
          have n15_:=Aside0.mk (below_step (below_go HB.out) hb)
          clear HO573
          clear HO580
          clear HO588
          clear HO593
          clear HO601
          clear HO604
          clear HO607
          clear HO613
          clear HO618
          clear HO627
          clear HO621
          clear BK568
          clear BK569
          clear BK577
          clear HB
          have HO573:=n0_
          have HO580:=n1_
          have HO588:=n2_
          have HO593:=n3_
          have HO601:=n4_
          have HO604:=n5_
          have HO607:=n6_
          have HO613:=n7_
          have HO618:=n8_
          have HO627:=n9_
          have HO621:=n10_
          have HO624:=n11_
          have BK568:=n12_
          have BK569:=n13_
          have BK577:=n14_
          have HB:=n15_
          clear n0_ n1_ n2_ n3_ n4_ n5_ n6_ n7_ n8_ n9_ n10_ n11_ n12_ n13_ n14_ n15_
          (try clear hb)
          (try clear hb2)
          (try clear hk)
          (try clear hi)
          (try clear ho0)
          refine hK.out _ _ ⟨(blk_cell BK577.out 0).trans rfl,(blk_cell BK577.out 1).trans rfl,(blk_cell BK577.out 2).trans rfl,(blk_cell BK577.out 3).trans rfl⟩ (fun hHeld=>?_)
          clear hK K
          refine norm_ (a':=?_) ?_ ?_
          rotate_left
          ·show Act.put _ (some 66) _=_
           simp only [Act.put,List.setIfInBounds_toArray,List.set_cons_zero,List.set_cons_succ,i64_w,i32_w]
           rfl
          exact norm_ (by simp only [putAll,Act.put,List.setIfInBounds_toArray,List.set_cons_zero,List.set_cons_succ]) (hCont (.slice Ao66 y619.length co66,v623,v626) _ ⟨hHeld,(R_up HO573.out),(by (with_reducible repeat (first|apply Kd.N_alloc|apply Kd.N_drewN|apply Kd.N_drew));exact Kd.N_mono HO580.out (fun _ hk=>by first|exact ⟨hk.1.1.1.1.1.1.1.1,⟨hk.1.1.1.1.2,⟨hk.1.1.1.2,⟨hk.1.2,⟨hk.2,⟨hk.1.1.2,⟨hk.1.1.1.1.1.1.1.2.1,⟨hk.1.1.1.1.1.1.1.2.2.1,hk.1.1.1.1.1.1.1.2.2.2⟩⟩⟩⟩⟩⟩⟩⟩|((try (simp only [and_assoc] at hk));(repeat (obtain ⟨_,hk⟩:=hk));(repeat' apply And.intro)<;>assumption))),(by (with_reducible repeat (first|apply Kd.V_alloc|apply Kd.V_drewN|apply Kd.V_drew));exact Kd.V_mono HO588.out (fun _ hk=>by first|exact ⟨hk.1.1.1.1.1.1.1,⟨hk.1.1.1.1.2,⟨hk.1.1.1.2,⟨hk.1.2,⟨hk.2,⟨hk.1.1.2,⟨hk.1.1.1.1.1.1.2.1,⟨hk.1.1.1.1.1.1.2.2.1,hk.1.1.1.1.1.1.2.2.2⟩⟩⟩⟩⟩⟩⟩⟩|((try (simp only [and_assoc] at hk));(repeat (obtain ⟨_,hk⟩:=hk));(repeat' apply And.intro)<;>assumption))),(by (with_reducible repeat (first|apply Kd.V_alloc|apply Kd.V_drewN|apply Kd.V_drew));exact Kd.V_mono HO593.out (fun _ hk=>by first|exact ⟨hk.1.1.1.1.1.1.1,⟨hk.1.1.1.1.2,⟨hk.1.1.1.2,⟨hk.1.2,⟨hk.2,⟨hk.1.1.2,⟨hk.1.1.1.1.1.1.2.1,⟨hk.1.1.1.1.1.1.2.2.1,hk.1.1.1.1.1.1.2.2.2⟩⟩⟩⟩⟩⟩⟩⟩|((try (simp only [and_assoc] at hk));(repeat (obtain ⟨_,hk⟩:=hk));(repeat' apply And.intro)<;>assumption))),(by (with_reducible repeat (first|apply Kd.V_alloc|apply Kd.V_drewN|apply Kd.V_drew));exact Kd.V_mono HO601.out (fun _ hk=>by first|exact ⟨hk.1.1.1.1.1.1.1,⟨hk.1.1.1.1.2,⟨hk.1.1.1.2,⟨hk.1.2,⟨hk.2,⟨hk.1.1.2,⟨hk.1.1.1.1.1.1.2.1,⟨hk.1.1.1.1.1.1.2.2.1,hk.1.1.1.1.1.1.2.2.2⟩⟩⟩⟩⟩⟩⟩⟩|((try (simp only [and_assoc] at hk));(repeat (obtain ⟨_,hk⟩:=hk));(repeat' apply And.intro)<;>assumption))),(by (with_reducible repeat (first|apply Kd.N_alloc|apply Kd.N_drewN|apply Kd.N_drew));exact Kd.N_mono HO604.out (fun _ hk=>by first|exact ⟨hk.1.1.1.1.1,⟨hk.1.1.1.2,⟨hk.1.2,⟨hk.2,⟨hk.1.1.2,⟨hk.1.1.1.1.2.1,⟨hk.1.1.1.1.2.2.1,hk.1.1.1.1.2.2.2⟩⟩⟩⟩⟩⟩⟩|((try (simp only [and_assoc] at hk));(repeat (obtain ⟨_,hk⟩:=hk));(repeat' apply And.intro)<;>assumption))),(by (with_reducible repeat (first|apply Kd.N_alloc|apply Kd.N_drewN|apply Kd.N_drew));exact Kd.N_mono HO607.out (fun _ hk=>by first|exact ⟨hk.1.1.1.1,⟨hk.1.2,⟨hk.2,⟨hk.1.1.2,⟨hk.1.1.1.2.1,⟨hk.1.1.1.2.2.1,hk.1.1.1.2.2.2⟩⟩⟩⟩⟩⟩|((try (simp only [and_assoc] at hk));(repeat (obtain ⟨_,hk⟩:=hk));(repeat' apply And.intro)<;>assumption))),(by (with_reducible repeat (first|apply Kd.V_alloc|apply Kd.V_drewN|apply Kd.V_drew));exact Kd.V_mono HO613.out (fun _ hk=>by first|exact ⟨hk.1.1.1.1.1.1.1,⟨hk.1.1.1.1.2,⟨hk.1.1.1.2,⟨hk.1.2,⟨hk.2,⟨hk.1.1.2,⟨hk.1.1.1.1.1.1.2.1,⟨hk.1.1.1.1.1.1.2.2.1,hk.1.1.1.1.1.1.2.2.2⟩⟩⟩⟩⟩⟩⟩⟩|((try (simp only [and_assoc] at hk));(repeat (obtain ⟨_,hk⟩:=hk));(repeat' apply And.intro)<;>assumption))),(by (with_reducible repeat (first|apply Kd.V_alloc|apply Kd.V_drewN|apply Kd.V_drew));exact Kd.V_mono HO618.out (fun _ hk=>by first|exact ⟨hk.1.1.1.1.1.1.1,⟨hk.1.1.1.1.2,⟨hk.1.1.1.2,⟨hk.1.2,⟨hk.2,⟨hk.1.1.2,⟨hk.1.1.1.1.1.1.2.1,⟨hk.1.1.1.1.1.1.2.2.1,hk.1.1.1.1.1.1.2.2.2⟩⟩⟩⟩⟩⟩⟩⟩|((try (simp only [and_assoc] at hk));(repeat (obtain ⟨_,hk⟩:=hk));(repeat' apply And.intro)<;>assumption))),(by (with_reducible repeat (first|apply Kd.N_alloc|apply Kd.N_drewN|apply Kd.N_drew));exact Kd.N_mono HO621.out (fun _ hk=>by first|exact ⟨hk.1.1,⟨hk.1.2.1,⟨hk.1.2.2.1,⟨hk.2,⟨hk.1.2.2.2.1,⟨hk.1.2.2.2.2.1,⟨hk.1.2.2.2.2.2.1,hk.1.2.2.2.2.2.2⟩⟩⟩⟩⟩⟩⟩|((try (simp only [and_assoc] at hk));(repeat (obtain ⟨_,hk⟩:=hk));(repeat' apply And.intro)<;>assumption))),(N_up HO624.out),(by (with_reducible repeat (first|apply Kd.N_alloc|apply Kd.N_drewN|apply Kd.N_drew));exact Kd.N_mono HO627.out (fun _ hk=>by first|exact ⟨hk.1.1.1,⟨hk.1.1.2.1,⟨hk.1.1.2.2.1,⟨hk.1.2,⟨hk.2,⟨hk.1.1.2.2.2.1,⟨hk.1.1.2.2.2.2.1,hk.1.1.2.2.2.2.2⟩⟩⟩⟩⟩⟩⟩|((try (simp only [and_assoc] at hk));(repeat (obtain ⟨_,hk⟩:=hk));(repeat' apply And.intro)<;>assumption))),(blk_up BK568.out),(blk_up BK569.out),(blk_up BK577.out),(below_go HB.out)⟩)
        rintro ⟨v620,v623,v626⟩ w68 ⟨hS_,h0_,h1_,h2_,h3_,h4_,h5_,h6_,h7_,h8_,h9_,h10_,h11_,h12_,h13_,h14_,h15_⟩
        have n0_ : Aside0 (Kd.R (Kd.int .i64) 3 w68 w.heap.size (fun _=>True) (.slice Ao36 t571.length co36) t571):=⟨h0_⟩
        have n1_ : Aside0 (Kd.N (Kd.slice 31 k31) 33 w68 w.heap.size (fun k_=>some k_≠(.slice Ao36 t571.length co36 : Value).ownBlock∧some k_≠(.slice Ao56 y602.length co56 : Value).ownBlock∧some k_≠(.slice Ao58 t605.length co58 : Value).ownBlock∧some k_≠(v620 : Value).ownBlock∧some k_≠(v623 : Value).ownBlock∧some k_≠(v626 : Value).ownBlock∧k_≠gb568∧k_≠gb569∧k_≠gb577) (.slice Ao43 t578.length co43) t578):=⟨h1_⟩
        have n2_ : Aside0 (Kd.V (Kd.slice 31 k31) 33 w68 w.heap.size (fun k_=>some k_≠(.slice Ao36 t571.length co36 : Value).ownBlock∧some k_≠(.slice Ao56 y602.length co56 : Value).ownBlock∧some k_≠(.slice Ao58 t605.length co58 : Value).ownBlock∧some k_≠(v620 : Value).ownBlock∧some k_≠(v623 : Value).ownBlock∧some k_≠(v626 : Value).ownBlock∧k_≠gb568∧k_≠gb569∧k_≠gb577) (.slice Ao46 y584.length co46) y584):=⟨h2_⟩
        have n3_ : Aside0 (Kd.V (Kd.slice 31 k31) 33 w68 w.heap.size (fun k_=>some k_≠(.slice Ao36 t571.length co36 : Value).ownBlock∧some k_≠(.slice Ao56 y602.length co56 : Value).ownBlock∧some k_≠(.slice Ao58 t605.length co58 : Value).ownBlock∧some k_≠(v620 : Value).ownBlock∧some k_≠(v623 : Value).ownBlock∧some k_≠(v626 : Value).ownBlock∧k_≠gb568∧k_≠gb569∧k_≠gb577) (.slice A49 y589.length c49) y589):=⟨h3_⟩
        have n4_ : Aside0 (Kd.V (Kd.slice 31 k31) 33 w68 w.heap.size (fun k_=>some k_≠(.slice Ao36 t571.length co36 : Value).ownBlock∧some k_≠(.slice Ao56 y602.length co56 : Value).ownBlock∧some k_≠(.slice Ao58 t605.length co58 : Value).ownBlock∧some k_≠(v620 : Value).ownBlock∧some k_≠(v623 : Value).ownBlock∧some k_≠(v626 : Value).ownBlock∧k_≠gb568∧k_≠gb569∧k_≠gb577) (.slice A50 y597.length c50) y597):=⟨h4_⟩
        have n5_ : Aside0 (Kd.N (Kd.slice 33 (Kd.slice 31 k31)) 28 w68 w.heap.size (fun k_=>some k_≠(.slice Ao36 t571.length co36 : Value).ownBlock∧some k_≠(.slice Ao58 t605.length co58 : Value).ownBlock∧some k_≠(v620 : Value).ownBlock∧some k_≠(v623 : Value).ownBlock∧some k_≠(v626 : Value).ownBlock∧k_≠gb568∧k_≠gb569∧k_≠gb577) (.slice Ao56 y602.length co56) y602):=⟨h5_⟩
        have n6_ : Aside0 (Kd.N (Kd.slice 31 k31) 33 w68 w.heap.size (fun k_=>some k_≠(.slice Ao36 t571.length co36 : Value).ownBlock∧some k_≠(v620 : Value).ownBlock∧some k_≠(v623 : Value).ownBlock∧some k_≠(v626 : Value).ownBlock∧k_≠gb568∧k_≠gb569∧k_≠gb577) (.slice Ao58 t605.length co58) t605):=⟨h6_⟩
        have n7_ : Aside0 (Kd.V (Kd.slice 31 k31) 33 w68 w.heap.size (fun k_=>some k_≠(.slice Ao36 t571.length co36 : Value).ownBlock∧some k_≠(.slice Ao56 y602.length co56 : Value).ownBlock∧some k_≠(.slice Ao58 t605.length co58 : Value).ownBlock∧some k_≠(v620 : Value).ownBlock∧some k_≠(v623 : Value).ownBlock∧some k_≠(v626 : Value).ownBlock∧k_≠gb568∧k_≠gb569∧k_≠gb577) (.slice Ao46 y584.length co46) y584):=⟨h7_⟩
        have n8_ : Aside0 (Kd.V (Kd.slice 31 k31) 33 w68 w.heap.size (fun k_=>some k_≠(.slice Ao36 t571.length co36 : Value).ownBlock∧some k_≠(.slice Ao56 y602.length co56 : Value).ownBlock∧some k_≠(.slice Ao58 t605.length co58 : Value).ownBlock∧some k_≠(v620 : Value).ownBlock∧some k_≠(v623 : Value).ownBlock∧some k_≠(v626 : Value).ownBlock∧k_≠gb568∧k_≠gb569∧k_≠gb577) (.slice A61 y614.length c61) y614):=⟨h8_⟩
        have n9_ : Aside0 (Kd.N (Kd.slice 33 (Kd.slice 31 k31)) 28 w68 w.heap.size (fun k_=>some k_≠(.slice Ao36 t571.length co36 : Value).ownBlock∧some k_≠(.slice Ao56 y602.length co56 : Value).ownBlock∧some k_≠(.slice Ao58 t605.length co58 : Value).ownBlock∧some k_≠(v623 : Value).ownBlock∧some k_≠(v626 : Value).ownBlock∧k_≠gb568∧k_≠gb569∧k_≠gb577) v620 y619):=⟨h9_⟩
        have n10_ : Aside0 (Kd.N (Kd.slice 31 k31) 33 w68 w.heap.size (fun k_=>some k_≠(.slice Ao36 t571.length co36 : Value).ownBlock∧some k_≠(.slice Ao56 y602.length co56 : Value).ownBlock∧some k_≠(.slice Ao58 t605.length co58 : Value).ownBlock∧some k_≠(v626 : Value).ownBlock∧k_≠gb568∧k_≠gb569∧k_≠gb577) v623 t622):=⟨h10_⟩
        have n11_ : Aside0 (Kd.N (Kd.slice 33 (Kd.slice 31 k31)) 28 w68 w.heap.size (fun k_=>some k_≠(.slice Ao36 t571.length co36 : Value).ownBlock∧some k_≠(.slice Ao56 y602.length co56 : Value).ownBlock∧some k_≠(.slice Ao58 t605.length co58 : Value).ownBlock∧some k_≠(v620 : Value).ownBlock∧some k_≠(v623 : Value).ownBlock∧k_≠gb568∧k_≠gb569∧k_≠gb577) v626 y625):=⟨h11_⟩
        have n12_ : Aside0 (w68.heap[gb568]?=some (.cells #[.int .u8 a0_0,.int .u8 a0_1,.int .u8 a0_2,.int .u8 a0_3,.int .u8 a0_4,.int .u8 a0_5,.int .u8 a0_6,.int .u8 a0_7,.int .u8 a0_8,.int .u8 a0_9,.int .u8 a0_10,.int .u8 a0_11] 38 (0,0))):=⟨h12_⟩
        have n13_ : Aside0 (w68.heap[gb569]?=some (.cells #[.int .u8 a2_0,.int .u8 a2_1] 43 (0,0))):=⟨h13_⟩
        have n14_ : Aside0 (w68.heap[gb577]?=some (.cells #[.slice Ao36 t571.length co36,.int .i64 t574,.int .i64 t575,.int .i64 t576] 26 (0,0))):=⟨h14_⟩
        have n15_ : Aside0 (Below w.heap.size w w68):=⟨h15_⟩
        clear HO573
        clear HO580
        clear HO583
        clear HO588
        clear HO593
        clear HO601
        clear HO604
        clear HO607
        clear BK568
        clear BK569
        clear BK577
        clear HB
        clear h0_ h1_ h2_ h3_ h4_ h5_ h6_ h7_ h8_ h9_ h10_ h11_ h12_ h13_ h14_ h15_
        have HO573:=n0_
        have HO580:=n1_
        have HO588:=n2_
        have HO593:=n3_
        have HO601:=n4_
        have HO604:=n5_
        have HO607:=n6_
        have HO613:=n7_
        have HO618:=n8_
        have HO621:=n9_
        have HO624:=n10_
        have HO627:=n11_
        have BK568:=n12_
        have BK569:=n13_
        have BK577:=n14_
        have HB:=n15_
        clear n0_ n1_ n2_ n3_ n4_ n5_ n6_ n7_ n8_ n9_ n10_ n11_ n12_ n13_ n14_ n15_
        have hHeld : w68.cell? ⟨gb577,0,none⟩=some (.slice Ao36 t571.length co36)∧w68.cell? ⟨gb577,1,none⟩=some (.int .i64 t574)∧w68.cell? ⟨gb577,2,none⟩=some (.int .i64 t575)∧w68.cell? ⟨gb577,3,none⟩=some (.int .i64 t576):=hS_
        obtain ⟨Ao69,co69,eo69⟩:=Kd.N_slice HO627.out
        (first|subst eo69|(injection eo69 with f1_ f2_ f3_;have f4_:=f1_.symm;have f5_:=f3_.symm;clear f1_ f2_ f3_;subst f4_;subst f5_))
        refine norm_ (a':=?_) ?_ ?_
        rotate_left
        ·simp only [putAll,Act.put,List.setIfInBounds_toArray,List.set_cons_zero,List.set_cons_succ]
         rfl
        refine one_ (i:=12) (N:=some 70) #[true,true,true,true,true,true,true,true,true,true,true,true,true,false,false] rfl rfl (one_of HT_.out (by kernel_rfl)) (by decide) (fun K hK=>?_)
        refine goes_ Try.func14 (by kernel_rfl) rfl #[.agg #[.slice Ao36 t571.length co36,.int .i64 t574,.int .i64 t575,.int .i64 t576],.slice Ao69 y625.length co69] (by rfl) rfl rfl (by (try simp only [List.map_toArray,List.map_cons,List.map_nil]);first|done|rfl|(simp only [List.length_drop,List.length_take];rfl)) ?_
        with_reducible refine (merge_Folded.calls k _ _ t571 t574 t575 t576 (fun k_=>(some k_≠(.slice Ao36 t571.length co36 : Value).ownBlock∧(some k_≠(.slice Ao56 y602.length co56 : Value).ownBlock∧(some k_≠(.slice Ao58 t605.length co58 : Value).ownBlock∧(some k_≠(v620 : Value).ownBlock∧(some k_≠(v623 : Value).ownBlock∧(k_≠gb568∧(k_≠gb569∧k_≠gb577)))))))) _ _ y625 t628 _ ?side1 ?side2 ?side3 A26.out).mono ?_
        (case side1=>repeat (first|exact (Kd.R_reads' HO573.out).2.2|(with_reducible refine Kd.C_alloc ?_ _)|(with_reducible refine Kd.C_drewN ?_ _)|(with_reducible refine Kd.C_drew ?_)))
        (case side2=>exact (Kd.R_reads' HO573.out).2.1)
        (case side3=>first|exact Kd.N_V (HO627.out)|exact Kd.N_V (Kd.N_mono HO627.out (fun k_ hk_=>by ((try (simp only [and_assoc] at hk_));(repeat (obtain ⟨_,hk_⟩:=hk_));(repeat' apply And.intro)<;>assumption))))
        rintro e w70 ⟨v629,rfl,ho0,hb⟩
        refine ⟨_,rfl,?_⟩
        have n0_:=Aside0.mk (Kd.R_below (R_up HO573.out) hb)
        have n1_:=Aside0.mk (Kd.N_elder' (N_up HO580.out) (by first|exact Kd.N_base ho0|exact Kd.S_base ho0) hb)
        have n2_:=Aside0.mk (Kd.V_elder' (V_up HO588.out) (by first|exact Kd.N_base ho0|exact Kd.S_base ho0) hb)
        have n3_:=Aside0.mk (Kd.V_elder' (V_up HO593.out) (by first|exact Kd.N_base ho0|exact Kd.S_base ho0) hb)
        have n4_:=Aside0.mk (Kd.V_elder' (V_up HO601.out) (by first|exact Kd.N_base ho0|exact Kd.S_base ho0) hb)
        have n5_:=Aside0.mk (Kd.N_elder' (N_up HO604.out) (by first|exact Kd.N_base ho0|exact Kd.S_base ho0) hb)
        have n6_:=Aside0.mk (Kd.N_elder' (N_up HO607.out) (by first|exact Kd.N_base ho0|exact Kd.S_base ho0) hb)
        have n7_:=Aside0.mk (Kd.V_elder' (V_up HO613.out) (by first|exact Kd.N_base ho0|exact Kd.S_base ho0) hb)
        have n8_:=Aside0.mk (Kd.V_elder' (V_up HO618.out) (by first|exact Kd.N_base ho0|exact Kd.S_base ho0) hb)
        have n9_:=Aside0.mk (Kd.N_elder' (N_up HO621.out) (by first|exact Kd.N_base ho0|exact Kd.S_base ho0) hb)
        have n10_:=Aside0.mk (Kd.N_elder' (N_up HO624.out) (by first|exact Kd.N_base ho0|exact Kd.S_base ho0) hb)
        have n11_:=Aside0.mk (Kd.N_elder' (N_up HO627.out) (by first|exact Kd.N_base ho0|exact Kd.S_base ho0) hb)
        have n12_:=Aside0.mk (Kd.N_lower (Kd.N_mono (ok':=fun k_=>some k_≠(.slice Ao36 t571.length co36 : Value).ownBlock∧some k_≠(.slice Ao56 y602.length co56 : Value).ownBlock∧some k_≠(.slice Ao58 t605.length co58 : Value).ownBlock∧some k_≠(v620 : Value).ownBlock∧some k_≠(v623 : Value).ownBlock∧k_≠gb568∧k_≠gb569∧k_≠gb577) ho0 (fun k_ hk_=>⟨Or.elim hk_ (fun hs_=>hs_.1) (fun hn_=>(Kd.fresh' (Kd.R_lt (R_up HO573.out)) k_ hn_)),Or.elim hk_ (fun hs_=>hs_.2.1) (fun hn_=>(Kd.fresh' (Kd.N_lt (N_up HO604.out)) k_ hn_)),Or.elim hk_ (fun hs_=>hs_.2.2.1) (fun hn_=>(Kd.fresh' (Kd.N_lt (N_up HO607.out)) k_ hn_)),Or.elim hk_ (fun hs_=>hs_.2.2.2.1) (fun hn_=>(Kd.fresh' (Kd.N_lt (N_up HO621.out)) k_ hn_)),Or.elim hk_ (fun hs_=>hs_.2.2.2.2.1) (fun hn_=>(Kd.fresh' (Kd.N_lt (N_up HO624.out)) k_ hn_)),Or.elim hk_ (fun hs_=>hs_.2.2.2.2.2.1) (fun hn_=>(Kd.freshB (blk_up BK568.out) k_ hn_)),Or.elim hk_ (fun hs_=>hs_.2.2.2.2.2.2.1) (fun hn_=>(Kd.freshB (blk_up BK569.out) k_ hn_)),Or.elim hk_ (fun hs_=>hs_.2.2.2.2.2.2.2) (fun hn_=>(Kd.freshB (blk_up BK577.out) k_ hn_))⟩)) (below_size (below_go HB.out)))
        have n13_:=Aside0.mk (blk_below (blk_up BK568.out) hb)
        have n14_:=Aside0.mk (blk_below (blk_up BK569.out) hb)
        have n15_:=Aside0.mk (blk_below (blk_up BK577.out) hb)
        have n16_:=Aside0.mk (below_step (below_go HB.out) hb)
        clear HO573
        clear HO580
        clear HO588
        clear HO593
        clear HO601
        clear HO604
        clear HO607
        clear HO613
        clear HO618
        clear HO621
        clear HO624
        clear HO627
        clear BK568
        clear BK569
        clear BK577
        clear HB
        have HO573:=n0_
        have HO580:=n1_
        have HO588:=n2_
        have HO593:=n3_
        have HO601:=n4_
        have HO604:=n5_
        have HO607:=n6_
        have HO613:=n7_
        have HO618:=n8_
        have HO621:=n9_
        have HO624:=n10_
        have HO627:=n11_
        have HO630:=n12_
        have BK568:=n13_
        have BK569:=n14_
        have BK577:=n15_
        have HB:=n16_
        clear n0_ n1_ n2_ n3_ n4_ n5_ n6_ n7_ n8_ n9_ n10_ n11_ n12_ n13_ n14_ n15_ n16_
        (try clear hb)
        (try clear hb2)
        (try clear hk)
        (try clear hi)
        (try clear ho0)
        obtain ⟨Ao71,co71,eo71⟩:=Kd.N_slice HO624.out
        (first|subst eo71|(injection eo71 with f1_ f2_ f3_;have f4_:=f1_.symm;have f5_:=f3_.symm;clear f1_ f2_ f3_;subst f4_;subst f5_))
        obtain ⟨Ao72,co72,eo72⟩:=Kd.N_slice HO630.out
        (first|subst eo72|(injection eo72 with f1_ f2_ f3_;have f4_:=f1_.symm;have f5_:=f3_.symm;clear f1_ f2_ f3_;subst f4_;subst f5_))
        refine hK.out _ _ ⟨(blk_cell BK577.out 0).trans rfl,(blk_cell BK577.out 1).trans rfl,(blk_cell BK577.out 2).trans rfl,(blk_cell BK577.out 3).trans rfl⟩ (fun hHeld=>?_)
        clear hK K
        refine norm_ (a':=?_) ?_ ?_
        rotate_left
        ·show Act.put _ (some 70) _=_
         simp only [Act.put,List.setIfInBounds_toArray,List.set_cons_zero,List.set_cons_succ,i64_w,i32_w]
         rfl
        refine one_ (i:=13) (N:=some 71) #[true,true,true,true,true,true,true,true,true,true,true,true,true,true,false] rfl rfl (one_of HT_.out (by kernel_rfl)) (by decide) (fun K hK=>?_)
        refine goes_ Try.func12 (by kernel_rfl) rfl #[.slice Ao71 t622.length co71,.slice Ao72 t628.length co72] (by rfl) rfl rfl (by (try simp only [List.map_toArray,List.map_cons,List.map_nil]);first|done|rfl|(simp only [List.length_drop,List.length_take];rfl)) ?_
        with_reducible refine (thresherref04_Rows.calls k _ _ t622 _ _ t628 t631 _ ?side1 ?side2 ?side3 ?side4 A27.out).mono ?_
        (case side1=>repeat (first|exact (Kd.N_reads' HO624.out).2.2|(with_reducible refine Kd.C_alloc ?_ _)|(with_reducible refine Kd.C_drewN ?_ _)|(with_reducible refine Kd.C_drew ?_)))
        (case side2=>exact (Kd.N_reads' HO624.out).2.1)
        (case side3=>repeat (first|exact (Kd.N_reads' HO630.out).2.2|(with_reducible refine Kd.C_alloc ?_ _)|(with_reducible refine Kd.C_drewN ?_ _)|(with_reducible refine Kd.C_drew ?_)))
        (case side4=>exact (Kd.N_reads' HO630.out).2.1)
        rintro e w' ⟨rfl,⟨nd,rfl⟩⟩
        refine ⟨_,rfl,?_⟩
        refine hK.out _ _ ⟨(blk_cell BK577.out 0).trans rfl,(blk_cell BK577.out 1).trans rfl,(blk_cell BK577.out 2).trans rfl,(blk_cell BK577.out 3).trans rfl⟩ (fun hHeld=>?_)
        clear hK K
        refine norm_ (a':=?_) ?_ ?_
        rotate_left
        ·show Act.put _ (some 71) _=_
         simp only [Act.put,List.setIfInBounds_toArray,List.set_cons_zero,List.set_cons_succ,i64_w,i32_w]
         rfl
        refine pure_ (i:=14) (N:=some 14) (v:=?_) (a':=?_) #[true,true,true,true,true,true,true,true,true,true,true,true,true,true,true] rfl rfl (any_of HT_.out (by kernel_rfl)) (fun _ _ _ h=>h) (Or.inl ⟨by rfl,?_⟩) ?_ ?_
        rotate_left;(intro w';go_simp;with_reducible rfl);rotate_left;(simp only [Act.put,List.setIfInBounds_toArray,List.set_cons_zero,List.set_cons_succ,i64_w,i32_w];rfl)
        refine done_ (done_of HT_.out (by kernel_rfl)) ?_
        (try clear hHeld)
        go_upto_region 9 with (fail)
        go_cut [6] (fun v6 wc=>∃ (kq : Nat) (x6_27 : Bool),v6=.bool x6_27∧Aside0 (thresherlaw14_MergeHalves.j0 kq x6_27=some r)∧Aside0 (kq≤k)∧Aside0 (Kd.R (Kd.int .i64) 3 wc w.heap.size (fun _=>True) (.slice Ao36 t571.length co36) t571)∧Aside0 (wc.heap[gb568]?=some (.cells #[.int .u8 a0_0,.int .u8 a0_1,.int .u8 a0_2,.int .u8 a0_3,.int .u8 a0_4,.int .u8 a0_5,.int .u8 a0_6,.int .u8 a0_7,.int .u8 a0_8,.int .u8 a0_9,.int .u8 a0_10,.int .u8 a0_11] 38 (0,0)))∧Aside0 (wc.heap[gb569]?=some (.cells #[.int .u8 a2_0,.int .u8 a2_1] 43 (0,0)))∧Aside0 (wc.heap[gb577]?=some (.cells #[(.slice Ao36 t571.length co36),.int .i64 t574,.int .i64 t575,.int .i64 t576] 26 (0,0)))∧Aside0 (Below w.heap.size w wc))
        case first =>
         have H:=HC28.out
         clear HC28
         by_cases c73 : t570=true
         ·subst c73
          have H1 : (if t608=true then (thresherlaw14_MergeHalves.j0 k t631) else (thresherlaw14_MergeHalves.j0 k false))=some r:=by rw [if_pos rfl] at H;exact H
          clear H
          have H:=H1
          clear H1
          by_cases c74 : t608=true
          ·subst c74
           have H1 : (thresherlaw14_MergeHalves.j0 k t631)=some r:=by rw [if_pos rfl] at H;exact H
           clear H
           have H:=H1
           clear H1
           have H':=Aside0.mk H
           clear H
           go_wp2
           go_meet
           case rel=>exact ⟨_,(t631),(by first|rfl|(simp;done)|(simp [*];done)),(by first|exact H'|(subst_vars;exact H')),⟨by first|omega|exact Nat.le_refl _⟩,⟨by (with_reducible repeat (first|apply Kd.R_alloc|apply Kd.R_drewN|apply Kd.R_drew));exact HO573.out⟩,⟨by (with_reducible repeat (first|refine blk_drewN ?_ _|refine blk_drew ?_|refine blk_alloc ?_ _));exact BK568.out⟩,⟨by (with_reducible repeat (first|refine blk_drewN ?_ _|refine blk_drew ?_|refine blk_alloc ?_ _));exact BK569.out⟩,⟨by (with_reducible repeat (first|refine blk_drewN ?_ _|refine blk_drew ?_|refine blk_alloc ?_ _));exact BK577.out⟩,⟨by repeat (first|(with_reducible first|exact HB.out|apply below_alloc|apply pw_below_drewN|apply below_drew1|refine below_set ?_ GE568.out|refine below_set ?_ GE569.out|refine below_set ?_ GE577.out)|exact HB.out)⟩⟩
          ·replace c74:=Bool.eq_false_iff.mpr c74
           subst c74
           have H1 : (thresherlaw14_MergeHalves.j0 k false)=some r:=by rw [if_neg (show ¬ (false=true) by decide)] at H;exact H
           clear H
           have H:=H1
           clear H1
           have H':=Aside0.mk H
           clear H
           go_wp2
           go_meet
           case rel=>exact ⟨_,(false),(by first|rfl|(simp;done)|(simp [*];done)),(by first|exact H'|(subst_vars;exact H')),⟨by first|omega|exact Nat.le_refl _⟩,⟨by (with_reducible repeat (first|apply Kd.R_alloc|apply Kd.R_drewN|apply Kd.R_drew));exact HO573.out⟩,⟨by (with_reducible repeat (first|refine blk_drewN ?_ _|refine blk_drew ?_|refine blk_alloc ?_ _));exact BK568.out⟩,⟨by (with_reducible repeat (first|refine blk_drewN ?_ _|refine blk_drew ?_|refine blk_alloc ?_ _));exact BK569.out⟩,⟨by (with_reducible repeat (first|refine blk_drewN ?_ _|refine blk_drew ?_|refine blk_alloc ?_ _));exact BK577.out⟩,⟨by repeat (first|(with_reducible first|exact HB.out|apply below_alloc|apply pw_below_drewN|apply below_drew1|refine below_set ?_ GE568.out|refine below_set ?_ GE569.out|refine below_set ?_ GE577.out)|exact HB.out)⟩⟩
         ·replace c73:=Bool.eq_false_iff.mpr c73
          subst c73
          have H1 : (thresherlaw14_MergeHalves.j0 k false)=some r:=by rw [if_neg (show ¬ (false=true) by decide)] at H;exact H
          clear H
          have H:=H1
          clear H1
          have H':=Aside0.mk H
          clear H
          go_wp2
          go_meet
          case rel=>exact ⟨_,(false),(by first|rfl|(simp;done)|(simp [*];done)),(by first|exact H'|(subst_vars;exact H')),⟨by first|omega|exact Nat.le_refl _⟩,⟨by (with_reducible repeat (first|apply Kd.R_alloc|apply Kd.R_drewN|apply Kd.R_drew));exact HO573.out⟩,⟨by (with_reducible repeat (first|refine blk_drewN ?_ _|refine blk_drew ?_|refine blk_alloc ?_ _));exact BK568.out⟩,⟨by (with_reducible repeat (first|refine blk_drewN ?_ _|refine blk_drew ?_|refine blk_alloc ?_ _));exact BK569.out⟩,⟨by (with_reducible repeat (first|refine blk_drewN ?_ _|refine blk_drew ?_|refine blk_alloc ?_ _));exact BK577.out⟩,⟨by repeat (first|(with_reducible first|exact HB.out|apply below_alloc|apply pw_below_drewN|apply below_drew1|refine below_set ?_ GE568.out|refine below_set ?_ GE569.out|refine below_set ?_ GE577.out)|exact HB.out)⟩⟩
        case rest =>
         clear HC28
         try clear c1
         try clear p2
         try clear c4
         try clear c5
         try clear c6
         try clear c7
         try clear c12
         try clear c14
         try clear c49
         try clear c50
         try clear c61
         try clear c73
         try clear c74
         obtain ⟨kq,x6_27,rfl,HA,HJ27,HO_578000,BK568,BK569,BK577,HB⟩:=hcut
         cases kq with
         | zero=>exact absurd HA.out (by simp [thresherlaw14_MergeHalves.j0])
         | succ kj27 =>
          have H:=HA.out
          clear HA
          simp only [thresherlaw14_MergeHalves.j0] at H
          obtain rfl:=Option.some.inj H
          go_wp2
          go_ret
          exact ⟨by first|rfl|(simp [errW_none,errW_some] <;> rfl)|(simp only [← hji10,← hji16];first|rfl|(simp [errW_none,errW_some] <;> rfl))|(simp [*,errW_none,errW_some] <;> rfl),by repeat (first|(with_reducible first|exact HB.out|apply below_alloc|apply pw_below_drewN|apply below_drew1|refine below_set ?_ GE568.out|refine below_set ?_ GE569.out|refine below_set ?_ GE577.out)|exact HB.out)⟩
       ·rw [if_neg c17] at H
        exact absurd H (by simp)
      ·rw [if_neg c15] at H
       exact absurd H (by simp)
     ·rw [if_neg c14] at H
      exact absurd H (by simp)
    ·rw [if_neg c12] at H
     exact absurd H (by simp)
   ·rw [if_neg c11] at H
    exact absurd H (by simp)
end Go.Proofs.Ytfiandejapgkoaa.P

