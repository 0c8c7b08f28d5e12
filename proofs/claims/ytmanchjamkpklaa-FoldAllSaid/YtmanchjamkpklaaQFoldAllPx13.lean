/- Texts of FoldAll. Merged: Px13. -/
import Derived.Test.YtmanchjamkpklaaQFoldAllPx0
import Derived.Test.YtmanchjamkpklaaQFoldAllPx4
import Derived.Test.YtmanchjamkpklaaQFoldAllPx5
import Derived.Test.YtmanchjamkpklaaQFoldAllPx6
import Derived.Test.YtmanchjamkpklaaQFoldAllPx8
import Derived.Test.YtmanchjamkpklaaQFoldAllPx9
import Derived.Test.YtmanchjamkpklaaQFoldAllPx10
import Derived.Test.YtmanchjamkpklaaQFoldAllPx11
import Derived.Test.YtmanchjamkpklaaQFoldAllPx12
import Derived.Test.YtmanchjamkpklaaQFoldAllHFoldB
namespace Go.Proofs.Ytmanchjamkpklaa.P
open Go.RowKit Go.Proofs.YtmanchjamkpklaaW.PrintWords Go.Proofs.YtmanchjamkpklaaW.PrintLast Go.Proofs.YtmanchjamkpklaaW.PrintMore
attribute [local go_sem] max2_int min2_int max_two min_two max_three min_three max_four min_four   -- for this text's walks alone
set_option linter.unusedVariables false
set_option linter.unusedSimpArgs false
def thresherlaw13_FoldAll.l0 : Nat→Bool→List (List (S45))→Bool→Bool→Int→List Int→Int→Int→Int→Option (Bool)
 | 0,_,_,_,_,_,_,_,_,_=>none
 | k + 1,x5,x7,x9,x10,x11,x309000,x309001,x309002,x309003=>if x11 < (x7.length : Int) then (if 0≤(wrap64 (x11 - 1)) then (if (wrap64 (x11 - 1)) < (x7.length : Int) then (if 0≤x11 then ((thresherref04_Compare.f k x309000 x309001 x309002 x309003 (rd_L5 x7 (wrap64 (x11 - 1))) (rd_L5 x7 x11)).bind fun t328=>(if t328=0 then ((fold_One.f k x309000 x309001 x309002 x309003 (rd_L5 x7 (wrap64 (x11 - 1))) (rd_L5 x7 x11)).bind fun t331=>((thresherref13_One.f k x309000 x309001 x309002 x309003 (rd_L5 x7 (wrap64 (x11 - 1))) (rd_L5 x7 x11)).bind fun t336=>((thresherref04_One.f k t331 t336).bind fun t339=>(if t339=true then (thresherlaw13_FoldAll.l0 k x5 x7 x9 x10 (wrap64 (x11 + 1)) x309000 x309001 x309002 x309003) else (some false))))) else (thresherlaw13_FoldAll.l0 k x5 x7 x9 x10 (wrap64 (x11 + 1)) x309000 x309001 x309002 x309003))) else (none)) else (none)) else (none)) else (if x5=true then (if x9=true then (some x10) else (some false)) else (some false))
def thresherlaw13_FoldAll.f (k : Nat) (a0_0 : Int) (a0_1 : Int) (a0_2 : Int) (a0_3 : Int) (a0_4 : Int) (a0_5 : Int) (a0_6 : Int) (a0_7 : Int) (a0_8 : Int) (a0_9 : Int) (a0_10 : Int) (a0_11 : Int) (l1 : List (List (S45))) : Option (Bool):=(thresherlaw13_shown.f k).bind fun t301=>((thresherlaw13_made.f k a0_0 a0_1 a0_2 a0_3 a0_4 a0_5 a0_6 a0_7 a0_8 a0_9 a0_10 a0_11).bind fun bt302=>((thresherref04_Fits.f k bt302.1 bt302.2.1 bt302.2.2.1 bt302.2.2.2 l1 60).bind fun t309=>((thresherref09_Sort.f k bt302.1 bt302.2.1 bt302.2.2.1 bt302.2.2.2 t309).bind fun t312=>((thresherref04_Fits.f k bt302.1 bt302.2.1 bt302.2.2.1 bt302.2.2.2 t312 60).bind fun t315=>((fold_Rows.f k bt302.1 bt302.2.1 bt302.2.2.1 bt302.2.2.2 t312).bind fun t318=>((thresherref13_Rows.f k bt302.1 bt302.2.1 bt302.2.2.1 bt302.2.2.2 t312).bind fun t321=>((thresherref04_Rows.f k t318 t321).bind fun t324=>((thresherref04_Rows.f k t312 t315).bind fun t325=>(thresherlaw13_FoldAll.l0 k t301 t312 t324 t325 1 bt302.1 bt302.2.1 bt302.2.2.1 bt302.2.2.2)))))))))
theorem thresherlaw13_FoldAll.mono_l : ∀ k,(∀ y0 y1 y2 y3 y4 y5 y6 y7 y8,LeO (thresherlaw13_FoldAll.l0 k y0 y1 y2 y3 y4 y5 y6 y7 y8) (thresherlaw13_FoldAll.l0 (k + 1) y0 y1 y2 y3 y4 y5 y6 y7 y8))
 | 0=>fun _ _ _ _ _ _ _ _ _ r h=>by simp [thresherlaw13_FoldAll.l0] at h
 | k + 1=>by
  have ih0:=thresherlaw13_FoldAll.mono_l k
  ·intro y0 y1 y2 y3 y4 y5 y6 y7 y8
   unfold thresherlaw13_FoldAll.l0
   repeat' first
   | (with_reducible exact ih0 _ _ _ _ _ _ _ _ _)
   | (with_reducible exact fold_One.mono _ _ _ _ _ _ _)
   | (with_reducible exact fold_Rows.mono _ _ _ _ _ _)
   | (with_reducible exact thresherlaw13_made.mono _ _ _ _ _ _ _ _ _ _ _ _ _)
   | (with_reducible exact thresherlaw13_shown.mono _)
   | (with_reducible exact thresherref04_Compare.mono _ _ _ _ _ _ _)
   | (with_reducible exact thresherref04_Fits.mono _ _ _ _ _ _ _)
   | (with_reducible exact thresherref04_One.mono _ _ _)
   | (with_reducible exact thresherref04_Rows.mono _ _ _)
   | (with_reducible exact thresherref09_Sort.mono _ _ _ _ _ _)
   | (with_reducible exact thresherref13_One.mono _ _ _ _ _ _ _)
   | (with_reducible exact thresherref13_Rows.mono _ _ _ _ _ _)
   | (with_reducible exact LeO.refl _)
   | (with_reducible exact LeO.none _)
   | (with_reducible refine LeO.ite ?_ ?_)
   | (with_reducible refine LeO.bind ?_ (fun _=>?_))
   | exact ih0 _ _ _ _ _ _ _ _ _
   | exact fold_One.mono _ _ _ _ _ _ _
   | exact fold_Rows.mono _ _ _ _ _ _
   | exact thresherlaw13_made.mono _ _ _ _ _ _ _ _ _ _ _ _ _
   | exact thresherlaw13_shown.mono _
   | exact thresherref04_Compare.mono _ _ _ _ _ _ _
   | exact thresherref04_Fits.mono _ _ _ _ _ _ _
   | exact thresherref04_One.mono _ _ _
   | exact thresherref04_Rows.mono _ _ _
   | exact thresherref09_Sort.mono _ _ _ _ _ _
   | exact thresherref13_One.mono _ _ _ _ _ _ _
   | exact thresherref13_Rows.mono _ _ _ _ _ _
   | exact LeO.none _
   | refine LeO.ite ?_ ?_
   | refine LeO.bind ?_ (fun _=>?_)
theorem thresherlaw13_FoldAll.mono : ∀ a0 a1 a2 a3 a4 a5 a6 a7 a8 a9 a10 a11 a12 k,LeO (thresherlaw13_FoldAll.f k a0 a1 a2 a3 a4 a5 a6 a7 a8 a9 a10 a11 a12) (thresherlaw13_FoldAll.f (k + 1) a0 a1 a2 a3 a4 a5 a6 a7 a8 a9 a10 a11 a12):=by
 intro a0 a1 a2 a3 a4 a5 a6 a7 a8 a9 a10 a11 a12 k
 have ih0:=thresherlaw13_FoldAll.mono_l k
 unfold thresherlaw13_FoldAll.f
 repeat' first
   | (with_reducible exact ih0 _ _ _ _ _ _ _ _ _)
   | (with_reducible exact fold_One.mono _ _ _ _ _ _ _)
   | (with_reducible exact fold_Rows.mono _ _ _ _ _ _)
   | (with_reducible exact thresherlaw13_made.mono _ _ _ _ _ _ _ _ _ _ _ _ _)
   | (with_reducible exact thresherlaw13_shown.mono _)
   | (with_reducible exact thresherref04_Compare.mono _ _ _ _ _ _ _)
   | (with_reducible exact thresherref04_Fits.mono _ _ _ _ _ _ _)
   | (with_reducible exact thresherref04_One.mono _ _ _)
   | (with_reducible exact thresherref04_Rows.mono _ _ _)
   | (with_reducible exact thresherref09_Sort.mono _ _ _ _ _ _)
   | (with_reducible exact thresherref13_One.mono _ _ _ _ _ _ _)
   | (with_reducible exact thresherref13_Rows.mono _ _ _ _ _ _)
   | (with_reducible exact LeO.refl _)
   | (with_reducible exact LeO.none _)
   | (with_reducible refine LeO.ite ?_ ?_)
   | (with_reducible refine LeO.bind ?_ (fun _=>?_))
   | exact ih0 _ _ _ _ _ _ _ _ _
   | exact fold_One.mono _ _ _ _ _ _ _
   | exact fold_Rows.mono _ _ _ _ _ _
   | exact thresherlaw13_made.mono _ _ _ _ _ _ _ _ _ _ _ _ _
   | exact thresherlaw13_shown.mono _
   | exact thresherref04_Compare.mono _ _ _ _ _ _ _
   | exact thresherref04_Fits.mono _ _ _ _ _ _ _
   | exact thresherref04_One.mono _ _ _
   | exact thresherref04_Rows.mono _ _ _
   | exact thresherref09_Sort.mono _ _ _ _ _ _
   | exact thresherref13_One.mono _ _ _ _ _ _ _
   | exact thresherref13_Rows.mono _ _ _ _ _ _
   | exact LeO.none _
   | refine LeO.ite ?_ ?_
   | refine LeO.bind ?_ (fun _=>?_)
def thresherlaw13_FoldAll.T5 : Bool × List (List Nat × List Nat):=(true,[([],[]),([],[]),([0,1],[0,1]),([],[]),([],[]),([3,4,2],[3,4]),([2,5,5],[2,5]),([6,6,0,1,2,3,4,5,6],[6])])
def thresherlaw13_FoldAll.B5 : List Nat:=[0,0,3,0,0,31,63,127]
theorem thresherlaw13_FoldAll.tab5 : rtab .any (opsOf Try.f3 5)=thresherlaw13_FoldAll.T5:=by kernel_rfl
theorem thresherlaw13_FoldAll.bits5 : waitsOk thresherlaw13_FoldAll.T5.2 thresherlaw13_FoldAll.B5=true:=by kernel_rfl
def thresherlaw13_FoldAll.T10 : Bool × List (List Nat × List Nat):=(true,[([],[]),([],[]),([],[]),([2],[2]),([1,3],[1,3]),([4],[4]),([],[]),([],[]),([6,7],[6,7]),([8],[8]),([0,5,9],[0,5,9]),([10],[10])])
def thresherlaw13_FoldAll.B10 : List Nat:=[0,0,0,4,14,30,0,0,192,448,1023,2047]
theorem thresherlaw13_FoldAll.tab10 : rtab .any (opsOf Try.f3 10)=thresherlaw13_FoldAll.T10:=by kernel_rfl
theorem thresherlaw13_FoldAll.bits10 : waitsOk thresherlaw13_FoldAll.T10.2 thresherlaw13_FoldAll.B10=true:=by kernel_rfl
def thresherlaw13_FoldAll.T11 : Bool × List (List Nat × List Nat):=(true,[([],[]),([],[]),([],[]),([2],[2]),([1,3],[1,3]),([4],[4]),([],[]),([],[]),([6,7],[6,7]),([8],[8]),([0,5,9],[0,5,9]),([],[]),([],[]),([],[]),([13],[13]),([12,14],[12,14]),([15],[15]),([],[]),([],[]),([17,18],[17,18]),([19],[19]),([11,16,20,10],[11,16,20]),([10,21,21],[10,21]),([22,22,0,1,2,3,4,5,6,7,8,9,10,11,12,13,14,15,16,17,18,19,20,21,22],[22])])
def thresherlaw13_FoldAll.B11 : List Nat:=[0,0,0,4,14,30,0,0,192,448,1023,0,0,0,8192,28672,61440,0,0,393216,917504,2097151,4194303,8388607]
theorem thresherlaw13_FoldAll.tab11 : rtab .any (opsOf Try.f3 11)=thresherlaw13_FoldAll.T11:=by kernel_rfl
theorem thresherlaw13_FoldAll.bits11 : waitsOk thresherlaw13_FoldAll.T11.2 thresherlaw13_FoldAll.B11=true:=by kernel_rfl
set_option maxHeartbeats 8000000 in
set_option maxRecDepth 100000 in
theorem thresherlaw13_FoldAll.calls (k : Nat) (a0_0 : Int) (a0_1 : Int) (a0_2 : Int) (a0_3 : Int) (a0_4 : Int) (a0_5 : Int) (a0_6 : Int) (a0_7 : Int) (a0_8 : Int) (a0_9 : Int) (a0_10 : Int) (a0_11 : Int) (A1 : Option Addr) (c1 : Nat) (l1 : List (List (S45))) (r : Bool) (w : World) (hr1 : Kd.C (Kd.slice 45 k45) w A1 l1.length l1) (hc1 : l1.length≤c1) (h : thresherlaw13_FoldAll.f k a0_0 a0_1 a0_2 a0_3 a0_4 a0_5 a0_6 a0_7 a0_8 a0_9 a0_10 a0_11 l1=some r) :
  Calls Try.prog 3 #[.agg #[.int .u8 a0_0,.int .u8 a0_1,.int .u8 a0_2,.int .u8 a0_3,.int .u8 a0_4,.int .u8 a0_5,.int .u8 a0_6,.int .u8 a0_7,.int .u8 a0_8,.int .u8 a0_9,.int .u8 a0_10,.int .u8 a0_11],.slice A1 l1.length c1] w fun e w'=>e=.returned (.bool r)∧Below w.heap.size w w':=by
 have hu24:=Try.underlying24
 have hu29:=Try.underlying29
 have HR1:=Aside0.mk hr1
 have HC1:=Aside0.mk hc1
 clear hr1 hc1
 have HB:=Aside0.mk (Below.refl w.heap.size w)
 have H : ((thresherlaw13_shown.f k).bind fun t301=>((thresherlaw13_made.f k a0_0 a0_1 a0_2 a0_3 a0_4 a0_5 a0_6 a0_7 a0_8 a0_9 a0_10 a0_11).bind fun bt302=>((thresherref04_Fits.f k bt302.1 bt302.2.1 bt302.2.2.1 bt302.2.2.2 l1 60).bind fun t309=>((thresherref09_Sort.f k bt302.1 bt302.2.1 bt302.2.2.1 bt302.2.2.2 t309).bind fun t312=>((thresherref04_Fits.f k bt302.1 bt302.2.1 bt302.2.2.1 bt302.2.2.2 t312 60).bind fun t315=>((fold_Rows.f k bt302.1 bt302.2.1 bt302.2.2.1 bt302.2.2.2 t312).bind fun t318=>((thresherref13_Rows.f k bt302.1 bt302.2.1 bt302.2.2.1 bt302.2.2.2 t312).bind fun t321=>((thresherref04_Rows.f k t318 t321).bind fun t324=>((thresherref04_Rows.f k t312 t315).bind fun t325=>(thresherlaw13_FoldAll.l0 k t301 t312 t324 t325 1 bt302.1 bt302.2.1 bt302.2.2.1 bt302.2.2.2))))))))))=some r:=h
 clear h
 replace H:=Option.bind_eq_some_iff.mp H
 obtain ⟨t301,A30,H⟩:=H
 replace H : ((thresherlaw13_made.f k a0_0 a0_1 a0_2 a0_3 a0_4 a0_5 a0_6 a0_7 a0_8 a0_9 a0_10 a0_11).bind fun bt302=>((thresherref04_Fits.f k bt302.1 bt302.2.1 bt302.2.2.1 bt302.2.2.2 l1 60).bind fun t309=>((thresherref09_Sort.f k bt302.1 bt302.2.1 bt302.2.2.1 bt302.2.2.2 t309).bind fun t312=>((thresherref04_Fits.f k bt302.1 bt302.2.1 bt302.2.2.1 bt302.2.2.2 t312 60).bind fun t315=>((fold_Rows.f k bt302.1 bt302.2.1 bt302.2.2.1 bt302.2.2.2 t312).bind fun t318=>((thresherref13_Rows.f k bt302.1 bt302.2.1 bt302.2.2.1 bt302.2.2.2 t312).bind fun t321=>((thresherref04_Rows.f k t318 t321).bind fun t324=>((thresherref04_Rows.f k t312 t315).bind fun t325=>(thresherlaw13_FoldAll.l0 k t301 t312 t324 t325 1 bt302.1 bt302.2.1 bt302.2.2.1 bt302.2.2.2)))))))))=some r:=H
 have A3:=Aside0.mk A30
 clear A30
 replace H:=Option.bind_eq_some_iff.mp H
 obtain ⟨⟨t302,t305,t306,t307⟩,A40,H⟩:=H
 replace H : ((thresherref04_Fits.f k t302 t305 t306 t307 l1 60).bind fun t309=>((thresherref09_Sort.f k t302 t305 t306 t307 t309).bind fun t312=>((thresherref04_Fits.f k t302 t305 t306 t307 t312 60).bind fun t315=>((fold_Rows.f k t302 t305 t306 t307 t312).bind fun t318=>((thresherref13_Rows.f k t302 t305 t306 t307 t312).bind fun t321=>((thresherref04_Rows.f k t318 t321).bind fun t324=>((thresherref04_Rows.f k t312 t315).bind fun t325=>(thresherlaw13_FoldAll.l0 k t301 t312 t324 t325 1 t302 t305 t306 t307))))))))=some r:=H
 have A4:=Aside0.mk A40
 clear A40
 replace H:=Option.bind_eq_some_iff.mp H
 obtain ⟨t309,A50,H⟩:=H
 replace H : ((thresherref09_Sort.f k t302 t305 t306 t307 t309).bind fun t312=>((thresherref04_Fits.f k t302 t305 t306 t307 t312 60).bind fun t315=>((fold_Rows.f k t302 t305 t306 t307 t312).bind fun t318=>((thresherref13_Rows.f k t302 t305 t306 t307 t312).bind fun t321=>((thresherref04_Rows.f k t318 t321).bind fun t324=>((thresherref04_Rows.f k t312 t315).bind fun t325=>(thresherlaw13_FoldAll.l0 k t301 t312 t324 t325 1 t302 t305 t306 t307)))))))=some r:=H
 have A5:=Aside0.mk A50
 clear A50
 replace H:=Option.bind_eq_some_iff.mp H
 obtain ⟨t312,A60,H⟩:=H
 replace H : ((thresherref04_Fits.f k t302 t305 t306 t307 t312 60).bind fun t315=>((fold_Rows.f k t302 t305 t306 t307 t312).bind fun t318=>((thresherref13_Rows.f k t302 t305 t306 t307 t312).bind fun t321=>((thresherref04_Rows.f k t318 t321).bind fun t324=>((thresherref04_Rows.f k t312 t315).bind fun t325=>(thresherlaw13_FoldAll.l0 k t301 t312 t324 t325 1 t302 t305 t306 t307))))))=some r:=H
 have A6:=Aside0.mk A60
 clear A60
 replace H:=Option.bind_eq_some_iff.mp H
 obtain ⟨t315,A70,H⟩:=H
 replace H : ((fold_Rows.f k t302 t305 t306 t307 t312).bind fun t318=>((thresherref13_Rows.f k t302 t305 t306 t307 t312).bind fun t321=>((thresherref04_Rows.f k t318 t321).bind fun t324=>((thresherref04_Rows.f k t312 t315).bind fun t325=>(thresherlaw13_FoldAll.l0 k t301 t312 t324 t325 1 t302 t305 t306 t307)))))=some r:=H
 have A7:=Aside0.mk A70
 clear A70
 replace H:=Option.bind_eq_some_iff.mp H
 obtain ⟨t318,A80,H⟩:=H
 replace H : ((thresherref13_Rows.f k t302 t305 t306 t307 t312).bind fun t321=>((thresherref04_Rows.f k t318 t321).bind fun t324=>((thresherref04_Rows.f k t312 t315).bind fun t325=>(thresherlaw13_FoldAll.l0 k t301 t312 t324 t325 1 t302 t305 t306 t307))))=some r:=H
 have A8:=Aside0.mk A80
 clear A80
 replace H:=Option.bind_eq_some_iff.mp H
 obtain ⟨t321,A90,H⟩:=H
 replace H : ((thresherref04_Rows.f k t318 t321).bind fun t324=>((thresherref04_Rows.f k t312 t315).bind fun t325=>(thresherlaw13_FoldAll.l0 k t301 t312 t324 t325 1 t302 t305 t306 t307)))=some r:=H
 have A9:=Aside0.mk A90
 clear A90
 replace H:=Option.bind_eq_some_iff.mp H
 obtain ⟨t324,A100,H⟩:=H
 replace H : ((thresherref04_Rows.f k t312 t315).bind fun t325=>(thresherlaw13_FoldAll.l0 k t301 t312 t324 t325 1 t302 t305 t306 t307))=some r:=H
 have A10:=Aside0.mk A100
 clear A100
 replace H:=Option.bind_eq_some_iff.mp H
 obtain ⟨t325,A110,H⟩:=H
 replace H : (thresherlaw13_FoldAll.l0 k t301 t312 t324 t325 1 t302 t305 t306 t307)=some r:=H
 have A11:=Aside0.mk A110
 clear A110
 have H':=Aside0.mk H
 clear H
 go_enter Try.func3,Try.ntmps3
 try go_wp2_with (first|((with_reducible refine gate_dst (N:=2) rfl ?_);refine box_event ?hg (N:=2) ?hd (cs:=#[.int .u8 a0_0,.int .u8 a0_1,.int .u8 a0_2,.int .u8 a0_3,.int .u8 a0_4,.int .u8 a0_5,.int .u8 a0_6,.int .u8 a0_7,.int .u8 a0_8,.int .u8 a0_9,.int .u8 a0_10,.int .u8 a0_11]) (t:=24) ?hr ?_;(case hd=>rfl);(case hg=>rfl);(case hr=>first|(go_simp;done)|(go_simp;rfl));intro gb300 hg w12 hbox hb;have n0_:=Aside0.mk (below_step (by repeat (first|(with_reducible first|exact HB.out|apply below_alloc|apply pw_below_drewN|apply below_drew1)|exact HB.out)) hb);have n1_:=Aside0.mk (hbox);have n2_:=Aside0.mk ((by rw [hg];exact (below_size (by repeat (first|(with_reducible first|exact HB.out|apply below_alloc|apply pw_below_drewN|apply below_drew1)|exact HB.out))) : w.heap.size≤gb300));have n3_:=Aside0.mk ((by rw [hg];exact (below_size (by repeat (first|(with_reducible first|exact HB.out|apply below_alloc|apply pw_below_drewN|apply below_drew1)|exact HB.out))) : w.heap.size≤gb300));clear HB;have HB:=n0_;have BK300:=n1_;have GW300:=n2_;have GE300:=n3_;clear n0_ n1_ n2_ n3_;clear hb hbox hg)|((with_reducible refine gate_callee (f:=8) rfl ?_);refine goesL_ (some 13) rfl rfl Try.func8 (by kernel_rfl) rfl #[] rfl (by (try simp only [List.map_toArray,List.map_cons,List.map_nil]);first|done|rfl|(simp only [List.length_drop,List.length_take];rfl)) ?_;(with_reducible refine (thresherlaw13_shown.calls k  t301 _ A3.out).mono ?_);rintro e w13 ⟨rfl,hb⟩;refine ⟨_,rfl,?_⟩;have n0_:=Aside0.mk (blk_below (g:=gb300) (o:=.cells #[.int .u8 a0_0,.int .u8 a0_1,.int .u8 a0_2,.int .u8 a0_3,.int .u8 a0_4,.int .u8 a0_5,.int .u8 a0_6,.int .u8 a0_7,.int .u8 a0_8,.int .u8 a0_9,.int .u8 a0_10,.int .u8 a0_11] 24 (0,0)) (by (with_reducible repeat (first|refine blk_drewN ?_ _|refine blk_drew ?_|refine blk_alloc ?_ _));exact BK300.out) hb);have n1_:=Aside0.mk (below_step (by repeat (first|(with_reducible first|exact HB.out|apply below_alloc|apply pw_below_drewN|apply below_drew1|refine below_set ?_ GE300.out)|exact HB.out)) hb);clear BK300;clear HB;have BK300:=n0_;have HB:=n1_;clear n0_ n1_;(try clear hb);(try clear hb2);(try clear hk);(try clear hi);have hcz14_0 : w13.cell? ⟨gb300,0,none⟩=some (.int .u8 a0_0):=(blk_cell BK300.out 0).trans rfl;have hcz14_1 : w13.cell? ⟨gb300,1,none⟩=some (.int .u8 a0_1):=(blk_cell BK300.out 1).trans rfl;have hcz14_2 : w13.cell? ⟨gb300,2,none⟩=some (.int .u8 a0_2):=(blk_cell BK300.out 2).trans rfl;have hcz14_3 : w13.cell? ⟨gb300,3,none⟩=some (.int .u8 a0_3):=(blk_cell BK300.out 3).trans rfl;have hcz14_4 : w13.cell? ⟨gb300,4,none⟩=some (.int .u8 a0_4):=(blk_cell BK300.out 4).trans rfl;have hcz14_5 : w13.cell? ⟨gb300,5,none⟩=some (.int .u8 a0_5):=(blk_cell BK300.out 5).trans rfl;have hcz14_6 : w13.cell? ⟨gb300,6,none⟩=some (.int .u8 a0_6):=(blk_cell BK300.out 6).trans rfl;have hcz14_7 : w13.cell? ⟨gb300,7,none⟩=some (.int .u8 a0_7):=(blk_cell BK300.out 7).trans rfl;have hcz14_8 : w13.cell? ⟨gb300,8,none⟩=some (.int .u8 a0_8):=(blk_cell BK300.out 8).trans rfl;have hcz14_9 : w13.cell? ⟨gb300,9,none⟩=some (.int .u8 a0_9):=(blk_cell BK300.out 9).trans rfl;have hcz14_10 : w13.cell? ⟨gb300,10,none⟩=some (.int .u8 a0_10):=(blk_cell BK300.out 10).trans rfl;have hcz14_11 : w13.cell? ⟨gb300,11,none⟩=some (.int .u8 a0_11):=(blk_cell BK300.out 11).trans rfl;have hfz14_0:=blk_frozen BK300.out 0;have hfz14_1:=blk_frozen BK300.out 1;have hfz14_2:=blk_frozen BK300.out 2;have hfz14_3:=blk_frozen BK300.out 3;have hfz14_4:=blk_frozen BK300.out 4;have hfz14_5:=blk_frozen BK300.out 5;have hfz14_6:=blk_frozen BK300.out 6;have hfz14_7:=blk_frozen BK300.out 7;have hfz14_8:=blk_frozen BK300.out 8;have hfz14_9:=blk_frozen BK300.out 9;have hfz14_10:=blk_frozen BK300.out 10;have hfz14_11:=blk_frozen BK300.out 11)|((with_reducible refine gate_callee (f:=9) rfl ?_);refine goesL_ (some 15) rfl rfl Try.func9 (by kernel_rfl) rfl #[.agg #[.int .u8 a0_0,.int .u8 a0_1,.int .u8 a0_2,.int .u8 a0_3,.int .u8 a0_4,.int .u8 a0_5,.int .u8 a0_6,.int .u8 a0_7,.int .u8 a0_8,.int .u8 a0_9,.int .u8 a0_10,.int .u8 a0_11]] rfl (by (try simp only [List.map_toArray,List.map_cons,List.map_nil]);first|done|rfl|(simp only [List.length_drop,List.length_take];rfl)) ?_;(with_reducible refine (thresherlaw13_made.calls k a0_0 a0_1 a0_2 a0_3 a0_4 a0_5 a0_6 a0_7 a0_8 a0_9 a0_10 a0_11 t302 t305 t306 t307 _ A4.out).mono ?_);rintro e w15 ⟨v303,rfl,ho0,hb⟩;refine ⟨_,rfl,?_⟩;have n0_:=Aside0.mk (Kd.R_lower ho0 (below_size (by repeat (first|(with_reducible first|exact HB.out|apply below_alloc|apply pw_below_drewN|apply below_drew1|refine below_set ?_ GE300.out)|exact HB.out))));have n1_:=Aside0.mk (blk_below (g:=gb300) (o:=.cells #[.int .u8 a0_0,.int .u8 a0_1,.int .u8 a0_2,.int .u8 a0_3,.int .u8 a0_4,.int .u8 a0_5,.int .u8 a0_6,.int .u8 a0_7,.int .u8 a0_8,.int .u8 a0_9,.int .u8 a0_10,.int .u8 a0_11] 24 (0,0)) (by (with_reducible repeat (first|refine blk_drewN ?_ _|refine blk_drew ?_|refine blk_alloc ?_ _));exact BK300.out) hb);have n2_:=Aside0.mk (below_step (by repeat (first|(with_reducible first|exact HB.out|apply below_alloc|apply pw_below_drewN|apply below_drew1|refine below_set ?_ GE300.out)|exact HB.out)) hb);clear BK300;clear HB;have HO304:=n0_;have BK300:=n1_;have HB:=n2_;clear n0_ n1_ n2_;(try clear hb);(try clear hb2);(try clear hk);(try clear hi);(try clear ho0))|((with_reducible refine gate_dst (N:=6) rfl ?_);refine box_event ?hg (N:=6) ?hd (cs:=#[.slice none 0 0,.int .i64 0,.int .i64 0,.int .i64 0]) (t:=29) ?hr ?_;(case hd=>rfl);(case hg=>rfl);(case hr=>first|(go_simp;done)|(go_simp;rfl));intro gb308 hg w16 hbox hb;have n0_:=Aside0.mk (Kd.R_below (by (with_reducible repeat (first|apply Kd.R_alloc|apply Kd.R_drewN|apply Kd.R_drew));exact HO304.out) hb);have n1_:=Aside0.mk (blk_below (g:=gb300) (o:=.cells #[.int .u8 a0_0,.int .u8 a0_1,.int .u8 a0_2,.int .u8 a0_3,.int .u8 a0_4,.int .u8 a0_5,.int .u8 a0_6,.int .u8 a0_7,.int .u8 a0_8,.int .u8 a0_9,.int .u8 a0_10,.int .u8 a0_11] 24 (0,0)) (by (with_reducible repeat (first|refine blk_drewN ?_ _|refine blk_drew ?_|refine blk_alloc ?_ _));exact BK300.out) hb);have n2_:=Aside0.mk (below_step (by repeat (first|(with_reducible first|exact HB.out|apply below_alloc|apply pw_below_drewN|apply below_drew1|refine below_set ?_ GE300.out)|exact HB.out)) hb);have n3_:=Aside0.mk (hbox);have n4_:=Aside0.mk ((by rw [hg];exact (below_size (by repeat (first|(with_reducible first|exact HB.out|apply below_alloc|apply pw_below_drewN|apply below_drew1|refine below_set ?_ GE300.out)|exact HB.out))) : w.heap.size≤gb308));have n5_:=Aside0.mk ((by rw [hg];exact (below_size (by repeat (first|(with_reducible first|exact HB.out|apply below_alloc|apply pw_below_drewN|apply below_drew1|refine below_set ?_ GE300.out)|exact HB.out))) : w.heap.size≤gb308));have n6_:=Aside0.mk ((by rw [hg];exact Nat.ne_of_lt (blk_lt (g:=gb300) (o:=.cells #[.int .u8 a0_0,.int .u8 a0_1,.int .u8 a0_2,.int .u8 a0_3,.int .u8 a0_4,.int .u8 a0_5,.int .u8 a0_6,.int .u8 a0_7,.int .u8 a0_8,.int .u8 a0_9,.int .u8 a0_10,.int .u8 a0_11] 24 (0,0)) (by (with_reducible repeat (first|refine blk_drewN ?_ _|refine blk_drew ?_|refine blk_alloc ?_ _));exact BK300.out)) : gb300≠gb308));have n7_:=Aside0.mk ((by rw [hg];exact Nat.ne_of_gt (blk_lt (g:=gb300) (o:=.cells #[.int .u8 a0_0,.int .u8 a0_1,.int .u8 a0_2,.int .u8 a0_3,.int .u8 a0_4,.int .u8 a0_5,.int .u8 a0_6,.int .u8 a0_7,.int .u8 a0_8,.int .u8 a0_9,.int .u8 a0_10,.int .u8 a0_11] 24 (0,0)) (by (with_reducible repeat (first|refine blk_drewN ?_ _|refine blk_drew ?_|refine blk_alloc ?_ _));exact BK300.out)) : gb308≠gb300));clear HO304;clear BK300;clear HB;have HO304:=n0_;have BK300:=n1_;have HB:=n2_;have BK308:=n3_;have GW308:=n4_;have GE308:=n5_;have NB300_308:=n6_;have NB308_300:=n7_;clear n0_ n1_ n2_ n3_ n4_ n5_ n6_ n7_;clear hb hbox hg;obtain ⟨Ao17,co17,eo17⟩:=Kd.R_slice HO304.out;subst eo17;have hnb18:=NB308_300.out;have hnc18:=NB300_308.out;have hcz19_0 : w16.cell? ⟨gb308,0,none⟩=some (.slice none 0 0):=(blk_cell BK308.out 0).trans rfl;have hcz19_1 : w16.cell? ⟨gb308,1,none⟩=some (.int .i64 0):=(blk_cell BK308.out 1).trans rfl;have hcz19_2 : w16.cell? ⟨gb308,2,none⟩=some (.int .i64 0):=(blk_cell BK308.out 2).trans rfl;have hcz19_3 : w16.cell? ⟨gb308,3,none⟩=some (.int .i64 0):=(blk_cell BK308.out 3).trans rfl;have hfz19_0:=blk_frozen BK308.out 0;have hfz19_1:=blk_frozen BK308.out 1;have hfz19_2:=blk_frozen BK308.out 2;have hfz19_3:=blk_frozen BK308.out 3))
 have n0_ : Aside0 (Kd.R (Kd.int .i64) 3 ((((w16.setCell ⟨gb308,0,none⟩ (.slice Ao17 t302.length co17)).setCell ⟨gb308,1,none⟩ (.int .i64 t305)).setCell ⟨gb308,2,none⟩ (.int .i64 t306)).setCell ⟨gb308,3,none⟩ (.int .i64 t307)) w.heap.size (fun _=>True) (.slice Ao17 t302.length co17) t302):=⟨by (with_reducible repeat (first|apply Kd.R_alloc|apply Kd.R_drewN|apply Kd.R_drew));exact Kd.R_mono (Kd.R_far (p:=⟨gb308,3,none⟩) (Kd.R_far (p:=⟨gb308,2,none⟩) (Kd.R_far (p:=⟨gb308,1,none⟩) (Kd.R_far (p:=⟨gb308,0,none⟩) (Kd.R_types HO304.out BK308.out (by decide)) (fun _ hk=>hk.2) (.slice Ao17 t302.length co17)) (fun _ hk=>hk.2) (.int .i64 t305)) (fun _ hk=>hk.2) (.int .i64 t306)) (fun _ hk=>hk.2) (.int .i64 t307)) (fun _ hk=>trivial)⟩
 have n1_ : Aside0 (((((w16.setCell ⟨gb308,0,none⟩ (.slice Ao17 t302.length co17)).setCell ⟨gb308,1,none⟩ (.int .i64 t305)).setCell ⟨gb308,2,none⟩ (.int .i64 t306)).setCell ⟨gb308,3,none⟩ (.int .i64 t307)).heap[gb300]?=some (.cells #[.int .u8 a0_0,.int .u8 a0_1,.int .u8 a0_2,.int .u8 a0_3,.int .u8 a0_4,.int .u8 a0_5,.int .u8 a0_6,.int .u8 a0_7,.int .u8 a0_8,.int .u8 a0_9,.int .u8 a0_10,.int .u8 a0_11] 24 (0,0))):=⟨by (with_reducible repeat (first|refine blk_drewN ?_ _|refine blk_drew ?_|refine blk_alloc ?_ _));refine blk_far ?_ NB300_308.out _;(with_reducible repeat (first|refine blk_drewN ?_ _|refine blk_drew ?_|refine blk_alloc ?_ _));refine blk_far ?_ NB300_308.out _;(with_reducible repeat (first|refine blk_drewN ?_ _|refine blk_drew ?_|refine blk_alloc ?_ _));refine blk_far ?_ NB300_308.out _;(with_reducible repeat (first|refine blk_drewN ?_ _|refine blk_drew ?_|refine blk_alloc ?_ _));refine blk_far ?_ NB300_308.out _;(with_reducible repeat (first|refine blk_drewN ?_ _|refine blk_drew ?_|refine blk_alloc ?_ _));exact BK300.out⟩
 have n2_ : Aside0 (((((w16.setCell ⟨gb308,0,none⟩ (.slice Ao17 t302.length co17)).setCell ⟨gb308,1,none⟩ (.int .i64 t305)).setCell ⟨gb308,2,none⟩ (.int .i64 t306)).setCell ⟨gb308,3,none⟩ (.int .i64 t307)).heap[gb308]?=some (.cells #[.slice Ao17 t302.length co17,.int .i64 t305,.int .i64 t306,.int .i64 t307] 29 (0,0))):=⟨by (with_reducible repeat (first|refine blk_drewN ?_ _|refine blk_drew ?_|refine blk_alloc ?_ _));refine blk_put (cs:=#[.slice Ao17 t302.length co17,.int .i64 t305,.int .i64 t306,.int .i64 0]) ?_ 3 _ rfl;(with_reducible repeat (first|refine blk_drewN ?_ _|refine blk_drew ?_|refine blk_alloc ?_ _));refine blk_put (cs:=#[.slice Ao17 t302.length co17,.int .i64 t305,.int .i64 0,.int .i64 0]) ?_ 2 _ rfl;(with_reducible repeat (first|refine blk_drewN ?_ _|refine blk_drew ?_|refine blk_alloc ?_ _));refine blk_put (cs:=#[.slice Ao17 t302.length co17,.int .i64 0,.int .i64 0,.int .i64 0]) ?_ 1 _ rfl;(with_reducible repeat (first|refine blk_drewN ?_ _|refine blk_drew ?_|refine blk_alloc ?_ _));refine blk_put (cs:=#[.slice none 0 0,.int .i64 0,.int .i64 0,.int .i64 0]) ?_ 0 _ rfl;(with_reducible repeat (first|refine blk_drewN ?_ _|refine blk_drew ?_|refine blk_alloc ?_ _));exact BK308.out⟩
 have n3_ : Aside0 (Below w.heap.size w ((((w16.setCell ⟨gb308,0,none⟩ (.slice Ao17 t302.length co17)).setCell ⟨gb308,1,none⟩ (.int .i64 t305)).setCell ⟨gb308,2,none⟩ (.int .i64 t306)).setCell ⟨gb308,3,none⟩ (.int .i64 t307))):=⟨by repeat (first|(with_reducible first|exact HB.out|apply below_alloc|apply pw_below_drewN|apply below_drew1|refine below_set ?_ GE300.out|refine below_set ?_ GE308.out)|exact HB.out)⟩
 (try clear HO304)
 (try clear BK300)
 (try clear BK308)
 (try clear HB)
 generalize ((((w16.setCell ⟨gb308,0,none⟩ (.slice Ao17 t302.length co17)).setCell ⟨gb308,1,none⟩ (.int .i64 t305)).setCell ⟨gb308,2,none⟩ (.int .i64 t306)).setCell ⟨gb308,3,none⟩ (.int .i64 t307))=w20 at n0_ n1_ n2_ n3_ ⊢
 have HO304:=n0_
 have BK300:=n1_
 have BK308:=n2_
 have HB:=n3_
 clear n0_ n1_ n2_ n3_
 have n0_:=Aside0.mk (Kd.R_drew HO304.out)
 have n1_:=Aside0.mk (blk_drew BK300.out)
 have n2_:=Aside0.mk (blk_drew BK308.out)
 have n3_:=Aside0.mk (below_drew1 HB.out)
 clear HO304
 clear BK300
 clear BK308
 clear HB
 have HO304:=n0_
 have BK300:=n1_
 have BK308:=n2_
 have HB:=n3_
 clear n0_ n1_ n2_ n3_
 refine start_ (n:=6) (S:=fun w'=>w'.cell? ⟨gb308,0,none⟩=some (.slice Ao17 t302.length co17)∧w'.cell? ⟨gb308,1,none⟩=some (.int .i64 t305)∧w'.cell? ⟨gb308,2,none⟩=some (.int .i64 t306)∧w'.cell? ⟨gb308,3,none⟩=some (.int .i64 t307)) (ds:=[]) #[false,false,false,false,false,false] (by kernel_rfl) rfl rfl ⟨(blk_cell BK308.out 0).trans rfl,(blk_cell BK308.out 1).trans rfl,(blk_cell BK308.out 2).trans rfl,(blk_cell BK308.out 3).trans rfl⟩ (fun hHeld=>?_)
 generalize w20.drew=w21 at HO304 BK300 BK308 HB hHeld ⊢
 refine pure_ (i:=2) (N:=some 18) (v:=?_) (a':=?_) #[false,false,true,false,false,false] rfl rfl (by kernel_rfl) (fun _ _ _ h=>h) (Or.inl ⟨by rfl,?_⟩) ?_ ?_
 rotate_left;(intro w';go_simp;with_reducible rfl);rotate_left;(simp only [Act.put,List.setIfInBounds_toArray,List.set_cons_zero,List.set_cons_succ,i64_w,i32_w];rfl)
 refine take_ (i:=0) (N:=some 16) (v:=?_) (a':=?_) #[true,false,true,false,false,false] rfl rfl (by kernel_rfl) (fun _ _ _ h=>h) (Or.inl ⟨by rfl,?_⟩) hHeld ?_ ?_
 rotate_left;(rintro w' ⟨s0,s1,s2,s3⟩;go_simp;with_reducible rfl);rotate_left;(simp only [Act.put,List.setIfInBounds_toArray,List.set_cons_zero,List.set_cons_succ,i64_w,i32_w];rfl)
 refine take_ (i:=1) (N:=some 17) (v:=?_) (a':=?_) #[true,true,true,false,false,false] rfl rfl (by kernel_rfl) (fun _ _ _ h=>h) (Or.inl ⟨by rfl,?_⟩) hHeld ?_ ?_
 rotate_left;(rintro w' ⟨s0,s1,s2,s3⟩;go_simp;with_reducible rfl);rotate_left;(simp only [Act.put,List.setIfInBounds_toArray,List.set_cons_zero,List.set_cons_succ,i64_w,i32_w];rfl)
 refine one_ (i:=3) (N:=some 19) #[true,true,true,true,false,false] rfl rfl (by kernel_rfl) (by decide) (fun K hK=>?_)
 refine goes_ Try.func11 (by kernel_rfl) rfl #[.agg #[.slice Ao17 t302.length co17,.int .i64 t305,.int .i64 t306,.int .i64 t307],.slice A1 l1.length c1,.int .i64 60] (by rfl) rfl rfl (by (try simp only [List.map_toArray,List.map_cons,List.map_nil]);first|done|rfl|(simp only [List.length_drop,List.length_take];rfl)) ?_
 with_reducible refine (thresherref04_Fits.calls k _ _ t302 t305 t306 t307 _ _ l1 60 t309 _ ?side1 ?side2 ?side3 ?side4 A5.out).mono ?_
 (case side1=>repeat (first|exact (Kd.R_reads' HO304.out).2.2|(with_reducible refine Kd.C_alloc ?_ _)|(with_reducible refine Kd.C_drewN ?_ _)|(with_reducible refine Kd.C_drew ?_)))
 (case side2=>exact (Kd.R_reads' HO304.out).2.1)
 (case side3=>repeat (first|exact (Kd.C_below HR1.out HB.out)|(with_reducible refine Kd.C_alloc ?_ _)|(with_reducible refine Kd.C_drewN ?_ _)|(with_reducible refine Kd.C_drew ?_)))
 (case side4=>exact HC1.out)
 rintro e w22 ⟨v310,rfl,ho0,hb⟩
 refine ⟨_,rfl,?_⟩
 have n0_:=Aside0.mk (Kd.R_below (by (with_reducible repeat (first|apply Kd.R_alloc|apply Kd.R_drewN|apply Kd.R_drew));exact HO304.out) hb)
 have n1_:=Aside0.mk (Kd.N_lower (Kd.N_mono (ok':=fun k_=>some k_≠(.slice Ao17 t302.length co17 : Value).ownBlock∧k_≠gb300∧k_≠gb308) (Kd.S_N (Kd.S_bound ho0)) (fun k_ hk_=>⟨(Kd.fresh' (Kd.R_lt (by (with_reducible repeat (first|apply Kd.R_alloc|apply Kd.R_drewN|apply Kd.R_drew));exact HO304.out)) k_ hk_.2.1),(Kd.freshB (g:=gb300) (o:=.cells #[.int .u8 a0_0,.int .u8 a0_1,.int .u8 a0_2,.int .u8 a0_3,.int .u8 a0_4,.int .u8 a0_5,.int .u8 a0_6,.int .u8 a0_7,.int .u8 a0_8,.int .u8 a0_9,.int .u8 a0_10,.int .u8 a0_11] 24 (0,0)) (by (with_reducible repeat (first|refine blk_drewN ?_ _|refine blk_drew ?_|refine blk_alloc ?_ _));exact BK300.out) k_ hk_.2.1),(Kd.freshB (g:=gb308) (o:=.cells #[.slice Ao17 t302.length co17,.int .i64 t305,.int .i64 t306,.int .i64 t307] 29 (0,0)) (by (with_reducible repeat (first|refine blk_drewN ?_ _|refine blk_drew ?_|refine blk_alloc ?_ _));exact BK308.out) k_ hk_.2.1)⟩)) (below_size (by repeat (first|(with_reducible first|exact HB.out|apply below_alloc|apply pw_below_drewN|apply below_drew1|refine below_set ?_ GE300.out|refine below_set ?_ GE308.out)|exact HB.out))))
 have n2_:=Aside0.mk (blk_below (g:=gb300) (o:=.cells #[.int .u8 a0_0,.int .u8 a0_1,.int .u8 a0_2,.int .u8 a0_3,.int .u8 a0_4,.int .u8 a0_5,.int .u8 a0_6,.int .u8 a0_7,.int .u8 a0_8,.int .u8 a0_9,.int .u8 a0_10,.int .u8 a0_11] 24 (0,0)) (by (with_reducible repeat (first|refine blk_drewN ?_ _|refine blk_drew ?_|refine blk_alloc ?_ _));exact BK300.out) hb)
 have n3_:=Aside0.mk (blk_below (g:=gb308) (o:=.cells #[.slice Ao17 t302.length co17,.int .i64 t305,.int .i64 t306,.int .i64 t307] 29 (0,0)) (by (with_reducible repeat (first|refine blk_drewN ?_ _|refine blk_drew ?_|refine blk_alloc ?_ _));exact BK308.out) hb)
 have n4_:=Aside0.mk (below_step (by repeat (first|(with_reducible first|exact HB.out|apply below_alloc|apply pw_below_drewN|apply below_drew1|refine below_set ?_ GE300.out|refine below_set ?_ GE308.out)|exact HB.out)) hb)
 clear HO304
 clear BK300
 clear BK308
 clear HB
 have HO304:=n0_
 have HO311:=n1_
 have BK300:=n2_
 have BK308:=n3_
 have HB:=n4_
 clear n0_ n1_ n2_ n3_ n4_
 (try clear hb)
 (try clear hb2)
 (try clear hk)
 (try clear hi)
 (try clear ho0)
 obtain ⟨Ao23,co23,eo23⟩:=Kd.N_slice HO311.out
 (first|subst eo23|(injection eo23 with f1_ f2_ f3_;have f4_:=f1_.symm;have f5_:=f3_.symm;clear f1_ f2_ f3_;subst f4_;subst f5_))
 refine hK.out _ _ ⟨(blk_cell BK308.out 0).trans rfl,(blk_cell BK308.out 1).trans rfl,(blk_cell BK308.out 2).trans rfl,(blk_cell BK308.out 3).trans rfl⟩ (fun hHeld=>?_)
 clear hK K
 refine norm_ (a':=?_) ?_ ?_
 rotate_left
 ·show Act.put _ (some 19) _=_
  simp only [Act.put,List.setIfInBounds_toArray,List.set_cons_zero,List.set_cons_succ,i64_w,i32_w]
  rfl
 refine one_ (i:=4) (N:=some 20) #[true,true,true,true,true,false] rfl rfl (by kernel_rfl) (by decide) (fun K hK=>?_)
 refine goes_ Try.func10 (by kernel_rfl) rfl #[.agg #[.slice Ao17 t302.length co17,.int .i64 t305,.int .i64 t306,.int .i64 t307],.slice Ao23 t309.length co23] (by rfl) rfl rfl (by (try simp only [List.map_toArray,List.map_cons,List.map_nil]);first|done|rfl|(simp only [List.length_drop,List.length_take];rfl)) ?_
 with_reducible refine (thresherref09_Sort.calls k _ _ t302 t305 t306 t307 (fun k_=>(some k_≠(.slice Ao17 t302.length co17 : Value).ownBlock∧(k_≠gb300∧k_≠gb308))) _ _ t309 t312 _ ?side1 ?side2 ?side3 A6.out).mono ?_
 (case side1=>repeat (first|exact (Kd.R_reads' HO304.out).2.2|(with_reducible refine Kd.C_alloc ?_ _)|(with_reducible refine Kd.C_drewN ?_ _)|(with_reducible refine Kd.C_drew ?_)))
 (case side2=>exact (Kd.R_reads' HO304.out).2.1)
 (case side3=>exact Kd.N_V (HO311.out))
 rintro e w24 ⟨v313,rfl,ho0,hb⟩
 refine ⟨_,rfl,?_⟩
 have n0_:=Aside0.mk (Kd.R_below (by (with_reducible repeat (first|apply Kd.R_alloc|apply Kd.R_drewN|apply Kd.R_drew));exact HO304.out) hb)
 have n1_:=Aside0.mk (Kd.N_elder' (by (with_reducible repeat (first|apply Kd.N_alloc|apply Kd.N_drewN|apply Kd.N_drew));exact HO311.out) (by first|exact Kd.N_base ho0|exact Kd.S_base ho0) hb)
 have n2_:=Aside0.mk (Kd.N_lower (Kd.N_mono (ok':=fun k_=>some k_≠(.slice Ao17 t302.length co17 : Value).ownBlock∧k_≠gb300∧k_≠gb308) ho0 (fun k_ hk_=>⟨Or.elim hk_ (fun hs_=>hs_.1) (fun hn_=>(Kd.fresh' (Kd.R_lt (by (with_reducible repeat (first|apply Kd.R_alloc|apply Kd.R_drewN|apply Kd.R_drew));exact HO304.out)) k_ hn_)),Or.elim hk_ (fun hs_=>hs_.2.1) (fun hn_=>(Kd.freshB (g:=gb300) (o:=.cells #[.int .u8 a0_0,.int .u8 a0_1,.int .u8 a0_2,.int .u8 a0_3,.int .u8 a0_4,.int .u8 a0_5,.int .u8 a0_6,.int .u8 a0_7,.int .u8 a0_8,.int .u8 a0_9,.int .u8 a0_10,.int .u8 a0_11] 24 (0,0)) (by (with_reducible repeat (first|refine blk_drewN ?_ _|refine blk_drew ?_|refine blk_alloc ?_ _));exact BK300.out) k_ hn_)),Or.elim hk_ (fun hs_=>hs_.2.2) (fun hn_=>(Kd.freshB (g:=gb308) (o:=.cells #[.slice Ao17 t302.length co17,.int .i64 t305,.int .i64 t306,.int .i64 t307] 29 (0,0)) (by (with_reducible repeat (first|refine blk_drewN ?_ _|refine blk_drew ?_|refine blk_alloc ?_ _));exact BK308.out) k_ hn_))⟩)) (below_size (by repeat (first|(with_reducible first|exact HB.out|apply below_alloc|apply pw_below_drewN|apply below_drew1|refine below_set ?_ GE300.out|refine below_set ?_ GE308.out)|exact HB.out))))
 have n3_:=Aside0.mk (blk_below (g:=gb300) (o:=.cells #[.int .u8 a0_0,.int .u8 a0_1,.int .u8 a0_2,.int .u8 a0_3,.int .u8 a0_4,.int .u8 a0_5,.int .u8 a0_6,.int .u8 a0_7,.int .u8 a0_8,.int .u8 a0_9,.int .u8 a0_10,.int .u8 a0_11] 24 (0,0)) (by (with_reducible repeat (first|refine blk_drewN ?_ _|refine blk_drew ?_|refine blk_alloc ?_ _));exact BK300.out) hb)
 have n4_:=Aside0.mk (blk_below (g:=gb308) (o:=.cells #[.slice Ao17 t302.length co17,.int .i64 t305,.int .i64 t306,.int .i64 t307] 29 (0,0)) (by (with_reducible repeat (first|refine blk_drewN ?_ _|refine blk_drew ?_|refine blk_alloc ?_ _));exact BK308.out) hb)
 have n5_:=Aside0.mk (below_step (by repeat (first|(with_reducible first|exact HB.out|apply below_alloc|apply pw_below_drewN|apply below_drew1|refine below_set ?_ GE300.out|refine below_set ?_ GE308.out)|exact HB.out)) hb)
 clear HO304
 clear HO311
 clear BK300
 clear BK308
 clear HB
 have HO304:=n0_
 have HO311:=n1_
 have HO314:=n2_
 have BK300:=n3_
 have BK308:=n4_
 have HB:=n5_
 clear n0_ n1_ n2_ n3_ n4_ n5_
 (try clear hb)
 (try clear hb2)
 (try clear hk)
 (try clear hi)
 (try clear ho0)
 refine hK.out _ _ ⟨(blk_cell BK308.out 0).trans rfl,(blk_cell BK308.out 1).trans rfl,(blk_cell BK308.out 2).trans rfl,(blk_cell BK308.out 3).trans rfl⟩ (fun hHeld=>?_)
 clear hK K
 refine norm_ (a':=?_) ?_ ?_
 rotate_left
 ·show Act.put _ (some 20) _=_
  simp only [Act.put,List.setIfInBounds_toArray,List.set_cons_zero,List.set_cons_succ,i64_w,i32_w]
  rfl
 refine pure_ (i:=5) (N:=some 7) (v:=?_) (a':=?_) #[true,true,true,true,true,true] rfl rfl (by kernel_rfl) (fun _ _ _ h=>h) (Or.inl ⟨by rfl,?_⟩) ?_ ?_
 rotate_left;(intro w';go_simp;with_reducible rfl);rotate_left;(simp only [Act.put,List.setIfInBounds_toArray,List.set_cons_zero,List.set_cons_succ,i64_w,i32_w];rfl)
 refine done_ (by kernel_rfl) ?_
 have hcz25_0 : w24.cell? ⟨gb308,0,none⟩=some (.slice Ao17 t302.length co17):=(blk_cell BK308.out 0).trans rfl
 have hcz25_1 : w24.cell? ⟨gb308,1,none⟩=some (.int .i64 t305):=(blk_cell BK308.out 1).trans rfl
 have hcz25_2 : w24.cell? ⟨gb308,2,none⟩=some (.int .i64 t306):=(blk_cell BK308.out 2).trans rfl
 have hcz25_3 : w24.cell? ⟨gb308,3,none⟩=some (.int .i64 t307):=(blk_cell BK308.out 3).trans rfl
 have hfz25_0:=blk_frozen BK308.out 0
 have hfz25_1:=blk_frozen BK308.out 1
 have hfz25_2:=blk_frozen BK308.out 2
 have hfz25_3:=blk_frozen BK308.out 3
 obtain ⟨Ao26,co26,eo26⟩:=Kd.N_slice HO314.out
 subst eo26
 try go_wp2_with (first|((with_reducible refine gate_callee (f:=11) rfl ?_);refine goesL_ (some 23) rfl rfl Try.func11 (by kernel_rfl) rfl #[.agg #[.slice Ao17 t302.length co17,.int .i64 t305,.int .i64 t306,.int .i64 t307],.slice Ao26 t312.length co26,.int .i64 60] rfl (by (try simp only [List.map_toArray,List.map_cons,List.map_nil]);first|done|rfl|(simp only [List.length_drop,List.length_take];rfl)) ?_;(with_reducible refine (thresherref04_Fits.calls k _ _ t302 t305 t306 t307 _ _ t312 60 t315 _ ?side1 ?side2 ?side3 ?side4 A7.out).mono ?_);(case side1=>repeat (first|exact (Kd.R_reads' HO304.out).2.2|(with_reducible refine Kd.C_alloc ?_ _)|(with_reducible refine Kd.C_drewN ?_ _)|(with_reducible refine Kd.C_drew ?_)));(case side2=>exact (Kd.R_reads' HO304.out).2.1);(case side3=>repeat (first|exact (Kd.N_reads' HO314.out).2.2|(with_reducible refine Kd.C_alloc ?_ _)|(with_reducible refine Kd.C_drewN ?_ _)|(with_reducible refine Kd.C_drew ?_)));(case side4=>exact (Kd.N_reads' HO314.out).2.1);rintro e w27 ⟨v316,rfl,ho0,hb⟩;refine ⟨_,rfl,?_⟩;have n0_:=Aside0.mk (Kd.R_below (by (with_reducible repeat (first|apply Kd.R_alloc|apply Kd.R_drewN|apply Kd.R_drew));exact HO304.out) hb);have n1_:=Aside0.mk (Kd.N_elder' (by (with_reducible repeat (first|apply Kd.N_alloc|apply Kd.N_drewN|apply Kd.N_drew));exact HO311.out) (by first|exact Kd.N_base ho0|exact Kd.S_base ho0) hb);have n2_:=Aside0.mk (Kd.N_elder' (by (with_reducible repeat (first|apply Kd.N_alloc|apply Kd.N_drewN|apply Kd.N_drew));exact HO314.out) (by first|exact Kd.N_base ho0|exact Kd.S_base ho0) hb);have n3_:=Aside0.mk (Kd.N_lower (Kd.N_mono (ok':=fun k_=>some k_≠(.slice Ao17 t302.length co17 : Value).ownBlock∧some k_≠(.slice Ao23 t309.length co23 : Value).ownBlock∧some k_≠(.slice Ao26 t312.length co26 : Value).ownBlock∧k_≠gb300∧k_≠gb308) (Kd.S_N (Kd.S_bound ho0)) (fun k_ hk_=>⟨(Kd.fresh' (Kd.R_lt (by (with_reducible repeat (first|apply Kd.R_alloc|apply Kd.R_drewN|apply Kd.R_drew));exact HO304.out)) k_ hk_.2.1),(Kd.fresh' (Kd.N_lt (by (with_reducible repeat (first|apply Kd.N_alloc|apply Kd.N_drewN|apply Kd.N_drew));exact HO311.out)) k_ hk_.2.1),(Kd.fresh' (Kd.N_lt (by (with_reducible repeat (first|apply Kd.N_alloc|apply Kd.N_drewN|apply Kd.N_drew));exact HO314.out)) k_ hk_.2.1),(Kd.freshB (g:=gb300) (o:=.cells #[.int .u8 a0_0,.int .u8 a0_1,.int .u8 a0_2,.int .u8 a0_3,.int .u8 a0_4,.int .u8 a0_5,.int .u8 a0_6,.int .u8 a0_7,.int .u8 a0_8,.int .u8 a0_9,.int .u8 a0_10,.int .u8 a0_11] 24 (0,0)) (by (with_reducible repeat (first|refine blk_drewN ?_ _|refine blk_drew ?_|refine blk_alloc ?_ _));exact BK300.out) k_ hk_.2.1),(Kd.freshB (g:=gb308) (o:=.cells #[.slice Ao17 t302.length co17,.int .i64 t305,.int .i64 t306,.int .i64 t307] 29 (0,0)) (by (with_reducible repeat (first|refine blk_drewN ?_ _|refine blk_drew ?_|refine blk_alloc ?_ _));exact BK308.out) k_ hk_.2.1)⟩)) (below_size (by repeat (first|(with_reducible first|exact HB.out|apply below_alloc|apply pw_below_drewN|apply below_drew1|refine below_set ?_ GE300.out|refine below_set ?_ GE308.out)|exact HB.out))));have n4_:=Aside0.mk (blk_below (g:=gb300) (o:=.cells #[.int .u8 a0_0,.int .u8 a0_1,.int .u8 a0_2,.int .u8 a0_3,.int .u8 a0_4,.int .u8 a0_5,.int .u8 a0_6,.int .u8 a0_7,.int .u8 a0_8,.int .u8 a0_9,.int .u8 a0_10,.int .u8 a0_11] 24 (0,0)) (by (with_reducible repeat (first|refine blk_drewN ?_ _|refine blk_drew ?_|refine blk_alloc ?_ _));exact BK300.out) hb);have n5_:=Aside0.mk (blk_below (g:=gb308) (o:=.cells #[.slice Ao17 t302.length co17,.int .i64 t305,.int .i64 t306,.int .i64 t307] 29 (0,0)) (by (with_reducible repeat (first|refine blk_drewN ?_ _|refine blk_drew ?_|refine blk_alloc ?_ _));exact BK308.out) hb);have n6_:=Aside0.mk (below_step (by repeat (first|(with_reducible first|exact HB.out|apply below_alloc|apply pw_below_drewN|apply below_drew1|refine below_set ?_ GE300.out|refine below_set ?_ GE308.out)|exact HB.out)) hb);clear HO304;clear HO311;clear HO314;clear BK300;clear BK308;clear HB;have HO304:=n0_;have HO311:=n1_;have HO314:=n2_;have HO317:=n3_;have BK300:=n4_;have BK308:=n5_;have HB:=n6_;clear n0_ n1_ n2_ n3_ n4_ n5_ n6_;(try clear hb);(try clear hb2);(try clear hk);(try clear hi);(try clear ho0)))
 have n0_:=Aside0.mk (Kd.R_drew HO304.out)
 have n1_:=Aside0.mk (Kd.N_drew HO311.out)
 have n2_:=Aside0.mk (Kd.N_drew HO314.out)
 have n3_:=Aside0.mk (Kd.N_drew HO317.out)
 have n4_:=Aside0.mk (blk_drew BK300.out)
 have n5_:=Aside0.mk (blk_drew BK308.out)
 have n6_:=Aside0.mk (below_drew1 HB.out)
 clear HO304
 clear HO311
 clear HO314
 clear HO317
 clear BK300
 clear BK308
 clear HB
 have HO304:=n0_
 have HO311:=n1_
 have HO314:=n2_
 have HO317:=n3_
 have BK300:=n4_
 have BK308:=n5_
 have HB:=n6_
 clear n0_ n1_ n2_ n3_ n4_ n5_ n6_
 refine start_ (n:=8) (S:=fun w'=>w'.cell? ⟨gb308,0,none⟩=some (.slice Ao17 t302.length co17)∧w'.cell? ⟨gb308,1,none⟩=some (.int .i64 t305)∧w'.cell? ⟨gb308,2,none⟩=some (.int .i64 t306)∧w'.cell? ⟨gb308,3,none⟩=some (.int .i64 t307)) (ds:=[]) #[false,false,false,false,false,false,false,false] (by kernel_rfl) rfl rfl ⟨(blk_cell BK308.out 0).trans rfl,(blk_cell BK308.out 1).trans rfl,(blk_cell BK308.out 2).trans rfl,(blk_cell BK308.out 3).trans rfl⟩ (fun hHeld=>?_);refine with_tabW thresherlaw13_FoldAll.tab5 thresherlaw13_FoldAll.bits5 (fun HT_ HW_=>?_)
 generalize w27.drew=w28 at HO304 HO311 HO314 HO317 BK300 BK308 HB hHeld ⊢
 refine pure_ (i:=1) (N:=some 25) (v:=?_) (a':=?_) #[false,true,false,false,false,false,false,false] rfl rfl (any_of HT_.out (by kernel_rfl)) (fun _ _ _ h=>h) (Or.inl ⟨by rfl,?_⟩) ?_ ?_
 rotate_left;(intro w';go_simp;with_reducible rfl);rotate_left;(simp only [Act.put,List.setIfInBounds_toArray,List.set_cons_zero,List.set_cons_succ,i64_w,i32_w];rfl)
 refine pure_ (i:=4) (N:=some 28) (v:=?_) (a':=?_) #[false,true,false,false,true,false,false,false] rfl rfl (any_of HT_.out (by kernel_rfl)) (fun _ _ _ h=>h) (Or.inl ⟨by rfl,?_⟩) ?_ ?_
 rotate_left;(intro w';go_simp;with_reducible rfl);rotate_left;(simp only [Act.put,List.setIfInBounds_toArray,List.set_cons_zero,List.set_cons_succ,i64_w,i32_w];rfl)
 refine take_ (i:=0) (N:=some 24) (v:=?_) (a':=?_) #[true,true,false,false,true,false,false,false] rfl rfl (take_ofW HT_.out HW_.out (by kernel_rfl)) (fun _ _ _ h=>h) (Or.inl ⟨by rfl,?_⟩) hHeld ?_ ?_
 rotate_left;(rintro w' ⟨s0,s1,s2,s3⟩;go_simp;with_reducible rfl);rotate_left;(simp only [Act.put,List.setIfInBounds_toArray,List.set_cons_zero,List.set_cons_succ,i64_w,i32_w];rfl)
 refine take_ (i:=3) (N:=some 27) (v:=?_) (a':=?_) #[true,true,false,true,true,false,false,false] rfl rfl (take_ofW HT_.out HW_.out (by kernel_rfl)) (fun _ _ _ h=>h) (Or.inl ⟨by rfl,?_⟩) hHeld ?_ ?_
 rotate_left;(rintro w' ⟨s0,s1,s2,s3⟩;go_simp;with_reducible rfl);rotate_left;(simp only [Act.put,List.setIfInBounds_toArray,List.set_cons_zero,List.set_cons_succ,i64_w,i32_w];rfl)
 refine one_ (i:=2) (N:=some 26) #[true,true,true,true,true,false,false,false] rfl rfl (one_of HT_.out (by kernel_rfl)) (by decide) (fun K hK=>?_)
 refine goes_ Try.func13 (by kernel_rfl) rfl #[.agg #[.slice Ao17 t302.length co17,.int .i64 t305,.int .i64 t306,.int .i64 t307],.slice Ao26 t312.length co26] (by rfl) rfl rfl (by (try simp only [List.map_toArray,List.map_cons,List.map_nil]);first|done|rfl|(simp only [List.length_drop,List.length_take];rfl)) ?_
 with_reducible refine (fold_Rows.calls k _ _ t302 t305 t306 t307 (fun k_=>((some k_≠(.slice Ao17 t302.length co17 : Value).ownBlock∧(k_≠gb300∧k_≠gb308))∧some k_≠(v316 : Value).ownBlock)) _ _ t312 t318 _ ?side1 ?side2 ?side3 A8.out).mono ?_
 (case side1=>repeat (first|exact (Kd.R_reads' HO304.out).2.2|(with_reducible refine Kd.C_alloc ?_ _)|(with_reducible refine Kd.C_drewN ?_ _)|(with_reducible refine Kd.C_drew ?_)))
 (case side2=>exact (Kd.R_reads' HO304.out).2.1)
 (case side3=>exact Kd.N_V (HO314.out))
 rintro e w29 ⟨v319,rfl,ho0,hb⟩
 refine ⟨_,rfl,?_⟩
 have n0_:=Aside0.mk (Kd.R_below (by (with_reducible repeat (first|apply Kd.R_alloc|apply Kd.R_drewN|apply Kd.R_drew));exact HO304.out) hb)
 have n1_:=Aside0.mk (Kd.N_elder' (by (with_reducible repeat (first|apply Kd.N_alloc|apply Kd.N_drewN|apply Kd.N_drew));exact HO311.out) (by first|exact Kd.N_base ho0|exact Kd.S_base ho0) hb)
 have n2_:=Aside0.mk (Kd.N_elder' (by (with_reducible repeat (first|apply Kd.N_alloc|apply Kd.N_drewN|apply Kd.N_drew));exact HO314.out) (by first|exact Kd.N_base ho0|exact Kd.S_base ho0) hb)
 have n3_:=Aside0.mk (Kd.N_elder' (by (with_reducible repeat (first|apply Kd.N_alloc|apply Kd.N_drewN|apply Kd.N_drew));exact HO317.out) (by first|exact Kd.N_base ho0|exact Kd.S_base ho0) hb)
 have n4_:=Aside0.mk (Kd.N_lower (Kd.N_mono (ok':=fun k_=>some k_≠(.slice Ao17 t302.length co17 : Value).ownBlock∧some k_≠(v316 : Value).ownBlock∧k_≠gb300∧k_≠gb308) ho0 (fun k_ hk_=>⟨Or.elim hk_ (fun hs_=>hs_.1.1) (fun hn_=>(Kd.fresh' (Kd.R_lt (by (with_reducible repeat (first|apply Kd.R_alloc|apply Kd.R_drewN|apply Kd.R_drew));exact HO304.out)) k_ hn_)),Or.elim hk_ (fun hs_=>hs_.2) (fun hn_=>(Kd.fresh' (Kd.N_lt (by (with_reducible repeat (first|apply Kd.N_alloc|apply Kd.N_drewN|apply Kd.N_drew));exact HO317.out)) k_ hn_)),Or.elim hk_ (fun hs_=>hs_.1.2.1) (fun hn_=>(Kd.freshB (g:=gb300) (o:=.cells #[.int .u8 a0_0,.int .u8 a0_1,.int .u8 a0_2,.int .u8 a0_3,.int .u8 a0_4,.int .u8 a0_5,.int .u8 a0_6,.int .u8 a0_7,.int .u8 a0_8,.int .u8 a0_9,.int .u8 a0_10,.int .u8 a0_11] 24 (0,0)) (by (with_reducible repeat (first|refine blk_drewN ?_ _|refine blk_drew ?_|refine blk_alloc ?_ _));exact BK300.out) k_ hn_)),Or.elim hk_ (fun hs_=>hs_.1.2.2) (fun hn_=>(Kd.freshB (g:=gb308) (o:=.cells #[.slice Ao17 t302.length co17,.int .i64 t305,.int .i64 t306,.int .i64 t307] 29 (0,0)) (by (with_reducible repeat (first|refine blk_drewN ?_ _|refine blk_drew ?_|refine blk_alloc ?_ _));exact BK308.out) k_ hn_))⟩)) (below_size (by repeat (first|(with_reducible first|exact HB.out|apply below_alloc|apply pw_below_drewN|apply below_drew1|refine below_set ?_ GE300.out|refine below_set ?_ GE308.out)|exact HB.out))))
 have n5_:=Aside0.mk (blk_below (g:=gb300) (o:=.cells #[.int .u8 a0_0,.int .u8 a0_1,.int .u8 a0_2,.int .u8 a0_3,.int .u8 a0_4,.int .u8 a0_5,.int .u8 a0_6,.int .u8 a0_7,.int .u8 a0_8,.int .u8 a0_9,.int .u8 a0_10,.int .u8 a0_11] 24 (0,0)) (by (with_reducible repeat (first|refine blk_drewN ?_ _|refine blk_drew ?_|refine blk_alloc ?_ _));exact BK300.out) hb)
 have n6_:=Aside0.mk (blk_below (g:=gb308) (o:=.cells #[.slice Ao17 t302.length co17,.int .i64 t305,.int .i64 t306,.int .i64 t307] 29 (0,0)) (by (with_reducible repeat (first|refine blk_drewN ?_ _|refine blk_drew ?_|refine blk_alloc ?_ _));exact BK308.out) hb)
 have n7_:=Aside0.mk (below_step (by repeat (first|(with_reducible first|exact HB.out|apply below_alloc|apply pw_below_drewN|apply below_drew1|refine below_set ?_ GE300.out|refine below_set ?_ GE308.out)|exact HB.out)) hb)
 clear HO304
 clear HO311
 clear HO314
 clear HO317
 clear BK300
 clear BK308
 clear HB
 have HO304:=n0_
 have HO311:=n1_
 have HO314:=n2_
 have HO317:=n3_
 have HO320:=n4_
 have BK300:=n5_
 have BK308:=n6_
 have HB:=n7_
 clear n0_ n1_ n2_ n3_ n4_ n5_ n6_ n7_
 (try clear hb)
 (try clear hb2)
 (try clear hk)
 (try clear hi)
 (try clear ho0)
 refine hK.out _ _ ⟨(blk_cell BK308.out 0).trans rfl,(blk_cell BK308.out 1).trans rfl,(blk_cell BK308.out 2).trans rfl,(blk_cell BK308.out 3).trans rfl⟩ (fun hHeld=>?_)
 clear hK K
 refine norm_ (a':=?_) ?_ ?_
 rotate_left
 ·show Act.put _ (some 26) _=_
  simp only [Act.put,List.setIfInBounds_toArray,List.set_cons_zero,List.set_cons_succ,i64_w,i32_w]
  rfl
 refine one_ (i:=5) (N:=some 29) #[true,true,true,true,true,true,false,false] rfl rfl (one_of HT_.out (by kernel_rfl)) (by decide) (fun K hK=>?_)
 refine goes_ Try.func14 (by kernel_rfl) rfl #[.agg #[.slice Ao17 t302.length co17,.int .i64 t305,.int .i64 t306,.int .i64 t307],.slice Ao26 t312.length co26] (by rfl) rfl rfl (by (try simp only [List.map_toArray,List.map_cons,List.map_nil]);first|done|rfl|(simp only [List.length_drop,List.length_take];rfl)) ?_
 with_reducible refine (thresherref13_Rows.calls k _ _ t302 t305 t306 t307 (fun k_=>(((some k_≠(.slice Ao17 t302.length co17 : Value).ownBlock∧(k_≠gb300∧k_≠gb308))∧some k_≠(v316 : Value).ownBlock)∧some k_≠(v319 : Value).ownBlock)) _ _ t312 t321 _ ?side1 ?side2 ?side3 A9.out).mono ?_
 (case side1=>repeat (first|exact (Kd.R_reads' HO304.out).2.2|(with_reducible refine Kd.C_alloc ?_ _)|(with_reducible refine Kd.C_drewN ?_ _)|(with_reducible refine Kd.C_drew ?_)))
 (case side2=>exact (Kd.R_reads' HO304.out).2.1)
 (case side3=>exact Kd.N_V (HO314.out))
 rintro e w30 ⟨v322,rfl,ho0,hb⟩
 refine ⟨_,rfl,?_⟩
 have n0_:=Aside0.mk (Kd.R_below (by (with_reducible repeat (first|apply Kd.R_alloc|apply Kd.R_drewN|apply Kd.R_drew));exact HO304.out) hb)
 have n1_:=Aside0.mk (Kd.N_elder' (by (with_reducible repeat (first|apply Kd.N_alloc|apply Kd.N_drewN|apply Kd.N_drew));exact HO311.out) (by first|exact Kd.N_base ho0|exact Kd.S_base ho0) hb)
 have n2_:=Aside0.mk (Kd.N_elder' (by (with_reducible repeat (first|apply Kd.N_alloc|apply Kd.N_drewN|apply Kd.N_drew));exact HO314.out) (by first|exact Kd.N_base ho0|exact Kd.S_base ho0) hb)
 have n3_:=Aside0.mk (Kd.N_elder' (by (with_reducible repeat (first|apply Kd.N_alloc|apply Kd.N_drewN|apply Kd.N_drew));exact HO317.out) (by first|exact Kd.N_base ho0|exact Kd.S_base ho0) hb)
 have n4_:=Aside0.mk (Kd.N_elder' (by (with_reducible repeat (first|apply Kd.N_alloc|apply Kd.N_drewN|apply Kd.N_drew));exact HO320.out) (by first|exact Kd.N_base ho0|exact Kd.S_base ho0) hb)
 have n5_:=Aside0.mk (Kd.N_lower (Kd.N_mono (ok':=fun k_=>some k_≠(.slice Ao17 t302.length co17 : Value).ownBlock∧some k_≠(v316 : Value).ownBlock∧some k_≠(v319 : Value).ownBlock∧k_≠gb300∧k_≠gb308) ho0 (fun k_ hk_=>⟨Or.elim hk_ (fun hs_=>hs_.1.1.1) (fun hn_=>(Kd.fresh' (Kd.R_lt (by (with_reducible repeat (first|apply Kd.R_alloc|apply Kd.R_drewN|apply Kd.R_drew));exact HO304.out)) k_ hn_)),Or.elim hk_ (fun hs_=>hs_.1.2) (fun hn_=>(Kd.fresh' (Kd.N_lt (by (with_reducible repeat (first|apply Kd.N_alloc|apply Kd.N_drewN|apply Kd.N_drew));exact HO317.out)) k_ hn_)),Or.elim hk_ (fun hs_=>hs_.2) (fun hn_=>(Kd.fresh' (Kd.N_lt (by (with_reducible repeat (first|apply Kd.N_alloc|apply Kd.N_drewN|apply Kd.N_drew));exact HO320.out)) k_ hn_)),Or.elim hk_ (fun hs_=>hs_.1.1.2.1) (fun hn_=>(Kd.freshB (g:=gb300) (o:=.cells #[.int .u8 a0_0,.int .u8 a0_1,.int .u8 a0_2,.int .u8 a0_3,.int .u8 a0_4,.int .u8 a0_5,.int .u8 a0_6,.int .u8 a0_7,.int .u8 a0_8,.int .u8 a0_9,.int .u8 a0_10,.int .u8 a0_11] 24 (0,0)) (by (with_reducible repeat (first|refine blk_drewN ?_ _|refine blk_drew ?_|refine blk_alloc ?_ _));exact BK300.out) k_ hn_)),Or.elim hk_ (fun hs_=>hs_.1.1.2.2) (fun hn_=>(Kd.freshB (g:=gb308) (o:=.cells #[.slice Ao17 t302.length co17,.int .i64 t305,.int .i64 t306,.int .i64 t307] 29 (0,0)) (by (with_reducible repeat (first|refine blk_drewN ?_ _|refine blk_drew ?_|refine blk_alloc ?_ _));exact BK308.out) k_ hn_))⟩)) (below_size (by repeat (first|(with_reducible first|exact HB.out|apply below_alloc|apply pw_below_drewN|apply below_drew1|refine below_set ?_ GE300.out|refine below_set ?_ GE308.out)|exact HB.out))))
 have n6_:=Aside0.mk (blk_below (g:=gb300) (o:=.cells #[.int .u8 a0_0,.int .u8 a0_1,.int .u8 a0_2,.int .u8 a0_3,.int .u8 a0_4,.int .u8 a0_5,.int .u8 a0_6,.int .u8 a0_7,.int .u8 a0_8,.int .u8 a0_9,.int .u8 a0_10,.int .u8 a0_11] 24 (0,0)) (by (with_reducible repeat (first|refine blk_drewN ?_ _|refine blk_drew ?_|refine blk_alloc ?_ _));exact BK300.out) hb)
 have n7_:=Aside0.mk (blk_below (g:=gb308) (o:=.cells #[.slice Ao17 t302.length co17,.int .i64 t305,.int .i64 t306,.int .i64 t307] 29 (0,0)) (by (with_reducible repeat (first|refine blk_drewN ?_ _|refine blk_drew ?_|refine blk_alloc ?_ _));exact BK308.out) hb)
 have n8_:=Aside0.mk (below_step (by repeat (first|(with_reducible first|exact HB.out|apply below_alloc|apply pw_below_drewN|apply below_drew1|refine below_set ?_ GE300.out|refine below_set ?_ GE308.out)|exact HB.out)) hb)
 clear HO304
 clear HO311
 clear HO314
 clear HO317
 clear HO320
 clear BK300
 clear BK308
 clear HB
 have HO304:=n0_
 have HO311:=n1_
 have HO314:=n2_
 have HO317:=n3_
 have HO320:=n4_
 have HO323:=n5_
 have BK300:=n6_
 have BK308:=n7_
 have HB:=n8_
 clear n0_ n1_ n2_ n3_ n4_ n5_ n6_ n7_ n8_
 (try clear hb)
 (try clear hb2)
 (try clear hk)
 (try clear hi)
 (try clear ho0)
 obtain ⟨Ao31,co31,eo31⟩:=Kd.N_slice HO320.out
 (first|subst eo31|(injection eo31 with f1_ f2_ f3_;have f4_:=f1_.symm;have f5_:=f3_.symm;clear f1_ f2_ f3_;subst f4_;subst f5_))
 obtain ⟨Ao32,co32,eo32⟩:=Kd.N_slice HO323.out
 (first|subst eo32|(injection eo32 with f1_ f2_ f3_;have f4_:=f1_.symm;have f5_:=f3_.symm;clear f1_ f2_ f3_;subst f4_;subst f5_))
 refine hK.out _ _ ⟨(blk_cell BK308.out 0).trans rfl,(blk_cell BK308.out 1).trans rfl,(blk_cell BK308.out 2).trans rfl,(blk_cell BK308.out 3).trans rfl⟩ (fun hHeld=>?_)
 clear hK K
 refine norm_ (a':=?_) ?_ ?_
 rotate_left
 ·show Act.put _ (some 29) _=_
  simp only [Act.put,List.setIfInBounds_toArray,List.set_cons_zero,List.set_cons_succ,i64_w,i32_w]
  rfl
 refine one_ (i:=6) (N:=some 30) #[true,true,true,true,true,true,true,false] rfl rfl (one_of HT_.out (by kernel_rfl)) (by decide) (fun K hK=>?_)
 refine goes_ Try.func12 (by kernel_rfl) rfl #[.slice Ao31 t318.length co31,.slice Ao32 t321.length co32] (by rfl) rfl rfl (by (try simp only [List.map_toArray,List.map_cons,List.map_nil]);first|done|rfl|(simp only [List.length_drop,List.length_take];rfl)) ?_
 with_reducible refine (thresherref04_Rows.calls k _ _ t318 _ _ t321 t324 _ ?side1 ?side2 ?side3 ?side4 A10.out).mono ?_
 (case side1=>repeat (first|exact (Kd.N_reads' HO320.out).2.2|(with_reducible refine Kd.C_alloc ?_ _)|(with_reducible refine Kd.C_drewN ?_ _)|(with_reducible refine Kd.C_drew ?_)))
 (case side2=>exact (Kd.N_reads' HO320.out).2.1)
 (case side3=>repeat (first|exact (Kd.N_reads' HO323.out).2.2|(with_reducible refine Kd.C_alloc ?_ _)|(with_reducible refine Kd.C_drewN ?_ _)|(with_reducible refine Kd.C_drew ?_)))
 (case side4=>exact (Kd.N_reads' HO323.out).2.1)
 rintro e w' ⟨rfl,⟨nd,rfl⟩⟩
 refine ⟨_,rfl,?_⟩
 refine hK.out _ _ ⟨(blk_cell BK308.out 0).trans rfl,(blk_cell BK308.out 1).trans rfl,(blk_cell BK308.out 2).trans rfl,(blk_cell BK308.out 3).trans rfl⟩ (fun hHeld=>?_)
 clear hK K
 refine norm_ (a':=?_) ?_ ?_
 rotate_left
 ·show Act.put _ (some 30) _=_
  simp only [Act.put,List.setIfInBounds_toArray,List.set_cons_zero,List.set_cons_succ,i64_w,i32_w]
  rfl
 refine pure_ (i:=7) (N:=some 9) (v:=?_) (a':=?_) #[true,true,true,true,true,true,true,true] rfl rfl (any_of HT_.out (by kernel_rfl)) (fun _ _ _ h=>h) (Or.inl ⟨by rfl,?_⟩) ?_ ?_
 rotate_left;(intro w';go_simp;with_reducible rfl);rotate_left;(simp only [Act.put,List.setIfInBounds_toArray,List.set_cons_zero,List.set_cons_succ,i64_w,i32_w];rfl)
 refine done_ (done_of HT_.out (by kernel_rfl)) ?_
 (try clear hHeld)
 obtain ⟨Ao33,co33,eo33⟩:=Kd.N_slice HO317.out
 subst eo33
 try go_wp2_with (first|((with_reducible refine gate_callee (f:=12) rfl ?_);refine goesL_ (some 33) rfl rfl Try.func12 (by kernel_rfl) rfl #[.slice Ao26 t312.length co26,.slice Ao33 t315.length co33] rfl (by (try simp only [List.map_toArray,List.map_cons,List.map_nil]);first|done|rfl|(simp only [List.length_drop,List.length_take];rfl)) ?_;(with_reducible refine (thresherref04_Rows.calls k _ _ t312 _ _ t315 t325 _ ?side1 ?side2 ?side3 ?side4 A11.out).mono ?_);(case side1=>repeat (first|exact (Kd.N_reads' HO314.out).2.2|(with_reducible refine Kd.C_alloc ?_ _)|(with_reducible refine Kd.C_drewN ?_ _)|(with_reducible refine Kd.C_drew ?_)));(case side2=>exact (Kd.N_reads' HO314.out).2.1);(case side3=>repeat (first|exact (Kd.N_reads' HO317.out).2.2|(with_reducible refine Kd.C_alloc ?_ _)|(with_reducible refine Kd.C_drewN ?_ _)|(with_reducible refine Kd.C_drew ?_)));(case side4=>exact (Kd.N_reads' HO317.out).2.1);rintro e w' ⟨rfl,⟨nd,rfl⟩⟩;refine ⟨_,rfl,?_⟩))
 go_loopg [11] k (fun kq v11 w'=>∃ (x11_1 : Int),v11=.int .i64 x11_1∧Aside0 (thresherlaw13_FoldAll.l0 kq t301 t312 t324 t325 x11_1 t302 t305 t306 t307=some r)∧Aside0 (kq≤k)∧Aside0 (Kd.N (Kd.slice 45 k45) 36 w' w.heap.size (fun k_=>some k_≠((.slice Ao17 t302.length co17) : Value).ownBlock∧k_≠gb300∧k_≠gb308) (.slice Ao26 t312.length co26) t312)∧Aside0 (Kd.R (Kd.int .i64) 3 w' w.heap.size (fun _=>True) (.slice Ao17 t302.length co17) t302)∧Aside0 (w'.heap[gb300]?=some (.cells #[.int .u8 a0_0,.int .u8 a0_1,.int .u8 a0_2,.int .u8 a0_3,.int .u8 a0_4,.int .u8 a0_5,.int .u8 a0_6,.int .u8 a0_7,.int .u8 a0_8,.int .u8 a0_9,.int .u8 a0_10,.int .u8 a0_11] 24 (0,0)))∧Aside0 (w'.heap[gb308]?=some (.cells #[(.slice Ao17 t302.length co17),.int .i64 t305,.int .i64 t306,.int .i64 t307] 29 (0,0)))∧Aside0 (Below w.heap.size w w'))
 case atStart=>exact ⟨(1),(by first|rfl|(simp;done)|(simp [*];done)),H',⟨Nat.le_refl _⟩,⟨by (with_reducible repeat (first|apply Kd.N_alloc|apply Kd.N_drewN|apply Kd.N_drew));exact Kd.N_mono HO314.out (fun _ hk=>⟨hk.1.1.1.1,⟨hk.1.1.1.2.1,hk.1.1.1.2.2⟩⟩)⟩,⟨by (with_reducible repeat (first|apply Kd.R_alloc|apply Kd.R_drewN|apply Kd.R_drew));exact HO304.out⟩,⟨by (with_reducible repeat (first|refine blk_drewN ?_ _|refine blk_drew ?_|refine blk_alloc ?_ _));exact BK300.out⟩,⟨by (with_reducible repeat (first|refine blk_drewN ?_ _|refine blk_drew ?_|refine blk_alloc ?_ _));exact BK308.out⟩,⟨by repeat (first|(with_reducible first|exact HB.out|apply below_alloc|apply pw_below_drewN|apply below_drew1|refine below_set ?_ GE300.out|refine below_set ?_ GE308.out)|exact HB.out)⟩⟩
 case round =>
  clear H'
  try clear c1
  try clear p2
  try clear c3
  try clear c8
  try clear c9
  try clear c10
  try clear c11
  try clear c12
  try clear c13
  try clear c14
  try clear c18
  try clear hcz14_0
  try clear hcz14_1
  try clear hcz14_10
  try clear hcz14_11
  try clear hcz14_2
  try clear hcz14_3
  try clear hcz14_4
  try clear hcz14_5
  try clear hcz14_6
  try clear hcz14_7
  try clear hcz14_8
  try clear hcz14_9
  try clear hcz19_0
  try clear hcz19_1
  try clear hcz19_2
  try clear hcz19_3
  try clear hcz25_0
  try clear hcz25_1
  try clear hcz25_2
  try clear hcz25_3
  try clear hfz14_0
  try clear hfz14_1
  try clear hfz14_10
  try clear hfz14_11
  try clear hfz14_2
  try clear hfz14_3
  try clear hfz14_4
  try clear hfz14_5
  try clear hfz14_6
  try clear hfz14_7
  try clear hfz14_8
  try clear hfz14_9
  try clear hfz19_0
  try clear hfz19_1
  try clear hfz19_2
  try clear hfz19_3
  try clear hfz25_0
  try clear hfz25_1
  try clear hfz25_2
  try clear hfz25_3
  obtain ⟨x11_1,rfl,HA,HK1,HO_7,HO_309000,BK300,BK308,HB⟩:=hrel
  cases gk with
  | zero=>exact absurd HA.out (by simp [thresherlaw13_FoldAll.l0])
  | succ k1 =>
   have H:=HA.out
   clear HA
   simp only [thresherlaw13_FoldAll.l0] at H
   by_cases c34 : x11_1 < (t312.length : Int)
   ·rw [if_pos c34] at H
    have c34b0 : decide (x11_1 < (t312.length : Int))=true:=decide_eq_true c34
    clear c34
    obtain ⟨ji35,hji35⟩ : ∃ j_ : Int,(wrap64 (x11_1 - 1))=j_:=⟨_,rfl⟩
    replace H : (if 0≤(ji35) then (if (ji35) < (t312.length : Int) then (if 0≤x11_1 then ((thresherref04_Compare.f k1 t302 t305 t306 t307 (rd_L5 t312 (ji35)) (rd_L5 t312 x11_1)).bind fun t328=>(if t328=0 then ((fold_One.f k1 t302 t305 t306 t307 (rd_L5 t312 (ji35)) (rd_L5 t312 x11_1)).bind fun t331=>((thresherref13_One.f k1 t302 t305 t306 t307 (rd_L5 t312 (ji35)) (rd_L5 t312 x11_1)).bind fun t336=>((thresherref04_One.f k1 t331 t336).bind fun t339=>(if t339=true then (thresherlaw13_FoldAll.l0 k1 t301 t312 t324 t325 (wrap64 (x11_1 + 1)) t302 t305 t306 t307) else (some false))))) else (thresherlaw13_FoldAll.l0 k1 t301 t312 t324 t325 (wrap64 (x11_1 + 1)) t302 t305 t306 t307))) else (none)) else (none)) else (none))=some r:=by first|(rw [hji35] at H;exact H)|(simp only [hji35] at H ⊢;exact H)
    have hji35w : (IntKind.i64.wrap (x11_1 - 1))=ji35:=(i64_w _).trans hji35
    by_cases c36 : 0≤(ji35)
    ·rw [if_pos c36] at H
     have c36b0 : decide (0≤(ji35))=true:=decide_eq_true c36
     clear c36
     by_cases c37 : (ji35) < (t312.length : Int)
     ·rw [if_pos c37] at H
      have c37b0 : decide ((ji35) < (t312.length : Int))=true:=decide_eq_true c37
      clear c37
      by_cases c38 : 0≤x11_1
      ·rw [if_pos c38] at H
       have c38b0 : decide (0≤x11_1)=true:=decide_eq_true c38
       clear c38
       replace H:=Option.bind_eq_some_iff.mp H
       obtain ⟨t328,A390,H⟩:=H
       replace H : (if t328=0 then ((fold_One.f k1 t302 t305 t306 t307 (rd_L5 t312 (ji35)) (rd_L5 t312 x11_1)).bind fun t331=>((thresherref13_One.f k1 t302 t305 t306 t307 (rd_L5 t312 (ji35)) (rd_L5 t312 x11_1)).bind fun t336=>((thresherref04_One.f k1 t331 t336).bind fun t339=>(if t339=true then (thresherlaw13_FoldAll.l0 k1 t301 t312 t324 t325 (wrap64 (x11_1 + 1)) t302 t305 t306 t307) else (some false))))) else (thresherlaw13_FoldAll.l0 k1 t301 t312 t324 t325 (wrap64 (x11_1 + 1)) t302 t305 t306 t307))=some r:=H
       have A39:=Aside0.mk A390
       clear A390
       by_cases c40 : t328=0
       ·rw [if_pos c40] at H
        have c40b0 : (t328 == 0)=true:=beq_iff_eq.mpr c40
        have c40b1 : (t328 != 0)=false:=bne_eq_false_iff_eq.mpr c40
        clear c40
        replace H:=Option.bind_eq_some_iff.mp H
        obtain ⟨t331,A410,H⟩:=H
        replace H : ((thresherref13_One.f k1 t302 t305 t306 t307 (rd_L5 t312 (ji35)) (rd_L5 t312 x11_1)).bind fun t336=>((thresherref04_One.f k1 t331 t336).bind fun t339=>(if t339=true then (thresherlaw13_FoldAll.l0 k1 t301 t312 t324 t325 (wrap64 (x11_1 + 1)) t302 t305 t306 t307) else (some false))))=some r:=H
        have A41:=Aside0.mk A410
        clear A410
        replace H:=Option.bind_eq_some_iff.mp H
        obtain ⟨t336,A420,H⟩:=H
        replace H : ((thresherref04_One.f k1 t331 t336).bind fun t339=>(if t339=true then (thresherlaw13_FoldAll.l0 k1 t301 t312 t324 t325 (wrap64 (x11_1 + 1)) t302 t305 t306 t307) else (some false)))=some r:=H
        have A42:=Aside0.mk A420
        clear A420
        replace H:=Option.bind_eq_some_iff.mp H
        obtain ⟨t339,A430,H⟩:=H
        replace H : (if t339=true then (thresherlaw13_FoldAll.l0 k1 t301 t312 t324 t325 (wrap64 (x11_1 + 1)) t302 t305 t306 t307) else (some false))=some r:=H
        have A43:=Aside0.mk A430
        clear A430
        by_cases c44 : t339=true
        ·subst c44
         have H1 : (thresherlaw13_FoldAll.l0 k1 t301 t312 t324 t325 (wrap64 (x11_1 + 1)) t302 t305 t306 t307)=some r:=by rw [if_pos rfl] at H;exact H
         clear H
         have H:=H1
         clear H1
         have H':=Aside0.mk H
         clear H
         try go_wp2
         have n0_:=Aside0.mk (Kd.N_drew HO_7.out)
         have n1_:=Aside0.mk (Kd.R_drew HO_309000.out)
         have n2_:=Aside0.mk (blk_drew BK300.out)
         have n3_:=Aside0.mk (blk_drew BK308.out)
         have n4_:=Aside0.mk (below_drew1 HB.out)
         clear HO_7
         clear HO_309000
         clear BK300
         clear BK308
         clear HB
         have HO_7:=n0_
         have HO_309000:=n1_
         have BK300:=n2_
         have BK308:=n3_
         have HB:=n4_
         clear n0_ n1_ n2_ n3_ n4_
         have p326 : 0≤((ji35) : Int):=of_decide_eq_true (by first|(with_reducible assumption)|assumption)
         have q326 : (ji35) < (t312.length : Int):=of_decide_eq_true (by first|(with_reducible assumption)|assumption)
         obtain ⟨ad326,A326_0,c326_0,e326,hx326_0,hl326_0,hi326_0⟩:=at_L5 (Kd.N_reads' HO_7.out).2.2 (ji35) p326 q326
         cases e326
         obtain ⟨ce326,hce326,hMe326,hcc326⟩:=Kd.N_get HO_7.out [] (ji35) p326 (by first|exact q326|exact of_decide_eq_true (by first|(with_reducible assumption)|assumption)|(have e_:=(Kd.N_reads' HO_7.out).1;omega))
         obtain ⟨ua326_0,uc326_0,rfl,ul326_0,ge326_0⟩:=Kd.FK_slice_open hMe326
         have hv326_0:=hcc326 0 _ rfl
         rw [Nat.add_zero,show ((Kd.slice 45 k45)).sz=1 from rfl,Nat.mul_one] at hv326_0
         replace hv326_0:=Option.some.inj (hv326_0.symm.trans hx326_0)
         injection hv326_0 with hva_ hvn_ hvc_
         rw [hva_] at ge326_0
         rw [hvc_] at ul326_0
         have HL326_0:=Aside0.mk (show Kd.V k45 45 _ w.heap.size _ _ (rd_L5 t312 (ji35)) from Kd.V_mk ul326_0 ge326_0)
         clear hva_ hvn_ hvc_ ge326_0 ul326_0
         clear hcc326 hce326
         have HR326_0:=Aside0.mk hi326_0
         have HC326_0:=Aside0.mk hl326_0
         clear hi326_0 hl326_0
         replace p326:=eq_true p326
         replace q326:=eq_true q326
         have p327 : 0≤(x11_1 : Int):=of_decide_eq_true (by first|(with_reducible assumption)|assumption)
         have q327 : x11_1 < (t312.length : Int):=of_decide_eq_true (by first|(with_reducible assumption)|assumption)
         obtain ⟨ad327,A327_0,c327_0,e327,hx327_0,hl327_0,hi327_0⟩:=at_L5 (Kd.N_reads' HO_7.out).2.2 x11_1 p327 q327
         obtain rfl : ad326=ad327:=(by injection e327)
         obtain ⟨ce327,hce327,hMe327,hcc327⟩:=Kd.N_get HO_7.out [] x11_1 p327 (by first|exact q327|exact of_decide_eq_true (by first|(with_reducible assumption)|assumption)|(have e_:=(Kd.N_reads' HO_7.out).1;omega))
         obtain ⟨ua327_0,uc327_0,rfl,ul327_0,ge327_0⟩:=Kd.FK_slice_open hMe327
         have hv327_0:=hcc327 0 _ rfl
         rw [Nat.add_zero,show ((Kd.slice 45 k45)).sz=1 from rfl,Nat.mul_one] at hv327_0
         replace hv327_0:=Option.some.inj (hv327_0.symm.trans hx327_0)
         injection hv327_0 with hva_ hvn_ hvc_
         rw [hva_] at ge327_0
         rw [hvc_] at ul327_0
         have HL327_0:=Aside0.mk (show Kd.V k45 45 _ w.heap.size _ _ (rd_L5 t312 x11_1) from Kd.V_mk ul327_0 ge327_0)
         clear hva_ hvn_ hvc_ ge327_0 ul327_0
         clear hcc327 hce327
         have HR327_0:=Aside0.mk hi327_0
         have HC327_0:=Aside0.mk hl327_0
         clear hi327_0 hl327_0
         replace p327:=eq_true p327
         replace q327:=eq_true q327
         refine start_ (n:=12) (S:=fun w'=>w'.cell? ⟨gb308,0,none⟩=some (.slice Ao17 t302.length co17)∧w'.cell? ⟨gb308,1,none⟩=some (.int .i64 t305)∧w'.cell? ⟨gb308,2,none⟩=some (.int .i64 t306)∧w'.cell? ⟨gb308,3,none⟩=some (.int .i64 t307)∧w'.cell? (ad326.add ((ji35)).toNat)=some (.slice A326_0 (rd_L5 t312 (ji35)).length c326_0)∧w'.cell? (ad326.add (x11_1).toNat)=some (.slice A327_0 (rd_L5 t312 x11_1).length c327_0)) (ds:=[]) #[false,false,false,false,false,false,false,false,false,false,false,false] (by kernel_rfl) rfl rfl ⟨(blk_cell BK308.out 0).trans rfl,(blk_cell BK308.out 1).trans rfl,(blk_cell BK308.out 2).trans rfl,(blk_cell BK308.out 3).trans rfl,hx326_0,hx327_0⟩ (fun hHeld=>?_);refine with_tabW thresherlaw13_FoldAll.tab10 thresherlaw13_FoldAll.bits10 (fun HT_ HW_=>?_)
         generalize wr.drew=w45 at HO_7 HO_309000 BK300 BK308 HB HL326_0 HL327_0 HR326_0 HR327_0 hx326_0 hx327_0 hHeld ⊢
         refine pure_ (i:=1) (N:=some 41) (v:=?_) (a':=?_) #[false,true,false,false,false,false,false,false,false,false,false,false] rfl rfl (any_of HT_.out (by kernel_rfl)) (fun _ _ _ h=>h) (Or.inl ⟨by rfl,?_⟩) ?_ ?_
         rotate_left;(intro w';go_simp;with_reducible rfl);rotate_left;(simp only [Act.put,List.setIfInBounds_toArray,List.set_cons_zero,List.set_cons_succ,i64_w,i32_w];rfl)
         refine pure_ (i:=2) (N:=some 42) (v:=?_) (a':=?_) #[false,true,true,false,false,false,false,false,false,false,false,false] rfl rfl (any_of HT_.out (by kernel_rfl)) (fun _ _ _ h=>h) (Or.inl ⟨by rfl,?_⟩) ?_ ?_
         rotate_left;(intro w';go_simp;with_reducible rfl);rotate_left;(simp only [Act.put,List.setIfInBounds_toArray,List.set_cons_zero,List.set_cons_succ,i64_w,i32_w];rfl)
         refine pure_ (i:=3) (N:=some 43) (v:=?_) (a':=?_) #[false,true,true,true,false,false,false,false,false,false,false,false] rfl rfl (any_of HT_.out (by kernel_rfl)) (fun _ _ _ h=>h) (Or.inl ⟨by rfl,?_⟩) ?_ ?_
         rotate_left;(intro w';go_simp;with_reducible rfl);rotate_left;(simp only [Act.put,List.setIfInBounds_toArray,List.set_cons_zero,List.set_cons_succ,i64_w,i32_w];rfl)
         refine pure_ (i:=4) (N:=some 44) (v:=?_) (a':=?_) #[false,true,true,true,true,false,false,false,false,false,false,false] rfl rfl (any_of HT_.out (by kernel_rfl)) (fun _ _ _ h=>h) (Or.inl ⟨by rfl,?_⟩) ?_ ?_
         rotate_left;(intro w';go_simp;with_reducible rfl);rotate_left;(simp only [Act.put,List.setIfInBounds_toArray,List.set_cons_zero,List.set_cons_succ,i64_w,i32_w];rfl)
         refine pure_ (i:=6) (N:=some 46) (v:=?_) (a':=?_) #[false,true,true,true,true,false,true,false,false,false,false,false] rfl rfl (any_of HT_.out (by kernel_rfl)) (fun _ _ _ h=>h) (Or.inl ⟨by rfl,?_⟩) ?_ ?_
         rotate_left;(intro w';go_simp;with_reducible rfl);rotate_left;(simp only [Act.put,List.setIfInBounds_toArray,List.set_cons_zero,List.set_cons_succ,i64_w,i32_w];rfl)
         refine pure_ (i:=7) (N:=some 47) (v:=?_) (a':=?_) #[false,true,true,true,true,false,true,true,false,false,false,false] rfl rfl (any_of HT_.out (by kernel_rfl)) (fun _ _ _ h=>h) (Or.inl ⟨by rfl,?_⟩) ?_ ?_
         rotate_left;(intro w';go_simp;with_reducible rfl);rotate_left;(simp only [Act.put,List.setIfInBounds_toArray,List.set_cons_zero,List.set_cons_succ,i64_w,i32_w];rfl)
         refine pure_ (i:=8) (N:=some 48) (v:=?_) (a':=?_) #[false,true,true,true,true,false,true,true,true,false,false,false] rfl rfl (any_of HT_.out (by kernel_rfl)) (fun _ _ _ h=>h) (Or.inl ⟨by rfl,?_⟩) ?_ ?_
         rotate_left;(intro w';go_simp;with_reducible rfl);rotate_left;(simp only [Act.put,List.setIfInBounds_toArray,List.set_cons_zero,List.set_cons_succ,i64_w,i32_w];rfl)
         refine take_ (i:=0) (N:=some 40) (v:=?_) (a':=?_) #[true,true,true,true,true,false,true,true,true,false,false,false] rfl rfl (take_ofW HT_.out HW_.out (by kernel_rfl)) (fun _ _ _ h=>h) (Or.inl ⟨by rfl,?_⟩) hHeld ?_ ?_
         rotate_left;(rintro w' ⟨s0,s1,s2,s3,s4,s5⟩;go_simp;with_reducible rfl);rotate_left;(simp only [Act.put,List.setIfInBounds_toArray,List.set_cons_zero,List.set_cons_succ,i64_w,i32_w];rfl)
         refine take_ (i:=5) (N:=some 45) (v:=?_) (a':=?_) #[true,true,true,true,true,true,true,true,true,false,false,false] rfl rfl (take_ofW HT_.out HW_.out (by kernel_rfl)) (fun _ _ _ h=>h) (Or.inl ⟨by rfl,?_⟩) hHeld ?_ ?_
         rotate_left;(rintro w' ⟨s0,s1,s2,s3,s4,s5⟩;go_simp;with_reducible rfl);rotate_left;(simp only [Act.put,List.setIfInBounds_toArray,List.set_cons_zero,List.set_cons_succ,i64_w,i32_w];rfl)
         refine take_ (i:=9) (N:=some 49) (v:=?_) (a':=?_) #[true,true,true,true,true,true,true,true,true,true,false,false] rfl rfl (take_ofW HT_.out HW_.out (by kernel_rfl)) (fun _ _ _ h=>h) (Or.inl ⟨by rfl,?_⟩) hHeld ?_ ?_
         rotate_left;(rintro w' ⟨s0,s1,s2,s3,s4,s5⟩;go_simp;with_reducible rfl);rotate_left;(simp only [Act.put,List.setIfInBounds_toArray,List.set_cons_zero,List.set_cons_succ,i64_w,i32_w];rfl)
         refine one_ (i:=10) (N:=some 50) #[true,true,true,true,true,true,true,true,true,true,true,false] rfl rfl (one_of HT_.out (by kernel_rfl)) (by decide) (fun K hK=>?_)
         refine goes_ Try.func15 (by kernel_rfl) rfl #[.agg #[.slice Ao17 t302.length co17,.int .i64 t305,.int .i64 t306,.int .i64 t307],.slice A326_0 (rd_L5 t312 (ji35)).length c326_0,.slice A327_0 (rd_L5 t312 x11_1).length c327_0] (by rfl) rfl rfl (by (try simp only [List.map_toArray,List.map_cons,List.map_nil]);first|done|(simp only [hji35];rfl)|rfl|(simp only [List.length_drop,List.length_take];rfl)) ?_
         with_reducible refine (thresherref04_Compare.calls k1 _ _ t302 t305 t306 t307 _ _ (rd_L5 t312 (ji35)) _ _ (rd_L5 t312 x11_1) t328 _ ?side1 ?side2 ?side3 ?side4 ?side5 ?side6 A39.out).mono ?_
         (case side1=>repeat (first|exact (Kd.R_reads' HO_309000.out).2.2|(with_reducible refine Kd.C_alloc ?_ _)|(with_reducible refine Kd.C_drewN ?_ _)|(with_reducible refine Kd.C_drew ?_)))
         (case side2=>exact (Kd.R_reads' HO_309000.out).2.1)
         (case side3=>repeat (first|exact (by repeat (first|(with_reducible exact HR326_0.out)|(with_reducible refine Kd.C_alloc ?_ _)|(with_reducible refine Kd.C_drewN ?_ _)|(with_reducible refine Kd.C_drew ?_)|exact HR326_0.out))|(with_reducible refine Kd.C_alloc ?_ _)|(with_reducible refine Kd.C_drewN ?_ _)|(with_reducible refine Kd.C_drew ?_)))
         (case side4=>exact HC326_0.out)
         (case side5=>repeat (first|exact (by repeat (first|(with_reducible exact HR327_0.out)|(with_reducible refine Kd.C_alloc ?_ _)|(with_reducible refine Kd.C_drewN ?_ _)|(with_reducible refine Kd.C_drew ?_)|exact HR327_0.out))|(with_reducible refine Kd.C_alloc ?_ _)|(with_reducible refine Kd.C_drewN ?_ _)|(with_reducible refine Kd.C_drew ?_)))
         (case side6=>exact HC327_0.out)
         rintro e w46 ⟨rfl,hb⟩
         have HS4_:=(hb.cell (World.block_lt_of_cell? _ _ (hHeld.2.2.2.2.1))).trans (hHeld.2.2.2.2.1)
         have HS5_:=(hb.cell (World.block_lt_of_cell? _ _ (hHeld.2.2.2.2.2))).trans (hHeld.2.2.2.2.2)
         refine ⟨_,rfl,?_⟩
         have n0_:=Aside0.mk (Kd.N_below (by (with_reducible repeat (first|apply Kd.N_alloc|apply Kd.N_drewN|apply Kd.N_drew));exact HO_7.out) hb)
         have n1_:=Aside0.mk (Kd.R_below (by (with_reducible repeat (first|apply Kd.R_alloc|apply Kd.R_drewN|apply Kd.R_drew));exact HO_309000.out) hb)
         have n2_:=Aside0.mk (Kd.V_below (by (with_reducible repeat (first|apply Kd.V_alloc|apply Kd.V_drewN|apply Kd.V_drew));exact HL326_0.out) hb)
         have n3_:=Aside0.mk (Kd.V_below (by (with_reducible repeat (first|apply Kd.V_alloc|apply Kd.V_drewN|apply Kd.V_drew));exact HL327_0.out) hb)
         have n4_:=Aside0.mk (blk_below (g:=gb300) (o:=.cells #[.int .u8 a0_0,.int .u8 a0_1,.int .u8 a0_2,.int .u8 a0_3,.int .u8 a0_4,.int .u8 a0_5,.int .u8 a0_6,.int .u8 a0_7,.int .u8 a0_8,.int .u8 a0_9,.int .u8 a0_10,.int .u8 a0_11] 24 (0,0)) (by (with_reducible repeat (first|refine blk_drewN ?_ _|refine blk_drew ?_|refine blk_alloc ?_ _));exact BK300.out) hb)
         have n5_:=Aside0.mk (blk_below (g:=gb308) (o:=.cells #[.slice Ao17 t302.length co17,.int .i64 t305,.int .i64 t306,.int .i64 t307] 29 (0,0)) (by (with_reducible repeat (first|refine blk_drewN ?_ _|refine blk_drew ?_|refine blk_alloc ?_ _));exact BK308.out) hb)
         have n6_:=Aside0.mk (Kd.C_below (by repeat (first|(with_reducible exact HR326_0.out)|(with_reducible refine Kd.C_alloc ?_ _)|(with_reducible refine Kd.C_drewN ?_ _)|(with_reducible refine Kd.C_drew ?_)|exact HR326_0.out)) hb)
         have n7_:=Aside0.mk (Kd.C_below (by repeat (first|(with_reducible exact HR327_0.out)|(with_reducible refine Kd.C_alloc ?_ _)|(with_reducible refine Kd.C_drewN ?_ _)|(with_reducible refine Kd.C_drew ?_)|exact HR327_0.out)) hb)
         have n8_:=Aside0.mk (below_step (by repeat (first|(with_reducible first|exact HB.out|apply below_alloc|apply pw_below_drewN|apply below_drew1|refine below_set ?_ GE300.out|refine below_set ?_ GE308.out)|exact HB.out)) hb)
         clear HO_7
         clear HO_309000
         clear HL326_0
         clear HL327_0
         clear BK300
         clear BK308
         clear HR326_0
         clear HR327_0
         clear HB
         have HO_7:=n0_
         have HO_309000:=n1_
         have HL326_0:=n2_
         have HL327_0:=n3_
         have BK300:=n4_
         have BK308:=n5_
         have HR326_0:=n6_
         have HR327_0:=n7_
         have HB:=n8_
         clear n0_ n1_ n2_ n3_ n4_ n5_ n6_ n7_ n8_
         (try clear hb)
         (try clear hb2)
         (try clear hk)
         (try clear hi)
         refine hK.out _ _ ⟨(blk_cell BK308.out 0).trans rfl,(blk_cell BK308.out 1).trans rfl,(blk_cell BK308.out 2).trans rfl,(blk_cell BK308.out 3).trans rfl,HS4_,HS5_⟩ (fun hHeld=>?_)
         clear hK K
         refine norm_ (a':=?_) ?_ ?_
         rotate_left
         ·show Act.put _ (some 50) _=_
          simp only [Act.put,List.setIfInBounds_toArray,List.set_cons_zero,List.set_cons_succ,i64_w,i32_w]
          rfl
         refine pure_ (i:=11) (N:=some 51) (v:=?_) (a':=?_) #[true,true,true,true,true,true,true,true,true,true,true,true] rfl rfl (any_of HT_.out (by kernel_rfl)) (fun _ _ _ h=>h) (Or.inl ⟨by rfl,?_⟩) ?_ ?_
         rotate_left;(intro w';go_simp;with_reducible rfl);rotate_left;(simp only [Act.put,List.setIfInBounds_toArray,List.set_cons_zero,List.set_cons_succ,i64_w,i32_w];rfl)
         refine done_ (done_of HT_.out (by kernel_rfl)) ?_
         (try clear HS4_);(try clear HS5_);(try clear hHeld)
         try go_wp2
         have n0_:=Aside0.mk (Kd.N_drew HO_7.out)
         have n1_:=Aside0.mk (Kd.R_drew HO_309000.out)
         have n2_:=Aside0.mk (Kd.V_drew HL326_0.out)
         have n3_:=Aside0.mk (Kd.V_drew HL327_0.out)
         have n4_:=Aside0.mk (blk_drew BK300.out)
         have n5_:=Aside0.mk (blk_drew BK308.out)
         have n6_:=Aside0.mk (Kd.C_drew HR326_0.out)
         have n7_:=Aside0.mk (Kd.C_drew HR327_0.out)
         have n8_:=Aside0.mk (below_drew1 HB.out)
         clear HO_7
         clear HO_309000
         clear HL326_0
         clear HL327_0
         clear BK300
         clear BK308
         clear HR326_0
         clear HR327_0
         clear HB
         have HO_7:=n0_
         have HO_309000:=n1_
         have HL326_0:=n2_
         have HL327_0:=n3_
         have BK300:=n4_
         have BK308:=n5_
         have HR326_0:=n6_
         have HR327_0:=n7_
         have HB:=n8_
         clear n0_ n1_ n2_ n3_ n4_ n5_ n6_ n7_ n8_
         have p329 : 0≤((ji35) : Int):=of_decide_eq_true (by first|(with_reducible assumption)|assumption)
         have q329 : (ji35) < (t312.length : Int):=of_decide_eq_true (by first|(with_reducible assumption)|assumption)
         obtain ⟨ad329,A329_0,c329_0,e329,hx329_0,hl329_0,hi329_0⟩:=at_L5 (Kd.N_reads' HO_7.out).2.2 (ji35) p329 q329
         obtain rfl : ad326=ad329:=(by injection e329)
         obtain ⟨ce329,hce329,hMe329,hcc329⟩:=Kd.N_get HO_7.out [] (ji35) p329 (by first|exact q329|exact of_decide_eq_true (by first|(with_reducible assumption)|assumption)|(have e_:=(Kd.N_reads' HO_7.out).1;omega))
         obtain ⟨ua329_0,uc329_0,rfl,ul329_0,ge329_0⟩:=Kd.FK_slice_open hMe329
         have hv329_0:=hcc329 0 _ rfl
         rw [Nat.add_zero,show ((Kd.slice 45 k45)).sz=1 from rfl,Nat.mul_one] at hv329_0
         replace hv329_0:=Option.some.inj (hv329_0.symm.trans hx329_0)
         injection hv329_0 with hva_ hvn_ hvc_
         rw [hva_] at ge329_0
         rw [hvc_] at ul329_0
         have HL329_0:=Aside0.mk (show Kd.V k45 45 _ w.heap.size _ _ (rd_L5 t312 (ji35)) from Kd.V_mk ul329_0 ge329_0)
         clear hva_ hvn_ hvc_ ge329_0 ul329_0
         clear hcc329 hce329
         have HR329_0:=Aside0.mk hi329_0
         have HC329_0:=Aside0.mk hl329_0
         clear hi329_0 hl329_0
         replace p329:=eq_true p329
         replace q329:=eq_true q329
         have p330 : 0≤(x11_1 : Int):=of_decide_eq_true (by first|(with_reducible assumption)|assumption)
         have q330 : x11_1 < (t312.length : Int):=of_decide_eq_true (by first|(with_reducible assumption)|assumption)
         obtain ⟨ad330,A330_0,c330_0,e330,hx330_0,hl330_0,hi330_0⟩:=at_L5 (Kd.N_reads' HO_7.out).2.2 x11_1 p330 q330
         obtain rfl : ad326=ad330:=(by injection e330)
         obtain ⟨ce330,hce330,hMe330,hcc330⟩:=Kd.N_get HO_7.out [] x11_1 p330 (by first|exact q330|exact of_decide_eq_true (by first|(with_reducible assumption)|assumption)|(have e_:=(Kd.N_reads' HO_7.out).1;omega))
         obtain ⟨ua330_0,uc330_0,rfl,ul330_0,ge330_0⟩:=Kd.FK_slice_open hMe330
         have hv330_0:=hcc330 0 _ rfl
         rw [Nat.add_zero,show ((Kd.slice 45 k45)).sz=1 from rfl,Nat.mul_one] at hv330_0
         replace hv330_0:=Option.some.inj (hv330_0.symm.trans hx330_0)
         injection hv330_0 with hva_ hvn_ hvc_
         rw [hva_] at ge330_0
         rw [hvc_] at ul330_0
         have HL330_0:=Aside0.mk (show Kd.V k45 45 _ w.heap.size _ _ (rd_L5 t312 x11_1) from Kd.V_mk ul330_0 ge330_0)
         clear hva_ hvn_ hvc_ ge330_0 ul330_0
         clear hcc330 hce330
         have HR330_0:=Aside0.mk hi330_0
         have HC330_0:=Aside0.mk hl330_0
         clear hi330_0 hl330_0
         replace p330:=eq_true p330
         replace q330:=eq_true q330
         have p334 : 0≤((ji35) : Int):=of_decide_eq_true (by first|(with_reducible assumption)|assumption)
         have q334 : (ji35) < (t312.length : Int):=of_decide_eq_true (by first|(with_reducible assumption)|assumption)
         obtain ⟨ad334,A334_0,c334_0,e334,hx334_0,hl334_0,hi334_0⟩:=at_L5 (Kd.N_reads' HO_7.out).2.2 (ji35) p334 q334
         obtain rfl : ad326=ad334:=(by injection e334)
         obtain ⟨ce334,hce334,hMe334,hcc334⟩:=Kd.N_get HO_7.out [] (ji35) p334 (by first|exact q334|exact of_decide_eq_true (by first|(with_reducible assumption)|assumption)|(have e_:=(Kd.N_reads' HO_7.out).1;omega))
         obtain ⟨ua334_0,uc334_0,rfl,ul334_0,ge334_0⟩:=Kd.FK_slice_open hMe334
         have hv334_0:=hcc334 0 _ rfl
         rw [Nat.add_zero,show ((Kd.slice 45 k45)).sz=1 from rfl,Nat.mul_one] at hv334_0
         replace hv334_0:=Option.some.inj (hv334_0.symm.trans hx334_0)
         injection hv334_0 with hva_ hvn_ hvc_
         rw [hva_] at ge334_0
         rw [hvc_] at ul334_0
         have HL334_0:=Aside0.mk (show Kd.V k45 45 _ w.heap.size _ _ (rd_L5 t312 (ji35)) from Kd.V_mk ul334_0 ge334_0)
         clear hva_ hvn_ hvc_ ge334_0 ul334_0
         clear hcc334 hce334
         have HR334_0:=Aside0.mk hi334_0
         have HC334_0:=Aside0.mk hl334_0
         clear hi334_0 hl334_0
         replace p334:=eq_true p334
         replace q334:=eq_true q334
         have ea_:=Option.some.inj (hx329_0.symm.trans hx334_0)
         injection ea_ with ea_ en_ ec_
         subst ea_
         subst ec_
         clear en_
         have p335 : 0≤(x11_1 : Int):=of_decide_eq_true (by first|(with_reducible assumption)|assumption)
         have q335 : x11_1 < (t312.length : Int):=of_decide_eq_true (by first|(with_reducible assumption)|assumption)
         obtain ⟨ad335,A335_0,c335_0,e335,hx335_0,hl335_0,hi335_0⟩:=at_L5 (Kd.N_reads' HO_7.out).2.2 x11_1 p335 q335
         obtain rfl : ad326=ad335:=(by injection e335)
         obtain ⟨ce335,hce335,hMe335,hcc335⟩:=Kd.N_get HO_7.out [] x11_1 p335 (by first|exact q335|exact of_decide_eq_true (by first|(with_reducible assumption)|assumption)|(have e_:=(Kd.N_reads' HO_7.out).1;omega))
         obtain ⟨ua335_0,uc335_0,rfl,ul335_0,ge335_0⟩:=Kd.FK_slice_open hMe335
         have hv335_0:=hcc335 0 _ rfl
         rw [Nat.add_zero,show ((Kd.slice 45 k45)).sz=1 from rfl,Nat.mul_one] at hv335_0
         replace hv335_0:=Option.some.inj (hv335_0.symm.trans hx335_0)
         injection hv335_0 with hva_ hvn_ hvc_
         rw [hva_] at ge335_0
         rw [hvc_] at ul335_0
         have HL335_0:=Aside0.mk (show Kd.V k45 45 _ w.heap.size _ _ (rd_L5 t312 x11_1) from Kd.V_mk ul335_0 ge335_0)
         clear hva_ hvn_ hvc_ ge335_0 ul335_0
         clear hcc335 hce335
         have HR335_0:=Aside0.mk hi335_0
         have HC335_0:=Aside0.mk hl335_0
         clear hi335_0 hl335_0
         replace p335:=eq_true p335
         replace q335:=eq_true q335
         have ea_:=Option.some.inj (hx330_0.symm.trans hx335_0)
         injection ea_ with ea_ en_ ec_
         subst ea_
         subst ec_
         clear en_
         refine start_ (n:=24) (S:=fun w'=>w'.cell? ⟨gb308,0,none⟩=some (.slice Ao17 t302.length co17)∧w'.cell? ⟨gb308,1,none⟩=some (.int .i64 t305)∧w'.cell? ⟨gb308,2,none⟩=some (.int .i64 t306)∧w'.cell? ⟨gb308,3,none⟩=some (.int .i64 t307)∧w'.cell? (ad326.add ((ji35)).toNat)=some (.slice A329_0 (rd_L5 t312 (ji35)).length c329_0)∧w'.cell? (ad326.add (x11_1).toNat)=some (.slice A330_0 (rd_L5 t312 x11_1).length c330_0)∧w'.cell? (ad326.add ((ji35)).toNat)=some (.slice A329_0 (rd_L5 t312 (ji35)).length c329_0)∧w'.cell? (ad326.add (x11_1).toNat)=some (.slice A330_0 (rd_L5 t312 x11_1).length c330_0)) (ds:=[]) #[false,false,false,false,false,false,false,false,false,false,false,false,false,false,false,false,false,false,false,false,false,false,false,false] (by kernel_rfl) rfl rfl ⟨(blk_cell BK308.out 0).trans rfl,(blk_cell BK308.out 1).trans rfl,(blk_cell BK308.out 2).trans rfl,(blk_cell BK308.out 3).trans rfl,hx329_0,hx330_0,hx334_0,hx335_0⟩ (fun hHeld=>?_);refine with_tabW thresherlaw13_FoldAll.tab11 thresherlaw13_FoldAll.bits11 (fun HT_ HW_=>?_)
         generalize w46.drew=w47 at HO_7 HO_309000 HL326_0 HL327_0 BK300 BK308 HR326_0 HR327_0 HB HL329_0 HL330_0 HL334_0 HL335_0 HR329_0 HR330_0 HR334_0 HR335_0 hx329_0 hx330_0 hx334_0 hx335_0 hHeld ⊢
         refine pure_ (i:=1) (N:=some 53) (v:=?_) (a':=?_) #[false,true,false,false,false,false,false,false,false,false,false,false,false,false,false,false,false,false,false,false,false,false,false,false] rfl rfl (any_of HT_.out (by kernel_rfl)) (fun _ _ _ h=>h) (Or.inl ⟨by rfl,?_⟩) ?_ ?_
         rotate_left;(intro w';go_simp;with_reducible rfl);rotate_left;(simp only [Act.put,List.setIfInBounds_toArray,List.set_cons_zero,List.set_cons_succ,i64_w,i32_w];rfl)
         refine pure_ (i:=2) (N:=some 54) (v:=?_) (a':=?_) #[false,true,true,false,false,false,false,false,false,false,false,false,false,false,false,false,false,false,false,false,false,false,false,false] rfl rfl (any_of HT_.out (by kernel_rfl)) (fun _ _ _ h=>h) (Or.inl ⟨by rfl,?_⟩) ?_ ?_
         rotate_left;(intro w';go_simp;with_reducible rfl);rotate_left;(simp only [Act.put,List.setIfInBounds_toArray,List.set_cons_zero,List.set_cons_succ,i64_w,i32_w];rfl)
         refine pure_ (i:=3) (N:=some 55) (v:=?_) (a':=?_) #[false,true,true,true,false,false,false,false,false,false,false,false,false,false,false,false,false,false,false,false,false,false,false,false] rfl rfl (any_of HT_.out (by kernel_rfl)) (fun _ _ _ h=>h) (Or.inl ⟨by rfl,?_⟩) ?_ ?_
         rotate_left;(intro w';go_simp;with_reducible rfl);rotate_left;(simp only [Act.put,List.setIfInBounds_toArray,List.set_cons_zero,List.set_cons_succ,i64_w,i32_w];rfl)
         refine pure_ (i:=4) (N:=some 56) (v:=?_) (a':=?_) #[false,true,true,true,true,false,false,false,false,false,false,false,false,false,false,false,false,false,false,false,false,false,false,false] rfl rfl (any_of HT_.out (by kernel_rfl)) (fun _ _ _ h=>h) (Or.inl ⟨by rfl,?_⟩) ?_ ?_
         rotate_left;(intro w';go_simp;with_reducible rfl);rotate_left;(simp only [Act.put,List.setIfInBounds_toArray,List.set_cons_zero,List.set_cons_succ,i64_w,i32_w];rfl)
         refine pure_ (i:=6) (N:=some 58) (v:=?_) (a':=?_) #[false,true,true,true,true,false,true,false,false,false,false,false,false,false,false,false,false,false,false,false,false,false,false,false] rfl rfl (any_of HT_.out (by kernel_rfl)) (fun _ _ _ h=>h) (Or.inl ⟨by rfl,?_⟩) ?_ ?_
         rotate_left;(intro w';go_simp;with_reducible rfl);rotate_left;(simp only [Act.put,List.setIfInBounds_toArray,List.set_cons_zero,List.set_cons_succ,i64_w,i32_w];rfl)
         refine pure_ (i:=7) (N:=some 59) (v:=?_) (a':=?_) #[false,true,true,true,true,false,true,true,false,false,false,false,false,false,false,false,false,false,false,false,false,false,false,false] rfl rfl (any_of HT_.out (by kernel_rfl)) (fun _ _ _ h=>h) (Or.inl ⟨by rfl,?_⟩) ?_ ?_
         rotate_left;(intro w';go_simp;with_reducible rfl);rotate_left;(simp only [Act.put,List.setIfInBounds_toArray,List.set_cons_zero,List.set_cons_succ,i64_w,i32_w];rfl)
         refine pure_ (i:=8) (N:=some 60) (v:=?_) (a':=?_) #[false,true,true,true,true,false,true,true,true,false,false,false,false,false,false,false,false,false,false,false,false,false,false,false] rfl rfl (any_of HT_.out (by kernel_rfl)) (fun _ _ _ h=>h) (Or.inl ⟨by rfl,?_⟩) ?_ ?_
         rotate_left;(intro w';go_simp;with_reducible rfl);rotate_left;(simp only [Act.put,List.setIfInBounds_toArray,List.set_cons_zero,List.set_cons_succ,i64_w,i32_w];rfl)
         refine pure_ (i:=12) (N:=some 64) (v:=?_) (a':=?_) #[false,true,true,true,true,false,true,true,true,false,false,false,true,false,false,false,false,false,false,false,false,false,false,false] rfl rfl (any_of HT_.out (by kernel_rfl)) (fun _ _ _ h=>h) (Or.inl ⟨by rfl,?_⟩) ?_ ?_
         rotate_left;(intro w';go_simp;with_reducible rfl);rotate_left;(simp only [Act.put,List.setIfInBounds_toArray,List.set_cons_zero,List.set_cons_succ,i64_w,i32_w];rfl)
         refine pure_ (i:=13) (N:=some 65) (v:=?_) (a':=?_) #[false,true,true,true,true,false,true,true,true,false,false,false,true,true,false,false,false,false,false,false,false,false,false,false] rfl rfl (any_of HT_.out (by kernel_rfl)) (fun _ _ _ h=>h) (Or.inl ⟨by rfl,?_⟩) ?_ ?_
         rotate_left;(intro w';go_simp;with_reducible rfl);rotate_left;(simp only [Act.put,List.setIfInBounds_toArray,List.set_cons_zero,List.set_cons_succ,i64_w,i32_w];rfl)
         refine pure_ (i:=14) (N:=some 66) (v:=?_) (a':=?_) #[false,true,true,true,true,false,true,true,true,false,false,false,true,true,true,false,false,false,false,false,false,false,false,false] rfl rfl (any_of HT_.out (by kernel_rfl)) (fun _ _ _ h=>h) (Or.inl ⟨by rfl,?_⟩) ?_ ?_
         rotate_left;(intro w';go_simp;with_reducible rfl);rotate_left;(simp only [Act.put,List.setIfInBounds_toArray,List.set_cons_zero,List.set_cons_succ,i64_w,i32_w];rfl)
         refine pure_ (i:=15) (N:=some 67) (v:=?_) (a':=?_) #[false,true,true,true,true,false,true,true,true,false,false,false,true,true,true,true,false,false,false,false,false,false,false,false] rfl rfl (any_of HT_.out (by kernel_rfl)) (fun _ _ _ h=>h) (Or.inl ⟨by rfl,?_⟩) ?_ ?_
         rotate_left;(intro w';go_simp;with_reducible rfl);rotate_left;(simp only [Act.put,List.setIfInBounds_toArray,List.set_cons_zero,List.set_cons_succ,i64_w,i32_w];rfl)
         refine pure_ (i:=17) (N:=some 69) (v:=?_) (a':=?_) #[false,true,true,true,true,false,true,true,true,false,false,false,true,true,true,true,false,true,false,false,false,false,false,false] rfl rfl (any_of HT_.out (by kernel_rfl)) (fun _ _ _ h=>h) (Or.inl ⟨by rfl,?_⟩) ?_ ?_
         rotate_left;(intro w';go_simp;with_reducible rfl);rotate_left;(simp only [Act.put,List.setIfInBounds_toArray,List.set_cons_zero,List.set_cons_succ,i64_w,i32_w];rfl)
         refine pure_ (i:=18) (N:=some 70) (v:=?_) (a':=?_) #[false,true,true,true,true,false,true,true,true,false,false,false,true,true,true,true,false,true,true,false,false,false,false,false] rfl rfl (any_of HT_.out (by kernel_rfl)) (fun _ _ _ h=>h) (Or.inl ⟨by rfl,?_⟩) ?_ ?_
         rotate_left;(intro w';go_simp;with_reducible rfl);rotate_left;(simp only [Act.put,List.setIfInBounds_toArray,List.set_cons_zero,List.set_cons_succ,i64_w,i32_w];rfl)
         refine pure_ (i:=19) (N:=some 71) (v:=?_) (a':=?_) #[false,true,true,true,true,false,true,true,true,false,false,false,true,true,true,true,false,true,true,true,false,false,false,false] rfl rfl (any_of HT_.out (by kernel_rfl)) (fun _ _ _ h=>h) (Or.inl ⟨by rfl,?_⟩) ?_ ?_
         rotate_left;(intro w';go_simp;with_reducible rfl);rotate_left;(simp only [Act.put,List.setIfInBounds_toArray,List.set_cons_zero,List.set_cons_succ,i64_w,i32_w];rfl)
         refine take_ (i:=0) (N:=some 52) (v:=?_) (a':=?_) #[true,true,true,true,true,false,true,true,true,false,false,false,true,true,true,true,false,true,true,true,false,false,false,false] rfl rfl (take_ofW HT_.out HW_.out (by kernel_rfl)) (fun _ _ _ h=>h) (Or.inl ⟨by rfl,?_⟩) hHeld ?_ ?_
         rotate_left;(rintro w' ⟨s0,s1,s2,s3,s4,s5,s6,s7⟩;go_simp;with_reducible rfl);rotate_left;(simp only [Act.put,List.setIfInBounds_toArray,List.set_cons_zero,List.set_cons_succ,i64_w,i32_w];rfl)
         refine take_ (i:=5) (N:=some 57) (v:=?_) (a':=?_) #[true,true,true,true,true,true,true,true,true,false,false,false,true,true,true,true,false,true,true,true,false,false,false,false] rfl rfl (take_ofW HT_.out HW_.out (by kernel_rfl)) (fun _ _ _ h=>h) (Or.inl ⟨by rfl,?_⟩) hHeld ?_ ?_
         rotate_left;(rintro w' ⟨s0,s1,s2,s3,s4,s5,s6,s7⟩;go_simp;with_reducible rfl);rotate_left;(simp only [Act.put,List.setIfInBounds_toArray,List.set_cons_zero,List.set_cons_succ,i64_w,i32_w];rfl)
         refine take_ (i:=9) (N:=some 61) (v:=?_) (a':=?_) #[true,true,true,true,true,true,true,true,true,true,false,false,true,true,true,true,false,true,true,true,false,false,false,false] rfl rfl (take_ofW HT_.out HW_.out (by kernel_rfl)) (fun _ _ _ h=>h) (Or.inl ⟨by rfl,?_⟩) hHeld ?_ ?_
         rotate_left;(rintro w' ⟨s0,s1,s2,s3,s4,s5,s6,s7⟩;go_simp;with_reducible rfl);rotate_left;(simp only [Act.put,List.setIfInBounds_toArray,List.set_cons_zero,List.set_cons_succ,i64_w,i32_w];rfl)
         refine take_ (i:=11) (N:=some 63) (v:=?_) (a':=?_) #[true,true,true,true,true,true,true,true,true,true,false,true,true,true,true,true,false,true,true,true,false,false,false,false] rfl rfl (take_ofW HT_.out HW_.out (by kernel_rfl)) (fun _ _ _ h=>h) (Or.inl ⟨by rfl,?_⟩) hHeld ?_ ?_
         rotate_left;(rintro w' ⟨s0,s1,s2,s3,s4,s5,s6,s7⟩;go_simp;with_reducible rfl);rotate_left;(simp only [Act.put,List.setIfInBounds_toArray,List.set_cons_zero,List.set_cons_succ,i64_w,i32_w];rfl)
         refine take_ (i:=16) (N:=some 68) (v:=?_) (a':=?_) #[true,true,true,true,true,true,true,true,true,true,false,true,true,true,true,true,true,true,true,true,false,false,false,false] rfl rfl (take_ofW HT_.out HW_.out (by kernel_rfl)) (fun _ _ _ h=>h) (Or.inl ⟨by rfl,?_⟩) hHeld ?_ ?_
         rotate_left;(rintro w' ⟨s0,s1,s2,s3,s4,s5,s6,s7⟩;go_simp;with_reducible rfl);rotate_left;(simp only [Act.put,List.setIfInBounds_toArray,List.set_cons_zero,List.set_cons_succ,i64_w,i32_w];rfl)
         refine take_ (i:=20) (N:=some 72) (v:=?_) (a':=?_) #[true,true,true,true,true,true,true,true,true,true,false,true,true,true,true,true,true,true,true,true,true,false,false,false] rfl rfl (take_ofW HT_.out HW_.out (by kernel_rfl)) (fun _ _ _ h=>h) (Or.inl ⟨by rfl,?_⟩) hHeld ?_ ?_
         rotate_left;(rintro w' ⟨s0,s1,s2,s3,s4,s5,s6,s7⟩;go_simp;with_reducible rfl);rotate_left;(simp only [Act.put,List.setIfInBounds_toArray,List.set_cons_zero,List.set_cons_succ,i64_w,i32_w];rfl)
         refine one_ (i:=10) (N:=some 62) #[true,true,true,true,true,true,true,true,true,true,true,true,true,true,true,true,true,true,true,true,true,false,false,false] rfl rfl (one_of HT_.out (by kernel_rfl)) (by decide) (fun K hK=>?_)
         refine goes_ Try.func17 (by kernel_rfl) rfl #[.agg #[.slice Ao17 t302.length co17,.int .i64 t305,.int .i64 t306,.int .i64 t307],.slice A329_0 (rd_L5 t312 (ji35)).length c329_0,.slice A330_0 (rd_L5 t312 x11_1).length c330_0] (by rfl) rfl rfl (by (try simp only [List.map_toArray,List.map_cons,List.map_nil]);first|done|(simp only [hji35];rfl)|rfl|(simp only [List.length_drop,List.length_take];rfl)) ?_
         with_reducible refine (fold_One.calls k1 _ _ t302 t305 t306 t307 _ _ (rd_L5 t312 (ji35)) _ _ (rd_L5 t312 x11_1) t331 _ ?side1 ?side2 ?side3 ?side4 ?side5 ?side6 A41.out).mono ?_
         (case side1=>repeat (first|exact (Kd.R_reads' HO_309000.out).2.2|(with_reducible refine Kd.C_alloc ?_ _)|(with_reducible refine Kd.C_drewN ?_ _)|(with_reducible refine Kd.C_drew ?_)))
         (case side2=>exact (Kd.R_reads' HO_309000.out).2.1)
         (case side3=>repeat (first|exact (by repeat (first|(with_reducible exact HR329_0.out)|(with_reducible refine Kd.C_alloc ?_ _)|(with_reducible refine Kd.C_drewN ?_ _)|(with_reducible refine Kd.C_drew ?_)|exact HR329_0.out))|(with_reducible refine Kd.C_alloc ?_ _)|(with_reducible refine Kd.C_drewN ?_ _)|(with_reducible refine Kd.C_drew ?_)))
         (case side4=>exact HC329_0.out)
         (case side5=>repeat (first|exact (by repeat (first|(with_reducible exact HR330_0.out)|(with_reducible refine Kd.C_alloc ?_ _)|(with_reducible refine Kd.C_drewN ?_ _)|(with_reducible refine Kd.C_drew ?_)|exact HR330_0.out))|(with_reducible refine Kd.C_alloc ?_ _)|(with_reducible refine Kd.C_drewN ?_ _)|(with_reducible refine Kd.C_drew ?_)))
         (case side6=>exact HC330_0.out)
         rintro e w48 ⟨v332,rfl,ho0,hb⟩
         have HS4_:=(hb.cell (World.block_lt_of_cell? _ _ (hHeld.2.2.2.2.1))).trans (hHeld.2.2.2.2.1)
         have HS5_:=(hb.cell (World.block_lt_of_cell? _ _ (hHeld.2.2.2.2.2.1))).trans (hHeld.2.2.2.2.2.1)
         have HS6_:=(hb.cell (World.block_lt_of_cell? _ _ (hHeld.2.2.2.2.2.2.1))).trans (hHeld.2.2.2.2.2.2.1)
         have HS7_:=(hb.cell (World.block_lt_of_cell? _ _ (hHeld.2.2.2.2.2.2.2))).trans (hHeld.2.2.2.2.2.2.2)
         refine ⟨_,rfl,?_⟩
         have n0_:=Aside0.mk (Kd.N_elder' (by (with_reducible repeat (first|apply Kd.N_alloc|apply Kd.N_drewN|apply Kd.N_drew));exact HO_7.out) (Kd.R_base ho0) hb)
         have n1_:=Aside0.mk (Kd.R_below (by (with_reducible repeat (first|apply Kd.R_alloc|apply Kd.R_drewN|apply Kd.R_drew));exact HO_309000.out) hb)
         have n2_:=Aside0.mk (Kd.V_elder' (by (with_reducible repeat (first|apply Kd.V_alloc|apply Kd.V_drewN|apply Kd.V_drew));exact HL326_0.out) (Kd.R_base ho0) hb)
         have n3_:=Aside0.mk (Kd.V_elder' (by (with_reducible repeat (first|apply Kd.V_alloc|apply Kd.V_drewN|apply Kd.V_drew));exact HL327_0.out) (Kd.R_base ho0) hb)
         have n4_:=Aside0.mk (Kd.V_elder' (by (with_reducible repeat (first|apply Kd.V_alloc|apply Kd.V_drewN|apply Kd.V_drew));exact HL329_0.out) (Kd.R_base ho0) hb)
         have n5_:=Aside0.mk (Kd.V_elder' (by (with_reducible repeat (first|apply Kd.V_alloc|apply Kd.V_drewN|apply Kd.V_drew));exact HL330_0.out) (Kd.R_base ho0) hb)
         have n6_:=Aside0.mk (Kd.V_elder' (by (with_reducible repeat (first|apply Kd.V_alloc|apply Kd.V_drewN|apply Kd.V_drew));exact HL334_0.out) (Kd.R_base ho0) hb)
         have n7_:=Aside0.mk (Kd.V_elder' (by (with_reducible repeat (first|apply Kd.V_alloc|apply Kd.V_drewN|apply Kd.V_drew));exact HL335_0.out) (Kd.R_base ho0) hb)
         have n8_:=Aside0.mk (Kd.R_lower ho0 (below_size (by repeat (first|(with_reducible first|exact HB.out|apply below_alloc|apply pw_below_drewN|apply below_drew1|refine below_set ?_ GE300.out|refine below_set ?_ GE308.out)|exact HB.out))))
         have n9_:=Aside0.mk (blk_below (g:=gb300) (o:=.cells #[.int .u8 a0_0,.int .u8 a0_1,.int .u8 a0_2,.int .u8 a0_3,.int .u8 a0_4,.int .u8 a0_5,.int .u8 a0_6,.int .u8 a0_7,.int .u8 a0_8,.int .u8 a0_9,.int .u8 a0_10,.int .u8 a0_11] 24 (0,0)) (by (with_reducible repeat (first|refine blk_drewN ?_ _|refine blk_drew ?_|refine blk_alloc ?_ _));exact BK300.out) hb)
         have n10_:=Aside0.mk (blk_below (g:=gb308) (o:=.cells #[.slice Ao17 t302.length co17,.int .i64 t305,.int .i64 t306,.int .i64 t307] 29 (0,0)) (by (with_reducible repeat (first|refine blk_drewN ?_ _|refine blk_drew ?_|refine blk_alloc ?_ _));exact BK308.out) hb)
         have n11_:=Aside0.mk (Kd.C_below (by repeat (first|(with_reducible exact HR326_0.out)|(with_reducible refine Kd.C_alloc ?_ _)|(with_reducible refine Kd.C_drewN ?_ _)|(with_reducible refine Kd.C_drew ?_)|exact HR326_0.out)) hb)
         have n12_:=Aside0.mk (Kd.C_below (by repeat (first|(with_reducible exact HR327_0.out)|(with_reducible refine Kd.C_alloc ?_ _)|(with_reducible refine Kd.C_drewN ?_ _)|(with_reducible refine Kd.C_drew ?_)|exact HR327_0.out)) hb)
         have n13_:=Aside0.mk (Kd.C_below (by repeat (first|(with_reducible exact HR329_0.out)|(with_reducible refine Kd.C_alloc ?_ _)|(with_reducible refine Kd.C_drewN ?_ _)|(with_reducible refine Kd.C_drew ?_)|exact HR329_0.out)) hb)
         have n14_:=Aside0.mk (Kd.C_below (by repeat (first|(with_reducible exact HR330_0.out)|(with_reducible refine Kd.C_alloc ?_ _)|(with_reducible refine Kd.C_drewN ?_ _)|(with_reducible refine Kd.C_drew ?_)|exact HR330_0.out)) hb)
         have n15_:=Aside0.mk (Kd.C_below (by repeat (first|(with_reducible exact HR334_0.out)|(with_reducible refine Kd.C_alloc ?_ _)|(with_reducible refine Kd.C_drewN ?_ _)|(with_reducible refine Kd.C_drew ?_)|exact HR334_0.out)) hb)
         have n16_:=Aside0.mk (Kd.C_below (by repeat (first|(with_reducible exact HR335_0.out)|(with_reducible refine Kd.C_alloc ?_ _)|(with_reducible refine Kd.C_drewN ?_ _)|(with_reducible refine Kd.C_drew ?_)|exact HR335_0.out)) hb)
         have n17_:=Aside0.mk (below_step (by repeat (first|(with_reducible first|exact HB.out|apply below_alloc|apply pw_below_drewN|apply below_drew1|refine below_set ?_ GE300.out|refine below_set ?_ GE308.out)|exact HB.out)) hb)
         clear HO_7
         clear HO_309000
         clear HL326_0
         clear HL327_0
         clear HL329_0
         clear HL330_0
         clear HL334_0
         clear HL335_0
         clear BK300
         clear BK308
         clear HR326_0
         clear HR327_0
         clear HR329_0
         clear HR330_0
         clear HR334_0
         clear HR335_0
         clear HB
         have HO_7:=n0_
         have HO_309000:=n1_
         have HL326_0:=n2_
         have HL327_0:=n3_
         have HL329_0:=n4_
         have HL330_0:=n5_
         have HL334_0:=n6_
         have HL335_0:=n7_
         have HO333:=n8_
         have BK300:=n9_
         have BK308:=n10_
         have HR326_0:=n11_
         have HR327_0:=n12_
         have HR329_0:=n13_
         have HR330_0:=n14_
         have HR334_0:=n15_
         have HR335_0:=n16_
         have HB:=n17_
         clear n0_ n1_ n2_ n3_ n4_ n5_ n6_ n7_ n8_ n9_ n10_ n11_ n12_ n13_ n14_ n15_ n16_ n17_
         (try clear hb)
         (try clear hb2)
         (try clear hk)
         (try clear hi)
         (try clear ho0)
         refine hK.out _ _ ⟨(blk_cell BK308.out 0).trans rfl,(blk_cell BK308.out 1).trans rfl,(blk_cell BK308.out 2).trans rfl,(blk_cell BK308.out 3).trans rfl,HS4_,HS5_,HS6_,HS7_⟩ (fun hHeld=>?_)
         clear hK K
         refine norm_ (a':=?_) ?_ ?_
         rotate_left
         ·show Act.put _ (some 62) _=_
          simp only [Act.put,List.setIfInBounds_toArray,List.set_cons_zero,List.set_cons_succ,i64_w,i32_w]
          rfl
         refine one_ (i:=21) (N:=some 73) #[true,true,true,true,true,true,true,true,true,true,true,true,true,true,true,true,true,true,true,true,true,true,false,false] rfl rfl (one_of HT_.out (by kernel_rfl)) (by decide) (fun K hK=>?_)
         refine goes_ Try.func18 (by kernel_rfl) rfl #[.agg #[.slice Ao17 t302.length co17,.int .i64 t305,.int .i64 t306,.int .i64 t307],.slice A329_0 (rd_L5 t312 (ji35)).length c329_0,.slice A330_0 (rd_L5 t312 x11_1).length c330_0] (by rfl) rfl rfl (by (try simp only [List.map_toArray,List.map_cons,List.map_nil]);first|done|(simp only [hji35];rfl)|rfl|(simp only [List.length_drop,List.length_take];rfl)) ?_
         with_reducible refine (thresherref13_One.calls k1 _ _ t302 t305 t306 t307 _ _ (rd_L5 t312 (ji35)) _ _ (rd_L5 t312 x11_1) t336 _ ?side1 ?side2 ?side3 ?side4 ?side5 ?side6 A42.out).mono ?_
         (case side1=>repeat (first|exact (Kd.R_reads' HO_309000.out).2.2|(with_reducible refine Kd.C_alloc ?_ _)|(with_reducible refine Kd.C_drewN ?_ _)|(with_reducible refine Kd.C_drew ?_)))
         (case side2=>exact (Kd.R_reads' HO_309000.out).2.1)
         (case side3=>repeat (first|exact (by repeat (first|(with_reducible exact HR334_0.out)|(with_reducible refine Kd.C_alloc ?_ _)|(with_reducible refine Kd.C_drewN ?_ _)|(with_reducible refine Kd.C_drew ?_)|exact HR334_0.out))|(with_reducible refine Kd.C_alloc ?_ _)|(with_reducible refine Kd.C_drewN ?_ _)|(with_reducible refine Kd.C_drew ?_)))
         (case side4=>exact HC334_0.out)
         (case side5=>repeat (first|exact (by repeat (first|(with_reducible exact HR335_0.out)|(with_reducible refine Kd.C_alloc ?_ _)|(with_reducible refine Kd.C_drewN ?_ _)|(with_reducible refine Kd.C_drew ?_)|exact HR335_0.out))|(with_reducible refine Kd.C_alloc ?_ _)|(with_reducible refine Kd.C_drewN ?_ _)|(with_reducible refine Kd.C_drew ?_)))
         (case side6=>exact HC335_0.out)
         rintro e w49 ⟨v337,rfl,ho0,hb⟩
         have HS4_:=(hb.cell (World.block_lt_of_cell? _ _ (hHeld.2.2.2.2.1))).trans (hHeld.2.2.2.2.1)
         have HS5_:=(hb.cell (World.block_lt_of_cell? _ _ (hHeld.2.2.2.2.2.1))).trans (hHeld.2.2.2.2.2.1)
         have HS6_:=(hb.cell (World.block_lt_of_cell? _ _ (hHeld.2.2.2.2.2.2.1))).trans (hHeld.2.2.2.2.2.2.1)
         have HS7_:=(hb.cell (World.block_lt_of_cell? _ _ (hHeld.2.2.2.2.2.2.2))).trans (hHeld.2.2.2.2.2.2.2)
         refine ⟨_,rfl,?_⟩
         have n0_:=Aside0.mk (Kd.N_elder' (by (with_reducible repeat (first|apply Kd.N_alloc|apply Kd.N_drewN|apply Kd.N_drew));exact HO_7.out) (Kd.R_base ho0) hb)
         have n1_:=Aside0.mk (Kd.R_below (by (with_reducible repeat (first|apply Kd.R_alloc|apply Kd.R_drewN|apply Kd.R_drew));exact HO_309000.out) hb)
         have n2_:=Aside0.mk (Kd.V_elder' (by (with_reducible repeat (first|apply Kd.V_alloc|apply Kd.V_drewN|apply Kd.V_drew));exact HL326_0.out) (Kd.R_base ho0) hb)
         have n3_:=Aside0.mk (Kd.V_elder' (by (with_reducible repeat (first|apply Kd.V_alloc|apply Kd.V_drewN|apply Kd.V_drew));exact HL327_0.out) (Kd.R_base ho0) hb)
         have n4_:=Aside0.mk (Kd.V_elder' (by (with_reducible repeat (first|apply Kd.V_alloc|apply Kd.V_drewN|apply Kd.V_drew));exact HL329_0.out) (Kd.R_base ho0) hb)
         have n5_:=Aside0.mk (Kd.V_elder' (by (with_reducible repeat (first|apply Kd.V_alloc|apply Kd.V_drewN|apply Kd.V_drew));exact HL330_0.out) (Kd.R_base ho0) hb)
         have n6_:=Aside0.mk (Kd.V_elder' (by (with_reducible repeat (first|apply Kd.V_alloc|apply Kd.V_drewN|apply Kd.V_drew));exact HL334_0.out) (Kd.R_base ho0) hb)
         have n7_:=Aside0.mk (Kd.V_elder' (by (with_reducible repeat (first|apply Kd.V_alloc|apply Kd.V_drewN|apply Kd.V_drew));exact HL335_0.out) (Kd.R_base ho0) hb)
         have n8_:=Aside0.mk (Kd.R_elder' (by (with_reducible repeat (first|apply Kd.R_alloc|apply Kd.R_drewN|apply Kd.R_drew));exact HO333.out) (Kd.R_base ho0) hb)
         have n9_:=Aside0.mk (Kd.R_lower (Kd.R_new' ho0 (Kd.R_lt (by (with_reducible repeat (first|apply Kd.R_alloc|apply Kd.R_drewN|apply Kd.R_drew));exact HO333.out))) (below_size (by repeat (first|(with_reducible first|exact HB.out|apply below_alloc|apply pw_below_drewN|apply below_drew1|refine below_set ?_ GE300.out|refine below_set ?_ GE308.out)|exact HB.out))))
         have n10_:=Aside0.mk (blk_below (g:=gb300) (o:=.cells #[.int .u8 a0_0,.int .u8 a0_1,.int .u8 a0_2,.int .u8 a0_3,.int .u8 a0_4,.int .u8 a0_5,.int .u8 a0_6,.int .u8 a0_7,.int .u8 a0_8,.int .u8 a0_9,.int .u8 a0_10,.int .u8 a0_11] 24 (0,0)) (by (with_reducible repeat (first|refine blk_drewN ?_ _|refine blk_drew ?_|refine blk_alloc ?_ _));exact BK300.out) hb)
         have n11_:=Aside0.mk (blk_below (g:=gb308) (o:=.cells #[.slice Ao17 t302.length co17,.int .i64 t305,.int .i64 t306,.int .i64 t307] 29 (0,0)) (by (with_reducible repeat (first|refine blk_drewN ?_ _|refine blk_drew ?_|refine blk_alloc ?_ _));exact BK308.out) hb)
         have n12_:=Aside0.mk (Kd.C_below (by repeat (first|(with_reducible exact HR326_0.out)|(with_reducible refine Kd.C_alloc ?_ _)|(with_reducible refine Kd.C_drewN ?_ _)|(with_reducible refine Kd.C_drew ?_)|exact HR326_0.out)) hb)
         have n13_:=Aside0.mk (Kd.C_below (by repeat (first|(with_reducible exact HR327_0.out)|(with_reducible refine Kd.C_alloc ?_ _)|(with_reducible refine Kd.C_drewN ?_ _)|(with_reducible refine Kd.C_drew ?_)|exact HR327_0.out)) hb)
         have n14_:=Aside0.mk (Kd.C_below (by repeat (first|(with_reducible exact HR329_0.out)|(with_reducible refine Kd.C_alloc ?_ _)|(with_reducible refine Kd.C_drewN ?_ _)|(with_reducible refine Kd.C_drew ?_)|exact HR329_0.out)) hb)
         have n15_:=Aside0.mk (Kd.C_below (by repeat (first|(with_reducible exact HR330_0.out)|(with_reducible refine Kd.C_alloc ?_ _)|(with_reducible refine Kd.C_drewN ?_ _)|(with_reducible refine Kd.C_drew ?_)|exact HR330_0.out)) hb)
         have n16_:=Aside0.mk (Kd.C_below (by repeat (first|(with_reducible exact HR334_0.out)|(with_reducible refine Kd.C_alloc ?_ _)|(with_reducible refine Kd.C_drewN ?_ _)|(with_reducible refine Kd.C_drew ?_)|exact HR334_0.out)) hb)
         have n17_:=Aside0.mk (Kd.C_below (by repeat (first|(with_reducible exact HR335_0.out)|(with_reducible refine Kd.C_alloc ?_ _)|(with_reducible refine Kd.C_drewN ?_ _)|(with_reducible refine Kd.C_drew ?_)|exact HR335_0.out)) hb)
         have n18_:=Aside0.mk (below_step (by repeat (first|(with_reducible first|exact HB.out|apply below_alloc|apply pw_below_drewN|apply below_drew1|refine below_set ?_ GE300.out|refine below_set ?_ GE308.out)|exact HB.out)) hb)
         clear HO_7
         clear HO_309000
         clear HL326_0
         clear HL327_0
         clear HL329_0
         clear HL330_0
         clear HL334_0
         clear HL335_0
         clear HO333
         clear BK300
         clear BK308
         clear HR326_0
         clear HR327_0
         clear HR329_0
         clear HR330_0
         clear HR334_0
         clear HR335_0
         clear HB
         have HO_7:=n0_
         have HO_309000:=n1_
         have HL326_0:=n2_
         have HL327_0:=n3_
         have HL329_0:=n4_
         have HL330_0:=n5_
         have HL334_0:=n6_
         have HL335_0:=n7_
         have HO333:=n8_
         have HO338:=n9_
         have BK300:=n10_
         have BK308:=n11_
         have HR326_0:=n12_
         have HR327_0:=n13_
         have HR329_0:=n14_
         have HR330_0:=n15_
         have HR334_0:=n16_
         have HR335_0:=n17_
         have HB:=n18_
         clear n0_ n1_ n2_ n3_ n4_ n5_ n6_ n7_ n8_ n9_ n10_ n11_ n12_ n13_ n14_ n15_ n16_ n17_ n18_
         (try clear hb)
         (try clear hb2)
         (try clear hk)
         (try clear hi)
         (try clear ho0)
         obtain ⟨Ao50,co50,eo50⟩:=Kd.R_slice HO333.out
         (first|subst eo50|(injection eo50 with f1_ f2_ f3_;have f4_:=f1_.symm;have f5_:=f3_.symm;clear f1_ f2_ f3_;subst f4_;subst f5_))
         obtain ⟨Ao51,co51,eo51⟩:=Kd.R_slice HO338.out
         (first|subst eo51|(injection eo51 with f1_ f2_ f3_;have f4_:=f1_.symm;have f5_:=f3_.symm;clear f1_ f2_ f3_;subst f4_;subst f5_))
         refine hK.out _ _ ⟨(blk_cell BK308.out 0).trans rfl,(blk_cell BK308.out 1).trans rfl,(blk_cell BK308.out 2).trans rfl,(blk_cell BK308.out 3).trans rfl,HS4_,HS5_,HS6_,HS7_⟩ (fun hHeld=>?_)
         clear hK K
         refine norm_ (a':=?_) ?_ ?_
         rotate_left
         ·show Act.put _ (some 73) _=_
          simp only [Act.put,List.setIfInBounds_toArray,List.set_cons_zero,List.set_cons_succ,i64_w,i32_w]
          rfl
         refine one_ (i:=22) (N:=some 74) #[true,true,true,true,true,true,true,true,true,true,true,true,true,true,true,true,true,true,true,true,true,true,true,false] rfl rfl (one_of HT_.out (by kernel_rfl)) (by decide) (fun K hK=>?_)
         refine goes_ Try.func16 (by kernel_rfl) rfl #[.slice Ao50 t331.length co50,.slice Ao51 t336.length co51] (by rfl) rfl rfl (by (try simp only [List.map_toArray,List.map_cons,List.map_nil]);first|done|rfl|(simp only [List.length_drop,List.length_take];rfl)) ?_
         with_reducible refine (thresherref04_One.calls k1 _ _ t331 _ _ t336 true _ ?side1 ?side2 ?side3 ?side4 A43.out).mono ?_
         (case side1=>repeat (first|exact (Kd.R_reads' HO333.out).2.2|(with_reducible refine Kd.C_alloc ?_ _)|(with_reducible refine Kd.C_drewN ?_ _)|(with_reducible refine Kd.C_drew ?_)))
         (case side2=>exact (Kd.R_reads' HO333.out).2.1)
         (case side3=>repeat (first|exact (Kd.R_reads' HO338.out).2.2|(with_reducible refine Kd.C_alloc ?_ _)|(with_reducible refine Kd.C_drewN ?_ _)|(with_reducible refine Kd.C_drew ?_)))
         (case side4=>exact (Kd.R_reads' HO338.out).2.1)
         rintro e w' ⟨rfl,⟨nd,rfl⟩⟩
         refine ⟨_,rfl,?_⟩
         refine hK.out _ _ ⟨(blk_cell BK308.out 0).trans rfl,(blk_cell BK308.out 1).trans rfl,(blk_cell BK308.out 2).trans rfl,(blk_cell BK308.out 3).trans rfl,hHeld.2.2.2.2.1,hHeld.2.2.2.2.2.1,hHeld.2.2.2.2.2.2.1,hHeld.2.2.2.2.2.2.2⟩ (fun hHeld=>?_)
         clear hK K
         refine norm_ (a':=?_) ?_ ?_
         rotate_left
         ·show Act.put _ (some 74) _=_
          simp only [Act.put,List.setIfInBounds_toArray,List.set_cons_zero,List.set_cons_succ,i64_w,i32_w]
          rfl
         refine pure_ (i:=23) (N:=some 12) (v:=?_) (a':=?_) #[true,true,true,true,true,true,true,true,true,true,true,true,true,true,true,true,true,true,true,true,true,true,true,true] rfl rfl (any_of HT_.out (by kernel_rfl)) (fun _ _ _ h=>h) (Or.inl ⟨by rfl,?_⟩) ?_ ?_
         rotate_left;(intro w';go_simp;with_reducible rfl);rotate_left;(simp only [Act.put,List.setIfInBounds_toArray,List.set_cons_zero,List.set_cons_succ,i64_w,i32_w];rfl)
         refine done_ (done_of HT_.out (by kernel_rfl)) ?_
         (try clear HS4_);(try clear HS5_);(try clear HS6_);(try clear HS7_);(try clear hHeld)
         try go_wp2
         go_roundg k1
         case measure=>have:=HK1.out;omega
         case rel=>exact ⟨(wrap64 (x11_1 + 1)),(by first|rfl|(simp;done)|(simp [*];done)),(by first|exact H'|(subst_vars;exact H')),⟨by have:=HK1.out;omega⟩,⟨by (with_reducible repeat (first|apply Kd.N_alloc|apply Kd.N_drewN|apply Kd.N_drew));exact Kd.N_mono HO_7.out (fun _ hk=>⟨hk.1.1.1,⟨hk.1.1.2.1,hk.1.1.2.2⟩⟩)⟩,⟨by (with_reducible repeat (first|apply Kd.R_alloc|apply Kd.R_drewN|apply Kd.R_drew));exact HO_309000.out⟩,⟨by (with_reducible repeat (first|refine blk_drewN ?_ _|refine blk_drew ?_|refine blk_alloc ?_ _));exact BK300.out⟩,⟨by (with_reducible repeat (first|refine blk_drewN ?_ _|refine blk_drew ?_|refine blk_alloc ?_ _));exact BK308.out⟩,⟨by repeat (first|(with_reducible first|exact HB.out|apply below_alloc|apply pw_below_drewN|apply below_drew1|refine below_set ?_ GE300.out|refine below_set ?_ GE308.out)|exact HB.out)⟩⟩
        ·replace c44:=Bool.eq_false_iff.mpr c44
         subst c44
         have H1 : (some false)=some r:=by rw [if_neg (show ¬ (false=true) by decide)] at H;exact H
         clear H
         have H:=H1
         clear H1
         obtain rfl:=Option.some.inj H
         try go_wp2
         have n0_:=Aside0.mk (Kd.N_drew HO_7.out)
         have n1_:=Aside0.mk (Kd.R_drew HO_309000.out)
         have n2_:=Aside0.mk (blk_drew BK300.out)
         have n3_:=Aside0.mk (blk_drew BK308.out)
         have n4_:=Aside0.mk (below_drew1 HB.out)
         clear HO_7
         clear HO_309000
         clear BK300
         clear BK308
         clear HB
         have HO_7:=n0_
         have HO_309000:=n1_
         have BK300:=n2_
         have BK308:=n3_
         have HB:=n4_
         clear n0_ n1_ n2_ n3_ n4_
         have p326 : 0≤((ji35) : Int):=of_decide_eq_true (by first|(with_reducible assumption)|assumption)
         have q326 : (ji35) < (t312.length : Int):=of_decide_eq_true (by first|(with_reducible assumption)|assumption)
         obtain ⟨ad326,A326_0,c326_0,e326,hx326_0,hl326_0,hi326_0⟩:=at_L5 (Kd.N_reads' HO_7.out).2.2 (ji35) p326 q326
         cases e326
         obtain ⟨ce326,hce326,hMe326,hcc326⟩:=Kd.N_get HO_7.out [] (ji35) p326 (by first|exact q326|exact of_decide_eq_true (by first|(with_reducible assumption)|assumption)|(have e_:=(Kd.N_reads' HO_7.out).1;omega))
         obtain ⟨ua326_0,uc326_0,rfl,ul326_0,ge326_0⟩:=Kd.FK_slice_open hMe326
         have hv326_0:=hcc326 0 _ rfl
         rw [Nat.add_zero,show ((Kd.slice 45 k45)).sz=1 from rfl,Nat.mul_one] at hv326_0
         replace hv326_0:=Option.some.inj (hv326_0.symm.trans hx326_0)
         injection hv326_0 with hva_ hvn_ hvc_
         rw [hva_] at ge326_0
         rw [hvc_] at ul326_0
         have HL326_0:=Aside0.mk (show Kd.V k45 45 _ w.heap.size _ _ (rd_L5 t312 (ji35)) from Kd.V_mk ul326_0 ge326_0)
         clear hva_ hvn_ hvc_ ge326_0 ul326_0
         clear hcc326 hce326
         have HR326_0:=Aside0.mk hi326_0
         have HC326_0:=Aside0.mk hl326_0
         clear hi326_0 hl326_0
         replace p326:=eq_true p326
         replace q326:=eq_true q326
         have p327 : 0≤(x11_1 : Int):=of_decide_eq_true (by first|(with_reducible assumption)|assumption)
         have q327 : x11_1 < (t312.length : Int):=of_decide_eq_true (by first|(with_reducible assumption)|assumption)
         obtain ⟨ad327,A327_0,c327_0,e327,hx327_0,hl327_0,hi327_0⟩:=at_L5 (Kd.N_reads' HO_7.out).2.2 x11_1 p327 q327
         obtain rfl : ad326=ad327:=(by injection e327)
         obtain ⟨ce327,hce327,hMe327,hcc327⟩:=Kd.N_get HO_7.out [] x11_1 p327 (by first|exact q327|exact of_decide_eq_true (by first|(with_reducible assumption)|assumption)|(have e_:=(Kd.N_reads' HO_7.out).1;omega))
         obtain ⟨ua327_0,uc327_0,rfl,ul327_0,ge327_0⟩:=Kd.FK_slice_open hMe327
         have hv327_0:=hcc327 0 _ rfl
         rw [Nat.add_zero,show ((Kd.slice 45 k45)).sz=1 from rfl,Nat.mul_one] at hv327_0
         replace hv327_0:=Option.some.inj (hv327_0.symm.trans hx327_0)
         injection hv327_0 with hva_ hvn_ hvc_
         rw [hva_] at ge327_0
         rw [hvc_] at ul327_0
         have HL327_0:=Aside0.mk (show Kd.V k45 45 _ w.heap.size _ _ (rd_L5 t312 x11_1) from Kd.V_mk ul327_0 ge327_0)
         clear hva_ hvn_ hvc_ ge327_0 ul327_0
         clear hcc327 hce327
         have HR327_0:=Aside0.mk hi327_0
         have HC327_0:=Aside0.mk hl327_0
         clear hi327_0 hl327_0
         replace p327:=eq_true p327
         replace q327:=eq_true q327
         refine start_ (n:=12) (S:=fun w'=>w'.cell? ⟨gb308,0,none⟩=some (.slice Ao17 t302.length co17)∧w'.cell? ⟨gb308,1,none⟩=some (.int .i64 t305)∧w'.cell? ⟨gb308,2,none⟩=some (.int .i64 t306)∧w'.cell? ⟨gb308,3,none⟩=some (.int .i64 t307)∧w'.cell? (ad326.add ((ji35)).toNat)=some (.slice A326_0 (rd_L5 t312 (ji35)).length c326_0)∧w'.cell? (ad326.add (x11_1).toNat)=some (.slice A327_0 (rd_L5 t312 x11_1).length c327_0)) (ds:=[]) #[false,false,false,false,false,false,false,false,false,false,false,false] (by kernel_rfl) rfl rfl ⟨(blk_cell BK308.out 0).trans rfl,(blk_cell BK308.out 1).trans rfl,(blk_cell BK308.out 2).trans rfl,(blk_cell BK308.out 3).trans rfl,hx326_0,hx327_0⟩ (fun hHeld=>?_);refine with_tabW thresherlaw13_FoldAll.tab10 thresherlaw13_FoldAll.bits10 (fun HT_ HW_=>?_)
         generalize wr.drew=w52 at HO_7 HO_309000 BK300 BK308 HB HL326_0 HL327_0 HR326_0 HR327_0 hx326_0 hx327_0 hHeld ⊢
         refine pure_ (i:=1) (N:=some 41) (v:=?_) (a':=?_) #[false,true,false,false,false,false,false,false,false,false,false,false] rfl rfl (any_of HT_.out (by kernel_rfl)) (fun _ _ _ h=>h) (Or.inl ⟨by rfl,?_⟩) ?_ ?_
         rotate_left;(intro w';go_simp;with_reducible rfl);rotate_left;(simp only [Act.put,List.setIfInBounds_toArray,List.set_cons_zero,List.set_cons_succ,i64_w,i32_w];rfl)
         refine pure_ (i:=2) (N:=some 42) (v:=?_) (a':=?_) #[false,true,true,false,false,false,false,false,false,false,false,false] rfl rfl (any_of HT_.out (by kernel_rfl)) (fun _ _ _ h=>h) (Or.inl ⟨by rfl,?_⟩) ?_ ?_
         rotate_left;(intro w';go_simp;with_reducible rfl);rotate_left;(simp only [Act.put,List.setIfInBounds_toArray,List.set_cons_zero,List.set_cons_succ,i64_w,i32_w];rfl)
         refine pure_ (i:=3) (N:=some 43) (v:=?_) (a':=?_) #[false,true,true,true,false,false,false,false,false,false,false,false] rfl rfl (any_of HT_.out (by kernel_rfl)) (fun _ _ _ h=>h) (Or.inl ⟨by rfl,?_⟩) ?_ ?_
         rotate_left;(intro w';go_simp;with_reducible rfl);rotate_left;(simp only [Act.put,List.setIfInBounds_toArray,List.set_cons_zero,List.set_cons_succ,i64_w,i32_w];rfl)
         refine pure_ (i:=4) (N:=some 44) (v:=?_) (a':=?_) #[false,true,true,true,true,false,false,false,false,false,false,false] rfl rfl (any_of HT_.out (by kernel_rfl)) (fun _ _ _ h=>h) (Or.inl ⟨by rfl,?_⟩) ?_ ?_
         rotate_left;(intro w';go_simp;with_reducible rfl);rotate_left;(simp only [Act.put,List.setIfInBounds_toArray,List.set_cons_zero,List.set_cons_succ,i64_w,i32_w];rfl)
         refine pure_ (i:=6) (N:=some 46) (v:=?_) (a':=?_) #[false,true,true,true,true,false,true,false,false,false,false,false] rfl rfl (any_of HT_.out (by kernel_rfl)) (fun _ _ _ h=>h) (Or.inl ⟨by rfl,?_⟩) ?_ ?_
         rotate_left;(intro w';go_simp;with_reducible rfl);rotate_left;(simp only [Act.put,List.setIfInBounds_toArray,List.set_cons_zero,List.set_cons_succ,i64_w,i32_w];rfl)
         refine pure_ (i:=7) (N:=some 47) (v:=?_) (a':=?_) #[false,true,true,true,true,false,true,true,false,false,false,false] rfl rfl (any_of HT_.out (by kernel_rfl)) (fun _ _ _ h=>h) (Or.inl ⟨by rfl,?_⟩) ?_ ?_
         rotate_left;(intro w';go_simp;with_reducible rfl);rotate_left;(simp only [Act.put,List.setIfInBounds_toArray,List.set_cons_zero,List.set_cons_succ,i64_w,i32_w];rfl)
         refine pure_ (i:=8) (N:=some 48) (v:=?_) (a':=?_) #[false,true,true,true,true,false,true,true,true,false,false,false] rfl rfl (any_of HT_.out (by kernel_rfl)) (fun _ _ _ h=>h) (Or.inl ⟨by rfl,?_⟩) ?_ ?_
         rotate_left;(intro w';go_simp;with_reducible rfl);rotate_left;(simp only [Act.put,List.setIfInBounds_toArray,List.set_cons_zero,List.set_cons_succ,i64_w,i32_w];rfl)
         refine take_ (i:=0) (N:=some 40) (v:=?_) (a':=?_) #[true,true,true,true,true,false,true,true,true,false,false,false] rfl rfl (take_ofW HT_.out HW_.out (by kernel_rfl)) (fun _ _ _ h=>h) (Or.inl ⟨by rfl,?_⟩) hHeld ?_ ?_
         rotate_left;(rintro w' ⟨s0,s1,s2,s3,s4,s5⟩;go_simp;with_reducible rfl);rotate_left;(simp only [Act.put,List.setIfInBounds_toArray,List.set_cons_zero,List.set_cons_succ,i64_w,i32_w];rfl)
         refine take_ (i:=5) (N:=some 45) (v:=?_) (a':=?_) #[true,true,true,true,true,true,true,true,true,false,false,false] rfl rfl (take_ofW HT_.out HW_.out (by kernel_rfl)) (fun _ _ _ h=>h) (Or.inl ⟨by rfl,?_⟩) hHeld ?_ ?_
         rotate_left;(rintro w' ⟨s0,s1,s2,s3,s4,s5⟩;go_simp;with_reducible rfl);rotate_left;(simp only [Act.put,List.setIfInBounds_toArray,List.set_cons_zero,List.set_cons_succ,i64_w,i32_w];rfl)
         refine take_ (i:=9) (N:=some 49) (v:=?_) (a':=?_) #[true,true,true,true,true,true,true,true,true,true,false,false] rfl rfl (take_ofW HT_.out HW_.out (by kernel_rfl)) (fun _ _ _ h=>h) (Or.inl ⟨by rfl,?_⟩) hHeld ?_ ?_
         rotate_left;(rintro w' ⟨s0,s1,s2,s3,s4,s5⟩;go_simp;with_reducible rfl);rotate_left;(simp only [Act.put,List.setIfInBounds_toArray,List.set_cons_zero,List.set_cons_succ,i64_w,i32_w];rfl)
         refine one_ (i:=10) (N:=some 50) #[true,true,true,true,true,true,true,true,true,true,true,false] rfl rfl (one_of HT_.out (by kernel_rfl)) (by decide) (fun K hK=>?_)
         refine goes_ Try.func15 (by kernel_rfl) rfl #[.agg #[.slice Ao17 t302.length co17,.int .i64 t305,.int .i64 t306,.int .i64 t307],.slice A326_0 (rd_L5 t312 (ji35)).length c326_0,.slice A327_0 (rd_L5 t312 x11_1).length c327_0] (by rfl) rfl rfl (by (try simp only [List.map_toArray,List.map_cons,List.map_nil]);first|done|(simp only [hji35];rfl)|rfl|(simp only [List.length_drop,List.length_take];rfl)) ?_
         with_reducible refine (thresherref04_Compare.calls k1 _ _ t302 t305 t306 t307 _ _ (rd_L5 t312 (ji35)) _ _ (rd_L5 t312 x11_1) t328 _ ?side1 ?side2 ?side3 ?side4 ?side5 ?side6 A39.out).mono ?_
         (case side1=>repeat (first|exact (Kd.R_reads' HO_309000.out).2.2|(with_reducible refine Kd.C_alloc ?_ _)|(with_reducible refine Kd.C_drewN ?_ _)|(with_reducible refine Kd.C_drew ?_)))
         (case side2=>exact (Kd.R_reads' HO_309000.out).2.1)
         (case side3=>repeat (first|exact (by repeat (first|(with_reducible exact HR326_0.out)|(with_reducible refine Kd.C_alloc ?_ _)|(with_reducible refine Kd.C_drewN ?_ _)|(with_reducible refine Kd.C_drew ?_)|exact HR326_0.out))|(with_reducible refine Kd.C_alloc ?_ _)|(with_reducible refine Kd.C_drewN ?_ _)|(with_reducible refine Kd.C_drew ?_)))
         (case side4=>exact HC326_0.out)
         (case side5=>repeat (first|exact (by repeat (first|(with_reducible exact HR327_0.out)|(with_reducible refine Kd.C_alloc ?_ _)|(with_reducible refine Kd.C_drewN ?_ _)|(with_reducible refine Kd.C_drew ?_)|exact HR327_0.out))|(with_reducible refine Kd.C_alloc ?_ _)|(with_reducible refine Kd.C_drewN ?_ _)|(with_reducible refine Kd.C_drew ?_)))
         (case side6=>exact HC327_0.out)
         rintro e w53 ⟨rfl,hb⟩
         have HS4_:=(hb.cell (World.block_lt_of_cell? _ _ (hHeld.2.2.2.2.1))).trans (hHeld.2.2.2.2.1)
         have HS5_:=(hb.cell (World.block_lt_of_cell? _ _ (hHeld.2.2.2.2.2))).trans (hHeld.2.2.2.2.2)
         refine ⟨_,rfl,?_⟩
         have n0_:=Aside0.mk (Kd.N_below (by (with_reducible repeat (first|apply Kd.N_alloc|apply Kd.N_drewN|apply Kd.N_drew));exact HO_7.out) hb)
         have n1_:=Aside0.mk (Kd.R_below (by (with_reducible repeat (first|apply Kd.R_alloc|apply Kd.R_drewN|apply Kd.R_drew));exact HO_309000.out) hb)
         have n2_:=Aside0.mk (Kd.V_below (by (with_reducible repeat (first|apply Kd.V_alloc|apply Kd.V_drewN|apply Kd.V_drew));exact HL326_0.out) hb)
         have n3_:=Aside0.mk (Kd.V_below (by (with_reducible repeat (first|apply Kd.V_alloc|apply Kd.V_drewN|apply Kd.V_drew));exact HL327_0.out) hb)
         have n4_:=Aside0.mk (blk_below (g:=gb300) (o:=.cells #[.int .u8 a0_0,.int .u8 a0_1,.int .u8 a0_2,.int .u8 a0_3,.int .u8 a0_4,.int .u8 a0_5,.int .u8 a0_6,.int .u8 a0_7,.int .u8 a0_8,.int .u8 a0_9,.int .u8 a0_10,.int .u8 a0_11] 24 (0,0)) (by (with_reducible repeat (first|refine blk_drewN ?_ _|refine blk_drew ?_|refine blk_alloc ?_ _));exact BK300.out) hb)
         have n5_:=Aside0.mk (blk_below (g:=gb308) (o:=.cells #[.slice Ao17 t302.length co17,.int .i64 t305,.int .i64 t306,.int .i64 t307] 29 (0,0)) (by (with_reducible repeat (first|refine blk_drewN ?_ _|refine blk_drew ?_|refine blk_alloc ?_ _));exact BK308.out) hb)
         have n6_:=Aside0.mk (Kd.C_below (by repeat (first|(with_reducible exact HR326_0.out)|(with_reducible refine Kd.C_alloc ?_ _)|(with_reducible refine Kd.C_drewN ?_ _)|(with_reducible refine Kd.C_drew ?_)|exact HR326_0.out)) hb)
         have n7_:=Aside0.mk (Kd.C_below (by repeat (first|(with_reducible exact HR327_0.out)|(with_reducible refine Kd.C_alloc ?_ _)|(with_reducible refine Kd.C_drewN ?_ _)|(with_reducible refine Kd.C_drew ?_)|exact HR327_0.out)) hb)
         have n8_:=Aside0.mk (below_step (by repeat (first|(with_reducible first|exact HB.out|apply below_alloc|apply pw_below_drewN|apply below_drew1|refine below_set ?_ GE300.out|refine below_set ?_ GE308.out)|exact HB.out)) hb)
         clear HO_7
         clear HO_309000
         clear HL326_0
         clear HL327_0
         clear BK300
         clear BK308
         clear HR326_0
         clear HR327_0
         clear HB
         have HO_7:=n0_
         have HO_309000:=n1_
         have HL326_0:=n2_
         have HL327_0:=n3_
         have BK300:=n4_
         have BK308:=n5_
         have HR326_0:=n6_
         have HR327_0:=n7_
         have HB:=n8_
         clear n0_ n1_ n2_ n3_ n4_ n5_ n6_ n7_ n8_
         (try clear hb)
         (try clear hb2)
         (try clear hk)
         (try clear hi)
         refine hK.out _ _ ⟨(blk_cell BK308.out 0).trans rfl,(blk_cell BK308.out 1).trans rfl,(blk_cell BK308.out 2).trans rfl,(blk_cell BK308.out 3).trans rfl,HS4_,HS5_⟩ (fun hHeld=>?_)
         clear hK K
         refine norm_ (a':=?_) ?_ ?_
         rotate_left
         ·show Act.put _ (some 50) _=_
          simp only [Act.put,List.setIfInBounds_toArray,List.set_cons_zero,List.set_cons_succ,i64_w,i32_w]
          rfl
         refine pure_ (i:=11) (N:=some 51) (v:=?_) (a':=?_) #[true,true,true,true,true,true,true,true,true,true,true,true] rfl rfl (any_of HT_.out (by kernel_rfl)) (fun _ _ _ h=>h) (Or.inl ⟨by rfl,?_⟩) ?_ ?_
         rotate_left;(intro w';go_simp;with_reducible rfl);rotate_left;(simp only [Act.put,List.setIfInBounds_toArray,List.set_cons_zero,List.set_cons_succ,i64_w,i32_w];rfl)
         refine done_ (done_of HT_.out (by kernel_rfl)) ?_
         (try clear HS4_);(try clear HS5_);(try clear hHeld)
         try go_wp2
         have n0_:=Aside0.mk (Kd.N_drew HO_7.out)
         have n1_:=Aside0.mk (Kd.R_drew HO_309000.out)
         have n2_:=Aside0.mk (Kd.V_drew HL326_0.out)
         have n3_:=Aside0.mk (Kd.V_drew HL327_0.out)
         have n4_:=Aside0.mk (blk_drew BK300.out)
         have n5_:=Aside0.mk (blk_drew BK308.out)
         have n6_:=Aside0.mk (Kd.C_drew HR326_0.out)
         have n7_:=Aside0.mk (Kd.C_drew HR327_0.out)
         have n8_:=Aside0.mk (below_drew1 HB.out)
         clear HO_7
         clear HO_309000
         clear HL326_0
         clear HL327_0
         clear BK300
         clear BK308
         clear HR326_0
         clear HR327_0
         clear HB
         have HO_7:=n0_
         have HO_309000:=n1_
         have HL326_0:=n2_
         have HL327_0:=n3_
         have BK300:=n4_
         have BK308:=n5_
         have HR326_0:=n6_
         have HR327_0:=n7_
         have HB:=n8_
         clear n0_ n1_ n2_ n3_ n4_ n5_ n6_ n7_ n8_
         have p329 : 0≤((ji35) : Int):=of_decide_eq_true (by first|(with_reducible assumption)|assumption)
         have q329 : (ji35) < (t312.length : Int):=of_decide_eq_true (by first|(with_reducible assumption)|assumption)
         obtain ⟨ad329,A329_0,c329_0,e329,hx329_0,hl329_0,hi329_0⟩:=at_L5 (Kd.N_reads' HO_7.out).2.2 (ji35) p329 q329
         obtain rfl : ad326=ad329:=(by injection e329)
         obtain ⟨ce329,hce329,hMe329,hcc329⟩:=Kd.N_get HO_7.out [] (ji35) p329 (by first|exact q329|exact of_decide_eq_true (by first|(with_reducible assumption)|assumption)|(have e_:=(Kd.N_reads' HO_7.out).1;omega))
         obtain ⟨ua329_0,uc329_0,rfl,ul329_0,ge329_0⟩:=Kd.FK_slice_open hMe329
         have hv329_0:=hcc329 0 _ rfl
         rw [Nat.add_zero,show ((Kd.slice 45 k45)).sz=1 from rfl,Nat.mul_one] at hv329_0
         replace hv329_0:=Option.some.inj (hv329_0.symm.trans hx329_0)
         injection hv329_0 with hva_ hvn_ hvc_
         rw [hva_] at ge329_0
         rw [hvc_] at ul329_0
         have HL329_0:=Aside0.mk (show Kd.V k45 45 _ w.heap.size _ _ (rd_L5 t312 (ji35)) from Kd.V_mk ul329_0 ge329_0)
         clear hva_ hvn_ hvc_ ge329_0 ul329_0
         clear hcc329 hce329
         have HR329_0:=Aside0.mk hi329_0
         have HC329_0:=Aside0.mk hl329_0
         clear hi329_0 hl329_0
         replace p329:=eq_true p329
         replace q329:=eq_true q329
         have p330 : 0≤(x11_1 : Int):=of_decide_eq_true (by first|(with_reducible assumption)|assumption)
         have q330 : x11_1 < (t312.length : Int):=of_decide_eq_true (by first|(with_reducible assumption)|assumption)
         obtain ⟨ad330,A330_0,c330_0,e330,hx330_0,hl330_0,hi330_0⟩:=at_L5 (Kd.N_reads' HO_7.out).2.2 x11_1 p330 q330
         obtain rfl : ad326=ad330:=(by injection e330)
         obtain ⟨ce330,hce330,hMe330,hcc330⟩:=Kd.N_get HO_7.out [] x11_1 p330 (by first|exact q330|exact of_decide_eq_true (by first|(with_reducible assumption)|assumption)|(have e_:=(Kd.N_reads' HO_7.out).1;omega))
         obtain ⟨ua330_0,uc330_0,rfl,ul330_0,ge330_0⟩:=Kd.FK_slice_open hMe330
         have hv330_0:=hcc330 0 _ rfl
         rw [Nat.add_zero,show ((Kd.slice 45 k45)).sz=1 from rfl,Nat.mul_one] at hv330_0
         replace hv330_0:=Option.some.inj (hv330_0.symm.trans hx330_0)
         injection hv330_0 with hva_ hvn_ hvc_
         rw [hva_] at ge330_0
         rw [hvc_] at ul330_0
         have HL330_0:=Aside0.mk (show Kd.V k45 45 _ w.heap.size _ _ (rd_L5 t312 x11_1) from Kd.V_mk ul330_0 ge330_0)
         clear hva_ hvn_ hvc_ ge330_0 ul330_0
         clear hcc330 hce330
         have HR330_0:=Aside0.mk hi330_0
         have HC330_0:=Aside0.mk hl330_0
         clear hi330_0 hl330_0
         replace p330:=eq_true p330
         replace q330:=eq_true q330
         have p334 : 0≤((ji35) : Int):=of_decide_eq_true (by first|(with_reducible assumption)|assumption)
         have q334 : (ji35) < (t312.length : Int):=of_decide_eq_true (by first|(with_reducible assumption)|assumption)
         obtain ⟨ad334,A334_0,c334_0,e334,hx334_0,hl334_0,hi334_0⟩:=at_L5 (Kd.N_reads' HO_7.out).2.2 (ji35) p334 q334
         obtain rfl : ad326=ad334:=(by injection e334)
         obtain ⟨ce334,hce334,hMe334,hcc334⟩:=Kd.N_get HO_7.out [] (ji35) p334 (by first|exact q334|exact of_decide_eq_true (by first|(with_reducible assumption)|assumption)|(have e_:=(Kd.N_reads' HO_7.out).1;omega))
         obtain ⟨ua334_0,uc334_0,rfl,ul334_0,ge334_0⟩:=Kd.FK_slice_open hMe334
         have hv334_0:=hcc334 0 _ rfl
         rw [Nat.add_zero,show ((Kd.slice 45 k45)).sz=1 from rfl,Nat.mul_one] at hv334_0
         replace hv334_0:=Option.some.inj (hv334_0.symm.trans hx334_0)
         injection hv334_0 with hva_ hvn_ hvc_
         rw [hva_] at ge334_0
         rw [hvc_] at ul334_0
         have HL334_0:=Aside0.mk (show Kd.V k45 45 _ w.heap.size _ _ (rd_L5 t312 (ji35)) from Kd.V_mk ul334_0 ge334_0)
         clear hva_ hvn_ hvc_ ge334_0 ul334_0
         clear hcc334 hce334
         have HR334_0:=Aside0.mk hi334_0
         have HC334_0:=Aside0.mk hl334_0
         clear hi334_0 hl334_0
         replace p334:=eq_true p334
         replace q334:=eq_true q334
         have ea_:=Option.some.inj (hx329_0.symm.trans hx334_0)
         injection ea_ with ea_ en_ ec_
         subst ea_
         subst ec_
         clear en_
         have p335 : 0≤(x11_1 : Int):=of_decide_eq_true (by first|(with_reducible assumption)|assumption)
         have q335 : x11_1 < (t312.length : Int):=of_decide_eq_true (by first|(with_reducible assumption)|assumption)
         obtain ⟨ad335,A335_0,c335_0,e335,hx335_0,hl335_0,hi335_0⟩:=at_L5 (Kd.N_reads' HO_7.out).2.2 x11_1 p335 q335
         obtain rfl : ad326=ad335:=(by injection e335)
         obtain ⟨ce335,hce335,hMe335,hcc335⟩:=Kd.N_get HO_7.out [] x11_1 p335 (by first|exact q335|exact of_decide_eq_true (by first|(with_reducible assumption)|assumption)|(have e_:=(Kd.N_reads' HO_7.out).1;omega))
         obtain ⟨ua335_0,uc335_0,rfl,ul335_0,ge335_0⟩:=Kd.FK_slice_open hMe335
         have hv335_0:=hcc335 0 _ rfl
         rw [Nat.add_zero,show ((Kd.slice 45 k45)).sz=1 from rfl,Nat.mul_one] at hv335_0
         replace hv335_0:=Option.some.inj (hv335_0.symm.trans hx335_0)
         injection hv335_0 with hva_ hvn_ hvc_
         rw [hva_] at ge335_0
         rw [hvc_] at ul335_0
         have HL335_0:=Aside0.mk (show Kd.V k45 45 _ w.heap.size _ _ (rd_L5 t312 x11_1) from Kd.V_mk ul335_0 ge335_0)
         clear hva_ hvn_ hvc_ ge335_0 ul335_0
         clear hcc335 hce335
         have HR335_0:=Aside0.mk hi335_0
         have HC335_0:=Aside0.mk hl335_0
         clear hi335_0 hl335_0
         replace p335:=eq_true p335
         replace q335:=eq_true q335
         have ea_:=Option.some.inj (hx330_0.symm.trans hx335_0)
         injection ea_ with ea_ en_ ec_
         subst ea_
         subst ec_
         clear en_
         refine start_ (n:=24) (S:=fun w'=>w'.cell? ⟨gb308,0,none⟩=some (.slice Ao17 t302.length co17)∧w'.cell? ⟨gb308,1,none⟩=some (.int .i64 t305)∧w'.cell? ⟨gb308,2,none⟩=some (.int .i64 t306)∧w'.cell? ⟨gb308,3,none⟩=some (.int .i64 t307)∧w'.cell? (ad326.add ((ji35)).toNat)=some (.slice A329_0 (rd_L5 t312 (ji35)).length c329_0)∧w'.cell? (ad326.add (x11_1).toNat)=some (.slice A330_0 (rd_L5 t312 x11_1).length c330_0)∧w'.cell? (ad326.add ((ji35)).toNat)=some (.slice A329_0 (rd_L5 t312 (ji35)).length c329_0)∧w'.cell? (ad326.add (x11_1).toNat)=some (.slice A330_0 (rd_L5 t312 x11_1).length c330_0)) (ds:=[]) #[false,false,false,false,false,false,false,false,false,false,false,false,false,false,false,false,false,false,false,false,false,false,false,false] (by kernel_rfl) rfl rfl ⟨(blk_cell BK308.out 0).trans rfl,(blk_cell BK308.out 1).trans rfl,(blk_cell BK308.out 2).trans rfl,(blk_cell BK308.out 3).trans rfl,hx329_0,hx330_0,hx334_0,hx335_0⟩ (fun hHeld=>?_);refine with_tabW thresherlaw13_FoldAll.tab11 thresherlaw13_FoldAll.bits11 (fun HT_ HW_=>?_)
         generalize w53.drew=w54 at HO_7 HO_309000 HL326_0 HL327_0 BK300 BK308 HR326_0 HR327_0 HB HL329_0 HL330_0 HL334_0 HL335_0 HR329_0 HR330_0 HR334_0 HR335_0 hx329_0 hx330_0 hx334_0 hx335_0 hHeld ⊢
         refine pure_ (i:=1) (N:=some 53) (v:=?_) (a':=?_) #[false,true,false,false,false,false,false,false,false,false,false,false,false,false,false,false,false,false,false,false,false,false,false,false] rfl rfl (any_of HT_.out (by kernel_rfl)) (fun _ _ _ h=>h) (Or.inl ⟨by rfl,?_⟩) ?_ ?_
         rotate_left;(intro w';go_simp;with_reducible rfl);rotate_left;(simp only [Act.put,List.setIfInBounds_toArray,List.set_cons_zero,List.set_cons_succ,i64_w,i32_w];rfl)
         refine pure_ (i:=2) (N:=some 54) (v:=?_) (a':=?_) #[false,true,true,false,false,false,false,false,false,false,false,false,false,false,false,false,false,false,false,false,false,false,false,false] rfl rfl (any_of HT_.out (by kernel_rfl)) (fun _ _ _ h=>h) (Or.inl ⟨by rfl,?_⟩) ?_ ?_
         rotate_left;(intro w';go_simp;with_reducible rfl);rotate_left;(simp only [Act.put,List.setIfInBounds_toArray,List.set_cons_zero,List.set_cons_succ,i64_w,i32_w];rfl)
         refine pure_ (i:=3) (N:=some 55) (v:=?_) (a':=?_) #[false,true,true,true,false,false,false,false,false,false,false,false,false,false,false,false,false,false,false,false,false,false,false,false] rfl rfl (any_of HT_.out (by kernel_rfl)) (fun _ _ _ h=>h) (Or.inl ⟨by rfl,?_⟩) ?_ ?_
         rotate_left;(intro w';go_simp;with_reducible rfl);rotate_left;(simp only [Act.put,List.setIfInBounds_toArray,List.set_cons_zero,List.set_cons_succ,i64_w,i32_w];rfl)
         refine pure_ (i:=4) (N:=some 56) (v:=?_) (a':=?_) #[false,true,true,true,true,false,false,false,false,false,false,false,false,false,false,false,false,false,false,false,false,false,false,false] rfl rfl (any_of HT_.out (by kernel_rfl)) (fun _ _ _ h=>h) (Or.inl ⟨by rfl,?_⟩) ?_ ?_
         rotate_left;(intro w';go_simp;with_reducible rfl);rotate_left;(simp only [Act.put,List.setIfInBounds_toArray,List.set_cons_zero,List.set_cons_succ,i64_w,i32_w];rfl)
         refine pure_ (i:=6) (N:=some 58) (v:=?_) (a':=?_) #[false,true,true,true,true,false,true,false,false,false,false,false,false,false,false,false,false,false,false,false,false,false,false,false] rfl rfl (any_of HT_.out (by kernel_rfl)) (fun _ _ _ h=>h) (Or.inl ⟨by rfl,?_⟩) ?_ ?_
         rotate_left;(intro w';go_simp;with_reducible rfl);rotate_left;(simp only [Act.put,List.setIfInBounds_toArray,List.set_cons_zero,List.set_cons_succ,i64_w,i32_w];rfl)
         refine pure_ (i:=7) (N:=some 59) (v:=?_) (a':=?_) #[false,true,true,true,true,false,true,true,false,false,false,false,false,false,false,false,false,false,false,false,false,false,false,false] rfl rfl (any_of HT_.out (by kernel_rfl)) (fun _ _ _ h=>h) (Or.inl ⟨by rfl,?_⟩) ?_ ?_
         rotate_left;(intro w';go_simp;with_reducible rfl);rotate_left;(simp only [Act.put,List.setIfInBounds_toArray,List.set_cons_zero,List.set_cons_succ,i64_w,i32_w];rfl)
         refine pure_ (i:=8) (N:=some 60) (v:=?_) (a':=?_) #[false,true,true,true,true,false,true,true,true,false,false,false,false,false,false,false,false,false,false,false,false,false,false,false] rfl rfl (any_of HT_.out (by kernel_rfl)) (fun _ _ _ h=>h) (Or.inl ⟨by rfl,?_⟩) ?_ ?_
         rotate_left;(intro w';go_simp;with_reducible rfl);rotate_left;(simp only [Act.put,List.setIfInBounds_toArray,List.set_cons_zero,List.set_cons_succ,i64_w,i32_w];rfl)
         refine pure_ (i:=12) (N:=some 64) (v:=?_) (a':=?_) #[false,true,true,true,true,false,true,true,true,false,false,false,true,false,false,false,false,false,false,false,false,false,false,false] rfl rfl (any_of HT_.out (by kernel_rfl)) (fun _ _ _ h=>h) (Or.inl ⟨by rfl,?_⟩) ?_ ?_
         rotate_left;(intro w';go_simp;with_reducible rfl);rotate_left;(simp only [Act.put,List.setIfInBounds_toArray,List.set_cons_zero,List.set_cons_succ,i64_w,i32_w];rfl)
         refine pure_ (i:=13) (N:=some 65) (v:=?_) (a':=?_) #[false,true,true,true,true,false,true,true,true,false,false,false,true,true,false,false,false,false,false,false,false,false,false,false] rfl rfl (any_of HT_.out (by kernel_rfl)) (fun _ _ _ h=>h) (Or.inl ⟨by rfl,?_⟩) ?_ ?_
         rotate_left;(intro w';go_simp;with_reducible rfl);rotate_left;(simp only [Act.put,List.setIfInBounds_toArray,List.set_cons_zero,List.set_cons_succ,i64_w,i32_w];rfl)
         refine pure_ (i:=14) (N:=some 66) (v:=?_) (a':=?_) #[false,true,true,true,true,false,true,true,true,false,false,false,true,true,true,false,false,false,false,false,false,false,false,false] rfl rfl (any_of HT_.out (by kernel_rfl)) (fun _ _ _ h=>h) (Or.inl ⟨by rfl,?_⟩) ?_ ?_
         rotate_left;(intro w';go_simp;with_reducible rfl);rotate_left;(simp only [Act.put,List.setIfInBounds_toArray,List.set_cons_zero,List.set_cons_succ,i64_w,i32_w];rfl)
         refine pure_ (i:=15) (N:=some 67) (v:=?_) (a':=?_) #[false,true,true,true,true,false,true,true,true,false,false,false,true,true,true,true,false,false,false,false,false,false,false,false] rfl rfl (any_of HT_.out (by kernel_rfl)) (fun _ _ _ h=>h) (Or.inl ⟨by rfl,?_⟩) ?_ ?_
         rotate_left;(intro w';go_simp;with_reducible rfl);rotate_left;(simp only [Act.put,List.setIfInBounds_toArray,List.set_cons_zero,List.set_cons_succ,i64_w,i32_w];rfl)
         refine pure_ (i:=17) (N:=some 69) (v:=?_) (a':=?_) #[false,true,true,true,true,false,true,true,true,false,false,false,true,true,true,true,false,true,false,false,false,false,false,false] rfl rfl (any_of HT_.out (by kernel_rfl)) (fun _ _ _ h=>h) (Or.inl ⟨by rfl,?_⟩) ?_ ?_
         rotate_left;(intro w';go_simp;with_reducible rfl);rotate_left;(simp only [Act.put,List.setIfInBounds_toArray,List.set_cons_zero,List.set_cons_succ,i64_w,i32_w];rfl)
         refine pure_ (i:=18) (N:=some 70) (v:=?_) (a':=?_) #[false,true,true,true,true,false,true,true,true,false,false,false,true,true,true,true,false,true,true,false,false,false,false,false] rfl rfl (any_of HT_.out (by kernel_rfl)) (fun _ _ _ h=>h) (Or.inl ⟨by rfl,?_⟩) ?_ ?_
         rotate_left;(intro w';go_simp;with_reducible rfl);rotate_left;(simp only [Act.put,List.setIfInBounds_toArray,List.set_cons_zero,List.set_cons_succ,i64_w,i32_w];rfl)
         refine pure_ (i:=19) (N:=some 71) (v:=?_) (a':=?_) #[false,true,true,true,true,false,true,true,true,false,false,false,true,true,true,true,false,true,true,true,false,false,false,false] rfl rfl (any_of HT_.out (by kernel_rfl)) (fun _ _ _ h=>h) (Or.inl ⟨by rfl,?_⟩) ?_ ?_
         rotate_left;(intro w';go_simp;with_reducible rfl);rotate_left;(simp only [Act.put,List.setIfInBounds_toArray,List.set_cons_zero,List.set_cons_succ,i64_w,i32_w];rfl)
         refine take_ (i:=0) (N:=some 52) (v:=?_) (a':=?_) #[true,true,true,true,true,false,true,true,true,false,false,false,true,true,true,true,false,true,true,true,false,false,false,false] rfl rfl (take_ofW HT_.out HW_.out (by kernel_rfl)) (fun _ _ _ h=>h) (Or.inl ⟨by rfl,?_⟩) hHeld ?_ ?_
         rotate_left;(rintro w' ⟨s0,s1,s2,s3,s4,s5,s6,s7⟩;go_simp;with_reducible rfl);rotate_left;(simp only [Act.put,List.setIfInBounds_toArray,List.set_cons_zero,List.set_cons_succ,i64_w,i32_w];rfl)
         refine take_ (i:=5) (N:=some 57) (v:=?_) (a':=?_) #[true,true,true,true,true,true,true,true,true,false,false,false,true,true,true,true,false,true,true,true,false,false,false,false] rfl rfl (take_ofW HT_.out HW_.out (by kernel_rfl)) (fun _ _ _ h=>h) (Or.inl ⟨by rfl,?_⟩) hHeld ?_ ?_
         rotate_left;(rintro w' ⟨s0,s1,s2,s3,s4,s5,s6,s7⟩;go_simp;with_reducible rfl);rotate_left;(simp only [Act.put,List.setIfInBounds_toArray,List.set_cons_zero,List.set_cons_succ,i64_w,i32_w];rfl)
         refine take_ (i:=9) (N:=some 61) (v:=?_) (a':=?_) #[true,true,true,true,true,true,true,true,true,true,false,false,true,true,true,true,false,true,true,true,false,false,false,false] rfl rfl (take_ofW HT_.out HW_.out (by kernel_rfl)) (fun _ _ _ h=>h) (Or.inl ⟨by rfl,?_⟩) hHeld ?_ ?_
         rotate_left;(rintro w' ⟨s0,s1,s2,s3,s4,s5,s6,s7⟩;go_simp;with_reducible rfl);rotate_left;(simp only [Act.put,List.setIfInBounds_toArray,List.set_cons_zero,List.set_cons_succ,i64_w,i32_w];rfl)
         refine take_ (i:=11) (N:=some 63) (v:=?_) (a':=?_) #[true,true,true,true,true,true,true,true,true,true,false,true,true,true,true,true,false,true,true,true,false,false,false,false] rfl rfl (take_ofW HT_.out HW_.out (by kernel_rfl)) (fun _ _ _ h=>h) (Or.inl ⟨by rfl,?_⟩) hHeld ?_ ?_
         rotate_left;(rintro w' ⟨s0,s1,s2,s3,s4,s5,s6,s7⟩;go_simp;with_reducible rfl);rotate_left;(simp only [Act.put,List.setIfInBounds_toArray,List.set_cons_zero,List.set_cons_succ,i64_w,i32_w];rfl)
         refine take_ (i:=16) (N:=some 68) (v:=?_) (a':=?_) #[true,true,true,true,true,true,true,true,true,true,false,true,true,true,true,true,true,true,true,true,false,false,false,false] rfl rfl (take_ofW HT_.out HW_.out (by kernel_rfl)) (fun _ _ _ h=>h) (Or.inl ⟨by rfl,?_⟩) hHeld ?_ ?_
         rotate_left;(rintro w' ⟨s0,s1,s2,s3,s4,s5,s6,s7⟩;go_simp;with_reducible rfl);rotate_left;(simp only [Act.put,List.setIfInBounds_toArray,List.set_cons_zero,List.set_cons_succ,i64_w,i32_w];rfl)
         refine take_ (i:=20) (N:=some 72) (v:=?_) (a':=?_) #[true,true,true,true,true,true,true,true,true,true,false,true,true,true,true,true,true,true,true,true,true,false,false,false] rfl rfl (take_ofW HT_.out HW_.out (by kernel_rfl)) (fun _ _ _ h=>h) (Or.inl ⟨by rfl,?_⟩) hHeld ?_ ?_
         rotate_left;(rintro w' ⟨s0,s1,s2,s3,s4,s5,s6,s7⟩;go_simp;with_reducible rfl);rotate_left;(simp only [Act.put,List.setIfInBounds_toArray,List.set_cons_zero,List.set_cons_succ,i64_w,i32_w];rfl)
         refine one_ (i:=10) (N:=some 62) #[true,true,true,true,true,true,true,true,true,true,true,true,true,true,true,true,true,true,true,true,true,false,false,false] rfl rfl (one_of HT_.out (by kernel_rfl)) (by decide) (fun K hK=>?_)
         refine goes_ Try.func17 (by kernel_rfl) rfl #[.agg #[.slice Ao17 t302.length co17,.int .i64 t305,.int .i64 t306,.int .i64 t307],.slice A329_0 (rd_L5 t312 (ji35)).length c329_0,.slice A330_0 (rd_L5 t312 x11_1).length c330_0] (by rfl) rfl rfl (by (try simp only [List.map_toArray,List.map_cons,List.map_nil]);first|done|(simp only [hji35];rfl)|rfl|(simp only [List.length_drop,List.length_take];rfl)) ?_
         with_reducible refine (fold_One.calls k1 _ _ t302 t305 t306 t307 _ _ (rd_L5 t312 (ji35)) _ _ (rd_L5 t312 x11_1) t331 _ ?side1 ?side2 ?side3 ?side4 ?side5 ?side6 A41.out).mono ?_
         (case side1=>repeat (first|exact (Kd.R_reads' HO_309000.out).2.2|(with_reducible refine Kd.C_alloc ?_ _)|(with_reducible refine Kd.C_drewN ?_ _)|(with_reducible refine Kd.C_drew ?_)))
         (case side2=>exact (Kd.R_reads' HO_309000.out).2.1)
         (case side3=>repeat (first|exact (by repeat (first|(with_reducible exact HR329_0.out)|(with_reducible refine Kd.C_alloc ?_ _)|(with_reducible refine Kd.C_drewN ?_ _)|(with_reducible refine Kd.C_drew ?_)|exact HR329_0.out))|(with_reducible refine Kd.C_alloc ?_ _)|(with_reducible refine Kd.C_drewN ?_ _)|(with_reducible refine Kd.C_drew ?_)))
         (case side4=>exact HC329_0.out)
         (case side5=>repeat (first|exact (by repeat (first|(with_reducible exact HR330_0.out)|(with_reducible refine Kd.C_alloc ?_ _)|(with_reducible refine Kd.C_drewN ?_ _)|(with_reducible refine Kd.C_drew ?_)|exact HR330_0.out))|(with_reducible refine Kd.C_alloc ?_ _)|(with_reducible refine Kd.C_drewN ?_ _)|(with_reducible refine Kd.C_drew ?_)))
         (case side6=>exact HC330_0.out)
         rintro e w55 ⟨v332,rfl,ho0,hb⟩
         have HS4_:=(hb.cell (World.block_lt_of_cell? _ _ (hHeld.2.2.2.2.1))).trans (hHeld.2.2.2.2.1)
         have HS5_:=(hb.cell (World.block_lt_of_cell? _ _ (hHeld.2.2.2.2.2.1))).trans (hHeld.2.2.2.2.2.1)
         have HS6_:=(hb.cell (World.block_lt_of_cell? _ _ (hHeld.2.2.2.2.2.2.1))).trans (hHeld.2.2.2.2.2.2.1)
         have HS7_:=(hb.cell (World.block_lt_of_cell? _ _ (hHeld.2.2.2.2.2.2.2))).trans (hHeld.2.2.2.2.2.2.2)
         refine ⟨_,rfl,?_⟩
         have n0_:=Aside0.mk (Kd.N_elder' (by (with_reducible repeat (first|apply Kd.N_alloc|apply Kd.N_drewN|apply Kd.N_drew));exact HO_7.out) (Kd.R_base ho0) hb)
         have n1_:=Aside0.mk (Kd.R_below (by (with_reducible repeat (first|apply Kd.R_alloc|apply Kd.R_drewN|apply Kd.R_drew));exact HO_309000.out) hb)
         have n2_:=Aside0.mk (Kd.V_elder' (by (with_reducible repeat (first|apply Kd.V_alloc|apply Kd.V_drewN|apply Kd.V_drew));exact HL326_0.out) (Kd.R_base ho0) hb)
         have n3_:=Aside0.mk (Kd.V_elder' (by (with_reducible repeat (first|apply Kd.V_alloc|apply Kd.V_drewN|apply Kd.V_drew));exact HL327_0.out) (Kd.R_base ho0) hb)
         have n4_:=Aside0.mk (Kd.V_elder' (by (with_reducible repeat (first|apply Kd.V_alloc|apply Kd.V_drewN|apply Kd.V_drew));exact HL329_0.out) (Kd.R_base ho0) hb)
         have n5_:=Aside0.mk (Kd.V_elder' (by (with_reducible repeat (first|apply Kd.V_alloc|apply Kd.V_drewN|apply Kd.V_drew));exact HL330_0.out) (Kd.R_base ho0) hb)
         have n6_:=Aside0.mk (Kd.V_elder' (by (with_reducible repeat (first|apply Kd.V_alloc|apply Kd.V_drewN|apply Kd.V_drew));exact HL334_0.out) (Kd.R_base ho0) hb)
         have n7_:=Aside0.mk (Kd.V_elder' (by (with_reducible repeat (first|apply Kd.V_alloc|apply Kd.V_drewN|apply Kd.V_drew));exact HL335_0.out) (Kd.R_base ho0) hb)
         have n8_:=Aside0.mk (Kd.R_lower ho0 (below_size (by repeat (first|(with_reducible first|exact HB.out|apply below_alloc|apply pw_below_drewN|apply below_drew1|refine below_set ?_ GE300.out|refine below_set ?_ GE308.out)|exact HB.out))))
         have n9_:=Aside0.mk (blk_below (g:=gb300) (o:=.cells #[.int .u8 a0_0,.int .u8 a0_1,.int .u8 a0_2,.int .u8 a0_3,.int .u8 a0_4,.int .u8 a0_5,.int .u8 a0_6,.int .u8 a0_7,.int .u8 a0_8,.int .u8 a0_9,.int .u8 a0_10,.int .u8 a0_11] 24 (0,0)) (by (with_reducible repeat (first|refine blk_drewN ?_ _|refine blk_drew ?_|refine blk_alloc ?_ _));exact BK300.out) hb)
         have n10_:=Aside0.mk (blk_below (g:=gb308) (o:=.cells #[.slice Ao17 t302.length co17,.int .i64 t305,.int .i64 t306,.int .i64 t307] 29 (0,0)) (by (with_reducible repeat (first|refine blk_drewN ?_ _|refine blk_drew ?_|refine blk_alloc ?_ _));exact BK308.out) hb)
         have n11_:=Aside0.mk (Kd.C_below (by repeat (first|(with_reducible exact HR326_0.out)|(with_reducible refine Kd.C_alloc ?_ _)|(with_reducible refine Kd.C_drewN ?_ _)|(with_reducible refine Kd.C_drew ?_)|exact HR326_0.out)) hb)
         have n12_:=Aside0.mk (Kd.C_below (by repeat (first|(with_reducible exact HR327_0.out)|(with_reducible refine Kd.C_alloc ?_ _)|(with_reducible refine Kd.C_drewN ?_ _)|(with_reducible refine Kd.C_drew ?_)|exact HR327_0.out)) hb)
         have n13_:=Aside0.mk (Kd.C_below (by repeat (first|(with_reducible exact HR329_0.out)|(with_reducible refine Kd.C_alloc ?_ _)|(with_reducible refine Kd.C_drewN ?_ _)|(with_reducible refine Kd.C_drew ?_)|exact HR329_0.out)) hb)
         have n14_:=Aside0.mk (Kd.C_below (by repeat (first|(with_reducible exact HR330_0.out)|(with_reducible refine Kd.C_alloc ?_ _)|(with_reducible refine Kd.C_drewN ?_ _)|(with_reducible refine Kd.C_drew ?_)|exact HR330_0.out)) hb)
         have n15_:=Aside0.mk (Kd.C_below (by repeat (first|(with_reducible exact HR334_0.out)|(with_reducible refine Kd.C_alloc ?_ _)|(with_reducible refine Kd.C_drewN ?_ _)|(with_reducible refine Kd.C_drew ?_)|exact HR334_0.out)) hb)
         have n16_:=Aside0.mk (Kd.C_below (by repeat (first|(with_reducible exact HR335_0.out)|(with_reducible refine Kd.C_alloc ?_ _)|(with_reducible refine Kd.C_drewN ?_ _)|(with_reducible refine Kd.C_drew ?_)|exact HR335_0.out)) hb)
         have n17_:=Aside0.mk (below_step (by repeat (first|(with_reducible first|exact HB.out|apply below_alloc|apply pw_below_drewN|apply below_drew1|refine below_set ?_ GE300.out|refine below_set ?_ GE308.out)|exact HB.out)) hb)
         clear HO_7
         clear HO_309000
         clear HL326_0
         clear HL327_0
         clear HL329_0
         clear HL330_0
         clear HL334_0
         clear HL335_0
         clear BK300
         clear BK308
         clear HR326_0
         clear HR327_0
         clear HR329_0
         clear HR330_0
         clear HR334_0
         clear HR335_0
         clear HB
         have HO_7:=n0_
         have HO_309000:=n1_
         have HL326_0:=n2_
         have HL327_0:=n3_
         have HL329_0:=n4_
         have HL330_0:=n5_
         have HL334_0:=n6_
         have HL335_0:=n7_
         have HO333:=n8_
         have BK300:=n9_
         have BK308:=n10_
         have HR326_0:=n11_
         have HR327_0:=n12_
         have HR329_0:=n13_
         have HR330_0:=n14_
         have HR334_0:=n15_
         have HR335_0:=n16_
         have HB:=n17_
         clear n0_ n1_ n2_ n3_ n4_ n5_ n6_ n7_ n8_ n9_ n10_ n11_ n12_ n13_ n14_ n15_ n16_ n17_
         (try clear hb)
         (try clear hb2)
         (try clear hk)
         (try clear hi)
         (try clear ho0)
         refine hK.out _ _ ⟨(blk_cell BK308.out 0).trans rfl,(blk_cell BK308.out 1).trans rfl,(blk_cell BK308.out 2).trans rfl,(blk_cell BK308.out 3).trans rfl,HS4_,HS5_,HS6_,HS7_⟩ (fun hHeld=>?_)
         clear hK K
         refine norm_ (a':=?_) ?_ ?_
         rotate_left
         ·show Act.put _ (some 62) _=_
          simp only [Act.put,List.setIfInBounds_toArray,List.set_cons_zero,List.set_cons_succ,i64_w,i32_w]
          rfl
         refine one_ (i:=21) (N:=some 73) #[true,true,true,true,true,true,true,true,true,true,true,true,true,true,true,true,true,true,true,true,true,true,false,false] rfl rfl (one_of HT_.out (by kernel_rfl)) (by decide) (fun K hK=>?_)
         refine goes_ Try.func18 (by kernel_rfl) rfl #[.agg #[.slice Ao17 t302.length co17,.int .i64 t305,.int .i64 t306,.int .i64 t307],.slice A329_0 (rd_L5 t312 (ji35)).length c329_0,.slice A330_0 (rd_L5 t312 x11_1).length c330_0] (by rfl) rfl rfl (by (try simp only [List.map_toArray,List.map_cons,List.map_nil]);first|done|(simp only [hji35];rfl)|rfl|(simp only [List.length_drop,List.length_take];rfl)) ?_
         with_reducible refine (thresherref13_One.calls k1 _ _ t302 t305 t306 t307 _ _ (rd_L5 t312 (ji35)) _ _ (rd_L5 t312 x11_1) t336 _ ?side1 ?side2 ?side3 ?side4 ?side5 ?side6 A42.out).mono ?_
         (case side1=>repeat (first|exact (Kd.R_reads' HO_309000.out).2.2|(with_reducible refine Kd.C_alloc ?_ _)|(with_reducible refine Kd.C_drewN ?_ _)|(with_reducible refine Kd.C_drew ?_)))
         (case side2=>exact (Kd.R_reads' HO_309000.out).2.1)
         (case side3=>repeat (first|exact (by repeat (first|(with_reducible exact HR334_0.out)|(with_reducible refine Kd.C_alloc ?_ _)|(with_reducible refine Kd.C_drewN ?_ _)|(with_reducible refine Kd.C_drew ?_)|exact HR334_0.out))|(with_reducible refine Kd.C_alloc ?_ _)|(with_reducible refine Kd.C_drewN ?_ _)|(with_reducible refine Kd.C_drew ?_)))
         (case side4=>exact HC334_0.out)
         (case side5=>repeat (first|exact (by repeat (first|(with_reducible exact HR335_0.out)|(with_reducible refine Kd.C_alloc ?_ _)|(with_reducible refine Kd.C_drewN ?_ _)|(with_reducible refine Kd.C_drew ?_)|exact HR335_0.out))|(with_reducible refine Kd.C_alloc ?_ _)|(with_reducible refine Kd.C_drewN ?_ _)|(with_reducible refine Kd.C_drew ?_)))
         (case side6=>exact HC335_0.out)
         rintro e w56 ⟨v337,rfl,ho0,hb⟩
         have HS4_:=(hb.cell (World.block_lt_of_cell? _ _ (hHeld.2.2.2.2.1))).trans (hHeld.2.2.2.2.1)
         have HS5_:=(hb.cell (World.block_lt_of_cell? _ _ (hHeld.2.2.2.2.2.1))).trans (hHeld.2.2.2.2.2.1)
         have HS6_:=(hb.cell (World.block_lt_of_cell? _ _ (hHeld.2.2.2.2.2.2.1))).trans (hHeld.2.2.2.2.2.2.1)
         have HS7_:=(hb.cell (World.block_lt_of_cell? _ _ (hHeld.2.2.2.2.2.2.2))).trans (hHeld.2.2.2.2.2.2.2)
         refine ⟨_,rfl,?_⟩
         have n0_:=Aside0.mk (Kd.N_elder' (by (with_reducible repeat (first|apply Kd.N_alloc|apply Kd.N_drewN|apply Kd.N_drew));exact HO_7.out) (Kd.R_base ho0) hb)
         have n1_:=Aside0.mk (Kd.R_below (by (with_reducible repeat (first|apply Kd.R_alloc|apply Kd.R_drewN|apply Kd.R_drew));exact HO_309000.out) hb)
         have n2_:=Aside0.mk (Kd.V_elder' (by (with_reducible repeat (first|apply Kd.V_alloc|apply Kd.V_drewN|apply Kd.V_drew));exact HL326_0.out) (Kd.R_base ho0) hb)
         have n3_:=Aside0.mk (Kd.V_elder' (by (with_reducible repeat (first|apply Kd.V_alloc|apply Kd.V_drewN|apply Kd.V_drew));exact HL327_0.out) (Kd.R_base ho0) hb)
         have n4_:=Aside0.mk (Kd.V_elder' (by (with_reducible repeat (first|apply Kd.V_alloc|apply Kd.V_drewN|apply Kd.V_drew));exact HL329_0.out) (Kd.R_base ho0) hb)
         have n5_:=Aside0.mk (Kd.V_elder' (by (with_reducible repeat (first|apply Kd.V_alloc|apply Kd.V_drewN|apply Kd.V_drew));exact HL330_0.out) (Kd.R_base ho0) hb)
         have n6_:=Aside0.mk (Kd.V_elder' (by (with_reducible repeat (first|apply Kd.V_alloc|apply Kd.V_drewN|apply Kd.V_drew));exact HL334_0.out) (Kd.R_base ho0) hb)
         have n7_:=Aside0.mk (Kd.V_elder' (by (with_reducible repeat (first|apply Kd.V_alloc|apply Kd.V_drewN|apply Kd.V_drew));exact HL335_0.out) (Kd.R_base ho0) hb)
         have n8_:=Aside0.mk (Kd.R_elder' (by (with_reducible repeat (first|apply Kd.R_alloc|apply Kd.R_drewN|apply Kd.R_drew));exact HO333.out) (Kd.R_base ho0) hb)
         have n9_:=Aside0.mk (Kd.R_lower (Kd.R_new' ho0 (Kd.R_lt (by (with_reducible repeat (first|apply Kd.R_alloc|apply Kd.R_drewN|apply Kd.R_drew));exact HO333.out))) (below_size (by repeat (first|(with_reducible first|exact HB.out|apply below_alloc|apply pw_below_drewN|apply below_drew1|refine below_set ?_ GE300.out|refine below_set ?_ GE308.out)|exact HB.out))))
         have n10_:=Aside0.mk (blk_below (g:=gb300) (o:=.cells #[.int .u8 a0_0,.int .u8 a0_1,.int .u8 a0_2,.int .u8 a0_3,.int .u8 a0_4,.int .u8 a0_5,.int .u8 a0_6,.int .u8 a0_7,.int .u8 a0_8,.int .u8 a0_9,.int .u8 a0_10,.int .u8 a0_11] 24 (0,0)) (by (with_reducible repeat (first|refine blk_drewN ?_ _|refine blk_drew ?_|refine blk_alloc ?_ _));exact BK300.out) hb)
         have n11_:=Aside0.mk (blk_below (g:=gb308) (o:=.cells #[.slice Ao17 t302.length co17,.int .i64 t305,.int .i64 t306,.int .i64 t307] 29 (0,0)) (by (with_reducible repeat (first|refine blk_drewN ?_ _|refine blk_drew ?_|refine blk_alloc ?_ _));exact BK308.out) hb)
         have n12_:=Aside0.mk (Kd.C_below (by repeat (first|(with_reducible exact HR326_0.out)|(with_reducible refine Kd.C_alloc ?_ _)|(with_reducible refine Kd.C_drewN ?_ _)|(with_reducible refine Kd.C_drew ?_)|exact HR326_0.out)) hb)
         have n13_:=Aside0.mk (Kd.C_below (by repeat (first|(with_reducible exact HR327_0.out)|(with_reducible refine Kd.C_alloc ?_ _)|(with_reducible refine Kd.C_drewN ?_ _)|(with_reducible refine Kd.C_drew ?_)|exact HR327_0.out)) hb)
         have n14_:=Aside0.mk (Kd.C_below (by repeat (first|(with_reducible exact HR329_0.out)|(with_reducible refine Kd.C_alloc ?_ _)|(with_reducible refine Kd.C_drewN ?_ _)|(with_reducible refine Kd.C_drew ?_)|exact HR329_0.out)) hb)
         have n15_:=Aside0.mk (Kd.C_below (by repeat (first|(with_reducible exact HR330_0.out)|(with_reducible refine Kd.C_alloc ?_ _)|(with_reducible refine Kd.C_drewN ?_ _)|(with_reducible refine Kd.C_drew ?_)|exact HR330_0.out)) hb)
         have n16_:=Aside0.mk (Kd.C_below (by repeat (first|(with_reducible exact HR334_0.out)|(with_reducible refine Kd.C_alloc ?_ _)|(with_reducible refine Kd.C_drewN ?_ _)|(with_reducible refine Kd.C_drew ?_)|exact HR334_0.out)) hb)
         have n17_:=Aside0.mk (Kd.C_below (by repeat (first|(with_reducible exact HR335_0.out)|(with_reducible refine Kd.C_alloc ?_ _)|(with_reducible refine Kd.C_drewN ?_ _)|(with_reducible refine Kd.C_drew ?_)|exact HR335_0.out)) hb)
         have n18_:=Aside0.mk (below_step (by repeat (first|(with_reducible first|exact HB.out|apply below_alloc|apply pw_below_drewN|apply below_drew1|refine below_set ?_ GE300.out|refine below_set ?_ GE308.out)|exact HB.out)) hb)
         clear HO_7
         clear HO_309000
         clear HL326_0
         clear HL327_0
         clear HL329_0
         clear HL330_0
         clear HL334_0
         clear HL335_0
         clear HO333
         clear BK300
         clear BK308
         clear HR326_0
         clear HR327_0
         clear HR329_0
         clear HR330_0
         clear HR334_0
         clear HR335_0
         clear HB
         have HO_7:=n0_
         have HO_309000:=n1_
         have HL326_0:=n2_
         have HL327_0:=n3_
         have HL329_0:=n4_
         have HL330_0:=n5_
         have HL334_0:=n6_
         have HL335_0:=n7_
         have HO333:=n8_
         have HO338:=n9_
         have BK300:=n10_
         have BK308:=n11_
         have HR326_0:=n12_
         have HR327_0:=n13_
         have HR329_0:=n14_
         have HR330_0:=n15_
         have HR334_0:=n16_
         have HR335_0:=n17_
         have HB:=n18_
         clear n0_ n1_ n2_ n3_ n4_ n5_ n6_ n7_ n8_ n9_ n10_ n11_ n12_ n13_ n14_ n15_ n16_ n17_ n18_
         (try clear hb)
         (try clear hb2)
         (try clear hk)
         (try clear hi)
         (try clear ho0)
         obtain ⟨Ao57,co57,eo57⟩:=Kd.R_slice HO333.out
         (first|subst eo57|(injection eo57 with f1_ f2_ f3_;have f4_:=f1_.symm;have f5_:=f3_.symm;clear f1_ f2_ f3_;subst f4_;subst f5_))
         obtain ⟨Ao58,co58,eo58⟩:=Kd.R_slice HO338.out
         (first|subst eo58|(injection eo58 with f1_ f2_ f3_;have f4_:=f1_.symm;have f5_:=f3_.symm;clear f1_ f2_ f3_;subst f4_;subst f5_))
         refine hK.out _ _ ⟨(blk_cell BK308.out 0).trans rfl,(blk_cell BK308.out 1).trans rfl,(blk_cell BK308.out 2).trans rfl,(blk_cell BK308.out 3).trans rfl,HS4_,HS5_,HS6_,HS7_⟩ (fun hHeld=>?_)
         clear hK K
         refine norm_ (a':=?_) ?_ ?_
         rotate_left
         ·show Act.put _ (some 73) _=_
          simp only [Act.put,List.setIfInBounds_toArray,List.set_cons_zero,List.set_cons_succ,i64_w,i32_w]
          rfl
         refine one_ (i:=22) (N:=some 74) #[true,true,true,true,true,true,true,true,true,true,true,true,true,true,true,true,true,true,true,true,true,true,true,false] rfl rfl (one_of HT_.out (by kernel_rfl)) (by decide) (fun K hK=>?_)
         refine goes_ Try.func16 (by kernel_rfl) rfl #[.slice Ao57 t331.length co57,.slice Ao58 t336.length co58] (by rfl) rfl rfl (by (try simp only [List.map_toArray,List.map_cons,List.map_nil]);first|done|rfl|(simp only [List.length_drop,List.length_take];rfl)) ?_
         with_reducible refine (thresherref04_One.calls k1 _ _ t331 _ _ t336 false _ ?side1 ?side2 ?side3 ?side4 A43.out).mono ?_
         (case side1=>repeat (first|exact (Kd.R_reads' HO333.out).2.2|(with_reducible refine Kd.C_alloc ?_ _)|(with_reducible refine Kd.C_drewN ?_ _)|(with_reducible refine Kd.C_drew ?_)))
         (case side2=>exact (Kd.R_reads' HO333.out).2.1)
         (case side3=>repeat (first|exact (Kd.R_reads' HO338.out).2.2|(with_reducible refine Kd.C_alloc ?_ _)|(with_reducible refine Kd.C_drewN ?_ _)|(with_reducible refine Kd.C_drew ?_)))
         (case side4=>exact (Kd.R_reads' HO338.out).2.1)
         rintro e w' ⟨rfl,⟨nd,rfl⟩⟩
         refine ⟨_,rfl,?_⟩
         refine hK.out _ _ ⟨(blk_cell BK308.out 0).trans rfl,(blk_cell BK308.out 1).trans rfl,(blk_cell BK308.out 2).trans rfl,(blk_cell BK308.out 3).trans rfl,hHeld.2.2.2.2.1,hHeld.2.2.2.2.2.1,hHeld.2.2.2.2.2.2.1,hHeld.2.2.2.2.2.2.2⟩ (fun hHeld=>?_)
         clear hK K
         refine norm_ (a':=?_) ?_ ?_
         rotate_left
         ·show Act.put _ (some 74) _=_
          simp only [Act.put,List.setIfInBounds_toArray,List.set_cons_zero,List.set_cons_succ,i64_w,i32_w]
          rfl
         refine pure_ (i:=23) (N:=some 12) (v:=?_) (a':=?_) #[true,true,true,true,true,true,true,true,true,true,true,true,true,true,true,true,true,true,true,true,true,true,true,true] rfl rfl (any_of HT_.out (by kernel_rfl)) (fun _ _ _ h=>h) (Or.inl ⟨by rfl,?_⟩) ?_ ?_
         rotate_left;(intro w';go_simp;with_reducible rfl);rotate_left;(simp only [Act.put,List.setIfInBounds_toArray,List.set_cons_zero,List.set_cons_succ,i64_w,i32_w];rfl)
         refine done_ (done_of HT_.out (by kernel_rfl)) ?_
         (try clear HS4_);(try clear HS5_);(try clear HS6_);(try clear HS7_);(try clear hHeld)
         try go_wp2
         go_ret
         exact ⟨by first|rfl|(simp [errW_none,errW_some] <;> rfl)|(simp only [← hji35];first|rfl|(simp [errW_none,errW_some] <;> rfl))|(simp [*,errW_none,errW_some] <;> rfl),by repeat (first|(with_reducible first|exact HB.out|apply below_alloc|apply pw_below_drewN|apply below_drew1|refine below_set ?_ GE300.out|refine below_set ?_ GE308.out)|exact HB.out)⟩
       ·rw [if_neg c40] at H
        have c40b0 : (t328 == 0)=false:=beq_eq_false_iff_ne.mpr c40
        have c40b1 : (t328 != 0)=true:=bne_iff_ne.mpr c40
        have H':=Aside0.mk H
        clear H
        try go_wp2
        have n0_:=Aside0.mk (Kd.N_drew HO_7.out)
        have n1_:=Aside0.mk (Kd.R_drew HO_309000.out)
        have n2_:=Aside0.mk (blk_drew BK300.out)
        have n3_:=Aside0.mk (blk_drew BK308.out)
        have n4_:=Aside0.mk (below_drew1 HB.out)
        clear HO_7
        clear HO_309000
        clear BK300
        clear BK308
        clear HB
        have HO_7:=n0_
        have HO_309000:=n1_
        have BK300:=n2_
        have BK308:=n3_
        have HB:=n4_
        clear n0_ n1_ n2_ n3_ n4_
        have p326 : 0≤((ji35) : Int):=of_decide_eq_true (by first|(with_reducible assumption)|assumption)
        have q326 : (ji35) < (t312.length : Int):=of_decide_eq_true (by first|(with_reducible assumption)|assumption)
        obtain ⟨ad326,A326_0,c326_0,e326,hx326_0,hl326_0,hi326_0⟩:=at_L5 (Kd.N_reads' HO_7.out).2.2 (ji35) p326 q326
        cases e326
        obtain ⟨ce326,hce326,hMe326,hcc326⟩:=Kd.N_get HO_7.out [] (ji35) p326 (by first|exact q326|exact of_decide_eq_true (by first|(with_reducible assumption)|assumption)|(have e_:=(Kd.N_reads' HO_7.out).1;omega))
        obtain ⟨ua326_0,uc326_0,rfl,ul326_0,ge326_0⟩:=Kd.FK_slice_open hMe326
        have hv326_0:=hcc326 0 _ rfl
        rw [Nat.add_zero,show ((Kd.slice 45 k45)).sz=1 from rfl,Nat.mul_one] at hv326_0
        replace hv326_0:=Option.some.inj (hv326_0.symm.trans hx326_0)
        injection hv326_0 with hva_ hvn_ hvc_
        rw [hva_] at ge326_0
        rw [hvc_] at ul326_0
        have HL326_0:=Aside0.mk (show Kd.V k45 45 _ w.heap.size _ _ (rd_L5 t312 (ji35)) from Kd.V_mk ul326_0 ge326_0)
        clear hva_ hvn_ hvc_ ge326_0 ul326_0
        clear hcc326 hce326
        have HR326_0:=Aside0.mk hi326_0
        have HC326_0:=Aside0.mk hl326_0
        clear hi326_0 hl326_0
        replace p326:=eq_true p326
        replace q326:=eq_true q326
        have p327 : 0≤(x11_1 : Int):=of_decide_eq_true (by first|(with_reducible assumption)|assumption)
        have q327 : x11_1 < (t312.length : Int):=of_decide_eq_true (by first|(with_reducible assumption)|assumption)
        obtain ⟨ad327,A327_0,c327_0,e327,hx327_0,hl327_0,hi327_0⟩:=at_L5 (Kd.N_reads' HO_7.out).2.2 x11_1 p327 q327
        obtain rfl : ad326=ad327:=(by injection e327)
        obtain ⟨ce327,hce327,hMe327,hcc327⟩:=Kd.N_get HO_7.out [] x11_1 p327 (by first|exact q327|exact of_decide_eq_true (by first|(with_reducible assumption)|assumption)|(have e_:=(Kd.N_reads' HO_7.out).1;omega))
        obtain ⟨ua327_0,uc327_0,rfl,ul327_0,ge327_0⟩:=Kd.FK_slice_open hMe327
        have hv327_0:=hcc327 0 _ rfl
        rw [Nat.add_zero,show ((Kd.slice 45 k45)).sz=1 from rfl,Nat.mul_one] at hv327_0
        replace hv327_0:=Option.some.inj (hv327_0.symm.trans hx327_0)
        injection hv327_0 with hva_ hvn_ hvc_
        rw [hva_] at ge327_0
        rw [hvc_] at ul327_0
        have HL327_0:=Aside0.mk (show Kd.V k45 45 _ w.heap.size _ _ (rd_L5 t312 x11_1) from Kd.V_mk ul327_0 ge327_0)
        clear hva_ hvn_ hvc_ ge327_0 ul327_0
        clear hcc327 hce327
        have HR327_0:=Aside0.mk hi327_0
        have HC327_0:=Aside0.mk hl327_0
        clear hi327_0 hl327_0
        replace p327:=eq_true p327
        replace q327:=eq_true q327
        refine start_ (n:=12) (S:=fun w'=>w'.cell? ⟨gb308,0,none⟩=some (.slice Ao17 t302.length co17)∧w'.cell? ⟨gb308,1,none⟩=some (.int .i64 t305)∧w'.cell? ⟨gb308,2,none⟩=some (.int .i64 t306)∧w'.cell? ⟨gb308,3,none⟩=some (.int .i64 t307)∧w'.cell? (ad326.add ((ji35)).toNat)=some (.slice A326_0 (rd_L5 t312 (ji35)).length c326_0)∧w'.cell? (ad326.add (x11_1).toNat)=some (.slice A327_0 (rd_L5 t312 x11_1).length c327_0)) (ds:=[]) #[false,false,false,false,false,false,false,false,false,false,false,false] (by kernel_rfl) rfl rfl ⟨(blk_cell BK308.out 0).trans rfl,(blk_cell BK308.out 1).trans rfl,(blk_cell BK308.out 2).trans rfl,(blk_cell BK308.out 3).trans rfl,hx326_0,hx327_0⟩ (fun hHeld=>?_);refine with_tabW thresherlaw13_FoldAll.tab10 thresherlaw13_FoldAll.bits10 (fun HT_ HW_=>?_)
        generalize wr.drew=w59 at HO_7 HO_309000 BK300 BK308 HB HL326_0 HL327_0 HR326_0 HR327_0 hx326_0 hx327_0 hHeld ⊢
        refine pure_ (i:=1) (N:=some 41) (v:=?_) (a':=?_) #[false,true,false,false,false,false,false,false,false,false,false,false] rfl rfl (any_of HT_.out (by kernel_rfl)) (fun _ _ _ h=>h) (Or.inl ⟨by rfl,?_⟩) ?_ ?_
        rotate_left;(intro w';go_simp;with_reducible rfl);rotate_left;(simp only [Act.put,List.setIfInBounds_toArray,List.set_cons_zero,List.set_cons_succ,i64_w,i32_w];rfl)
        refine pure_ (i:=2) (N:=some 42) (v:=?_) (a':=?_) #[false,true,true,false,false,false,false,false,false,false,false,false] rfl rfl (any_of HT_.out (by kernel_rfl)) (fun _ _ _ h=>h) (Or.inl ⟨by rfl,?_⟩) ?_ ?_
        rotate_left;(intro w';go_simp;with_reducible rfl);rotate_left;(simp only [Act.put,List.setIfInBounds_toArray,List.set_cons_zero,List.set_cons_succ,i64_w,i32_w];rfl)
        refine pure_ (i:=3) (N:=some 43) (v:=?_) (a':=?_) #[false,true,true,true,false,false,false,false,false,false,false,false] rfl rfl (any_of HT_.out (by kernel_rfl)) (fun _ _ _ h=>h) (Or.inl ⟨by rfl,?_⟩) ?_ ?_
        rotate_left;(intro w';go_simp;with_reducible rfl);rotate_left;(simp only [Act.put,List.setIfInBounds_toArray,List.set_cons_zero,List.set_cons_succ,i64_w,i32_w];rfl)
        refine pure_ (i:=4) (N:=some 44) (v:=?_) (a':=?_) #[false,true,true,true,true,false,false,false,false,false,false,false] rfl rfl (any_of HT_.out (by kernel_rfl)) (fun _ _ _ h=>h) (Or.inl ⟨by rfl,?_⟩) ?_ ?_
        rotate_left;(intro w';go_simp;with_reducible rfl);rotate_left;(simp only [Act.put,List.setIfInBounds_toArray,List.set_cons_zero,List.set_cons_succ,i64_w,i32_w];rfl)
        refine pure_ (i:=6) (N:=some 46) (v:=?_) (a':=?_) #[false,true,true,true,true,false,true,false,false,false,false,false] rfl rfl (any_of HT_.out (by kernel_rfl)) (fun _ _ _ h=>h) (Or.inl ⟨by rfl,?_⟩) ?_ ?_
        rotate_left;(intro w';go_simp;with_reducible rfl);rotate_left;(simp only [Act.put,List.setIfInBounds_toArray,List.set_cons_zero,List.set_cons_succ,i64_w,i32_w];rfl)
        refine pure_ (i:=7) (N:=some 47) (v:=?_) (a':=?_) #[false,true,true,true,true,false,true,true,false,false,false,false] rfl rfl (any_of HT_.out (by kernel_rfl)) (fun _ _ _ h=>h) (Or.inl ⟨by rfl,?_⟩) ?_ ?_
        rotate_left;(intro w';go_simp;with_reducible rfl);rotate_left;(simp only [Act.put,List.setIfInBounds_toArray,List.set_cons_zero,List.set_cons_succ,i64_w,i32_w];rfl)
        refine pure_ (i:=8) (N:=some 48) (v:=?_) (a':=?_) #[false,true,true,true,true,false,true,true,true,false,false,false] rfl rfl (any_of HT_.out (by kernel_rfl)) (fun _ _ _ h=>h) (Or.inl ⟨by rfl,?_⟩) ?_ ?_
        rotate_left;(intro w';go_simp;with_reducible rfl);rotate_left;(simp only [Act.put,List.setIfInBounds_toArray,List.set_cons_zero,List.set_cons_succ,i64_w,i32_w];rfl)
        refine take_ (i:=0) (N:=some 40) (v:=?_) (a':=?_) #[true,true,true,true,true,false,true,true,true,false,false,false] rfl rfl (take_ofW HT_.out HW_.out (by kernel_rfl)) (fun _ _ _ h=>h) (Or.inl ⟨by rfl,?_⟩) hHeld ?_ ?_
        rotate_left;(rintro w' ⟨s0,s1,s2,s3,s4,s5⟩;go_simp;with_reducible rfl);rotate_left;(simp only [Act.put,List.setIfInBounds_toArray,List.set_cons_zero,List.set_cons_succ,i64_w,i32_w];rfl)
        refine take_ (i:=5) (N:=some 45) (v:=?_) (a':=?_) #[true,true,true,true,true,true,true,true,true,false,false,false] rfl rfl (take_ofW HT_.out HW_.out (by kernel_rfl)) (fun _ _ _ h=>h) (Or.inl ⟨by rfl,?_⟩) hHeld ?_ ?_
        rotate_left;(rintro w' ⟨s0,s1,s2,s3,s4,s5⟩;go_simp;with_reducible rfl);rotate_left;(simp only [Act.put,List.setIfInBounds_toArray,List.set_cons_zero,List.set_cons_succ,i64_w,i32_w];rfl)
        refine take_ (i:=9) (N:=some 49) (v:=?_) (a':=?_) #[true,true,true,true,true,true,true,true,true,true,false,false] rfl rfl (take_ofW HT_.out HW_.out (by kernel_rfl)) (fun _ _ _ h=>h) (Or.inl ⟨by rfl,?_⟩) hHeld ?_ ?_
        rotate_left;(rintro w' ⟨s0,s1,s2,s3,s4,s5⟩;go_simp;with_reducible rfl);rotate_left;(simp only [Act.put,List.setIfInBounds_toArray,List.set_cons_zero,List.set_cons_succ,i64_w,i32_w];rfl)
        refine one_ (i:=10) (N:=some 50) #[true,true,true,true,true,true,true,true,true,true,true,false] rfl rfl (one_of HT_.out (by kernel_rfl)) (by decide) (fun K hK=>?_)
        refine goes_ Try.func15 (by kernel_rfl) rfl #[.agg #[.slice Ao17 t302.length co17,.int .i64 t305,.int .i64 t306,.int .i64 t307],.slice A326_0 (rd_L5 t312 (ji35)).length c326_0,.slice A327_0 (rd_L5 t312 x11_1).length c327_0] (by rfl) rfl rfl (by (try simp only [List.map_toArray,List.map_cons,List.map_nil]);first|done|(simp only [hji35];rfl)|rfl|(simp only [List.length_drop,List.length_take];rfl)) ?_
        with_reducible refine (thresherref04_Compare.calls k1 _ _ t302 t305 t306 t307 _ _ (rd_L5 t312 (ji35)) _ _ (rd_L5 t312 x11_1) t328 _ ?side1 ?side2 ?side3 ?side4 ?side5 ?side6 A39.out).mono ?_
        (case side1=>repeat (first|exact (Kd.R_reads' HO_309000.out).2.2|(with_reducible refine Kd.C_alloc ?_ _)|(with_reducible refine Kd.C_drewN ?_ _)|(with_reducible refine Kd.C_drew ?_)))
        (case side2=>exact (Kd.R_reads' HO_309000.out).2.1)
        (case side3=>repeat (first|exact (by repeat (first|(with_reducible exact HR326_0.out)|(with_reducible refine Kd.C_alloc ?_ _)|(with_reducible refine Kd.C_drewN ?_ _)|(with_reducible refine Kd.C_drew ?_)|exact HR326_0.out))|(with_reducible refine Kd.C_alloc ?_ _)|(with_reducible refine Kd.C_drewN ?_ _)|(with_reducible refine Kd.C_drew ?_)))
        (case side4=>exact HC326_0.out)
        (case side5=>repeat (first|exact (by repeat (first|(with_reducible exact HR327_0.out)|(with_reducible refine Kd.C_alloc ?_ _)|(with_reducible refine Kd.C_drewN ?_ _)|(with_reducible refine Kd.C_drew ?_)|exact HR327_0.out))|(with_reducible refine Kd.C_alloc ?_ _)|(with_reducible refine Kd.C_drewN ?_ _)|(with_reducible refine Kd.C_drew ?_)))
        (case side6=>exact HC327_0.out)
        rintro e w60 ⟨rfl,hb⟩
        have HS4_:=(hb.cell (World.block_lt_of_cell? _ _ (hHeld.2.2.2.2.1))).trans (hHeld.2.2.2.2.1)
        have HS5_:=(hb.cell (World.block_lt_of_cell? _ _ (hHeld.2.2.2.2.2))).trans (hHeld.2.2.2.2.2)
        refine ⟨_,rfl,?_⟩
        have n0_:=Aside0.mk (Kd.N_below (by (with_reducible repeat (first|apply Kd.N_alloc|apply Kd.N_drewN|apply Kd.N_drew));exact HO_7.out) hb)
        have n1_:=Aside0.mk (Kd.R_below (by (with_reducible repeat (first|apply Kd.R_alloc|apply Kd.R_drewN|apply Kd.R_drew));exact HO_309000.out) hb)
        have n2_:=Aside0.mk (Kd.V_below (by (with_reducible repeat (first|apply Kd.V_alloc|apply Kd.V_drewN|apply Kd.V_drew));exact HL326_0.out) hb)
        have n3_:=Aside0.mk (Kd.V_below (by (with_reducible repeat (first|apply Kd.V_alloc|apply Kd.V_drewN|apply Kd.V_drew));exact HL327_0.out) hb)
        have n4_:=Aside0.mk (blk_below (g:=gb300) (o:=.cells #[.int .u8 a0_0,.int .u8 a0_1,.int .u8 a0_2,.int .u8 a0_3,.int .u8 a0_4,.int .u8 a0_5,.int .u8 a0_6,.int .u8 a0_7,.int .u8 a0_8,.int .u8 a0_9,.int .u8 a0_10,.int .u8 a0_11] 24 (0,0)) (by (with_reducible repeat (first|refine blk_drewN ?_ _|refine blk_drew ?_|refine blk_alloc ?_ _));exact BK300.out) hb)
        have n5_:=Aside0.mk (blk_below (g:=gb308) (o:=.cells #[.slice Ao17 t302.length co17,.int .i64 t305,.int .i64 t306,.int .i64 t307] 29 (0,0)) (by (with_reducible repeat (first|refine blk_drewN ?_ _|refine blk_drew ?_|refine blk_alloc ?_ _));exact BK308.out) hb)
        have n6_:=Aside0.mk (Kd.C_below (by repeat (first|(with_reducible exact HR326_0.out)|(with_reducible refine Kd.C_alloc ?_ _)|(with_reducible refine Kd.C_drewN ?_ _)|(with_reducible refine Kd.C_drew ?_)|exact HR326_0.out)) hb)
        have n7_:=Aside0.mk (Kd.C_below (by repeat (first|(with_reducible exact HR327_0.out)|(with_reducible refine Kd.C_alloc ?_ _)|(with_reducible refine Kd.C_drewN ?_ _)|(with_reducible refine Kd.C_drew ?_)|exact HR327_0.out)) hb)
        have n8_:=Aside0.mk (below_step (by repeat (first|(with_reducible first|exact HB.out|apply below_alloc|apply pw_below_drewN|apply below_drew1|refine below_set ?_ GE300.out|refine below_set ?_ GE308.out)|exact HB.out)) hb)
        clear HO_7
        clear HO_309000
        clear HL326_0
        clear HL327_0
        clear BK300
        clear BK308
        clear HR326_0
        clear HR327_0
        clear HB
        have HO_7:=n0_
        have HO_309000:=n1_
        have HL326_0:=n2_
        have HL327_0:=n3_
        have BK300:=n4_
        have BK308:=n5_
        have HR326_0:=n6_
        have HR327_0:=n7_
        have HB:=n8_
        clear n0_ n1_ n2_ n3_ n4_ n5_ n6_ n7_ n8_
        (try clear hb)
        (try clear hb2)
        (try clear hk)
        (try clear hi)
        refine hK.out _ _ ⟨(blk_cell BK308.out 0).trans rfl,(blk_cell BK308.out 1).trans rfl,(blk_cell BK308.out 2).trans rfl,(blk_cell BK308.out 3).trans rfl,HS4_,HS5_⟩ (fun hHeld=>?_)
        clear hK K
        refine norm_ (a':=?_) ?_ ?_
        rotate_left
        ·show Act.put _ (some 50) _=_
         simp only [Act.put,List.setIfInBounds_toArray,List.set_cons_zero,List.set_cons_succ,i64_w,i32_w]
         rfl
        refine pure_ (i:=11) (N:=some 51) (v:=?_) (a':=?_) #[true,true,true,true,true,true,true,true,true,true,true,true] rfl rfl (any_of HT_.out (by kernel_rfl)) (fun _ _ _ h=>h) (Or.inl ⟨by rfl,?_⟩) ?_ ?_
        rotate_left;(intro w';go_simp;with_reducible rfl);rotate_left;(simp only [Act.put,List.setIfInBounds_toArray,List.set_cons_zero,List.set_cons_succ,i64_w,i32_w];rfl)
        refine done_ (done_of HT_.out (by kernel_rfl)) ?_
        (try clear HS4_);(try clear HS5_);(try clear hHeld)
        try go_wp2
        go_roundg k1
        case measure=>have:=HK1.out;omega
        case rel=>exact ⟨(wrap64 (x11_1 + 1)),(by first|rfl|(simp;done)|(simp [*];done)),(by first|exact H'|(subst_vars;exact H')),⟨by have:=HK1.out;omega⟩,⟨by (with_reducible repeat (first|apply Kd.N_alloc|apply Kd.N_drewN|apply Kd.N_drew));exact HO_7.out⟩,⟨by (with_reducible repeat (first|apply Kd.R_alloc|apply Kd.R_drewN|apply Kd.R_drew));exact HO_309000.out⟩,⟨by (with_reducible repeat (first|refine blk_drewN ?_ _|refine blk_drew ?_|refine blk_alloc ?_ _));exact BK300.out⟩,⟨by (with_reducible repeat (first|refine blk_drewN ?_ _|refine blk_drew ?_|refine blk_alloc ?_ _));exact BK308.out⟩,⟨by repeat (first|(with_reducible first|exact HB.out|apply below_alloc|apply pw_below_drewN|apply below_drew1|refine below_set ?_ GE300.out|refine below_set ?_ GE308.out)|exact HB.out)⟩⟩
      ·rw [if_neg c38] at H
       exact absurd H (by simp)
     ·rw [if_neg c37] at H
      exact absurd H (by simp)
    ·rw [if_neg c36] at H
     exact absurd H (by simp)
   ·rw [if_neg c34] at H
    have c34b0 : decide (x11_1 < (t312.length : Int))=false:=decide_eq_false c34
    clear c34
    by_cases c61 : t301=true
    ·subst c61
     have H1 : (if t324=true then (some t325) else (some false))=some r:=by rw [if_pos rfl] at H;exact H
     clear H
     have H:=H1
     clear H1
     by_cases c62 : t324=true
     ·subst c62
      have H1 : (some t325)=some r:=by rw [if_pos rfl] at H;exact H
      clear H
      have H:=H1
      clear H1
      obtain rfl:=Option.some.inj H
      go_wp2
      go_ret
      exact ⟨by first|rfl|(simp [errW_none,errW_some] <;> rfl)|(simp [*,errW_none,errW_some] <;> rfl),by repeat (first|(with_reducible first|exact HB.out|apply below_alloc|apply pw_below_drewN|apply below_drew1|refine below_set ?_ GE300.out|refine below_set ?_ GE308.out)|exact HB.out)⟩
     ·replace c62:=Bool.eq_false_iff.mpr c62
      subst c62
      have H1 : (some false)=some r:=by rw [if_neg (show ¬ (false=true) by decide)] at H;exact H
      clear H
      have H:=H1
      clear H1
      obtain rfl:=Option.some.inj H
      go_wp2
      go_ret
      exact ⟨by first|rfl|(simp [errW_none,errW_some] <;> rfl)|(simp [*,errW_none,errW_some] <;> rfl),by repeat (first|(with_reducible first|exact HB.out|apply below_alloc|apply pw_below_drewN|apply below_drew1|refine below_set ?_ GE300.out|refine below_set ?_ GE308.out)|exact HB.out)⟩
    ·replace c61:=Bool.eq_false_iff.mpr c61
     subst c61
     have H1 : (some false)=some r:=by rw [if_neg (show ¬ (false=true) by decide)] at H;exact H
     clear H
     have H:=H1
     clear H1
     obtain rfl:=Option.some.inj H
     go_wp2
     go_ret
     exact ⟨by first|rfl|(simp [errW_none,errW_some] <;> rfl)|(simp [*,errW_none,errW_some] <;> rfl),by repeat (first|(with_reducible first|exact HB.out|apply below_alloc|apply pw_below_drewN|apply below_drew1|refine below_set ?_ GE300.out|refine below_set ?_ GE308.out)|exact HB.out)⟩
end Go.Proofs.Ytmanchjamkpklaa.P

