/- Texts of OrderCuts. Merged: Px8. -/
import Derived.Test.YtojbeofipedolaaQOrderCutsPx0
import Derived.Test.YtojbeofipedolaaQOrderCutsPx4
import Derived.Test.YtojbeofipedolaaQOrderCutsPx5
import Derived.Test.YtojbeofipedolaaQOrderCutsPx7
import Derived.Test.YtojbeofipedolaaQOrderCutsHOrdA
import Derived.Test.YtojbeofipedolaaQOrderCutsHOrdE
namespace Go.Proofs.Ytojbeofipedolaa.P
open Go.RowKit Go.Proofs.YtojbeofipedolaaW.PrintWords Go.Proofs.YtojbeofipedolaaW.PrintLast Go.Proofs.YtojbeofipedolaaW.PrintMore
attribute [local go_sem] max2_int min2_int max_two min_two max_three min_three max_four min_four   -- for this text's walks alone
set_option linter.unusedVariables false
set_option linter.unusedSimpArgs false
mutual
def thresherlaw09_OrderCuts.j0 : Nat→Bool→List (List (S41))→List (S41)→Int→Int→Bool→List Int→Int→Int→Int→Option (Bool)
 | 0,_,_,_,_,_,_,_,_,_,_=>none
 | k + 1,x7,x9,x10,x11,x12,x46,x210000,x210001,x210002,x210003=>if x46=true then (some false) else (thresherlaw09_OrderCuts.l0 k x7 x9 x10 x11 x12 0 x210000 x210001 x210002 x210003)
def thresherlaw09_OrderCuts.l0 : Nat→Bool→List (List (S41))→List (S41)→Int→Int→Int→List Int→Int→Int→Int→Option (Bool)
 | 0,_,_,_,_,_,_,_,_,_,_=>none
 | k + 1,x7,x9,x10,x11,x12,x13,x210000,x210001,x210002,x210003=>if x13 < (x9.length : Int) then (if 0≤x13 then ((thresherref04_Compare.f k x210000 x210001 x210002 x210003 (rd_L5 x9 x13) x10).bind fun t222=>(if ((decide (t222 < 0)) != (decide (x13 < x11)))=true then (some false) else (if ((decide (t222≤0)) != (decide (x13 < x12)))=true then (some false) else (thresherlaw09_OrderCuts.l0 k x7 x9 x10 x11 x12 (wrap64 (x13 + 1)) x210000 x210001 x210002 x210003)))) else (none)) else (if x7=true then ((order_Below.f k x210000 x210001 x210002 x210003 x9 ([] : List (S41))).bind fun t223=>(if t223=0 then ((order_Upto.f k x210000 x210001 x210002 x210003 x9 (([] : List (S41)))).bind fun t227=>(thresherlaw09_OrderCuts.j2 k (t227 == (x9.length : Int)))) else (thresherlaw09_OrderCuts.j2 k false))) else (thresherlaw09_OrderCuts.j2 k false))
def thresherlaw09_OrderCuts.j2 : Nat→Bool→Option (Bool)
 | 0,_=>none
 | k + 1,x6=>some x6
end
def thresherlaw09_OrderCuts.f (k : Nat) (a0_0 : Int) (a0_1 : Int) (a0_2 : Int) (a0_3 : Int) (a0_4 : Int) (a0_5 : Int) (a0_6 : Int) (a0_7 : Int) (a0_8 : Int) (a0_9 : Int) (a0_10 : Int) (a0_11 : Int) (l1 : List (List (S41))) (l2 : List (S41)) : Option (Bool):=(thresherlaw09_shown.f k).bind fun t202=>((thresherlaw09_made.f k a0_0 a0_1 a0_2 a0_3 a0_4 a0_5 a0_6 a0_7 a0_8 a0_9 a0_10 a0_11).bind fun bt203=>((thresherref04_Fits.f k bt203.1 bt203.2.1 bt203.2.2.1 bt203.2.2.2 l1 60).bind fun t210=>((order_Sort.f k bt203.1 bt203.2.1 bt203.2.2.1 bt203.2.2.2 t210).bind fun t213=>((thresherref04_Fit.f k bt203.1 bt203.2.1 bt203.2.2.1 bt203.2.2.2 l2).bind fun t216=>((order_Below.f k bt203.1 bt203.2.1 bt203.2.2.1 bt203.2.2.2 t213 t216).bind fun t219=>((order_Upto.f k bt203.1 bt203.2.1 bt203.2.2.1 bt203.2.2.2 t213 t216).bind fun t220=>(if t219 < 0 then (thresherlaw09_OrderCuts.j0 k t202 t213 t216 t219 t220 true bt203.1 bt203.2.1 bt203.2.2.1 bt203.2.2.2) else (if t219 > t220 then (thresherlaw09_OrderCuts.j0 k t202 t213 t216 t219 t220 true bt203.1 bt203.2.1 bt203.2.2.1 bt203.2.2.2) else (thresherlaw09_OrderCuts.j0 k t202 t213 t216 t219 t220 (decide (t220 > (t213.length : Int))) bt203.1 bt203.2.1 bt203.2.2.1 bt203.2.2.2)))))))))
theorem thresherlaw09_OrderCuts.mono_l : ∀ k,(∀ y0 y1 y2 y3 y4 y5 y6 y7 y8 y9,LeO (thresherlaw09_OrderCuts.j0 k y0 y1 y2 y3 y4 y5 y6 y7 y8 y9) (thresherlaw09_OrderCuts.j0 (k + 1) y0 y1 y2 y3 y4 y5 y6 y7 y8 y9))∧(∀ y0 y1 y2 y3 y4 y5 y6 y7 y8 y9,LeO (thresherlaw09_OrderCuts.l0 k y0 y1 y2 y3 y4 y5 y6 y7 y8 y9) (thresherlaw09_OrderCuts.l0 (k + 1) y0 y1 y2 y3 y4 y5 y6 y7 y8 y9))∧(∀ y0,LeO (thresherlaw09_OrderCuts.j2 k y0) (thresherlaw09_OrderCuts.j2 (k + 1) y0))
 | 0=>⟨fun _ _ _ _ _ _ _ _ _ _ r h=>by simp [thresherlaw09_OrderCuts.j0] at h,fun _ _ _ _ _ _ _ _ _ _ r h=>by simp [thresherlaw09_OrderCuts.l0] at h,fun _ r h=>by simp [thresherlaw09_OrderCuts.j2] at h⟩
 | k + 1=>by
  obtain ⟨ih0,ih1,ih2⟩:=thresherlaw09_OrderCuts.mono_l k
  refine ⟨?_,?_,?_⟩
  ·intro y0 y1 y2 y3 y4 y5 y6 y7 y8 y9
   unfold thresherlaw09_OrderCuts.j0
   repeat' first
   | (with_reducible exact ih0 _ _ _ _ _ _ _ _ _ _)
   | (with_reducible exact ih1 _ _ _ _ _ _ _ _ _ _)
   | (with_reducible exact ih2 _)
   | (with_reducible exact order_Below.mono _ _ _ _ _ _ _)
   | (with_reducible exact order_Sort.mono _ _ _ _ _ _)
   | (with_reducible exact order_Upto.mono _ _ _ _ _ _ _)
   | (with_reducible exact thresherlaw09_made.mono _ _ _ _ _ _ _ _ _ _ _ _ _)
   | (with_reducible exact thresherlaw09_shown.mono _)
   | (with_reducible exact thresherref04_Compare.mono _ _ _ _ _ _ _)
   | (with_reducible exact thresherref04_Fit.mono _ _ _ _ _ _)
   | (with_reducible exact thresherref04_Fits.mono _ _ _ _ _ _ _)
   | (with_reducible exact LeO.refl _)
   | (with_reducible exact LeO.none _)
   | (with_reducible refine LeO.ite ?_ ?_)
   | (with_reducible refine LeO.bind ?_ (fun _=>?_))
   | exact ih0 _ _ _ _ _ _ _ _ _ _
   | exact ih1 _ _ _ _ _ _ _ _ _ _
   | exact ih2 _
   | exact order_Below.mono _ _ _ _ _ _ _
   | exact order_Sort.mono _ _ _ _ _ _
   | exact order_Upto.mono _ _ _ _ _ _ _
   | exact thresherlaw09_made.mono _ _ _ _ _ _ _ _ _ _ _ _ _
   | exact thresherlaw09_shown.mono _
   | exact thresherref04_Compare.mono _ _ _ _ _ _ _
   | exact thresherref04_Fit.mono _ _ _ _ _ _
   | exact thresherref04_Fits.mono _ _ _ _ _ _ _
   | exact LeO.none _
   | refine LeO.ite ?_ ?_
   | refine LeO.bind ?_ (fun _=>?_)
  ·intro y0 y1 y2 y3 y4 y5 y6 y7 y8 y9
   unfold thresherlaw09_OrderCuts.l0
   repeat' first
   | (with_reducible exact ih0 _ _ _ _ _ _ _ _ _ _)
   | (with_reducible exact ih1 _ _ _ _ _ _ _ _ _ _)
   | (with_reducible exact ih2 _)
   | (with_reducible exact order_Below.mono _ _ _ _ _ _ _)
   | (with_reducible exact order_Sort.mono _ _ _ _ _ _)
   | (with_reducible exact order_Upto.mono _ _ _ _ _ _ _)
   | (with_reducible exact thresherlaw09_made.mono _ _ _ _ _ _ _ _ _ _ _ _ _)
   | (with_reducible exact thresherlaw09_shown.mono _)
   | (with_reducible exact thresherref04_Compare.mono _ _ _ _ _ _ _)
   | (with_reducible exact thresherref04_Fit.mono _ _ _ _ _ _)
   | (with_reducible exact thresherref04_Fits.mono _ _ _ _ _ _ _)
   | (with_reducible exact LeO.refl _)
   | (with_reducible exact LeO.none _)
   | (with_reducible refine LeO.ite ?_ ?_)
   | (with_reducible refine LeO.bind ?_ (fun _=>?_))
   | exact ih0 _ _ _ _ _ _ _ _ _ _
   | exact ih1 _ _ _ _ _ _ _ _ _ _
   | exact ih2 _
   | exact order_Below.mono _ _ _ _ _ _ _
   | exact order_Sort.mono _ _ _ _ _ _
   | exact order_Upto.mono _ _ _ _ _ _ _
   | exact thresherlaw09_made.mono _ _ _ _ _ _ _ _ _ _ _ _ _
   | exact thresherlaw09_shown.mono _
   | exact thresherref04_Compare.mono _ _ _ _ _ _ _
   | exact thresherref04_Fit.mono _ _ _ _ _ _
   | exact thresherref04_Fits.mono _ _ _ _ _ _ _
   | exact LeO.none _
   | refine LeO.ite ?_ ?_
   | refine LeO.bind ?_ (fun _=>?_)
  ·intro y0
   unfold thresherlaw09_OrderCuts.j2
   repeat' first
   | (with_reducible exact ih0 _ _ _ _ _ _ _ _ _ _)
   | (with_reducible exact ih1 _ _ _ _ _ _ _ _ _ _)
   | (with_reducible exact ih2 _)
   | (with_reducible exact order_Below.mono _ _ _ _ _ _ _)
   | (with_reducible exact order_Sort.mono _ _ _ _ _ _)
   | (with_reducible exact order_Upto.mono _ _ _ _ _ _ _)
   | (with_reducible exact thresherlaw09_made.mono _ _ _ _ _ _ _ _ _ _ _ _ _)
   | (with_reducible exact thresherlaw09_shown.mono _)
   | (with_reducible exact thresherref04_Compare.mono _ _ _ _ _ _ _)
   | (with_reducible exact thresherref04_Fit.mono _ _ _ _ _ _)
   | (with_reducible exact thresherref04_Fits.mono _ _ _ _ _ _ _)
   | (with_reducible exact LeO.refl _)
   | (with_reducible exact LeO.none _)
   | (with_reducible refine LeO.ite ?_ ?_)
   | (with_reducible refine LeO.bind ?_ (fun _=>?_))
   | exact ih0 _ _ _ _ _ _ _ _ _ _
   | exact ih1 _ _ _ _ _ _ _ _ _ _
   | exact ih2 _
   | exact order_Below.mono _ _ _ _ _ _ _
   | exact order_Sort.mono _ _ _ _ _ _
   | exact order_Upto.mono _ _ _ _ _ _ _
   | exact thresherlaw09_made.mono _ _ _ _ _ _ _ _ _ _ _ _ _
   | exact thresherlaw09_shown.mono _
   | exact thresherref04_Compare.mono _ _ _ _ _ _ _
   | exact thresherref04_Fit.mono _ _ _ _ _ _
   | exact thresherref04_Fits.mono _ _ _ _ _ _ _
   | exact LeO.none _
   | refine LeO.ite ?_ ?_
   | refine LeO.bind ?_ (fun _=>?_)
theorem thresherlaw09_OrderCuts.mono : ∀ a0 a1 a2 a3 a4 a5 a6 a7 a8 a9 a10 a11 a12 a13 k,LeO (thresherlaw09_OrderCuts.f k a0 a1 a2 a3 a4 a5 a6 a7 a8 a9 a10 a11 a12 a13) (thresherlaw09_OrderCuts.f (k + 1) a0 a1 a2 a3 a4 a5 a6 a7 a8 a9 a10 a11 a12 a13):=by
 intro a0 a1 a2 a3 a4 a5 a6 a7 a8 a9 a10 a11 a12 a13 k
 obtain ⟨ih0,ih1,ih2⟩:=thresherlaw09_OrderCuts.mono_l k
 unfold thresherlaw09_OrderCuts.f
 repeat' first
   | (with_reducible exact ih0 _ _ _ _ _ _ _ _ _ _)
   | (with_reducible exact ih1 _ _ _ _ _ _ _ _ _ _)
   | (with_reducible exact ih2 _)
   | (with_reducible exact order_Below.mono _ _ _ _ _ _ _)
   | (with_reducible exact order_Sort.mono _ _ _ _ _ _)
   | (with_reducible exact order_Upto.mono _ _ _ _ _ _ _)
   | (with_reducible exact thresherlaw09_made.mono _ _ _ _ _ _ _ _ _ _ _ _ _)
   | (with_reducible exact thresherlaw09_shown.mono _)
   | (with_reducible exact thresherref04_Compare.mono _ _ _ _ _ _ _)
   | (with_reducible exact thresherref04_Fit.mono _ _ _ _ _ _)
   | (with_reducible exact thresherref04_Fits.mono _ _ _ _ _ _ _)
   | (with_reducible exact LeO.refl _)
   | (with_reducible exact LeO.none _)
   | (with_reducible refine LeO.ite ?_ ?_)
   | (with_reducible refine LeO.bind ?_ (fun _=>?_))
   | exact ih0 _ _ _ _ _ _ _ _ _ _
   | exact ih1 _ _ _ _ _ _ _ _ _ _
   | exact ih2 _
   | exact order_Below.mono _ _ _ _ _ _ _
   | exact order_Sort.mono _ _ _ _ _ _
   | exact order_Upto.mono _ _ _ _ _ _ _
   | exact thresherlaw09_made.mono _ _ _ _ _ _ _ _ _ _ _ _ _
   | exact thresherlaw09_shown.mono _
   | exact thresherref04_Compare.mono _ _ _ _ _ _ _
   | exact thresherref04_Fit.mono _ _ _ _ _ _
   | exact thresherref04_Fits.mono _ _ _ _ _ _ _
   | exact LeO.none _
   | refine LeO.ite ?_ ?_
   | refine LeO.bind ?_ (fun _=>?_)
def thresherlaw09_OrderCuts.T12 : Bool × List (List Nat × List Nat):=(true,[([],[]),([],[]),([],[]),([1,2],[1,2]),([3],[3]),([],[]),([0,4,5],[0,4,5]),([6,6,0,1,2,3,4,5,6],[6])])
def thresherlaw09_OrderCuts.B12 : List Nat:=[0,0,0,6,14,0,63,127]
theorem thresherlaw09_OrderCuts.tab12 : rtab .any (opsOf Try.f3 12)=thresherlaw09_OrderCuts.T12:=by kernel_rfl
theorem thresherlaw09_OrderCuts.bits12 : waitsOk thresherlaw09_OrderCuts.T12.2 thresherlaw09_OrderCuts.B12=true:=by kernel_rfl
set_option maxHeartbeats 8000000 in
set_option maxRecDepth 100000 in
theorem thresherlaw09_OrderCuts.calls (k : Nat) (a0_0 : Int) (a0_1 : Int) (a0_2 : Int) (a0_3 : Int) (a0_4 : Int) (a0_5 : Int) (a0_6 : Int) (a0_7 : Int) (a0_8 : Int) (a0_9 : Int) (a0_10 : Int) (a0_11 : Int) (A1 : Option Addr) (c1 : Nat) (l1 : List (List (S41))) (A2 : Option Addr) (c2 : Nat) (l2 : List (S41)) (r : Bool) (w : World) (hr1 : Kd.C (Kd.slice 41 k41) w A1 l1.length l1) (hc1 : l1.length≤c1) (hr2 : Kd.C k41 w A2 l2.length l2) (hc2 : l2.length≤c2) (h : thresherlaw09_OrderCuts.f k a0_0 a0_1 a0_2 a0_3 a0_4 a0_5 a0_6 a0_7 a0_8 a0_9 a0_10 a0_11 l1 l2=some r) :
  Calls Try.prog 3 #[.agg #[.int .u8 a0_0,.int .u8 a0_1,.int .u8 a0_2,.int .u8 a0_3,.int .u8 a0_4,.int .u8 a0_5,.int .u8 a0_6,.int .u8 a0_7,.int .u8 a0_8,.int .u8 a0_9,.int .u8 a0_10,.int .u8 a0_11],.slice A1 l1.length c1,.slice A2 l2.length c2] w fun e w'=>e=.returned (.bool r)∧Below w.heap.size w w':=by
 have hu24:=Try.underlying24
 have hu31:=Try.underlying31
 have HR1:=Aside0.mk hr1
 have HC1:=Aside0.mk hc1
 clear hr1 hc1
 have HR2:=Aside0.mk hr2
 have HC2:=Aside0.mk hc2
 clear hr2 hc2
 have HB:=Aside0.mk (Below.refl w.heap.size w)
 have H : ((thresherlaw09_shown.f k).bind fun t202=>((thresherlaw09_made.f k a0_0 a0_1 a0_2 a0_3 a0_4 a0_5 a0_6 a0_7 a0_8 a0_9 a0_10 a0_11).bind fun bt203=>((thresherref04_Fits.f k bt203.1 bt203.2.1 bt203.2.2.1 bt203.2.2.2 l1 60).bind fun t210=>((order_Sort.f k bt203.1 bt203.2.1 bt203.2.2.1 bt203.2.2.2 t210).bind fun t213=>((thresherref04_Fit.f k bt203.1 bt203.2.1 bt203.2.2.1 bt203.2.2.2 l2).bind fun t216=>((order_Below.f k bt203.1 bt203.2.1 bt203.2.2.1 bt203.2.2.2 t213 t216).bind fun t219=>((order_Upto.f k bt203.1 bt203.2.1 bt203.2.2.1 bt203.2.2.2 t213 t216).bind fun t220=>(if t219 < 0 then (thresherlaw09_OrderCuts.j0 k t202 t213 t216 t219 t220 true bt203.1 bt203.2.1 bt203.2.2.1 bt203.2.2.2) else (if t219 > t220 then (thresherlaw09_OrderCuts.j0 k t202 t213 t216 t219 t220 true bt203.1 bt203.2.1 bt203.2.2.1 bt203.2.2.2) else (thresherlaw09_OrderCuts.j0 k t202 t213 t216 t219 t220 (decide (t220 > (t213.length : Int))) bt203.1 bt203.2.1 bt203.2.2.1 bt203.2.2.2))))))))))=some r:=h
 clear h
 replace H:=Option.bind_eq_some_iff.mp H
 obtain ⟨t202,A40,H⟩:=H
 replace H : ((thresherlaw09_made.f k a0_0 a0_1 a0_2 a0_3 a0_4 a0_5 a0_6 a0_7 a0_8 a0_9 a0_10 a0_11).bind fun bt203=>((thresherref04_Fits.f k bt203.1 bt203.2.1 bt203.2.2.1 bt203.2.2.2 l1 60).bind fun t210=>((order_Sort.f k bt203.1 bt203.2.1 bt203.2.2.1 bt203.2.2.2 t210).bind fun t213=>((thresherref04_Fit.f k bt203.1 bt203.2.1 bt203.2.2.1 bt203.2.2.2 l2).bind fun t216=>((order_Below.f k bt203.1 bt203.2.1 bt203.2.2.1 bt203.2.2.2 t213 t216).bind fun t219=>((order_Upto.f k bt203.1 bt203.2.1 bt203.2.2.1 bt203.2.2.2 t213 t216).bind fun t220=>(if t219 < 0 then (thresherlaw09_OrderCuts.j0 k t202 t213 t216 t219 t220 true bt203.1 bt203.2.1 bt203.2.2.1 bt203.2.2.2) else (if t219 > t220 then (thresherlaw09_OrderCuts.j0 k t202 t213 t216 t219 t220 true bt203.1 bt203.2.1 bt203.2.2.1 bt203.2.2.2) else (thresherlaw09_OrderCuts.j0 k t202 t213 t216 t219 t220 (decide (t220 > (t213.length : Int))) bt203.1 bt203.2.1 bt203.2.2.1 bt203.2.2.2)))))))))=some r:=H
 have A4:=Aside0.mk A40
 clear A40
 replace H:=Option.bind_eq_some_iff.mp H
 obtain ⟨⟨t203,t206,t207,t208⟩,A50,H⟩:=H
 replace H : ((thresherref04_Fits.f k t203 t206 t207 t208 l1 60).bind fun t210=>((order_Sort.f k t203 t206 t207 t208 t210).bind fun t213=>((thresherref04_Fit.f k t203 t206 t207 t208 l2).bind fun t216=>((order_Below.f k t203 t206 t207 t208 t213 t216).bind fun t219=>((order_Upto.f k t203 t206 t207 t208 t213 t216).bind fun t220=>(if t219 < 0 then (thresherlaw09_OrderCuts.j0 k t202 t213 t216 t219 t220 true t203 t206 t207 t208) else (if t219 > t220 then (thresherlaw09_OrderCuts.j0 k t202 t213 t216 t219 t220 true t203 t206 t207 t208) else (thresherlaw09_OrderCuts.j0 k t202 t213 t216 t219 t220 (decide (t220 > (t213.length : Int))) t203 t206 t207 t208))))))))=some r:=H
 have A5:=Aside0.mk A50
 clear A50
 replace H:=Option.bind_eq_some_iff.mp H
 obtain ⟨t210,A60,H⟩:=H
 replace H : ((order_Sort.f k t203 t206 t207 t208 t210).bind fun t213=>((thresherref04_Fit.f k t203 t206 t207 t208 l2).bind fun t216=>((order_Below.f k t203 t206 t207 t208 t213 t216).bind fun t219=>((order_Upto.f k t203 t206 t207 t208 t213 t216).bind fun t220=>(if t219 < 0 then (thresherlaw09_OrderCuts.j0 k t202 t213 t216 t219 t220 true t203 t206 t207 t208) else (if t219 > t220 then (thresherlaw09_OrderCuts.j0 k t202 t213 t216 t219 t220 true t203 t206 t207 t208) else (thresherlaw09_OrderCuts.j0 k t202 t213 t216 t219 t220 (decide (t220 > (t213.length : Int))) t203 t206 t207 t208)))))))=some r:=H
 have A6:=Aside0.mk A60
 clear A60
 replace H:=Option.bind_eq_some_iff.mp H
 obtain ⟨t213,A70,H⟩:=H
 replace H : ((thresherref04_Fit.f k t203 t206 t207 t208 l2).bind fun t216=>((order_Below.f k t203 t206 t207 t208 t213 t216).bind fun t219=>((order_Upto.f k t203 t206 t207 t208 t213 t216).bind fun t220=>(if t219 < 0 then (thresherlaw09_OrderCuts.j0 k t202 t213 t216 t219 t220 true t203 t206 t207 t208) else (if t219 > t220 then (thresherlaw09_OrderCuts.j0 k t202 t213 t216 t219 t220 true t203 t206 t207 t208) else (thresherlaw09_OrderCuts.j0 k t202 t213 t216 t219 t220 (decide (t220 > (t213.length : Int))) t203 t206 t207 t208))))))=some r:=H
 have A7:=Aside0.mk A70
 clear A70
 replace H:=Option.bind_eq_some_iff.mp H
 obtain ⟨t216,A80,H⟩:=H
 replace H : ((order_Below.f k t203 t206 t207 t208 t213 t216).bind fun t219=>((order_Upto.f k t203 t206 t207 t208 t213 t216).bind fun t220=>(if t219 < 0 then (thresherlaw09_OrderCuts.j0 k t202 t213 t216 t219 t220 true t203 t206 t207 t208) else (if t219 > t220 then (thresherlaw09_OrderCuts.j0 k t202 t213 t216 t219 t220 true t203 t206 t207 t208) else (thresherlaw09_OrderCuts.j0 k t202 t213 t216 t219 t220 (decide (t220 > (t213.length : Int))) t203 t206 t207 t208)))))=some r:=H
 have A8:=Aside0.mk A80
 clear A80
 replace H:=Option.bind_eq_some_iff.mp H
 obtain ⟨t219,A90,H⟩:=H
 replace H : ((order_Upto.f k t203 t206 t207 t208 t213 t216).bind fun t220=>(if t219 < 0 then (thresherlaw09_OrderCuts.j0 k t202 t213 t216 t219 t220 true t203 t206 t207 t208) else (if t219 > t220 then (thresherlaw09_OrderCuts.j0 k t202 t213 t216 t219 t220 true t203 t206 t207 t208) else (thresherlaw09_OrderCuts.j0 k t202 t213 t216 t219 t220 (decide (t220 > (t213.length : Int))) t203 t206 t207 t208))))=some r:=H
 have A9:=Aside0.mk A90
 clear A90
 replace H:=Option.bind_eq_some_iff.mp H
 obtain ⟨t220,A100,H⟩:=H
 replace H : (if t219 < 0 then (thresherlaw09_OrderCuts.j0 k t202 t213 t216 t219 t220 true t203 t206 t207 t208) else (if t219 > t220 then (thresherlaw09_OrderCuts.j0 k t202 t213 t216 t219 t220 true t203 t206 t207 t208) else (thresherlaw09_OrderCuts.j0 k t202 t213 t216 t219 t220 (decide (t220 > (t213.length : Int))) t203 t206 t207 t208)))=some r:=H
 have A10:=Aside0.mk A100
 clear A100
 have HC11:=Aside0.mk H
 clear H
 go_enter Try.func3,Try.ntmps3
 try go_wp2_with (first|((with_reducible refine gate_dst (N:=3) rfl ?_);(try (refine gate_guard (by rfl) ?_;dsimp only));refine box_event ?hg (N:=3) ?hd (cs:=#[.int .u8 a0_0,.int .u8 a0_1,.int .u8 a0_2,.int .u8 a0_3,.int .u8 a0_4,.int .u8 a0_5,.int .u8 a0_6,.int .u8 a0_7,.int .u8 a0_8,.int .u8 a0_9,.int .u8 a0_10,.int .u8 a0_11]) (t:=24) ?hr ?_;(case hd=>rfl);(case hg=>rfl);(case hr=>first|(go_simp;done)|(go_simp;rfl));intro gb201 hg w12 hbox hb;have n0_:=Aside0.mk (below_step (by repeat (first|(with_reducible first|exact HB.out|apply below_alloc|apply pw_below_drewN|apply below_drew1)|exact HB.out)) hb);have n1_:=Aside0.mk (hbox);have n2_:=Aside0.mk ((by rw [hg];exact (below_size (by repeat (first|(with_reducible first|exact HB.out|apply below_alloc|apply pw_below_drewN|apply below_drew1)|exact HB.out))) : w.heap.size≤gb201));have n3_:=Aside0.mk ((by rw [hg];exact (below_size (by repeat (first|(with_reducible first|exact HB.out|apply below_alloc|apply pw_below_drewN|apply below_drew1)|exact HB.out))) : w.heap.size≤gb201));clear HB;have HB:=n0_;have BK201:=n1_;have GW201:=n2_;have GE201:=n3_;clear n0_ n1_ n2_ n3_;clear hb hbox hg)|((with_reducible refine gate_callee (f:=8) rfl ?_);refine goesL_ (some 15) rfl rfl Try.func8 (by kernel_rfl) rfl #[] rfl (by (try simp only [List.map_toArray,List.map_cons,List.map_nil]);first|done|rfl|(simp only [List.length_drop,List.length_take];rfl)) ?_;(with_reducible refine (thresherlaw09_shown.calls k  t202 _ A4.out).mono ?_);rintro e w13 ⟨rfl,hb⟩;refine ⟨_,rfl,?_⟩;have n0_:=Aside0.mk (blk_below (g:=gb201) (o:=.cells #[.int .u8 a0_0,.int .u8 a0_1,.int .u8 a0_2,.int .u8 a0_3,.int .u8 a0_4,.int .u8 a0_5,.int .u8 a0_6,.int .u8 a0_7,.int .u8 a0_8,.int .u8 a0_9,.int .u8 a0_10,.int .u8 a0_11] 24 (0,0)) (by (with_reducible repeat (first|refine blk_drewN ?_ _|refine blk_drew ?_|refine blk_alloc ?_ _));exact BK201.out) hb);have n1_:=Aside0.mk (below_step (by repeat (first|(with_reducible first|exact HB.out|apply below_alloc|apply pw_below_drewN|apply below_drew1|refine below_set ?_ GE201.out)|exact HB.out)) hb);clear BK201;clear HB;have BK201:=n0_;have HB:=n1_;clear n0_ n1_;(try clear hb);(try clear hb2);(try clear hk);(try clear hi);have hcz14_0 : w13.cell? ⟨gb201,0,none⟩=some (.int .u8 a0_0):=(blk_cell BK201.out 0).trans rfl;have hcz14_1 : w13.cell? ⟨gb201,1,none⟩=some (.int .u8 a0_1):=(blk_cell BK201.out 1).trans rfl;have hcz14_2 : w13.cell? ⟨gb201,2,none⟩=some (.int .u8 a0_2):=(blk_cell BK201.out 2).trans rfl;have hcz14_3 : w13.cell? ⟨gb201,3,none⟩=some (.int .u8 a0_3):=(blk_cell BK201.out 3).trans rfl;have hcz14_4 : w13.cell? ⟨gb201,4,none⟩=some (.int .u8 a0_4):=(blk_cell BK201.out 4).trans rfl;have hcz14_5 : w13.cell? ⟨gb201,5,none⟩=some (.int .u8 a0_5):=(blk_cell BK201.out 5).trans rfl;have hcz14_6 : w13.cell? ⟨gb201,6,none⟩=some (.int .u8 a0_6):=(blk_cell BK201.out 6).trans rfl;have hcz14_7 : w13.cell? ⟨gb201,7,none⟩=some (.int .u8 a0_7):=(blk_cell BK201.out 7).trans rfl;have hcz14_8 : w13.cell? ⟨gb201,8,none⟩=some (.int .u8 a0_8):=(blk_cell BK201.out 8).trans rfl;have hcz14_9 : w13.cell? ⟨gb201,9,none⟩=some (.int .u8 a0_9):=(blk_cell BK201.out 9).trans rfl;have hcz14_10 : w13.cell? ⟨gb201,10,none⟩=some (.int .u8 a0_10):=(blk_cell BK201.out 10).trans rfl;have hcz14_11 : w13.cell? ⟨gb201,11,none⟩=some (.int .u8 a0_11):=(blk_cell BK201.out 11).trans rfl;have hfz14_0:=blk_frozen BK201.out 0;have hfz14_1:=blk_frozen BK201.out 1;have hfz14_2:=blk_frozen BK201.out 2;have hfz14_3:=blk_frozen BK201.out 3;have hfz14_4:=blk_frozen BK201.out 4;have hfz14_5:=blk_frozen BK201.out 5;have hfz14_6:=blk_frozen BK201.out 6;have hfz14_7:=blk_frozen BK201.out 7;have hfz14_8:=blk_frozen BK201.out 8;have hfz14_9:=blk_frozen BK201.out 9;have hfz14_10:=blk_frozen BK201.out 10;have hfz14_11:=blk_frozen BK201.out 11)|((with_reducible refine gate_callee (f:=9) rfl ?_);refine goesL_ (some 17) rfl rfl Try.func9 (by kernel_rfl) rfl #[.agg #[.int .u8 a0_0,.int .u8 a0_1,.int .u8 a0_2,.int .u8 a0_3,.int .u8 a0_4,.int .u8 a0_5,.int .u8 a0_6,.int .u8 a0_7,.int .u8 a0_8,.int .u8 a0_9,.int .u8 a0_10,.int .u8 a0_11]] rfl (by (try simp only [List.map_toArray,List.map_cons,List.map_nil]);first|done|rfl|(simp only [List.length_drop,List.length_take];rfl)) ?_;(with_reducible refine (thresherlaw09_made.calls k a0_0 a0_1 a0_2 a0_3 a0_4 a0_5 a0_6 a0_7 a0_8 a0_9 a0_10 a0_11 t203 t206 t207 t208 _ A5.out).mono ?_);rintro e w15 ⟨v204,rfl,ho0,hb⟩;refine ⟨_,rfl,?_⟩;have n0_:=Aside0.mk (Kd.R_lower ho0 (below_size (by repeat (first|(with_reducible first|exact HB.out|apply below_alloc|apply pw_below_drewN|apply below_drew1|refine below_set ?_ GE201.out)|exact HB.out))));have n1_:=Aside0.mk (blk_below (g:=gb201) (o:=.cells #[.int .u8 a0_0,.int .u8 a0_1,.int .u8 a0_2,.int .u8 a0_3,.int .u8 a0_4,.int .u8 a0_5,.int .u8 a0_6,.int .u8 a0_7,.int .u8 a0_8,.int .u8 a0_9,.int .u8 a0_10,.int .u8 a0_11] 24 (0,0)) (by (with_reducible repeat (first|refine blk_drewN ?_ _|refine blk_drew ?_|refine blk_alloc ?_ _));exact BK201.out) hb);have n2_:=Aside0.mk (below_step (by repeat (first|(with_reducible first|exact HB.out|apply below_alloc|apply pw_below_drewN|apply below_drew1|refine below_set ?_ GE201.out)|exact HB.out)) hb);clear BK201;clear HB;have HO205:=n0_;have BK201:=n1_;have HB:=n2_;clear n0_ n1_ n2_;(try clear hb);(try clear hb2);(try clear hk);(try clear hi);(try clear ho0))|((with_reducible refine gate_dst (N:=8) rfl ?_);(try (refine gate_guard (by rfl) ?_;dsimp only));refine box_event ?hg (N:=8) ?hd (cs:=#[.slice none 0 0,.int .i64 0,.int .i64 0,.int .i64 0]) (t:=31) ?hr ?_;(case hd=>rfl);(case hg=>rfl);(case hr=>first|(go_simp;done)|(go_simp;rfl));intro gb209 hg w16 hbox hb;have n0_:=Aside0.mk (Kd.R_below (by (with_reducible repeat (first|apply Kd.R_alloc|apply Kd.R_drewN|apply Kd.R_drew));exact HO205.out) hb);have n1_:=Aside0.mk (blk_below (g:=gb201) (o:=.cells #[.int .u8 a0_0,.int .u8 a0_1,.int .u8 a0_2,.int .u8 a0_3,.int .u8 a0_4,.int .u8 a0_5,.int .u8 a0_6,.int .u8 a0_7,.int .u8 a0_8,.int .u8 a0_9,.int .u8 a0_10,.int .u8 a0_11] 24 (0,0)) (by (with_reducible repeat (first|refine blk_drewN ?_ _|refine blk_drew ?_|refine blk_alloc ?_ _));exact BK201.out) hb);have n2_:=Aside0.mk (below_step (by repeat (first|(with_reducible first|exact HB.out|apply below_alloc|apply pw_below_drewN|apply below_drew1|refine below_set ?_ GE201.out)|exact HB.out)) hb);have n3_:=Aside0.mk (hbox);have n4_:=Aside0.mk ((by rw [hg];exact (below_size (by repeat (first|(with_reducible first|exact HB.out|apply below_alloc|apply pw_below_drewN|apply below_drew1|refine below_set ?_ GE201.out)|exact HB.out))) : w.heap.size≤gb209));have n5_:=Aside0.mk ((by rw [hg];exact (below_size (by repeat (first|(with_reducible first|exact HB.out|apply below_alloc|apply pw_below_drewN|apply below_drew1|refine below_set ?_ GE201.out)|exact HB.out))) : w.heap.size≤gb209));have n6_:=Aside0.mk ((by rw [hg];exact Nat.ne_of_lt (blk_lt (g:=gb201) (o:=.cells #[.int .u8 a0_0,.int .u8 a0_1,.int .u8 a0_2,.int .u8 a0_3,.int .u8 a0_4,.int .u8 a0_5,.int .u8 a0_6,.int .u8 a0_7,.int .u8 a0_8,.int .u8 a0_9,.int .u8 a0_10,.int .u8 a0_11] 24 (0,0)) (by (with_reducible repeat (first|refine blk_drewN ?_ _|refine blk_drew ?_|refine blk_alloc ?_ _));exact BK201.out)) : gb201≠gb209));have n7_:=Aside0.mk ((by rw [hg];exact Nat.ne_of_gt (blk_lt (g:=gb201) (o:=.cells #[.int .u8 a0_0,.int .u8 a0_1,.int .u8 a0_2,.int .u8 a0_3,.int .u8 a0_4,.int .u8 a0_5,.int .u8 a0_6,.int .u8 a0_7,.int .u8 a0_8,.int .u8 a0_9,.int .u8 a0_10,.int .u8 a0_11] 24 (0,0)) (by (with_reducible repeat (first|refine blk_drewN ?_ _|refine blk_drew ?_|refine blk_alloc ?_ _));exact BK201.out)) : gb209≠gb201));clear HO205;clear BK201;clear HB;have HO205:=n0_;have BK201:=n1_;have HB:=n2_;have BK209:=n3_;have GW209:=n4_;have GE209:=n5_;have NB201_209:=n6_;have NB209_201:=n7_;clear n0_ n1_ n2_ n3_ n4_ n5_ n6_ n7_;clear hb hbox hg;obtain ⟨Ao17,co17,eo17⟩:=Kd.R_slice HO205.out;subst eo17;have hnb18:=NB209_201.out;have hnc18:=NB201_209.out;have hcz19_0 : w16.cell? ⟨gb209,0,none⟩=some (.slice none 0 0):=(blk_cell BK209.out 0).trans rfl;have hcz19_1 : w16.cell? ⟨gb209,1,none⟩=some (.int .i64 0):=(blk_cell BK209.out 1).trans rfl;have hcz19_2 : w16.cell? ⟨gb209,2,none⟩=some (.int .i64 0):=(blk_cell BK209.out 2).trans rfl;have hcz19_3 : w16.cell? ⟨gb209,3,none⟩=some (.int .i64 0):=(blk_cell BK209.out 3).trans rfl;have hfz19_0:=blk_frozen BK209.out 0;have hfz19_1:=blk_frozen BK209.out 1;have hfz19_2:=blk_frozen BK209.out 2;have hfz19_3:=blk_frozen BK209.out 3))
 have n0_ : Aside0 (Kd.R (Kd.int .i64) 3 ((((w16.setCell ⟨gb209,0,none⟩ (.slice Ao17 t203.length co17)).setCell ⟨gb209,1,none⟩ (.int .i64 t206)).setCell ⟨gb209,2,none⟩ (.int .i64 t207)).setCell ⟨gb209,3,none⟩ (.int .i64 t208)) w.heap.size (fun _=>True) (.slice Ao17 t203.length co17) t203):=⟨by (with_reducible repeat (first|apply Kd.R_alloc|apply Kd.R_drewN|apply Kd.R_drew));exact Kd.R_mono (Kd.R_far (p:=⟨gb209,3,none⟩) (Kd.R_far (p:=⟨gb209,2,none⟩) (Kd.R_far (p:=⟨gb209,1,none⟩) (Kd.R_far (p:=⟨gb209,0,none⟩) (Kd.R_types HO205.out BK209.out (by decide)) (fun _ hk=>hk.2) (.slice Ao17 t203.length co17)) (fun _ hk=>hk.2) (.int .i64 t206)) (fun _ hk=>hk.2) (.int .i64 t207)) (fun _ hk=>hk.2) (.int .i64 t208)) (fun _ hk=>trivial)⟩
 have n1_ : Aside0 (((((w16.setCell ⟨gb209,0,none⟩ (.slice Ao17 t203.length co17)).setCell ⟨gb209,1,none⟩ (.int .i64 t206)).setCell ⟨gb209,2,none⟩ (.int .i64 t207)).setCell ⟨gb209,3,none⟩ (.int .i64 t208)).heap[gb201]?=some (.cells #[.int .u8 a0_0,.int .u8 a0_1,.int .u8 a0_2,.int .u8 a0_3,.int .u8 a0_4,.int .u8 a0_5,.int .u8 a0_6,.int .u8 a0_7,.int .u8 a0_8,.int .u8 a0_9,.int .u8 a0_10,.int .u8 a0_11] 24 (0,0))):=⟨by (with_reducible repeat (first|refine blk_drewN ?_ _|refine blk_drew ?_|refine blk_alloc ?_ _));refine blk_far ?_ NB201_209.out _;(with_reducible repeat (first|refine blk_drewN ?_ _|refine blk_drew ?_|refine blk_alloc ?_ _));refine blk_far ?_ NB201_209.out _;(with_reducible repeat (first|refine blk_drewN ?_ _|refine blk_drew ?_|refine blk_alloc ?_ _));refine blk_far ?_ NB201_209.out _;(with_reducible repeat (first|refine blk_drewN ?_ _|refine blk_drew ?_|refine blk_alloc ?_ _));refine blk_far ?_ NB201_209.out _;(with_reducible repeat (first|refine blk_drewN ?_ _|refine blk_drew ?_|refine blk_alloc ?_ _));exact BK201.out⟩
 have n2_ : Aside0 (((((w16.setCell ⟨gb209,0,none⟩ (.slice Ao17 t203.length co17)).setCell ⟨gb209,1,none⟩ (.int .i64 t206)).setCell ⟨gb209,2,none⟩ (.int .i64 t207)).setCell ⟨gb209,3,none⟩ (.int .i64 t208)).heap[gb209]?=some (.cells #[.slice Ao17 t203.length co17,.int .i64 t206,.int .i64 t207,.int .i64 t208] 31 (0,0))):=⟨by (with_reducible repeat (first|refine blk_drewN ?_ _|refine blk_drew ?_|refine blk_alloc ?_ _));refine blk_put (cs:=#[.slice Ao17 t203.length co17,.int .i64 t206,.int .i64 t207,.int .i64 0]) ?_ 3 _ rfl;(with_reducible repeat (first|refine blk_drewN ?_ _|refine blk_drew ?_|refine blk_alloc ?_ _));refine blk_put (cs:=#[.slice Ao17 t203.length co17,.int .i64 t206,.int .i64 0,.int .i64 0]) ?_ 2 _ rfl;(with_reducible repeat (first|refine blk_drewN ?_ _|refine blk_drew ?_|refine blk_alloc ?_ _));refine blk_put (cs:=#[.slice Ao17 t203.length co17,.int .i64 0,.int .i64 0,.int .i64 0]) ?_ 1 _ rfl;(with_reducible repeat (first|refine blk_drewN ?_ _|refine blk_drew ?_|refine blk_alloc ?_ _));refine blk_put (cs:=#[.slice none 0 0,.int .i64 0,.int .i64 0,.int .i64 0]) ?_ 0 _ rfl;(with_reducible repeat (first|refine blk_drewN ?_ _|refine blk_drew ?_|refine blk_alloc ?_ _));exact BK209.out⟩
 have n3_ : Aside0 (Below w.heap.size w ((((w16.setCell ⟨gb209,0,none⟩ (.slice Ao17 t203.length co17)).setCell ⟨gb209,1,none⟩ (.int .i64 t206)).setCell ⟨gb209,2,none⟩ (.int .i64 t207)).setCell ⟨gb209,3,none⟩ (.int .i64 t208))):=⟨by repeat (first|(with_reducible first|exact HB.out|apply below_alloc|apply pw_below_drewN|apply below_drew1|refine below_set ?_ GE201.out|refine below_set ?_ GE209.out)|exact HB.out)⟩
 (try clear HO205)
 (try clear BK201)
 (try clear BK209)
 (try clear HB)
 generalize ((((w16.setCell ⟨gb209,0,none⟩ (.slice Ao17 t203.length co17)).setCell ⟨gb209,1,none⟩ (.int .i64 t206)).setCell ⟨gb209,2,none⟩ (.int .i64 t207)).setCell ⟨gb209,3,none⟩ (.int .i64 t208))=w20 at n0_ n1_ n2_ n3_ ⊢
 have HO205:=n0_
 have BK201:=n1_
 have BK209:=n2_
 have HB:=n3_
 clear n0_ n1_ n2_ n3_
 have n0_:=Aside0.mk (Kd.R_drew HO205.out)
 have n1_:=Aside0.mk (blk_drew BK201.out)
 have n2_:=Aside0.mk (blk_drew BK209.out)
 have n3_:=Aside0.mk (below_drew1 HB.out)
 clear HO205
 clear BK201
 clear BK209
 clear HB
 have HO205:=n0_
 have BK201:=n1_
 have BK209:=n2_
 have HB:=n3_
 clear n0_ n1_ n2_ n3_
 refine start_ (n:=6) (S:=fun w'=>w'.cell? ⟨gb209,0,none⟩=some (.slice Ao17 t203.length co17)∧w'.cell? ⟨gb209,1,none⟩=some (.int .i64 t206)∧w'.cell? ⟨gb209,2,none⟩=some (.int .i64 t207)∧w'.cell? ⟨gb209,3,none⟩=some (.int .i64 t208)) (ds:=[]) #[false,false,false,false,false,false] (by kernel_rfl) rfl rfl ⟨(blk_cell BK209.out 0).trans rfl,(blk_cell BK209.out 1).trans rfl,(blk_cell BK209.out 2).trans rfl,(blk_cell BK209.out 3).trans rfl⟩ (fun hHeld=>?_)
 generalize w20.drew=w21 at HO205 BK201 BK209 HB hHeld ⊢
 refine pure_ (i:=2) (N:=some 20) (v:=?_) (a':=?_) #[false,false,true,false,false,false] rfl rfl (by kernel_rfl) (fun _ _ _ h=>h) (Or.inl ⟨by rfl,?_⟩) ?_ ?_
 rotate_left;(intro w';go_simp;with_reducible rfl);rotate_left;(simp only [Act.put,List.setIfInBounds_toArray,List.set_cons_zero,List.set_cons_succ,i64_w,i32_w];rfl)
 refine take_ (i:=0) (N:=some 18) (v:=?_) (a':=?_) #[true,false,true,false,false,false] rfl rfl (by kernel_rfl) (fun _ _ _ h=>h) (Or.inl ⟨by rfl,?_⟩) hHeld ?_ ?_
 rotate_left;(rintro w' ⟨s0,s1,s2,s3⟩;go_simp;with_reducible rfl);rotate_left;(simp only [Act.put,List.setIfInBounds_toArray,List.set_cons_zero,List.set_cons_succ,i64_w,i32_w];rfl)
 refine take_ (i:=1) (N:=some 19) (v:=?_) (a':=?_) #[true,true,true,false,false,false] rfl rfl (by kernel_rfl) (fun _ _ _ h=>h) (Or.inl ⟨by rfl,?_⟩) hHeld ?_ ?_
 rotate_left;(rintro w' ⟨s0,s1,s2,s3⟩;go_simp;with_reducible rfl);rotate_left;(simp only [Act.put,List.setIfInBounds_toArray,List.set_cons_zero,List.set_cons_succ,i64_w,i32_w];rfl)
 refine one_ (i:=3) (N:=some 21) #[true,true,true,true,false,false] rfl rfl (by kernel_rfl) (by decide) (fun K hK=>?_)
 refine goes_ Try.func11 (by kernel_rfl) rfl #[.agg #[.slice Ao17 t203.length co17,.int .i64 t206,.int .i64 t207,.int .i64 t208],.slice A1 l1.length c1,.int .i64 60] (by rfl) rfl rfl (by (try simp only [List.map_toArray,List.map_cons,List.map_nil]);first|done|rfl|(simp only [List.length_drop,List.length_take];rfl)) ?_
 with_reducible refine (thresherref04_Fits.calls k _ _ t203 t206 t207 t208 _ _ l1 60 t210 _ ?side1 ?side2 ?side3 ?side4 A6.out).mono ?_
 (case side1=>repeat (first|exact (Kd.R_reads' HO205.out).2.2|(with_reducible refine Kd.C_alloc ?_ _)|(with_reducible refine Kd.C_drewN ?_ _)|(with_reducible refine Kd.C_drew ?_)))
 (case side2=>exact (Kd.R_reads' HO205.out).2.1)
 (case side3=>repeat (first|exact (Kd.C_below HR1.out HB.out)|(with_reducible refine Kd.C_alloc ?_ _)|(with_reducible refine Kd.C_drewN ?_ _)|(with_reducible refine Kd.C_drew ?_)))
 (case side4=>exact HC1.out)
 rintro e w22 ⟨v211,rfl,ho0,hb⟩
 refine ⟨_,rfl,?_⟩
 have n0_:=Aside0.mk (Kd.R_below (by (with_reducible repeat (first|apply Kd.R_alloc|apply Kd.R_drewN|apply Kd.R_drew));exact HO205.out) hb)
 have n1_:=Aside0.mk (Kd.N_lower (Kd.N_mono (ok':=fun k_=>some k_≠(.slice Ao17 t203.length co17 : Value).ownBlock∧k_≠gb201∧k_≠gb209) (Kd.S_N (Kd.S_bound ho0)) (fun k_ hk_=>⟨(Kd.fresh' (Kd.R_lt (by (with_reducible repeat (first|apply Kd.R_alloc|apply Kd.R_drewN|apply Kd.R_drew));exact HO205.out)) k_ hk_.2.1),(Kd.freshB (g:=gb201) (o:=.cells #[.int .u8 a0_0,.int .u8 a0_1,.int .u8 a0_2,.int .u8 a0_3,.int .u8 a0_4,.int .u8 a0_5,.int .u8 a0_6,.int .u8 a0_7,.int .u8 a0_8,.int .u8 a0_9,.int .u8 a0_10,.int .u8 a0_11] 24 (0,0)) (by (with_reducible repeat (first|refine blk_drewN ?_ _|refine blk_drew ?_|refine blk_alloc ?_ _));exact BK201.out) k_ hk_.2.1),(Kd.freshB (g:=gb209) (o:=.cells #[.slice Ao17 t203.length co17,.int .i64 t206,.int .i64 t207,.int .i64 t208] 31 (0,0)) (by (with_reducible repeat (first|refine blk_drewN ?_ _|refine blk_drew ?_|refine blk_alloc ?_ _));exact BK209.out) k_ hk_.2.1)⟩)) (below_size (by repeat (first|(with_reducible first|exact HB.out|apply below_alloc|apply pw_below_drewN|apply below_drew1|refine below_set ?_ GE201.out|refine below_set ?_ GE209.out)|exact HB.out))))
 have n2_:=Aside0.mk (blk_below (g:=gb201) (o:=.cells #[.int .u8 a0_0,.int .u8 a0_1,.int .u8 a0_2,.int .u8 a0_3,.int .u8 a0_4,.int .u8 a0_5,.int .u8 a0_6,.int .u8 a0_7,.int .u8 a0_8,.int .u8 a0_9,.int .u8 a0_10,.int .u8 a0_11] 24 (0,0)) (by (with_reducible repeat (first|refine blk_drewN ?_ _|refine blk_drew ?_|refine blk_alloc ?_ _));exact BK201.out) hb)
 have n3_:=Aside0.mk (blk_below (g:=gb209) (o:=.cells #[.slice Ao17 t203.length co17,.int .i64 t206,.int .i64 t207,.int .i64 t208] 31 (0,0)) (by (with_reducible repeat (first|refine blk_drewN ?_ _|refine blk_drew ?_|refine blk_alloc ?_ _));exact BK209.out) hb)
 have n4_:=Aside0.mk (below_step (by repeat (first|(with_reducible first|exact HB.out|apply below_alloc|apply pw_below_drewN|apply below_drew1|refine below_set ?_ GE201.out|refine below_set ?_ GE209.out)|exact HB.out)) hb)
 clear HO205
 clear BK201
 clear BK209
 clear HB
 have HO205:=n0_
 have HO212:=n1_
 have BK201:=n2_
 have BK209:=n3_
 have HB:=n4_
 clear n0_ n1_ n2_ n3_ n4_
 (try clear hb)
 (try clear hb2)
 (try clear hk)
 (try clear hi)
 (try clear ho0)
 obtain ⟨Ao23,co23,eo23⟩:=Kd.N_slice HO212.out
 (first|subst eo23|(injection eo23 with f1_ f2_ f3_;have f4_:=f1_.symm;have f5_:=f3_.symm;clear f1_ f2_ f3_;subst f4_;subst f5_))
 refine hK.out _ _ ⟨(blk_cell BK209.out 0).trans rfl,(blk_cell BK209.out 1).trans rfl,(blk_cell BK209.out 2).trans rfl,(blk_cell BK209.out 3).trans rfl⟩ (fun hHeld=>?_)
 clear hK K
 refine norm_ (a':=?_) ?_ ?_
 rotate_left
 ·show Act.put _ (some 21) _=_
  simp only [Act.put,List.setIfInBounds_toArray,List.set_cons_zero,List.set_cons_succ,i64_w,i32_w]
  rfl
 refine one_ (i:=4) (N:=some 22) #[true,true,true,true,true,false] rfl rfl (by kernel_rfl) (by decide) (fun K hK=>?_)
 refine goes_ Try.func10 (by kernel_rfl) rfl #[.agg #[.slice Ao17 t203.length co17,.int .i64 t206,.int .i64 t207,.int .i64 t208],.slice Ao23 t210.length co23] (by rfl) rfl rfl (by (try simp only [List.map_toArray,List.map_cons,List.map_nil]);first|done|rfl|(simp only [List.length_drop,List.length_take];rfl)) ?_
 with_reducible refine (order_Sort.calls k _ _ t203 t206 t207 t208 (fun k_=>(some k_≠(.slice Ao17 t203.length co17 : Value).ownBlock∧(k_≠gb201∧k_≠gb209))) _ _ t210 t213 _ ?side1 ?side2 ?side3 A7.out).mono ?_
 (case side1=>repeat (first|exact (Kd.R_reads' HO205.out).2.2|(with_reducible refine Kd.C_alloc ?_ _)|(with_reducible refine Kd.C_drewN ?_ _)|(with_reducible refine Kd.C_drew ?_)))
 (case side2=>exact (Kd.R_reads' HO205.out).2.1)
 (case side3=>exact Kd.N_V (HO212.out))
 rintro e w24 ⟨v214,rfl,ho0,hb⟩
 refine ⟨_,rfl,?_⟩
 have n0_:=Aside0.mk (Kd.R_below (by (with_reducible repeat (first|apply Kd.R_alloc|apply Kd.R_drewN|apply Kd.R_drew));exact HO205.out) hb)
 have n1_:=Aside0.mk (Kd.N_elder' (by (with_reducible repeat (first|apply Kd.N_alloc|apply Kd.N_drewN|apply Kd.N_drew));exact HO212.out) (by first|exact Kd.N_base ho0|exact Kd.S_base ho0) hb)
 have n2_:=Aside0.mk (Kd.N_lower (Kd.N_mono (ok':=fun k_=>some k_≠(.slice Ao17 t203.length co17 : Value).ownBlock∧k_≠gb201∧k_≠gb209) ho0 (fun k_ hk_=>⟨Or.elim hk_ (fun hs_=>hs_.1) (fun hn_=>(Kd.fresh' (Kd.R_lt (by (with_reducible repeat (first|apply Kd.R_alloc|apply Kd.R_drewN|apply Kd.R_drew));exact HO205.out)) k_ hn_)),Or.elim hk_ (fun hs_=>hs_.2.1) (fun hn_=>(Kd.freshB (g:=gb201) (o:=.cells #[.int .u8 a0_0,.int .u8 a0_1,.int .u8 a0_2,.int .u8 a0_3,.int .u8 a0_4,.int .u8 a0_5,.int .u8 a0_6,.int .u8 a0_7,.int .u8 a0_8,.int .u8 a0_9,.int .u8 a0_10,.int .u8 a0_11] 24 (0,0)) (by (with_reducible repeat (first|refine blk_drewN ?_ _|refine blk_drew ?_|refine blk_alloc ?_ _));exact BK201.out) k_ hn_)),Or.elim hk_ (fun hs_=>hs_.2.2) (fun hn_=>(Kd.freshB (g:=gb209) (o:=.cells #[.slice Ao17 t203.length co17,.int .i64 t206,.int .i64 t207,.int .i64 t208] 31 (0,0)) (by (with_reducible repeat (first|refine blk_drewN ?_ _|refine blk_drew ?_|refine blk_alloc ?_ _));exact BK209.out) k_ hn_))⟩)) (below_size (by repeat (first|(with_reducible first|exact HB.out|apply below_alloc|apply pw_below_drewN|apply below_drew1|refine below_set ?_ GE201.out|refine below_set ?_ GE209.out)|exact HB.out))))
 have n3_:=Aside0.mk (blk_below (g:=gb201) (o:=.cells #[.int .u8 a0_0,.int .u8 a0_1,.int .u8 a0_2,.int .u8 a0_3,.int .u8 a0_4,.int .u8 a0_5,.int .u8 a0_6,.int .u8 a0_7,.int .u8 a0_8,.int .u8 a0_9,.int .u8 a0_10,.int .u8 a0_11] 24 (0,0)) (by (with_reducible repeat (first|refine blk_drewN ?_ _|refine blk_drew ?_|refine blk_alloc ?_ _));exact BK201.out) hb)
 have n4_:=Aside0.mk (blk_below (g:=gb209) (o:=.cells #[.slice Ao17 t203.length co17,.int .i64 t206,.int .i64 t207,.int .i64 t208] 31 (0,0)) (by (with_reducible repeat (first|refine blk_drewN ?_ _|refine blk_drew ?_|refine blk_alloc ?_ _));exact BK209.out) hb)
 have n5_:=Aside0.mk (below_step (by repeat (first|(with_reducible first|exact HB.out|apply below_alloc|apply pw_below_drewN|apply below_drew1|refine below_set ?_ GE201.out|refine below_set ?_ GE209.out)|exact HB.out)) hb)
 clear HO205
 clear HO212
 clear BK201
 clear BK209
 clear HB
 have HO205:=n0_
 have HO212:=n1_
 have HO215:=n2_
 have BK201:=n3_
 have BK209:=n4_
 have HB:=n5_
 clear n0_ n1_ n2_ n3_ n4_ n5_
 (try clear hb)
 (try clear hb2)
 (try clear hk)
 (try clear hi)
 (try clear ho0)
 refine hK.out _ _ ⟨(blk_cell BK209.out 0).trans rfl,(blk_cell BK209.out 1).trans rfl,(blk_cell BK209.out 2).trans rfl,(blk_cell BK209.out 3).trans rfl⟩ (fun hHeld=>?_)
 clear hK K
 refine norm_ (a':=?_) ?_ ?_
 rotate_left
 ·show Act.put _ (some 22) _=_
  simp only [Act.put,List.setIfInBounds_toArray,List.set_cons_zero,List.set_cons_succ,i64_w,i32_w]
  rfl
 refine pure_ (i:=5) (N:=some 9) (v:=?_) (a':=?_) #[true,true,true,true,true,true] rfl rfl (by kernel_rfl) (fun _ _ _ h=>h) (Or.inl ⟨by rfl,?_⟩) ?_ ?_
 rotate_left;(intro w';go_simp;with_reducible rfl);rotate_left;(simp only [Act.put,List.setIfInBounds_toArray,List.set_cons_zero,List.set_cons_succ,i64_w,i32_w];rfl)
 refine done_ (by kernel_rfl) ?_
 have hcz25_0 : w24.cell? ⟨gb209,0,none⟩=some (.slice Ao17 t203.length co17):=(blk_cell BK209.out 0).trans rfl
 have hcz25_1 : w24.cell? ⟨gb209,1,none⟩=some (.int .i64 t206):=(blk_cell BK209.out 1).trans rfl
 have hcz25_2 : w24.cell? ⟨gb209,2,none⟩=some (.int .i64 t207):=(blk_cell BK209.out 2).trans rfl
 have hcz25_3 : w24.cell? ⟨gb209,3,none⟩=some (.int .i64 t208):=(blk_cell BK209.out 3).trans rfl
 have hfz25_0:=blk_frozen BK209.out 0
 have hfz25_1:=blk_frozen BK209.out 1
 have hfz25_2:=blk_frozen BK209.out 2
 have hfz25_3:=blk_frozen BK209.out 3
 go_upto_region 7 with (first|((with_reducible refine gate_callee (f:=12) rfl ?_);refine goesL_ (some 25) rfl rfl Try.func12 (by kernel_rfl) rfl #[.agg #[.slice Ao17 t203.length co17,.int .i64 t206,.int .i64 t207,.int .i64 t208],.slice A2 l2.length c2] rfl (by (try simp only [List.map_toArray,List.map_cons,List.map_nil]);first|done|rfl|(simp only [List.length_drop,List.length_take];rfl)) ?_;(with_reducible refine (thresherref04_Fit.calls k _ _ t203 t206 t207 t208 _ _ l2 t216 _ ?side1 ?side2 ?side3 ?side4 A8.out).mono ?_);(case side1=>repeat (first|exact (Kd.R_reads' HO205.out).2.2|(with_reducible refine Kd.C_alloc ?_ _)|(with_reducible refine Kd.C_drewN ?_ _)|(with_reducible refine Kd.C_drew ?_)));(case side2=>exact (Kd.R_reads' HO205.out).2.1);(case side3=>repeat (first|exact (Kd.C_below HR2.out HB.out)|(with_reducible refine Kd.C_alloc ?_ _)|(with_reducible refine Kd.C_drewN ?_ _)|(with_reducible refine Kd.C_drew ?_)));(case side4=>exact HC2.out);rintro e w26 ⟨v217,rfl,ho0,hb⟩;refine ⟨_,rfl,?_⟩;have n0_:=Aside0.mk (Kd.R_below (by (with_reducible repeat (first|apply Kd.R_alloc|apply Kd.R_drewN|apply Kd.R_drew));exact HO205.out) hb);have n1_:=Aside0.mk (Kd.N_elder' (by (with_reducible repeat (first|apply Kd.N_alloc|apply Kd.N_drewN|apply Kd.N_drew));exact HO212.out) (Kd.R_base ho0) hb);have n2_:=Aside0.mk (Kd.N_elder' (by (with_reducible repeat (first|apply Kd.N_alloc|apply Kd.N_drewN|apply Kd.N_drew));exact HO215.out) (Kd.R_base ho0) hb);have n3_:=Aside0.mk (Kd.R_lower ho0 (below_size (by repeat (first|(with_reducible first|exact HB.out|apply below_alloc|apply pw_below_drewN|apply below_drew1|refine below_set ?_ GE201.out|refine below_set ?_ GE209.out)|exact HB.out))));have n4_:=Aside0.mk (blk_below (g:=gb201) (o:=.cells #[.int .u8 a0_0,.int .u8 a0_1,.int .u8 a0_2,.int .u8 a0_3,.int .u8 a0_4,.int .u8 a0_5,.int .u8 a0_6,.int .u8 a0_7,.int .u8 a0_8,.int .u8 a0_9,.int .u8 a0_10,.int .u8 a0_11] 24 (0,0)) (by (with_reducible repeat (first|refine blk_drewN ?_ _|refine blk_drew ?_|refine blk_alloc ?_ _));exact BK201.out) hb);have n5_:=Aside0.mk (blk_below (g:=gb209) (o:=.cells #[.slice Ao17 t203.length co17,.int .i64 t206,.int .i64 t207,.int .i64 t208] 31 (0,0)) (by (with_reducible repeat (first|refine blk_drewN ?_ _|refine blk_drew ?_|refine blk_alloc ?_ _));exact BK209.out) hb);have n6_:=Aside0.mk (below_step (by repeat (first|(with_reducible first|exact HB.out|apply below_alloc|apply pw_below_drewN|apply below_drew1|refine below_set ?_ GE201.out|refine below_set ?_ GE209.out)|exact HB.out)) hb);clear HO205;clear HO212;clear HO215;clear BK201;clear BK209;clear HB;have HO205:=n0_;have HO212:=n1_;have HO215:=n2_;have HO218:=n3_;have BK201:=n4_;have BK209:=n5_;have HB:=n6_;clear n0_ n1_ n2_ n3_ n4_ n5_ n6_;(try clear hb);(try clear hb2);(try clear hk);(try clear hi);(try clear ho0);have hcz27_0 : w26.cell? ⟨gb209,0,none⟩=some (.slice Ao17 t203.length co17):=(blk_cell BK209.out 0).trans rfl;have hcz27_1 : w26.cell? ⟨gb209,1,none⟩=some (.int .i64 t206):=(blk_cell BK209.out 1).trans rfl;have hcz27_2 : w26.cell? ⟨gb209,2,none⟩=some (.int .i64 t207):=(blk_cell BK209.out 2).trans rfl;have hcz27_3 : w26.cell? ⟨gb209,3,none⟩=some (.int .i64 t208):=(blk_cell BK209.out 3).trans rfl;have hfz27_0:=blk_frozen BK209.out 0;have hfz27_1:=blk_frozen BK209.out 1;have hfz27_2:=blk_frozen BK209.out 2;have hfz27_3:=blk_frozen BK209.out 3;obtain ⟨Ao28,co28,eo28⟩:=Kd.N_slice HO215.out;subst eo28;obtain ⟨Ao29,co29,eo29⟩:=Kd.R_slice HO218.out;subst eo29)|((with_reducible refine gate_callee (f:=13) rfl ?_);refine goesL_ (some 29) rfl rfl Try.func13 (by kernel_rfl) rfl #[.agg #[.slice Ao17 t203.length co17,.int .i64 t206,.int .i64 t207,.int .i64 t208],.slice Ao28 t213.length co28,.slice Ao29 t216.length co29] rfl (by (try simp only [List.map_toArray,List.map_cons,List.map_nil]);first|done|rfl|(simp only [List.length_drop,List.length_take];rfl)) ?_;(with_reducible refine (order_Below.calls k _ _ t203 t206 t207 t208 _ _ t213 _ _ t216 t219 _ ?side1 ?side2 ?side3 ?side4 ?side5 ?side6 A9.out).mono ?_);(case side1=>repeat (first|exact (Kd.R_reads' HO205.out).2.2|(with_reducible refine Kd.C_alloc ?_ _)|(with_reducible refine Kd.C_drewN ?_ _)|(with_reducible refine Kd.C_drew ?_)));(case side2=>exact (Kd.R_reads' HO205.out).2.1);(case side3=>repeat (first|exact (Kd.N_reads' HO215.out).2.2|(with_reducible refine Kd.C_alloc ?_ _)|(with_reducible refine Kd.C_drewN ?_ _)|(with_reducible refine Kd.C_drew ?_)));(case side4=>exact (Kd.N_reads' HO215.out).2.1);(case side5=>repeat (first|exact (Kd.R_reads' HO218.out).2.2|(with_reducible refine Kd.C_alloc ?_ _)|(with_reducible refine Kd.C_drewN ?_ _)|(with_reducible refine Kd.C_drew ?_)));(case side6=>exact (Kd.R_reads' HO218.out).2.1);rintro e w30 ⟨rfl,hb⟩;refine ⟨_,rfl,?_⟩;have n0_:=Aside0.mk (Kd.R_below (by (with_reducible repeat (first|apply Kd.R_alloc|apply Kd.R_drewN|apply Kd.R_drew));exact HO205.out) hb);have n1_:=Aside0.mk (Kd.N_below (by (with_reducible repeat (first|apply Kd.N_alloc|apply Kd.N_drewN|apply Kd.N_drew));exact HO212.out) hb);have n2_:=Aside0.mk (Kd.N_below (by (with_reducible repeat (first|apply Kd.N_alloc|apply Kd.N_drewN|apply Kd.N_drew));exact HO215.out) hb);have n3_:=Aside0.mk (Kd.R_below (by (with_reducible repeat (first|apply Kd.R_alloc|apply Kd.R_drewN|apply Kd.R_drew));exact HO218.out) hb);have n4_:=Aside0.mk (blk_below (g:=gb201) (o:=.cells #[.int .u8 a0_0,.int .u8 a0_1,.int .u8 a0_2,.int .u8 a0_3,.int .u8 a0_4,.int .u8 a0_5,.int .u8 a0_6,.int .u8 a0_7,.int .u8 a0_8,.int .u8 a0_9,.int .u8 a0_10,.int .u8 a0_11] 24 (0,0)) (by (with_reducible repeat (first|refine blk_drewN ?_ _|refine blk_drew ?_|refine blk_alloc ?_ _));exact BK201.out) hb);have n5_:=Aside0.mk (blk_below (g:=gb209) (o:=.cells #[.slice Ao17 t203.length co17,.int .i64 t206,.int .i64 t207,.int .i64 t208] 31 (0,0)) (by (with_reducible repeat (first|refine blk_drewN ?_ _|refine blk_drew ?_|refine blk_alloc ?_ _));exact BK209.out) hb);have n6_:=Aside0.mk (below_step (by repeat (first|(with_reducible first|exact HB.out|apply below_alloc|apply pw_below_drewN|apply below_drew1|refine below_set ?_ GE201.out|refine below_set ?_ GE209.out)|exact HB.out)) hb);clear HO205;clear HO212;clear HO215;clear HO218;clear BK201;clear BK209;clear HB;have HO205:=n0_;have HO212:=n1_;have HO215:=n2_;have HO218:=n3_;have BK201:=n4_;have BK209:=n5_;have HB:=n6_;clear n0_ n1_ n2_ n3_ n4_ n5_ n6_;(try clear hb);(try clear hb2);(try clear hk);(try clear hi);have hcz31_0 : w30.cell? ⟨gb209,0,none⟩=some (.slice Ao17 t203.length co17):=(blk_cell BK209.out 0).trans rfl;have hcz31_1 : w30.cell? ⟨gb209,1,none⟩=some (.int .i64 t206):=(blk_cell BK209.out 1).trans rfl;have hcz31_2 : w30.cell? ⟨gb209,2,none⟩=some (.int .i64 t207):=(blk_cell BK209.out 2).trans rfl;have hcz31_3 : w30.cell? ⟨gb209,3,none⟩=some (.int .i64 t208):=(blk_cell BK209.out 3).trans rfl;have hfz31_0:=blk_frozen BK209.out 0;have hfz31_1:=blk_frozen BK209.out 1;have hfz31_2:=blk_frozen BK209.out 2;have hfz31_3:=blk_frozen BK209.out 3)|((with_reducible refine gate_callee (f:=14) rfl ?_);refine goesL_ (some 33) rfl rfl Try.func14 (by kernel_rfl) rfl #[.agg #[.slice Ao17 t203.length co17,.int .i64 t206,.int .i64 t207,.int .i64 t208],.slice Ao28 t213.length co28,.slice Ao29 t216.length co29] rfl (by (try simp only [List.map_toArray,List.map_cons,List.map_nil]);first|done|rfl|(simp only [List.length_drop,List.length_take];rfl)) ?_;(with_reducible refine (order_Upto.calls k _ _ t203 t206 t207 t208 _ _ t213 _ _ t216 t220 _ ?side1 ?side2 ?side3 ?side4 ?side5 ?side6 A10.out).mono ?_);(case side1=>repeat (first|exact (Kd.R_reads' HO205.out).2.2|(with_reducible refine Kd.C_alloc ?_ _)|(with_reducible refine Kd.C_drewN ?_ _)|(with_reducible refine Kd.C_drew ?_)));(case side2=>exact (Kd.R_reads' HO205.out).2.1);(case side3=>repeat (first|exact (Kd.N_reads' HO215.out).2.2|(with_reducible refine Kd.C_alloc ?_ _)|(with_reducible refine Kd.C_drewN ?_ _)|(with_reducible refine Kd.C_drew ?_)));(case side4=>exact (Kd.N_reads' HO215.out).2.1);(case side5=>repeat (first|exact (Kd.R_reads' HO218.out).2.2|(with_reducible refine Kd.C_alloc ?_ _)|(with_reducible refine Kd.C_drewN ?_ _)|(with_reducible refine Kd.C_drew ?_)));(case side6=>exact (Kd.R_reads' HO218.out).2.1);rintro e w32 ⟨rfl,hb⟩;refine ⟨_,rfl,?_⟩;have n0_:=Aside0.mk (Kd.R_below (by (with_reducible repeat (first|apply Kd.R_alloc|apply Kd.R_drewN|apply Kd.R_drew));exact HO205.out) hb);have n1_:=Aside0.mk (Kd.N_below (by (with_reducible repeat (first|apply Kd.N_alloc|apply Kd.N_drewN|apply Kd.N_drew));exact HO212.out) hb);have n2_:=Aside0.mk (Kd.N_below (by (with_reducible repeat (first|apply Kd.N_alloc|apply Kd.N_drewN|apply Kd.N_drew));exact HO215.out) hb);have n3_:=Aside0.mk (Kd.R_below (by (with_reducible repeat (first|apply Kd.R_alloc|apply Kd.R_drewN|apply Kd.R_drew));exact HO218.out) hb);have n4_:=Aside0.mk (blk_below (g:=gb201) (o:=.cells #[.int .u8 a0_0,.int .u8 a0_1,.int .u8 a0_2,.int .u8 a0_3,.int .u8 a0_4,.int .u8 a0_5,.int .u8 a0_6,.int .u8 a0_7,.int .u8 a0_8,.int .u8 a0_9,.int .u8 a0_10,.int .u8 a0_11] 24 (0,0)) (by (with_reducible repeat (first|refine blk_drewN ?_ _|refine blk_drew ?_|refine blk_alloc ?_ _));exact BK201.out) hb);have n5_:=Aside0.mk (blk_below (g:=gb209) (o:=.cells #[.slice Ao17 t203.length co17,.int .i64 t206,.int .i64 t207,.int .i64 t208] 31 (0,0)) (by (with_reducible repeat (first|refine blk_drewN ?_ _|refine blk_drew ?_|refine blk_alloc ?_ _));exact BK209.out) hb);have n6_:=Aside0.mk (below_step (by repeat (first|(with_reducible first|exact HB.out|apply below_alloc|apply pw_below_drewN|apply below_drew1|refine below_set ?_ GE201.out|refine below_set ?_ GE209.out)|exact HB.out)) hb);clear HO205;clear HO212;clear HO215;clear HO218;clear BK201;clear BK209;clear HB;have HO205:=n0_;have HO212:=n1_;have HO215:=n2_;have HO218:=n3_;have BK201:=n4_;have BK209:=n5_;have HB:=n6_;clear n0_ n1_ n2_ n3_ n4_ n5_ n6_;(try clear hb);(try clear hb2);(try clear hk);(try clear hi)))
 (try simp only [Act.put,List.setIfInBounds_toArray,List.set_cons_zero,List.set_cons_succ])
 go_cut [46] (fun v46 wc=>∃ (kq : Nat) (x46_10 : Bool),v46=.bool x46_10∧Aside0 (thresherlaw09_OrderCuts.j0 kq t202 t213 t216 t219 t220 x46_10 t203 t206 t207 t208=some r)∧Aside0 (kq≤k)∧Aside0 (Kd.N (Kd.slice 41 k41) 27 wc w.heap.size (fun k_=>some k_≠((.slice Ao29 t216.length co29) : Value).ownBlock∧some k_≠((.slice Ao17 t203.length co17) : Value).ownBlock∧k_≠gb201∧k_≠gb209) (.slice Ao28 t213.length co28) t213)∧Aside0 (Kd.R k41 41 wc w.heap.size (fun _=>True) (.slice Ao29 t216.length co29) t216)∧Aside0 (Kd.R (Kd.int .i64) 3 wc w.heap.size (fun _=>True) (.slice Ao17 t203.length co17) t203)∧Aside0 (wc.heap[gb201]?=some (.cells #[.int .u8 a0_0,.int .u8 a0_1,.int .u8 a0_2,.int .u8 a0_3,.int .u8 a0_4,.int .u8 a0_5,.int .u8 a0_6,.int .u8 a0_7,.int .u8 a0_8,.int .u8 a0_9,.int .u8 a0_10,.int .u8 a0_11] 24 (0,0)))∧Aside0 (wc.heap[gb209]?=some (.cells #[(.slice Ao17 t203.length co17),.int .i64 t206,.int .i64 t207,.int .i64 t208] 31 (0,0)))∧Aside0 (Below w.heap.size w wc))
 case first =>
  have H:=HC11.out
  clear HC11
  by_cases c33 : t219 < 0
  ·rw [if_pos c33] at H
   have c33b0 : decide (t219 < 0)=true:=decide_eq_true c33
   clear c33
   (first|rw [c33b0]|(simp only [i64_w,i32_w];rw [c33b0])|skip)
   have H':=Aside0.mk H
   clear H
   go_wp2
   go_meet
   case rel=>exact ⟨_,(true),(by first|rfl|(simp;done)|(simp [*];done)),(by first|exact H'|(subst_vars;exact H')),⟨by first|omega|exact Nat.le_refl _⟩,⟨by (with_reducible repeat (first|apply Kd.N_alloc|apply Kd.N_drewN|apply Kd.N_drew));exact Kd.N_mono HO215.out (fun _ hk=>⟨hk.2,⟨hk.1.1,⟨hk.1.2.1,hk.1.2.2⟩⟩⟩)⟩,⟨by (with_reducible repeat (first|apply Kd.R_alloc|apply Kd.R_drewN|apply Kd.R_drew));exact HO218.out⟩,⟨by (with_reducible repeat (first|apply Kd.R_alloc|apply Kd.R_drewN|apply Kd.R_drew));exact HO205.out⟩,⟨by (with_reducible repeat (first|refine blk_drewN ?_ _|refine blk_drew ?_|refine blk_alloc ?_ _));exact BK201.out⟩,⟨by (with_reducible repeat (first|refine blk_drewN ?_ _|refine blk_drew ?_|refine blk_alloc ?_ _));exact BK209.out⟩,⟨by repeat (first|(with_reducible first|exact HB.out|apply below_alloc|apply pw_below_drewN|apply below_drew1|refine below_set ?_ GE201.out|refine below_set ?_ GE209.out)|exact HB.out)⟩⟩
  ·rw [if_neg c33] at H
   have c33b0 : decide (t219 < 0)=false:=decide_eq_false c33
   clear c33
   (first|rw [c33b0]|(simp only [i64_w,i32_w];rw [c33b0])|skip)
   by_cases c34 : t219 > t220
   ·rw [if_pos c34] at H
    have c34b0 : decide (t220 < t219)=true:=decide_eq_true c34
    clear c34
    have H':=Aside0.mk H
    clear H
    go_wp2
    go_meet
    case rel=>exact ⟨_,(true),(by first|rfl|(simp;done)|(simp [*];done)),(by first|exact H'|(subst_vars;exact H')),⟨by first|omega|exact Nat.le_refl _⟩,⟨by (with_reducible repeat (first|apply Kd.N_alloc|apply Kd.N_drewN|apply Kd.N_drew));exact Kd.N_mono HO215.out (fun _ hk=>⟨hk.2,⟨hk.1.1,⟨hk.1.2.1,hk.1.2.2⟩⟩⟩)⟩,⟨by (with_reducible repeat (first|apply Kd.R_alloc|apply Kd.R_drewN|apply Kd.R_drew));exact HO218.out⟩,⟨by (with_reducible repeat (first|apply Kd.R_alloc|apply Kd.R_drewN|apply Kd.R_drew));exact HO205.out⟩,⟨by (with_reducible repeat (first|refine blk_drewN ?_ _|refine blk_drew ?_|refine blk_alloc ?_ _));exact BK201.out⟩,⟨by (with_reducible repeat (first|refine blk_drewN ?_ _|refine blk_drew ?_|refine blk_alloc ?_ _));exact BK209.out⟩,⟨by repeat (first|(with_reducible first|exact HB.out|apply below_alloc|apply pw_below_drewN|apply below_drew1|refine below_set ?_ GE201.out|refine below_set ?_ GE209.out)|exact HB.out)⟩⟩
   ·rw [if_neg c34] at H
    have c34b0 : decide (t220 < t219)=false:=decide_eq_false c34
    clear c34
    have H':=Aside0.mk H
    clear H
    go_wp2
    go_meet
    case rel=>exact ⟨_,(decide (t220 > (t213.length : Int))),(by first|rfl|(simp;done)|(simp [*];done)),(by first|exact H'|(subst_vars;exact H')),⟨by first|omega|exact Nat.le_refl _⟩,⟨by (with_reducible repeat (first|apply Kd.N_alloc|apply Kd.N_drewN|apply Kd.N_drew));exact Kd.N_mono HO215.out (fun _ hk=>⟨hk.2,⟨hk.1.1,⟨hk.1.2.1,hk.1.2.2⟩⟩⟩)⟩,⟨by (with_reducible repeat (first|apply Kd.R_alloc|apply Kd.R_drewN|apply Kd.R_drew));exact HO218.out⟩,⟨by (with_reducible repeat (first|apply Kd.R_alloc|apply Kd.R_drewN|apply Kd.R_drew));exact HO205.out⟩,⟨by (with_reducible repeat (first|refine blk_drewN ?_ _|refine blk_drew ?_|refine blk_alloc ?_ _));exact BK201.out⟩,⟨by (with_reducible repeat (first|refine blk_drewN ?_ _|refine blk_drew ?_|refine blk_alloc ?_ _));exact BK209.out⟩,⟨by repeat (first|(with_reducible first|exact HB.out|apply below_alloc|apply pw_below_drewN|apply below_drew1|refine below_set ?_ GE201.out|refine below_set ?_ GE209.out)|exact HB.out)⟩⟩
 case rest =>
  clear HC11
  try clear c1
  try clear c2
  try clear p2
  try clear c3
  try clear c8
  try clear c9
  try clear c10
  try clear c11
  try clear c12
  try clear c13
  try clear c14
  try clear c18
  try clear c33
  try clear c33b0
  try clear c34
  try clear c34b0
  try clear hcz14_0
  try clear hcz14_1
  try clear hcz14_10
  try clear hcz14_11
  try clear hcz14_2
  try clear hcz14_3
  try clear hcz14_4
  try clear hcz14_5
  try clear hcz14_6
  try clear hcz14_7
  try clear hcz14_8
  try clear hcz14_9
  try clear hcz19_0
  try clear hcz19_1
  try clear hcz19_2
  try clear hcz19_3
  try clear hcz25_0
  try clear hcz25_1
  try clear hcz25_2
  try clear hcz25_3
  try clear hcz27_0
  try clear hcz27_1
  try clear hcz27_2
  try clear hcz27_3
  try clear hcz31_0
  try clear hcz31_1
  try clear hcz31_2
  try clear hcz31_3
  try clear hfz14_0
  try clear hfz14_1
  try clear hfz14_10
  try clear hfz14_11
  try clear hfz14_2
  try clear hfz14_3
  try clear hfz14_4
  try clear hfz14_5
  try clear hfz14_6
  try clear hfz14_7
  try clear hfz14_8
  try clear hfz14_9
  try clear hfz19_0
  try clear hfz19_1
  try clear hfz19_2
  try clear hfz19_3
  try clear hfz25_0
  try clear hfz25_1
  try clear hfz25_2
  try clear hfz25_3
  try clear hfz27_0
  try clear hfz27_1
  try clear hfz27_2
  try clear hfz27_3
  try clear hfz31_0
  try clear hfz31_1
  try clear hfz31_2
  try clear hfz31_3
  obtain ⟨kq,x46_10,rfl,HA,HJ10,HO_9,HO_10,HO_210000,BK201,BK209,HB⟩:=hcut
  cases kq with
  | zero=>exact absurd HA.out (by simp [thresherlaw09_OrderCuts.j0])
  | succ kj10 =>
   have H:=HA.out
   clear HA
   simp only [thresherlaw09_OrderCuts.j0] at H
   by_cases c35 : x46_10=true
   ·subst c35
    have H1 : (some false)=some r:=by rw [if_pos rfl] at H;exact H
    clear H
    have H:=H1
    clear H1
    obtain rfl:=Option.some.inj H
    go_wp2
    go_ret
    exact ⟨by first|rfl|(simp [errW_none,errW_some] <;> rfl)|(simp [*,errW_none,errW_some] <;> rfl),by repeat (first|(with_reducible first|exact HB.out|apply below_alloc|apply pw_below_drewN|apply below_drew1|refine below_set ?_ GE201.out|refine below_set ?_ GE209.out)|exact HB.out)⟩
   ·replace c35:=Bool.eq_false_iff.mpr c35
    subst c35
    have H1 : (thresherlaw09_OrderCuts.l0 kj10 t202 t213 t216 t219 t220 0 t203 t206 t207 t208)=some r:=by rw [if_neg (show ¬ (false=true) by decide)] at H;exact H
    clear H
    have H:=H1
    clear H1
    have H':=Aside0.mk H
    clear H
    go_wp2
    go_loopg [13] kj10 (fun kq v13 w'=>∃ (x13_2 : Int),v13=.int .i64 x13_2∧Aside0 (thresherlaw09_OrderCuts.l0 kq t202 t213 t216 t219 t220 x13_2 t203 t206 t207 t208=some r)∧Aside0 (kq≤kj10)∧Aside0 (Kd.N (Kd.slice 41 k41) 27 w' w.heap.size (fun k_=>some k_≠((.slice Ao29 t216.length co29) : Value).ownBlock∧some k_≠((.slice Ao17 t203.length co17) : Value).ownBlock∧k_≠gb201∧k_≠gb209) (.slice Ao28 t213.length co28) t213)∧Aside0 (Kd.R k41 41 w' w.heap.size (fun _=>True) (.slice Ao29 t216.length co29) t216)∧Aside0 (Kd.R (Kd.int .i64) 3 w' w.heap.size (fun _=>True) (.slice Ao17 t203.length co17) t203)∧Aside0 (w'.heap[gb201]?=some (.cells #[.int .u8 a0_0,.int .u8 a0_1,.int .u8 a0_2,.int .u8 a0_3,.int .u8 a0_4,.int .u8 a0_5,.int .u8 a0_6,.int .u8 a0_7,.int .u8 a0_8,.int .u8 a0_9,.int .u8 a0_10,.int .u8 a0_11] 24 (0,0)))∧Aside0 (w'.heap[gb209]?=some (.cells #[(.slice Ao17 t203.length co17),.int .i64 t206,.int .i64 t207,.int .i64 t208] 31 (0,0)))∧Aside0 (Below w.heap.size w w'))
    case atStart=>exact ⟨(0),(by first|rfl|(simp;done)|(simp [*];done)),H',⟨Nat.le_refl _⟩,⟨by (with_reducible repeat (first|apply Kd.N_alloc|apply Kd.N_drewN|apply Kd.N_drew));exact HO_9.out⟩,⟨by (with_reducible repeat (first|apply Kd.R_alloc|apply Kd.R_drewN|apply Kd.R_drew));exact HO_10.out⟩,⟨by (with_reducible repeat (first|apply Kd.R_alloc|apply Kd.R_drewN|apply Kd.R_drew));exact HO_210000.out⟩,⟨by (with_reducible repeat (first|refine blk_drewN ?_ _|refine blk_drew ?_|refine blk_alloc ?_ _));exact BK201.out⟩,⟨by (with_reducible repeat (first|refine blk_drewN ?_ _|refine blk_drew ?_|refine blk_alloc ?_ _));exact BK209.out⟩,⟨by repeat (first|(with_reducible first|exact HB.out|apply below_alloc|apply pw_below_drewN|apply below_drew1|refine below_set ?_ GE201.out|refine below_set ?_ GE209.out)|exact HB.out)⟩⟩
    case round =>
     clear H'
     try clear c1
     try clear c2
     try clear p2
     try clear c3
     try clear c8
     try clear c9
     try clear c10
     try clear c11
     try clear c12
     try clear c13
     try clear c14
     try clear c18
     try clear c33
     try clear c33b0
     try clear c34
     try clear c34b0
     try clear c35
     try clear hcz14_0
     try clear hcz14_1
     try clear hcz14_10
     try clear hcz14_11
     try clear hcz14_2
     try clear hcz14_3
     try clear hcz14_4
     try clear hcz14_5
     try clear hcz14_6
     try clear hcz14_7
     try clear hcz14_8
     try clear hcz14_9
     try clear hcz19_0
     try clear hcz19_1
     try clear hcz19_2
     try clear hcz19_3
     try clear hcz25_0
     try clear hcz25_1
     try clear hcz25_2
     try clear hcz25_3
     try clear hcz27_0
     try clear hcz27_1
     try clear hcz27_2
     try clear hcz27_3
     try clear hcz31_0
     try clear hcz31_1
     try clear hcz31_2
     try clear hcz31_3
     try clear hfz14_0
     try clear hfz14_1
     try clear hfz14_10
     try clear hfz14_11
     try clear hfz14_2
     try clear hfz14_3
     try clear hfz14_4
     try clear hfz14_5
     try clear hfz14_6
     try clear hfz14_7
     try clear hfz14_8
     try clear hfz14_9
     try clear hfz19_0
     try clear hfz19_1
     try clear hfz19_2
     try clear hfz19_3
     try clear hfz25_0
     try clear hfz25_1
     try clear hfz25_2
     try clear hfz25_3
     try clear hfz27_0
     try clear hfz27_1
     try clear hfz27_2
     try clear hfz27_3
     try clear hfz31_0
     try clear hfz31_1
     try clear hfz31_2
     try clear hfz31_3
     try clear p2
     obtain ⟨x13_2,rfl,HA,HK2,HO_9,HO_10,HO_210000,BK201,BK209,HB⟩:=hrel
     cases gk with
     | zero=>exact absurd HA.out (by simp [thresherlaw09_OrderCuts.l0])
     | succ k2 =>
      have H:=HA.out
      clear HA
      simp only [thresherlaw09_OrderCuts.l0] at H
      by_cases c36 : x13_2 < (t213.length : Int)
      ·rw [if_pos c36] at H
       have c36b0 : decide (x13_2 < (t213.length : Int))=true:=decide_eq_true c36
       clear c36
       by_cases c37 : 0≤x13_2
       ·rw [if_pos c37] at H
        have c37b0 : decide (0≤x13_2)=true:=decide_eq_true c37
        clear c37
        replace H:=Option.bind_eq_some_iff.mp H
        obtain ⟨t222,A380,H⟩:=H
        replace H : (if ((decide (t222 < 0)) != (decide (x13_2 < t219)))=true then (some false) else (if ((decide (t222≤0)) != (decide (x13_2 < t220)))=true then (some false) else (thresherlaw09_OrderCuts.l0 k2 t202 t213 t216 t219 t220 (wrap64 (x13_2 + 1)) t203 t206 t207 t208)))=some r:=H
        have A38:=Aside0.mk A380
        clear A380
        by_cases c39 : ((decide (t222 < 0)) != (decide (x13_2 < t219)))=true
        ·rw [if_pos c39] at H
         have c39b0 : ((decide (t222 < 0)) != (decide (x13_2 < t219)))=true:=c39
         (try (have c39b1 : decide ((decide (t222 < 0))=(decide (x13_2 < t219)))=false:=by simpa using c39))
         (try (have c39b2 : ((decide (t222 < 0)) == (decide (x13_2 < t219)))=false:=by simpa using c39))
         (try (have c39b3 : ¬ ((decide (t222 < 0))=(decide (x13_2 < t219))):=by simpa using c39))
         clear c39
         obtain rfl:=Option.some.inj H
         try go_wp2
         have n0_:=Aside0.mk (Kd.N_drew HO_9.out)
         have n1_:=Aside0.mk (Kd.R_drew HO_10.out)
         have n2_:=Aside0.mk (Kd.R_drew HO_210000.out)
         have n3_:=Aside0.mk (blk_drew BK201.out)
         have n4_:=Aside0.mk (blk_drew BK209.out)
         have n5_:=Aside0.mk (below_drew1 HB.out)
         clear HO_9
         clear HO_10
         clear HO_210000
         clear BK201
         clear BK209
         clear HB
         have HO_9:=n0_
         have HO_10:=n1_
         have HO_210000:=n2_
         have BK201:=n3_
         have BK209:=n4_
         have HB:=n5_
         clear n0_ n1_ n2_ n3_ n4_ n5_
         have p221 : 0≤(x13_2 : Int):=of_decide_eq_true (by first|(with_reducible assumption)|assumption)
         have q221 : x13_2 < (t213.length : Int):=of_decide_eq_true (by first|(with_reducible assumption)|assumption)
         obtain ⟨ad221,A221_0,c221_0,e221,hx221_0,hl221_0,hi221_0⟩:=at_L5 (Kd.N_reads' HO_9.out).2.2 x13_2 p221 q221
         cases e221
         obtain ⟨ce221,hce221,hMe221,hcc221⟩:=Kd.N_get HO_9.out [] x13_2 p221 (by first|exact q221|exact of_decide_eq_true (by first|(with_reducible assumption)|assumption)|(have e_:=(Kd.N_reads' HO_9.out).1;omega))
         obtain ⟨ua221_0,uc221_0,rfl,ul221_0,ge221_0⟩:=Kd.FK_slice_open hMe221
         have hv221_0:=hcc221 0 _ rfl
         rw [Nat.add_zero,show ((Kd.slice 41 k41)).sz=1 from rfl,Nat.mul_one] at hv221_0
         replace hv221_0:=Option.some.inj (hv221_0.symm.trans hx221_0)
         injection hv221_0 with hva_ hvn_ hvc_
         rw [hva_] at ge221_0
         rw [hvc_] at ul221_0
         have HL221_0:=Aside0.mk (show Kd.V k41 41 _ w.heap.size _ _ (rd_L5 t213 x13_2) from Kd.V_mk ul221_0 ge221_0)
         clear hva_ hvn_ hvc_ ge221_0 ul221_0
         clear hcc221 hce221
         have HR221_0:=Aside0.mk hi221_0
         have HC221_0:=Aside0.mk hl221_0
         clear hi221_0 hl221_0
         replace p221:=eq_true p221
         replace q221:=eq_true q221
         refine start_ (n:=8) (S:=fun w'=>w'.cell? ⟨gb209,0,none⟩=some (.slice Ao17 t203.length co17)∧w'.cell? ⟨gb209,1,none⟩=some (.int .i64 t206)∧w'.cell? ⟨gb209,2,none⟩=some (.int .i64 t207)∧w'.cell? ⟨gb209,3,none⟩=some (.int .i64 t208)∧w'.cell? (ad221.add (x13_2).toNat)=some (.slice A221_0 (rd_L5 t213 x13_2).length c221_0)) (ds:=[]) #[false,false,false,false,false,false,false,false] (by kernel_rfl) rfl rfl ⟨(blk_cell BK209.out 0).trans rfl,(blk_cell BK209.out 1).trans rfl,(blk_cell BK209.out 2).trans rfl,(blk_cell BK209.out 3).trans rfl,hx221_0⟩ (fun hHeld=>?_);refine with_tabW thresherlaw09_OrderCuts.tab12 thresherlaw09_OrderCuts.bits12 (fun HT_ HW_=>?_)
         generalize wr.drew=w40 at HO_9 HO_10 HO_210000 BK201 BK209 HB HL221_0 HR221_0 hx221_0 hHeld ⊢
         refine pure_ (i:=1) (N:=some 54) (v:=?_) (a':=?_) #[false,true,false,false,false,false,false,false] rfl rfl (any_of HT_.out (by kernel_rfl)) (fun _ _ _ h=>h) (Or.inl ⟨by rfl,?_⟩) ?_ ?_
         rotate_left;(intro w';go_simp;with_reducible rfl);rotate_left;(simp only [Act.put,List.setIfInBounds_toArray,List.set_cons_zero,List.set_cons_succ,i64_w,i32_w];rfl)
         refine pure_ (i:=2) (N:=some 55) (v:=?_) (a':=?_) #[false,true,true,false,false,false,false,false] rfl rfl (any_of HT_.out (by kernel_rfl)) (fun _ _ _ h=>h) (Or.inl ⟨by rfl,?_⟩) ?_ ?_
         rotate_left;(intro w';go_simp;with_reducible rfl);rotate_left;(simp only [Act.put,List.setIfInBounds_toArray,List.set_cons_zero,List.set_cons_succ,i64_w,i32_w];rfl)
         refine pure_ (i:=3) (N:=some 56) (v:=?_) (a':=?_) #[false,true,true,true,false,false,false,false] rfl rfl (any_of HT_.out (by kernel_rfl)) (fun _ _ _ h=>h) (Or.inl ⟨by rfl,?_⟩) ?_ ?_
         rotate_left;(intro w';go_simp;with_reducible rfl);rotate_left;(simp only [Act.put,List.setIfInBounds_toArray,List.set_cons_zero,List.set_cons_succ,i64_w,i32_w];rfl)
         refine pure_ (i:=5) (N:=some 58) (v:=?_) (a':=?_) #[false,true,true,true,false,true,false,false] rfl rfl (any_of HT_.out (by kernel_rfl)) (fun _ _ _ h=>h) (Or.inl ⟨by rfl,?_⟩) ?_ ?_
         rotate_left;(intro w';go_simp;with_reducible rfl);rotate_left;(simp only [Act.put,List.setIfInBounds_toArray,List.set_cons_zero,List.set_cons_succ,i64_w,i32_w];rfl)
         refine take_ (i:=0) (N:=some 53) (v:=?_) (a':=?_) #[true,true,true,true,false,true,false,false] rfl rfl (take_ofW HT_.out HW_.out (by kernel_rfl)) (fun _ _ _ h=>h) (Or.inl ⟨by rfl,?_⟩) hHeld ?_ ?_
         rotate_left;(rintro w' ⟨s0,s1,s2,s3,s4⟩;go_simp;with_reducible rfl);rotate_left;(simp only [Act.put,List.setIfInBounds_toArray,List.set_cons_zero,List.set_cons_succ,i64_w,i32_w];rfl)
         refine take_ (i:=4) (N:=some 57) (v:=?_) (a':=?_) #[true,true,true,true,true,true,false,false] rfl rfl (take_ofW HT_.out HW_.out (by kernel_rfl)) (fun _ _ _ h=>h) (Or.inl ⟨by rfl,?_⟩) hHeld ?_ ?_
         rotate_left;(rintro w' ⟨s0,s1,s2,s3,s4⟩;go_simp;with_reducible rfl);rotate_left;(simp only [Act.put,List.setIfInBounds_toArray,List.set_cons_zero,List.set_cons_succ,i64_w,i32_w];rfl)
         refine one_ (i:=6) (N:=some 59) #[true,true,true,true,true,true,true,false] rfl rfl (one_of HT_.out (by kernel_rfl)) (by decide) (fun K hK=>?_)
         refine goes_ Try.func15 (by kernel_rfl) rfl #[.agg #[.slice Ao17 t203.length co17,.int .i64 t206,.int .i64 t207,.int .i64 t208],.slice A221_0 (rd_L5 t213 x13_2).length c221_0,.slice Ao29 t216.length co29] (by rfl) rfl rfl (by (try simp only [List.map_toArray,List.map_cons,List.map_nil]);first|done|rfl|(simp only [List.length_drop,List.length_take];rfl)) ?_
         with_reducible refine (thresherref04_Compare.calls k2 _ _ t203 t206 t207 t208 _ _ (rd_L5 t213 x13_2) _ _ t216 t222 _ ?side1 ?side2 ?side3 ?side4 ?side5 ?side6 A38.out).mono ?_
         (case side1=>repeat (first|exact (Kd.R_reads' HO_210000.out).2.2|(with_reducible refine Kd.C_alloc ?_ _)|(with_reducible refine Kd.C_drewN ?_ _)|(with_reducible refine Kd.C_drew ?_)))
         (case side2=>exact (Kd.R_reads' HO_210000.out).2.1)
         (case side3=>repeat (first|exact (by repeat (first|(with_reducible exact HR221_0.out)|(with_reducible refine Kd.C_alloc ?_ _)|(with_reducible refine Kd.C_drewN ?_ _)|(with_reducible refine Kd.C_drew ?_)|exact HR221_0.out))|(with_reducible refine Kd.C_alloc ?_ _)|(with_reducible refine Kd.C_drewN ?_ _)|(with_reducible refine Kd.C_drew ?_)))
         (case side4=>exact HC221_0.out)
         (case side5=>repeat (first|exact (Kd.R_reads' HO_10.out).2.2|(with_reducible refine Kd.C_alloc ?_ _)|(with_reducible refine Kd.C_drewN ?_ _)|(with_reducible refine Kd.C_drew ?_)))
         (case side6=>exact (Kd.R_reads' HO_10.out).2.1)
         rintro e w41 ⟨rfl,hb⟩
         have HS4_:=(hb.cell (World.block_lt_of_cell? _ _ (hHeld.2.2.2.2))).trans (hHeld.2.2.2.2)
         refine ⟨_,rfl,?_⟩
         have n0_:=Aside0.mk (Kd.N_below (by (with_reducible repeat (first|apply Kd.N_alloc|apply Kd.N_drewN|apply Kd.N_drew));exact HO_9.out) hb)
         have n1_:=Aside0.mk (Kd.R_below (by (with_reducible repeat (first|apply Kd.R_alloc|apply Kd.R_drewN|apply Kd.R_drew));exact HO_10.out) hb)
         have n2_:=Aside0.mk (Kd.R_below (by (with_reducible repeat (first|apply Kd.R_alloc|apply Kd.R_drewN|apply Kd.R_drew));exact HO_210000.out) hb)
         have n3_:=Aside0.mk (Kd.V_below (by (with_reducible repeat (first|apply Kd.V_alloc|apply Kd.V_drewN|apply Kd.V_drew));exact HL221_0.out) hb)
         have n4_:=Aside0.mk (blk_below (g:=gb201) (o:=.cells #[.int .u8 a0_0,.int .u8 a0_1,.int .u8 a0_2,.int .u8 a0_3,.int .u8 a0_4,.int .u8 a0_5,.int .u8 a0_6,.int .u8 a0_7,.int .u8 a0_8,.int .u8 a0_9,.int .u8 a0_10,.int .u8 a0_11] 24 (0,0)) (by (with_reducible repeat (first|refine blk_drewN ?_ _|refine blk_drew ?_|refine blk_alloc ?_ _));exact BK201.out) hb)
         have n5_:=Aside0.mk (blk_below (g:=gb209) (o:=.cells #[.slice Ao17 t203.length co17,.int .i64 t206,.int .i64 t207,.int .i64 t208] 31 (0,0)) (by (with_reducible repeat (first|refine blk_drewN ?_ _|refine blk_drew ?_|refine blk_alloc ?_ _));exact BK209.out) hb)
         have n6_:=Aside0.mk (Kd.C_below (by repeat (first|(with_reducible exact HR221_0.out)|(with_reducible refine Kd.C_alloc ?_ _)|(with_reducible refine Kd.C_drewN ?_ _)|(with_reducible refine Kd.C_drew ?_)|exact HR221_0.out)) hb)
         have n7_:=Aside0.mk (below_step (by repeat (first|(with_reducible first|exact HB.out|apply below_alloc|apply pw_below_drewN|apply below_drew1|refine below_set ?_ GE201.out|refine below_set ?_ GE209.out)|exact HB.out)) hb)
         clear HO_9
         clear HO_10
         clear HO_210000
         clear HL221_0
         clear BK201
         clear BK209
         clear HR221_0
         clear HB
         have HO_9:=n0_
         have HO_10:=n1_
         have HO_210000:=n2_
         have HL221_0:=n3_
         have BK201:=n4_
         have BK209:=n5_
         have HR221_0:=n6_
         have HB:=n7_
         clear n0_ n1_ n2_ n3_ n4_ n5_ n6_ n7_
         (try clear hb)
         (try clear hb2)
         (try clear hk)
         (try clear hi)
         refine hK.out _ _ ⟨(blk_cell BK209.out 0).trans rfl,(blk_cell BK209.out 1).trans rfl,(blk_cell BK209.out 2).trans rfl,(blk_cell BK209.out 3).trans rfl,HS4_⟩ (fun hHeld=>?_)
         clear hK K
         refine norm_ (a':=?_) ?_ ?_
         rotate_left
         ·show Act.put _ (some 59) _=_
          simp only [Act.put,List.setIfInBounds_toArray,List.set_cons_zero,List.set_cons_succ,i64_w,i32_w]
          rfl
         refine pure_ (i:=7) (N:=some 14) (v:=?_) (a':=?_) #[true,true,true,true,true,true,true,true] rfl rfl (any_of HT_.out (by kernel_rfl)) (fun _ _ _ h=>h) (Or.inl ⟨by rfl,?_⟩) ?_ ?_
         rotate_left;(intro w';go_simp;with_reducible rfl);rotate_left;(simp only [Act.put,List.setIfInBounds_toArray,List.set_cons_zero,List.set_cons_succ,i64_w,i32_w];rfl)
         refine done_ (done_of HT_.out (by kernel_rfl)) ?_
         (try clear HS4_);(try clear hHeld)
         try go_wp2
         go_ret
         exact ⟨by first|rfl|(simp [errW_none,errW_some] <;> rfl)|(simp [*,errW_none,errW_some] <;> rfl),by repeat (first|(with_reducible first|exact HB.out|apply below_alloc|apply pw_below_drewN|apply below_drew1|refine below_set ?_ GE201.out|refine below_set ?_ GE209.out)|exact HB.out)⟩
        ·rw [if_neg c39] at H
         have c39b0 : ((decide (t222 < 0)) != (decide (x13_2 < t219)))=false:=by simpa using c39
         (try (have c39b1 : decide ((decide (t222 < 0))=(decide (x13_2 < t219)))=true:=by simpa using c39))
         (try (have c39b2 : ((decide (t222 < 0)) == (decide (x13_2 < t219)))=true:=by simpa using c39))
         clear c39
         by_cases c42 : ((decide (t222≤0)) != (decide (x13_2 < t220)))=true
         ·rw [if_pos c42] at H
          have c42b0 : ((decide (t222≤0)) != (decide (x13_2 < t220)))=true:=c42
          (try (have c42b1 : decide ((decide (t222≤0))=(decide (x13_2 < t220)))=false:=by simpa using c42))
          (try (have c42b2 : ((decide (t222≤0)) == (decide (x13_2 < t220)))=false:=by simpa using c42))
          (try (have c42b3 : ¬ ((decide (t222≤0))=(decide (x13_2 < t220))):=by simpa using c42))
          clear c42
          obtain rfl:=Option.some.inj H
          try go_wp2
          have n0_:=Aside0.mk (Kd.N_drew HO_9.out)
          have n1_:=Aside0.mk (Kd.R_drew HO_10.out)
          have n2_:=Aside0.mk (Kd.R_drew HO_210000.out)
          have n3_:=Aside0.mk (blk_drew BK201.out)
          have n4_:=Aside0.mk (blk_drew BK209.out)
          have n5_:=Aside0.mk (below_drew1 HB.out)
          clear HO_9
          clear HO_10
          clear HO_210000
          clear BK201
          clear BK209
          clear HB
          have HO_9:=n0_
          have HO_10:=n1_
          have HO_210000:=n2_
          have BK201:=n3_
          have BK209:=n4_
          have HB:=n5_
          clear n0_ n1_ n2_ n3_ n4_ n5_
          have p221 : 0≤(x13_2 : Int):=of_decide_eq_true (by first|(with_reducible assumption)|assumption)
          have q221 : x13_2 < (t213.length : Int):=of_decide_eq_true (by first|(with_reducible assumption)|assumption)
          obtain ⟨ad221,A221_0,c221_0,e221,hx221_0,hl221_0,hi221_0⟩:=at_L5 (Kd.N_reads' HO_9.out).2.2 x13_2 p221 q221
          cases e221
          obtain ⟨ce221,hce221,hMe221,hcc221⟩:=Kd.N_get HO_9.out [] x13_2 p221 (by first|exact q221|exact of_decide_eq_true (by first|(with_reducible assumption)|assumption)|(have e_:=(Kd.N_reads' HO_9.out).1;omega))
          obtain ⟨ua221_0,uc221_0,rfl,ul221_0,ge221_0⟩:=Kd.FK_slice_open hMe221
          have hv221_0:=hcc221 0 _ rfl
          rw [Nat.add_zero,show ((Kd.slice 41 k41)).sz=1 from rfl,Nat.mul_one] at hv221_0
          replace hv221_0:=Option.some.inj (hv221_0.symm.trans hx221_0)
          injection hv221_0 with hva_ hvn_ hvc_
          rw [hva_] at ge221_0
          rw [hvc_] at ul221_0
          have HL221_0:=Aside0.mk (show Kd.V k41 41 _ w.heap.size _ _ (rd_L5 t213 x13_2) from Kd.V_mk ul221_0 ge221_0)
          clear hva_ hvn_ hvc_ ge221_0 ul221_0
          clear hcc221 hce221
          have HR221_0:=Aside0.mk hi221_0
          have HC221_0:=Aside0.mk hl221_0
          clear hi221_0 hl221_0
          replace p221:=eq_true p221
          replace q221:=eq_true q221
          refine start_ (n:=8) (S:=fun w'=>w'.cell? ⟨gb209,0,none⟩=some (.slice Ao17 t203.length co17)∧w'.cell? ⟨gb209,1,none⟩=some (.int .i64 t206)∧w'.cell? ⟨gb209,2,none⟩=some (.int .i64 t207)∧w'.cell? ⟨gb209,3,none⟩=some (.int .i64 t208)∧w'.cell? (ad221.add (x13_2).toNat)=some (.slice A221_0 (rd_L5 t213 x13_2).length c221_0)) (ds:=[]) #[false,false,false,false,false,false,false,false] (by kernel_rfl) rfl rfl ⟨(blk_cell BK209.out 0).trans rfl,(blk_cell BK209.out 1).trans rfl,(blk_cell BK209.out 2).trans rfl,(blk_cell BK209.out 3).trans rfl,hx221_0⟩ (fun hHeld=>?_);refine with_tabW thresherlaw09_OrderCuts.tab12 thresherlaw09_OrderCuts.bits12 (fun HT_ HW_=>?_)
          generalize wr.drew=w43 at HO_9 HO_10 HO_210000 BK201 BK209 HB HL221_0 HR221_0 hx221_0 hHeld ⊢
          refine pure_ (i:=1) (N:=some 54) (v:=?_) (a':=?_) #[false,true,false,false,false,false,false,false] rfl rfl (any_of HT_.out (by kernel_rfl)) (fun _ _ _ h=>h) (Or.inl ⟨by rfl,?_⟩) ?_ ?_
          rotate_left;(intro w';go_simp;with_reducible rfl);rotate_left;(simp only [Act.put,List.setIfInBounds_toArray,List.set_cons_zero,List.set_cons_succ,i64_w,i32_w];rfl)
          refine pure_ (i:=2) (N:=some 55) (v:=?_) (a':=?_) #[false,true,true,false,false,false,false,false] rfl rfl (any_of HT_.out (by kernel_rfl)) (fun _ _ _ h=>h) (Or.inl ⟨by rfl,?_⟩) ?_ ?_
          rotate_left;(intro w';go_simp;with_reducible rfl);rotate_left;(simp only [Act.put,List.setIfInBounds_toArray,List.set_cons_zero,List.set_cons_succ,i64_w,i32_w];rfl)
          refine pure_ (i:=3) (N:=some 56) (v:=?_) (a':=?_) #[false,true,true,true,false,false,false,false] rfl rfl (any_of HT_.out (by kernel_rfl)) (fun _ _ _ h=>h) (Or.inl ⟨by rfl,?_⟩) ?_ ?_
          rotate_left;(intro w';go_simp;with_reducible rfl);rotate_left;(simp only [Act.put,List.setIfInBounds_toArray,List.set_cons_zero,List.set_cons_succ,i64_w,i32_w];rfl)
          refine pure_ (i:=5) (N:=some 58) (v:=?_) (a':=?_) #[false,true,true,true,false,true,false,false] rfl rfl (any_of HT_.out (by kernel_rfl)) (fun _ _ _ h=>h) (Or.inl ⟨by rfl,?_⟩) ?_ ?_
          rotate_left;(intro w';go_simp;with_reducible rfl);rotate_left;(simp only [Act.put,List.setIfInBounds_toArray,List.set_cons_zero,List.set_cons_succ,i64_w,i32_w];rfl)
          refine take_ (i:=0) (N:=some 53) (v:=?_) (a':=?_) #[true,true,true,true,false,true,false,false] rfl rfl (take_ofW HT_.out HW_.out (by kernel_rfl)) (fun _ _ _ h=>h) (Or.inl ⟨by rfl,?_⟩) hHeld ?_ ?_
          rotate_left;(rintro w' ⟨s0,s1,s2,s3,s4⟩;go_simp;with_reducible rfl);rotate_left;(simp only [Act.put,List.setIfInBounds_toArray,List.set_cons_zero,List.set_cons_succ,i64_w,i32_w];rfl)
          refine take_ (i:=4) (N:=some 57) (v:=?_) (a':=?_) #[true,true,true,true,true,true,false,false] rfl rfl (take_ofW HT_.out HW_.out (by kernel_rfl)) (fun _ _ _ h=>h) (Or.inl ⟨by rfl,?_⟩) hHeld ?_ ?_
          rotate_left;(rintro w' ⟨s0,s1,s2,s3,s4⟩;go_simp;with_reducible rfl);rotate_left;(simp only [Act.put,List.setIfInBounds_toArray,List.set_cons_zero,List.set_cons_succ,i64_w,i32_w];rfl)
          refine one_ (i:=6) (N:=some 59) #[true,true,true,true,true,true,true,false] rfl rfl (one_of HT_.out (by kernel_rfl)) (by decide) (fun K hK=>?_)
          refine goes_ Try.func15 (by kernel_rfl) rfl #[.agg #[.slice Ao17 t203.length co17,.int .i64 t206,.int .i64 t207,.int .i64 t208],.slice A221_0 (rd_L5 t213 x13_2).length c221_0,.slice Ao29 t216.length co29] (by rfl) rfl rfl (by (try simp only [List.map_toArray,List.map_cons,List.map_nil]);first|done|rfl|(simp only [List.length_drop,List.length_take];rfl)) ?_
          with_reducible refine (thresherref04_Compare.calls k2 _ _ t203 t206 t207 t208 _ _ (rd_L5 t213 x13_2) _ _ t216 t222 _ ?side1 ?side2 ?side3 ?side4 ?side5 ?side6 A38.out).mono ?_
          (case side1=>repeat (first|exact (Kd.R_reads' HO_210000.out).2.2|(with_reducible refine Kd.C_alloc ?_ _)|(with_reducible refine Kd.C_drewN ?_ _)|(with_reducible refine Kd.C_drew ?_)))
          (case side2=>exact (Kd.R_reads' HO_210000.out).2.1)
          (case side3=>repeat (first|exact (by repeat (first|(with_reducible exact HR221_0.out)|(with_reducible refine Kd.C_alloc ?_ _)|(with_reducible refine Kd.C_drewN ?_ _)|(with_reducible refine Kd.C_drew ?_)|exact HR221_0.out))|(with_reducible refine Kd.C_alloc ?_ _)|(with_reducible refine Kd.C_drewN ?_ _)|(with_reducible refine Kd.C_drew ?_)))
          (case side4=>exact HC221_0.out)
          (case side5=>repeat (first|exact (Kd.R_reads' HO_10.out).2.2|(with_reducible refine Kd.C_alloc ?_ _)|(with_reducible refine Kd.C_drewN ?_ _)|(with_reducible refine Kd.C_drew ?_)))
          (case side6=>exact (Kd.R_reads' HO_10.out).2.1)
          rintro e w44 ⟨rfl,hb⟩
          have HS4_:=(hb.cell (World.block_lt_of_cell? _ _ (hHeld.2.2.2.2))).trans (hHeld.2.2.2.2)
          refine ⟨_,rfl,?_⟩
          have n0_:=Aside0.mk (Kd.N_below (by (with_reducible repeat (first|apply Kd.N_alloc|apply Kd.N_drewN|apply Kd.N_drew));exact HO_9.out) hb)
          have n1_:=Aside0.mk (Kd.R_below (by (with_reducible repeat (first|apply Kd.R_alloc|apply Kd.R_drewN|apply Kd.R_drew));exact HO_10.out) hb)
          have n2_:=Aside0.mk (Kd.R_below (by (with_reducible repeat (first|apply Kd.R_alloc|apply Kd.R_drewN|apply Kd.R_drew));exact HO_210000.out) hb)
          have n3_:=Aside0.mk (Kd.V_below (by (with_reducible repeat (first|apply Kd.V_alloc|apply Kd.V_drewN|apply Kd.V_drew));exact HL221_0.out) hb)
          have n4_:=Aside0.mk (blk_below (g:=gb201) (o:=.cells #[.int .u8 a0_0,.int .u8 a0_1,.int .u8 a0_2,.int .u8 a0_3,.int .u8 a0_4,.int .u8 a0_5,.int .u8 a0_6,.int .u8 a0_7,.int .u8 a0_8,.int .u8 a0_9,.int .u8 a0_10,.int .u8 a0_11] 24 (0,0)) (by (with_reducible repeat (first|refine blk_drewN ?_ _|refine blk_drew ?_|refine blk_alloc ?_ _));exact BK201.out) hb)
          have n5_:=Aside0.mk (blk_below (g:=gb209) (o:=.cells #[.slice Ao17 t203.length co17,.int .i64 t206,.int .i64 t207,.int .i64 t208] 31 (0,0)) (by (with_reducible repeat (first|refine blk_drewN ?_ _|refine blk_drew ?_|refine blk_alloc ?_ _));exact BK209.out) hb)
          have n6_:=Aside0.mk (Kd.C_below (by repeat (first|(with_reducible exact HR221_0.out)|(with_reducible refine Kd.C_alloc ?_ _)|(with_reducible refine Kd.C_drewN ?_ _)|(with_reducible refine Kd.C_drew ?_)|exact HR221_0.out)) hb)
          have n7_:=Aside0.mk (below_step (by repeat (first|(with_reducible first|exact HB.out|apply below_alloc|apply pw_below_drewN|apply below_drew1|refine below_set ?_ GE201.out|refine below_set ?_ GE209.out)|exact HB.out)) hb)
          clear HO_9
          clear HO_10
          clear HO_210000
          clear HL221_0
          clear BK201
          clear BK209
          clear HR221_0
          clear HB
          have HO_9:=n0_
          have HO_10:=n1_
          have HO_210000:=n2_
          have HL221_0:=n3_
          have BK201:=n4_
          have BK209:=n5_
          have HR221_0:=n6_
          have HB:=n7_
          clear n0_ n1_ n2_ n3_ n4_ n5_ n6_ n7_
          (try clear hb)
          (try clear hb2)
          (try clear hk)
          (try clear hi)
          refine hK.out _ _ ⟨(blk_cell BK209.out 0).trans rfl,(blk_cell BK209.out 1).trans rfl,(blk_cell BK209.out 2).trans rfl,(blk_cell BK209.out 3).trans rfl,HS4_⟩ (fun hHeld=>?_)
          clear hK K
          refine norm_ (a':=?_) ?_ ?_
          rotate_left
          ·show Act.put _ (some 59) _=_
           simp only [Act.put,List.setIfInBounds_toArray,List.set_cons_zero,List.set_cons_succ,i64_w,i32_w]
           rfl
          refine pure_ (i:=7) (N:=some 14) (v:=?_) (a':=?_) #[true,true,true,true,true,true,true,true] rfl rfl (any_of HT_.out (by kernel_rfl)) (fun _ _ _ h=>h) (Or.inl ⟨by rfl,?_⟩) ?_ ?_
          rotate_left;(intro w';go_simp;with_reducible rfl);rotate_left;(simp only [Act.put,List.setIfInBounds_toArray,List.set_cons_zero,List.set_cons_succ,i64_w,i32_w];rfl)
          refine done_ (done_of HT_.out (by kernel_rfl)) ?_
          (try clear HS4_);(try clear hHeld)
          try go_wp2
          go_ret
          exact ⟨by first|rfl|(simp [errW_none,errW_some] <;> rfl)|(simp [*,errW_none,errW_some] <;> rfl),by repeat (first|(with_reducible first|exact HB.out|apply below_alloc|apply pw_below_drewN|apply below_drew1|refine below_set ?_ GE201.out|refine below_set ?_ GE209.out)|exact HB.out)⟩
         ·rw [if_neg c42] at H
          have c42b0 : ((decide (t222≤0)) != (decide (x13_2 < t220)))=false:=by simpa using c42
          (try (have c42b1 : decide ((decide (t222≤0))=(decide (x13_2 < t220)))=true:=by simpa using c42))
          (try (have c42b2 : ((decide (t222≤0)) == (decide (x13_2 < t220)))=true:=by simpa using c42))
          clear c42
          have H':=Aside0.mk H
          clear H
          try go_wp2
          have n0_:=Aside0.mk (Kd.N_drew HO_9.out)
          have n1_:=Aside0.mk (Kd.R_drew HO_10.out)
          have n2_:=Aside0.mk (Kd.R_drew HO_210000.out)
          have n3_:=Aside0.mk (blk_drew BK201.out)
          have n4_:=Aside0.mk (blk_drew BK209.out)
          have n5_:=Aside0.mk (below_drew1 HB.out)
          clear HO_9
          clear HO_10
          clear HO_210000
          clear BK201
          clear BK209
          clear HB
          have HO_9:=n0_
          have HO_10:=n1_
          have HO_210000:=n2_
          have BK201:=n3_
          have BK209:=n4_
          have HB:=n5_
          clear n0_ n1_ n2_ n3_ n4_ n5_
          have p221 : 0≤(x13_2 : Int):=of_decide_eq_true (by first|(with_reducible assumption)|assumption)
          have q221 : x13_2 < (t213.length : Int):=of_decide_eq_true (by first|(with_reducible assumption)|assumption)
          obtain ⟨ad221,A221_0,c221_0,e221,hx221_0,hl221_0,hi221_0⟩:=at_L5 (Kd.N_reads' HO_9.out).2.2 x13_2 p221 q221
          cases e221
          obtain ⟨ce221,hce221,hMe221,hcc221⟩:=Kd.N_get HO_9.out [] x13_2 p221 (by first|exact q221|exact of_decide_eq_true (by first|(with_reducible assumption)|assumption)|(have e_:=(Kd.N_reads' HO_9.out).1;omega))
          obtain ⟨ua221_0,uc221_0,rfl,ul221_0,ge221_0⟩:=Kd.FK_slice_open hMe221
          have hv221_0:=hcc221 0 _ rfl
          rw [Nat.add_zero,show ((Kd.slice 41 k41)).sz=1 from rfl,Nat.mul_one] at hv221_0
          replace hv221_0:=Option.some.inj (hv221_0.symm.trans hx221_0)
          injection hv221_0 with hva_ hvn_ hvc_
          rw [hva_] at ge221_0
          rw [hvc_] at ul221_0
          have HL221_0:=Aside0.mk (show Kd.V k41 41 _ w.heap.size _ _ (rd_L5 t213 x13_2) from Kd.V_mk ul221_0 ge221_0)
          clear hva_ hvn_ hvc_ ge221_0 ul221_0
          clear hcc221 hce221
          have HR221_0:=Aside0.mk hi221_0
          have HC221_0:=Aside0.mk hl221_0
          clear hi221_0 hl221_0
          replace p221:=eq_true p221
          replace q221:=eq_true q221
          refine start_ (n:=8) (S:=fun w'=>w'.cell? ⟨gb209,0,none⟩=some (.slice Ao17 t203.length co17)∧w'.cell? ⟨gb209,1,none⟩=some (.int .i64 t206)∧w'.cell? ⟨gb209,2,none⟩=some (.int .i64 t207)∧w'.cell? ⟨gb209,3,none⟩=some (.int .i64 t208)∧w'.cell? (ad221.add (x13_2).toNat)=some (.slice A221_0 (rd_L5 t213 x13_2).length c221_0)) (ds:=[]) #[false,false,false,false,false,false,false,false] (by kernel_rfl) rfl rfl ⟨(blk_cell BK209.out 0).trans rfl,(blk_cell BK209.out 1).trans rfl,(blk_cell BK209.out 2).trans rfl,(blk_cell BK209.out 3).trans rfl,hx221_0⟩ (fun hHeld=>?_);refine with_tabW thresherlaw09_OrderCuts.tab12 thresherlaw09_OrderCuts.bits12 (fun HT_ HW_=>?_)
          generalize wr.drew=w45 at HO_9 HO_10 HO_210000 BK201 BK209 HB HL221_0 HR221_0 hx221_0 hHeld ⊢
          refine pure_ (i:=1) (N:=some 54) (v:=?_) (a':=?_) #[false,true,false,false,false,false,false,false] rfl rfl (any_of HT_.out (by kernel_rfl)) (fun _ _ _ h=>h) (Or.inl ⟨by rfl,?_⟩) ?_ ?_
          rotate_left;(intro w';go_simp;with_reducible rfl);rotate_left;(simp only [Act.put,List.setIfInBounds_toArray,List.set_cons_zero,List.set_cons_succ,i64_w,i32_w];rfl)
          refine pure_ (i:=2) (N:=some 55) (v:=?_) (a':=?_) #[false,true,true,false,false,false,false,false] rfl rfl (any_of HT_.out (by kernel_rfl)) (fun _ _ _ h=>h) (Or.inl ⟨by rfl,?_⟩) ?_ ?_
          rotate_left;(intro w';go_simp;with_reducible rfl);rotate_left;(simp only [Act.put,List.setIfInBounds_toArray,List.set_cons_zero,List.set_cons_succ,i64_w,i32_w];rfl)
          refine pure_ (i:=3) (N:=some 56) (v:=?_) (a':=?_) #[false,true,true,true,false,false,false,false] rfl rfl (any_of HT_.out (by kernel_rfl)) (fun _ _ _ h=>h) (Or.inl ⟨by rfl,?_⟩) ?_ ?_
          rotate_left;(intro w';go_simp;with_reducible rfl);rotate_left;(simp only [Act.put,List.setIfInBounds_toArray,List.set_cons_zero,List.set_cons_succ,i64_w,i32_w];rfl)
          refine pure_ (i:=5) (N:=some 58) (v:=?_) (a':=?_) #[false,true,true,true,false,true,false,false] rfl rfl (any_of HT_.out (by kernel_rfl)) (fun _ _ _ h=>h) (Or.inl ⟨by rfl,?_⟩) ?_ ?_
          rotate_left;(intro w';go_simp;with_reducible rfl);rotate_left;(simp only [Act.put,List.setIfInBounds_toArray,List.set_cons_zero,List.set_cons_succ,i64_w,i32_w];rfl)
          refine take_ (i:=0) (N:=some 53) (v:=?_) (a':=?_) #[true,true,true,true,false,true,false,false] rfl rfl (take_ofW HT_.out HW_.out (by kernel_rfl)) (fun _ _ _ h=>h) (Or.inl ⟨by rfl,?_⟩) hHeld ?_ ?_
          rotate_left;(rintro w' ⟨s0,s1,s2,s3,s4⟩;go_simp;with_reducible rfl);rotate_left;(simp only [Act.put,List.setIfInBounds_toArray,List.set_cons_zero,List.set_cons_succ,i64_w,i32_w];rfl)
          refine take_ (i:=4) (N:=some 57) (v:=?_) (a':=?_) #[true,true,true,true,true,true,false,false] rfl rfl (take_ofW HT_.out HW_.out (by kernel_rfl)) (fun _ _ _ h=>h) (Or.inl ⟨by rfl,?_⟩) hHeld ?_ ?_
          rotate_left;(rintro w' ⟨s0,s1,s2,s3,s4⟩;go_simp;with_reducible rfl);rotate_left;(simp only [Act.put,List.setIfInBounds_toArray,List.set_cons_zero,List.set_cons_succ,i64_w,i32_w];rfl)
          refine one_ (i:=6) (N:=some 59) #[true,true,true,true,true,true,true,false] rfl rfl (one_of HT_.out (by kernel_rfl)) (by decide) (fun K hK=>?_)
          refine goes_ Try.func15 (by kernel_rfl) rfl #[.agg #[.slice Ao17 t203.length co17,.int .i64 t206,.int .i64 t207,.int .i64 t208],.slice A221_0 (rd_L5 t213 x13_2).length c221_0,.slice Ao29 t216.length co29] (by rfl) rfl rfl (by (try simp only [List.map_toArray,List.map_cons,List.map_nil]);first|done|rfl|(simp only [List.length_drop,List.length_take];rfl)) ?_
          with_reducible refine (thresherref04_Compare.calls k2 _ _ t203 t206 t207 t208 _ _ (rd_L5 t213 x13_2) _ _ t216 t222 _ ?side1 ?side2 ?side3 ?side4 ?side5 ?side6 A38.out).mono ?_
          (case side1=>repeat (first|exact (Kd.R_reads' HO_210000.out).2.2|(with_reducible refine Kd.C_alloc ?_ _)|(with_reducible refine Kd.C_drewN ?_ _)|(with_reducible refine Kd.C_drew ?_)))
          (case side2=>exact (Kd.R_reads' HO_210000.out).2.1)
          (case side3=>repeat (first|exact (by repeat (first|(with_reducible exact HR221_0.out)|(with_reducible refine Kd.C_alloc ?_ _)|(with_reducible refine Kd.C_drewN ?_ _)|(with_reducible refine Kd.C_drew ?_)|exact HR221_0.out))|(with_reducible refine Kd.C_alloc ?_ _)|(with_reducible refine Kd.C_drewN ?_ _)|(with_reducible refine Kd.C_drew ?_)))
          (case side4=>exact HC221_0.out)
          (case side5=>repeat (first|exact (Kd.R_reads' HO_10.out).2.2|(with_reducible refine Kd.C_alloc ?_ _)|(with_reducible refine Kd.C_drewN ?_ _)|(with_reducible refine Kd.C_drew ?_)))
          (case side6=>exact (Kd.R_reads' HO_10.out).2.1)
          rintro e w46 ⟨rfl,hb⟩
          have HS4_:=(hb.cell (World.block_lt_of_cell? _ _ (hHeld.2.2.2.2))).trans (hHeld.2.2.2.2)
          refine ⟨_,rfl,?_⟩
          have n0_:=Aside0.mk (Kd.N_below (by (with_reducible repeat (first|apply Kd.N_alloc|apply Kd.N_drewN|apply Kd.N_drew));exact HO_9.out) hb)
          have n1_:=Aside0.mk (Kd.R_below (by (with_reducible repeat (first|apply Kd.R_alloc|apply Kd.R_drewN|apply Kd.R_drew));exact HO_10.out) hb)
          have n2_:=Aside0.mk (Kd.R_below (by (with_reducible repeat (first|apply Kd.R_alloc|apply Kd.R_drewN|apply Kd.R_drew));exact HO_210000.out) hb)
          have n3_:=Aside0.mk (Kd.V_below (by (with_reducible repeat (first|apply Kd.V_alloc|apply Kd.V_drewN|apply Kd.V_drew));exact HL221_0.out) hb)
          have n4_:=Aside0.mk (blk_below (g:=gb201) (o:=.cells #[.int .u8 a0_0,.int .u8 a0_1,.int .u8 a0_2,.int .u8 a0_3,.int .u8 a0_4,.int .u8 a0_5,.int .u8 a0_6,.int .u8 a0_7,.int .u8 a0_8,.int .u8 a0_9,.int .u8 a0_10,.int .u8 a0_11] 24 (0,0)) (by (with_reducible repeat (first|refine blk_drewN ?_ _|refine blk_drew ?_|refine blk_alloc ?_ _));exact BK201.out) hb)
          have n5_:=Aside0.mk (blk_below (g:=gb209) (o:=.cells #[.slice Ao17 t203.length co17,.int .i64 t206,.int .i64 t207,.int .i64 t208] 31 (0,0)) (by (with_reducible repeat (first|refine blk_drewN ?_ _|refine blk_drew ?_|refine blk_alloc ?_ _));exact BK209.out) hb)
          have n6_:=Aside0.mk (Kd.C_below (by repeat (first|(with_reducible exact HR221_0.out)|(with_reducible refine Kd.C_alloc ?_ _)|(with_reducible refine Kd.C_drewN ?_ _)|(with_reducible refine Kd.C_drew ?_)|exact HR221_0.out)) hb)
          have n7_:=Aside0.mk (below_step (by repeat (first|(with_reducible first|exact HB.out|apply below_alloc|apply pw_below_drewN|apply below_drew1|refine below_set ?_ GE201.out|refine below_set ?_ GE209.out)|exact HB.out)) hb)
          clear HO_9
          clear HO_10
          clear HO_210000
          clear HL221_0
          clear BK201
          clear BK209
          clear HR221_0
          clear HB
          have HO_9:=n0_
          have HO_10:=n1_
          have HO_210000:=n2_
          have HL221_0:=n3_
          have BK201:=n4_
          have BK209:=n5_
          have HR221_0:=n6_
          have HB:=n7_
          clear n0_ n1_ n2_ n3_ n4_ n5_ n6_ n7_
          (try clear hb)
          (try clear hb2)
          (try clear hk)
          (try clear hi)
          refine hK.out _ _ ⟨(blk_cell BK209.out 0).trans rfl,(blk_cell BK209.out 1).trans rfl,(blk_cell BK209.out 2).trans rfl,(blk_cell BK209.out 3).trans rfl,HS4_⟩ (fun hHeld=>?_)
          clear hK K
          refine norm_ (a':=?_) ?_ ?_
          rotate_left
          ·show Act.put _ (some 59) _=_
           simp only [Act.put,List.setIfInBounds_toArray,List.set_cons_zero,List.set_cons_succ,i64_w,i32_w]
           rfl
          refine pure_ (i:=7) (N:=some 14) (v:=?_) (a':=?_) #[true,true,true,true,true,true,true,true] rfl rfl (any_of HT_.out (by kernel_rfl)) (fun _ _ _ h=>h) (Or.inl ⟨by rfl,?_⟩) ?_ ?_
          rotate_left;(intro w';go_simp;with_reducible rfl);rotate_left;(simp only [Act.put,List.setIfInBounds_toArray,List.set_cons_zero,List.set_cons_succ,i64_w,i32_w];rfl)
          refine done_ (done_of HT_.out (by kernel_rfl)) ?_
          (try clear HS4_);(try clear hHeld)
          try go_wp2
          go_roundg k2
          case measure=>have:=HJ10.out;have:=HK2.out;omega
          case rel=>exact ⟨(wrap64 (x13_2 + 1)),(by first|rfl|(simp;done)|(simp [*];done)),(by first|exact H'|(subst_vars;exact H')),⟨by have:=HJ10.out;have:=HK2.out;omega⟩,⟨by (with_reducible repeat (first|apply Kd.N_alloc|apply Kd.N_drewN|apply Kd.N_drew));exact HO_9.out⟩,⟨by (with_reducible repeat (first|apply Kd.R_alloc|apply Kd.R_drewN|apply Kd.R_drew));exact HO_10.out⟩,⟨by (with_reducible repeat (first|apply Kd.R_alloc|apply Kd.R_drewN|apply Kd.R_drew));exact HO_210000.out⟩,⟨by (with_reducible repeat (first|refine blk_drewN ?_ _|refine blk_drew ?_|refine blk_alloc ?_ _));exact BK201.out⟩,⟨by (with_reducible repeat (first|refine blk_drewN ?_ _|refine blk_drew ?_|refine blk_alloc ?_ _));exact BK209.out⟩,⟨by repeat (first|(with_reducible first|exact HB.out|apply below_alloc|apply pw_below_drewN|apply below_drew1|refine below_set ?_ GE201.out|refine below_set ?_ GE209.out)|exact HB.out)⟩⟩
       ·rw [if_neg c37] at H
        exact absurd H (by simp)
      ·rw [if_neg c36] at H
       have c36b0 : decide (x13_2 < (t213.length : Int))=false:=decide_eq_false c36
       clear c36
       have HC47:=Aside0.mk H
       clear H
       go_upto_region 15 with (fail)
       go_cut [6] (fun v6 wc=>∃ (kq : Nat) (x6_46 : Bool),v6=.bool x6_46∧Aside0 (thresherlaw09_OrderCuts.j2 kq x6_46=some r)∧Aside0 (kq≤k2)∧Aside0 (Kd.R (Kd.int .i64) 3 wc w.heap.size (fun _=>True) (.slice Ao17 t203.length co17) t203)∧Aside0 (wc.heap[gb201]?=some (.cells #[.int .u8 a0_0,.int .u8 a0_1,.int .u8 a0_2,.int .u8 a0_3,.int .u8 a0_4,.int .u8 a0_5,.int .u8 a0_6,.int .u8 a0_7,.int .u8 a0_8,.int .u8 a0_9,.int .u8 a0_10,.int .u8 a0_11] 24 (0,0)))∧Aside0 (wc.heap[gb209]?=some (.cells #[(.slice Ao17 t203.length co17),.int .i64 t206,.int .i64 t207,.int .i64 t208] 31 (0,0)))∧Aside0 (Below w.heap.size w wc))
       case first =>
        have H:=HC47.out
        clear HC47
        by_cases c48 : t202=true
        ·subst c48
         have H1 : ((order_Below.f k2 t203 t206 t207 t208 t213 ([] : List (S41))).bind fun t223=>(if t223=0 then ((order_Upto.f k2 t203 t206 t207 t208 t213 (([] : List (S41)))).bind fun t227=>(thresherlaw09_OrderCuts.j2 k2 (t227 == (t213.length : Int)))) else (thresherlaw09_OrderCuts.j2 k2 false)))=some r:=by rw [if_pos rfl] at H;exact H
         clear H
         have H:=H1
         clear H1
         replace H:=Option.bind_eq_some_iff.mp H
         obtain ⟨t223,A490,H⟩:=H
         replace H : (if t223=0 then ((order_Upto.f k2 t203 t206 t207 t208 t213 (([] : List (S41)))).bind fun t227=>(thresherlaw09_OrderCuts.j2 k2 (t227 == (t213.length : Int)))) else (thresherlaw09_OrderCuts.j2 k2 false))=some r:=H
         have A49:=Aside0.mk A490
         clear A490
         by_cases c50 : t223=0
         ·rw [if_pos c50] at H
          have c50b0 : (t223 == 0)=true:=beq_iff_eq.mpr c50
          have c50b1 : (t223 != 0)=false:=bne_eq_false_iff_eq.mpr c50
          clear c50
          (first|rw [c50b0]|(simp only [i64_w,i32_w];rw [c50b0])|skip)
          obtain ⟨y224,hy224⟩ : ∃ y_ : List (S41),y_=(([] : List (S41))):=⟨_,rfl⟩
          replace H : ((order_Upto.f k2 t203 t206 t207 t208 t213 y224).bind fun t227=>(thresherlaw09_OrderCuts.j2 k2 (t227 == (t213.length : Int))))=some r:=by first|(rw [hy224];with_reducible exact H)|(have H2_:=(Option.bind_some _ _).symm.trans H;rw [hy224];with_reducible exact H2_)|(have H2_:=(Option.bind_some _ _).symm.trans H;with_reducible exact H2_)|with_reducible exact H|(rw [hy224];exact H)|exact H
          have Ny224:=Aside0.mk hy224
          clear hy224
          replace H:=Option.bind_eq_some_iff.mp H
          obtain ⟨t227,A510,H⟩:=H
          replace H : (thresherlaw09_OrderCuts.j2 k2 (t227 == (t213.length : Int)))=some r:=H
          have A51:=Aside0.mk A510
          clear A510
          have H':=Aside0.mk H
          clear H
          have hnb52:=NB209_201.out
          have hnc52:=NB201_209.out
          have hcz53_0 : wr.cell? ⟨gb209,0,none⟩=some (.slice Ao17 t203.length co17):=(blk_cell BK209.out 0).trans rfl
          have hcz53_1 : wr.cell? ⟨gb209,1,none⟩=some (.int .i64 t206):=(blk_cell BK209.out 1).trans rfl
          have hcz53_2 : wr.cell? ⟨gb209,2,none⟩=some (.int .i64 t207):=(blk_cell BK209.out 2).trans rfl
          have hcz53_3 : wr.cell? ⟨gb209,3,none⟩=some (.int .i64 t208):=(blk_cell BK209.out 3).trans rfl
          have hfz53_0:=blk_frozen BK209.out 0
          have hfz53_1:=blk_frozen BK209.out 1
          have hfz53_2:=blk_frozen BK209.out 2
          have hfz53_3:=blk_frozen BK209.out 3
          go_wp2_with (first|(go_at_call 13;(refine (order_Below.calls k2 _ _ t203 t206 t207 t208 _ _ t213 _ _ ([] : List (S41)) t223 _ ?side1 ?side2 ?side3 ?side4 ?side5 ?side6 A49.out).mono ?_);(case side1=>repeat (first|exact (Kd.R_reads' HO_210000.out).2.2|(with_reducible refine Kd.C_alloc ?_ _)|(with_reducible refine Kd.C_drewN ?_ _)|(with_reducible refine Kd.C_drew ?_)));(case side2=>exact (Kd.R_reads' HO_210000.out).2.1);(case side3=>repeat (first|exact (Kd.N_reads' HO_9.out).2.2|(with_reducible refine Kd.C_alloc ?_ _)|(with_reducible refine Kd.C_drewN ?_ _)|(with_reducible refine Kd.C_drew ?_)));(case side4=>exact (Kd.N_reads' HO_9.out).2.1);(case side5=>exact Kd.C_nil _ _);(case side6=>exact Nat.le_refl _);rintro e w54 ⟨rfl,hb⟩;have n0_:=Aside0.mk (Kd.N_below (by (with_reducible repeat (first|apply Kd.N_alloc|apply Kd.N_drewN|apply Kd.N_drew));exact HO_9.out) hb);have n1_:=Aside0.mk (Kd.R_below (by (with_reducible repeat (first|apply Kd.R_alloc|apply Kd.R_drewN|apply Kd.R_drew));exact HO_10.out) hb);have n2_:=Aside0.mk (Kd.R_below (by (with_reducible repeat (first|apply Kd.R_alloc|apply Kd.R_drewN|apply Kd.R_drew));exact HO_210000.out) hb);have n3_:=Aside0.mk (blk_below (g:=gb201) (o:=.cells #[.int .u8 a0_0,.int .u8 a0_1,.int .u8 a0_2,.int .u8 a0_3,.int .u8 a0_4,.int .u8 a0_5,.int .u8 a0_6,.int .u8 a0_7,.int .u8 a0_8,.int .u8 a0_9,.int .u8 a0_10,.int .u8 a0_11] 24 (0,0)) (by (with_reducible repeat (first|refine blk_drewN ?_ _|refine blk_drew ?_|refine blk_alloc ?_ _));exact BK201.out) hb);have n4_:=Aside0.mk (blk_below (g:=gb209) (o:=.cells #[.slice Ao17 t203.length co17,.int .i64 t206,.int .i64 t207,.int .i64 t208] 31 (0,0)) (by (with_reducible repeat (first|refine blk_drewN ?_ _|refine blk_drew ?_|refine blk_alloc ?_ _));exact BK209.out) hb);have n5_:=Aside0.mk (below_step (by repeat (first|(with_reducible first|exact HB.out|apply below_alloc|apply pw_below_drewN|apply below_drew1|refine below_set ?_ GE201.out|refine below_set ?_ GE209.out)|exact HB.out)) hb);clear HO_9;clear HO_10;clear HO_210000;clear BK201;clear BK209;clear HB;have HO_9:=n0_;have HO_10:=n1_;have HO_210000:=n2_;have BK201:=n3_;have BK209:=n4_;have HB:=n5_;clear n0_ n1_ n2_ n3_ n4_ n5_;(try clear hb);(try clear hb2);(try clear hk);(try clear hi);have hcz55_0 : w54.cell? ⟨gb209,0,none⟩=some (.slice Ao17 t203.length co17):=(blk_cell BK209.out 0).trans rfl;have hcz55_1 : w54.cell? ⟨gb209,1,none⟩=some (.int .i64 t206):=(blk_cell BK209.out 1).trans rfl;have hcz55_2 : w54.cell? ⟨gb209,2,none⟩=some (.int .i64 t207):=(blk_cell BK209.out 2).trans rfl;have hcz55_3 : w54.cell? ⟨gb209,3,none⟩=some (.int .i64 t208):=(blk_cell BK209.out 3).trans rfl;have hfz55_0:=blk_frozen BK209.out 0;have hfz55_1:=blk_frozen BK209.out 1;have hfz55_2:=blk_frozen BK209.out 2;have hfz55_3:=blk_frozen BK209.out 3)|((with_reducible refine gate_dst (N:=84) rfl ?_);(try (refine gate_guard (by rfl) ?_;dsimp only));refine Kd.R_lit k41 _ 41 ?hg (N:=84) ?hd (xs:=([] : List (S41))) (inner:=[]) (ok:=fun _=>True) (okp:=fun _=>True) ?hr ?hp (fun _ hk=>hk) trivial (Below.refl _ _) (Nat.le_refl _) (by simp) ?_;(case hd=>rfl);(case hg=>rfl);(case hr=>first|(go_simp;done)|(go_simp;rfl));(case hp=>exact (Reps.none _ _));intro v225 w56 ho57 hb hg_ hnew_;clear hg_ hnew_;(first|rw [← Ny224.out] at ho57|(simp only [Int.reduceToNat] at ho57;rw [← Ny224.out] at ho57));have n0_:=Aside0.mk (Kd.N_elder' (by (with_reducible repeat (first|apply Kd.N_alloc|apply Kd.N_drewN|apply Kd.N_drew));exact HO_9.out) (Kd.R_base ho57) hb);have n1_:=Aside0.mk (Kd.R_elder' (by (with_reducible repeat (first|apply Kd.R_alloc|apply Kd.R_drewN|apply Kd.R_drew));exact HO_10.out) (Kd.R_base ho57) hb);have n2_:=Aside0.mk (Kd.R_below (by (with_reducible repeat (first|apply Kd.R_alloc|apply Kd.R_drewN|apply Kd.R_drew));exact HO_210000.out) hb);have n3_:=Aside0.mk (Kd.R_lower (Kd.R_new' ho57 (Kd.R_lt (by (with_reducible repeat (first|apply Kd.R_alloc|apply Kd.R_drewN|apply Kd.R_drew));exact HO_10.out))) (below_size (by repeat (first|(with_reducible first|exact HB.out|apply below_alloc|apply pw_below_drewN|apply below_drew1|refine below_set ?_ GE201.out|refine below_set ?_ GE209.out)|exact HB.out))));have n4_:=Aside0.mk (blk_below (g:=gb201) (o:=.cells #[.int .u8 a0_0,.int .u8 a0_1,.int .u8 a0_2,.int .u8 a0_3,.int .u8 a0_4,.int .u8 a0_5,.int .u8 a0_6,.int .u8 a0_7,.int .u8 a0_8,.int .u8 a0_9,.int .u8 a0_10,.int .u8 a0_11] 24 (0,0)) (by (with_reducible repeat (first|refine blk_drewN ?_ _|refine blk_drew ?_|refine blk_alloc ?_ _));exact BK201.out) hb);have n5_:=Aside0.mk (blk_below (g:=gb209) (o:=.cells #[.slice Ao17 t203.length co17,.int .i64 t206,.int .i64 t207,.int .i64 t208] 31 (0,0)) (by (with_reducible repeat (first|refine blk_drewN ?_ _|refine blk_drew ?_|refine blk_alloc ?_ _));exact BK209.out) hb);have n6_:=Aside0.mk (below_step (by repeat (first|(with_reducible first|exact HB.out|apply below_alloc|apply pw_below_drewN|apply below_drew1|refine below_set ?_ GE201.out|refine below_set ?_ GE209.out)|exact HB.out)) hb);clear HO_9;clear HO_10;clear HO_210000;clear BK201;clear BK209;clear HB;have HO_9:=n0_;have HO_10:=n1_;have HO_210000:=n2_;have HO226:=n3_;have BK201:=n4_;have BK209:=n5_;have HB:=n6_;clear n0_ n1_ n2_ n3_ n4_ n5_ n6_;clear hb ho57;obtain ⟨Ao58,co58,eo58⟩:=Kd.R_slice HO226.out;subst eo58)|(go_at_call 14;(with_reducible refine (order_Upto.calls k2 _ _ t203 t206 t207 t208 _ _ t213 _ _ y224 t227 _ ?side1 ?side2 ?side3 ?side4 ?side5 ?side6 A51.out).mono ?_);(case side1=>repeat (first|exact (Kd.R_reads' HO_210000.out).2.2|(with_reducible refine Kd.C_alloc ?_ _)|(with_reducible refine Kd.C_drewN ?_ _)|(with_reducible refine Kd.C_drew ?_)));(case side2=>exact (Kd.R_reads' HO_210000.out).2.1);(case side3=>repeat (first|exact (Kd.N_reads' HO_9.out).2.2|(with_reducible refine Kd.C_alloc ?_ _)|(with_reducible refine Kd.C_drewN ?_ _)|(with_reducible refine Kd.C_drew ?_)));(case side4=>exact (Kd.N_reads' HO_9.out).2.1);(case side5=>repeat (first|exact (Kd.R_reads' HO226.out).2.2|(with_reducible refine Kd.C_alloc ?_ _)|(with_reducible refine Kd.C_drewN ?_ _)|(with_reducible refine Kd.C_drew ?_)));(case side6=>exact (Kd.R_reads' HO226.out).2.1);rintro e w59 ⟨rfl,hb⟩;have n0_:=Aside0.mk (Kd.N_below (by (with_reducible repeat (first|apply Kd.N_alloc|apply Kd.N_drewN|apply Kd.N_drew));exact HO_9.out) hb);have n1_:=Aside0.mk (Kd.R_below (by (with_reducible repeat (first|apply Kd.R_alloc|apply Kd.R_drewN|apply Kd.R_drew));exact HO_10.out) hb);have n2_:=Aside0.mk (Kd.R_below (by (with_reducible repeat (first|apply Kd.R_alloc|apply Kd.R_drewN|apply Kd.R_drew));exact HO_210000.out) hb);have n3_:=Aside0.mk (Kd.R_below (by (with_reducible repeat (first|apply Kd.R_alloc|apply Kd.R_drewN|apply Kd.R_drew));exact HO226.out) hb);have n4_:=Aside0.mk (blk_below (g:=gb201) (o:=.cells #[.int .u8 a0_0,.int .u8 a0_1,.int .u8 a0_2,.int .u8 a0_3,.int .u8 a0_4,.int .u8 a0_5,.int .u8 a0_6,.int .u8 a0_7,.int .u8 a0_8,.int .u8 a0_9,.int .u8 a0_10,.int .u8 a0_11] 24 (0,0)) (by (with_reducible repeat (first|refine blk_drewN ?_ _|refine blk_drew ?_|refine blk_alloc ?_ _));exact BK201.out) hb);have n5_:=Aside0.mk (blk_below (g:=gb209) (o:=.cells #[.slice Ao17 t203.length co17,.int .i64 t206,.int .i64 t207,.int .i64 t208] 31 (0,0)) (by (with_reducible repeat (first|refine blk_drewN ?_ _|refine blk_drew ?_|refine blk_alloc ?_ _));exact BK209.out) hb);have n6_:=Aside0.mk (below_step (by repeat (first|(with_reducible first|exact HB.out|apply below_alloc|apply pw_below_drewN|apply below_drew1|refine below_set ?_ GE201.out|refine below_set ?_ GE209.out)|exact HB.out)) hb);clear HO_9;clear HO_10;clear HO_210000;clear HO226;clear BK201;clear BK209;clear HB;have HO_9:=n0_;have HO_10:=n1_;have HO_210000:=n2_;have HO226:=n3_;have BK201:=n4_;have BK209:=n5_;have HB:=n6_;clear n0_ n1_ n2_ n3_ n4_ n5_ n6_;(try clear hb);(try clear hb2);(try clear hk);(try clear hi)))
          go_meet
          case rel=>exact ⟨_,((t227 == (t213.length : Int))),(by first|rfl|(simp;done)|(simp [*];done)),(by first|exact H'|(subst_vars;exact H')),⟨by have:=HJ10.out;have:=HK2.out;first|omega|exact Nat.le_refl _⟩,⟨by (with_reducible repeat (first|apply Kd.R_alloc|apply Kd.R_drewN|apply Kd.R_drew));exact HO_210000.out⟩,⟨by (with_reducible repeat (first|refine blk_drewN ?_ _|refine blk_drew ?_|refine blk_alloc ?_ _));exact BK201.out⟩,⟨by (with_reducible repeat (first|refine blk_drewN ?_ _|refine blk_drew ?_|refine blk_alloc ?_ _));exact BK209.out⟩,⟨by repeat (first|(with_reducible first|exact HB.out|apply below_alloc|apply pw_below_drewN|apply below_drew1|refine below_set ?_ GE201.out|refine below_set ?_ GE209.out)|exact HB.out)⟩⟩
         ·rw [if_neg c50] at H
          have c50b0 : (t223 == 0)=false:=beq_eq_false_iff_ne.mpr c50
          have c50b1 : (t223 != 0)=true:=bne_iff_ne.mpr c50
          (first|rw [c50b0]|(simp only [i64_w,i32_w];rw [c50b0])|skip)
          have H':=Aside0.mk H
          clear H
          have hnb60:=NB209_201.out
          have hnc60:=NB201_209.out
          have hcz61_0 : wr.cell? ⟨gb209,0,none⟩=some (.slice Ao17 t203.length co17):=(blk_cell BK209.out 0).trans rfl
          have hcz61_1 : wr.cell? ⟨gb209,1,none⟩=some (.int .i64 t206):=(blk_cell BK209.out 1).trans rfl
          have hcz61_2 : wr.cell? ⟨gb209,2,none⟩=some (.int .i64 t207):=(blk_cell BK209.out 2).trans rfl
          have hcz61_3 : wr.cell? ⟨gb209,3,none⟩=some (.int .i64 t208):=(blk_cell BK209.out 3).trans rfl
          have hfz61_0:=blk_frozen BK209.out 0
          have hfz61_1:=blk_frozen BK209.out 1
          have hfz61_2:=blk_frozen BK209.out 2
          have hfz61_3:=blk_frozen BK209.out 3
          go_wp2_with (first|(go_at_call 13;(refine (order_Below.calls k2 _ _ t203 t206 t207 t208 _ _ t213 _ _ ([] : List (S41)) t223 _ ?side1 ?side2 ?side3 ?side4 ?side5 ?side6 A49.out).mono ?_);(case side1=>repeat (first|exact (Kd.R_reads' HO_210000.out).2.2|(with_reducible refine Kd.C_alloc ?_ _)|(with_reducible refine Kd.C_drewN ?_ _)|(with_reducible refine Kd.C_drew ?_)));(case side2=>exact (Kd.R_reads' HO_210000.out).2.1);(case side3=>repeat (first|exact (Kd.N_reads' HO_9.out).2.2|(with_reducible refine Kd.C_alloc ?_ _)|(with_reducible refine Kd.C_drewN ?_ _)|(with_reducible refine Kd.C_drew ?_)));(case side4=>exact (Kd.N_reads' HO_9.out).2.1);(case side5=>exact Kd.C_nil _ _);(case side6=>exact Nat.le_refl _);rintro e w62 ⟨rfl,hb⟩;have n0_:=Aside0.mk (Kd.N_below (by (with_reducible repeat (first|apply Kd.N_alloc|apply Kd.N_drewN|apply Kd.N_drew));exact HO_9.out) hb);have n1_:=Aside0.mk (Kd.R_below (by (with_reducible repeat (first|apply Kd.R_alloc|apply Kd.R_drewN|apply Kd.R_drew));exact HO_10.out) hb);have n2_:=Aside0.mk (Kd.R_below (by (with_reducible repeat (first|apply Kd.R_alloc|apply Kd.R_drewN|apply Kd.R_drew));exact HO_210000.out) hb);have n3_:=Aside0.mk (blk_below (g:=gb201) (o:=.cells #[.int .u8 a0_0,.int .u8 a0_1,.int .u8 a0_2,.int .u8 a0_3,.int .u8 a0_4,.int .u8 a0_5,.int .u8 a0_6,.int .u8 a0_7,.int .u8 a0_8,.int .u8 a0_9,.int .u8 a0_10,.int .u8 a0_11] 24 (0,0)) (by (with_reducible repeat (first|refine blk_drewN ?_ _|refine blk_drew ?_|refine blk_alloc ?_ _));exact BK201.out) hb);have n4_:=Aside0.mk (blk_below (g:=gb209) (o:=.cells #[.slice Ao17 t203.length co17,.int .i64 t206,.int .i64 t207,.int .i64 t208] 31 (0,0)) (by (with_reducible repeat (first|refine blk_drewN ?_ _|refine blk_drew ?_|refine blk_alloc ?_ _));exact BK209.out) hb);have n5_:=Aside0.mk (below_step (by repeat (first|(with_reducible first|exact HB.out|apply below_alloc|apply pw_below_drewN|apply below_drew1|refine below_set ?_ GE201.out|refine below_set ?_ GE209.out)|exact HB.out)) hb);clear HO_9;clear HO_10;clear HO_210000;clear BK201;clear BK209;clear HB;have HO_9:=n0_;have HO_10:=n1_;have HO_210000:=n2_;have BK201:=n3_;have BK209:=n4_;have HB:=n5_;clear n0_ n1_ n2_ n3_ n4_ n5_;(try clear hb);(try clear hb2);(try clear hk);(try clear hi)))
          go_meet
          case rel=>exact ⟨_,(false),(by first|rfl|(simp;done)|(simp [*];done)),(by first|exact H'|(subst_vars;exact H')),⟨by have:=HJ10.out;have:=HK2.out;first|omega|exact Nat.le_refl _⟩,⟨by (with_reducible repeat (first|apply Kd.R_alloc|apply Kd.R_drewN|apply Kd.R_drew));exact HO_210000.out⟩,⟨by (with_reducible repeat (first|refine blk_drewN ?_ _|refine blk_drew ?_|refine blk_alloc ?_ _));exact BK201.out⟩,⟨by (with_reducible repeat (first|refine blk_drewN ?_ _|refine blk_drew ?_|refine blk_alloc ?_ _));exact BK209.out⟩,⟨by repeat (first|(with_reducible first|exact HB.out|apply below_alloc|apply pw_below_drewN|apply below_drew1|refine below_set ?_ GE201.out|refine below_set ?_ GE209.out)|exact HB.out)⟩⟩
        ·replace c48:=Bool.eq_false_iff.mpr c48
         subst c48
         have H1 : (thresherlaw09_OrderCuts.j2 k2 false)=some r:=by rw [if_neg (show ¬ (false=true) by decide)] at H;exact H
         clear H
         have H:=H1
         clear H1
         have H':=Aside0.mk H
         clear H
         go_wp2
         go_meet
         case rel=>exact ⟨_,(false),(by first|rfl|(simp;done)|(simp [*];done)),(by first|exact H'|(subst_vars;exact H')),⟨by have:=HJ10.out;have:=HK2.out;first|omega|exact Nat.le_refl _⟩,⟨by (with_reducible repeat (first|apply Kd.R_alloc|apply Kd.R_drewN|apply Kd.R_drew));exact HO_210000.out⟩,⟨by (with_reducible repeat (first|refine blk_drewN ?_ _|refine blk_drew ?_|refine blk_alloc ?_ _));exact BK201.out⟩,⟨by (with_reducible repeat (first|refine blk_drewN ?_ _|refine blk_drew ?_|refine blk_alloc ?_ _));exact BK209.out⟩,⟨by repeat (first|(with_reducible first|exact HB.out|apply below_alloc|apply pw_below_drewN|apply below_drew1|refine below_set ?_ GE201.out|refine below_set ?_ GE209.out)|exact HB.out)⟩⟩
       case rest =>
        clear HC47
        try clear c1
        try clear c2
        try clear p2
        try clear q2
        try clear hx2
        try clear c3
        try clear c4
        try clear c5
        try clear c6
        try clear p6
        try clear c15
        try clear c22
        try clear p22
        try clear q22
        try clear hx22
        try clear c36
        try clear c36b0
        try clear c37
        try clear c37b0
        try clear c39
        try clear c39b0
        try clear c39b1
        try clear c39b2
        try clear c42
        try clear c42b0
        try clear c42b1
        try clear c42b2
        try clear c48
        try clear c50
        try clear c50b0
        try clear c50b1
        try clear c52
        try clear c60
        try clear hcz53_0
        try clear hcz53_1
        try clear hcz53_2
        try clear hcz53_3
        try clear hcz55_0
        try clear hcz55_1
        try clear hcz55_2
        try clear hcz55_3
        try clear hcz61_0
        try clear hcz61_1
        try clear hcz61_2
        try clear hcz61_3
        try clear hfz19_1
        try clear hfz19_2
        try clear hfz19_3
        try clear hfz25_0
        try clear hfz25_1
        try clear hfz25_2
        try clear hfz25_3
        try clear hfz27_0
        try clear hfz27_1
        try clear hfz27_2
        try clear hfz27_3
        try clear hfz31_0
        try clear hfz31_1
        try clear hfz31_2
        try clear hfz31_3
        try clear hfz53_0
        try clear hfz53_1
        try clear hfz53_2
        try clear hfz53_3
        try clear hfz55_0
        try clear hfz55_1
        try clear hfz55_2
        try clear hfz55_3
        try clear hfz61_0
        try clear hfz61_1
        try clear hfz61_2
        try clear hfz61_3
        try clear hx221_0
        try clear p2
        try clear p221
        try clear q221
        obtain ⟨kq,x6_46,rfl,HA,HJ46,HO_210000,BK201,BK209,HB⟩:=hcut
        cases kq with
        | zero=>exact absurd HA.out (by simp [thresherlaw09_OrderCuts.j2])
        | succ kj46 =>
         have H:=HA.out
         clear HA
         simp only [thresherlaw09_OrderCuts.j2] at H
         obtain rfl:=Option.some.inj H
         go_wp2
         go_ret
         exact ⟨by first|rfl|(simp [errW_none,errW_some] <;> rfl)|(simp [*,errW_none,errW_some] <;> rfl),by repeat (first|(with_reducible first|exact HB.out|apply below_alloc|apply pw_below_drewN|apply below_drew1|refine below_set ?_ GE201.out|refine below_set ?_ GE209.out)|exact HB.out)⟩
end Go.Proofs.Ytojbeofipedolaa.P

