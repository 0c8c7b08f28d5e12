/- Texts of OrderPlaces. Merged: Px16a. -/
import Derived.Test.YtojbeofipedolaaQOrderPlacesPx0
import Derived.Test.YtojbeofipedolaaQOrderPlacesPx4
import Derived.Test.YtojbeofipedolaaQOrderPlacesPx5
import Derived.Test.YtojbeofipedolaaQOrderPlacesPx10
import Derived.Test.YtojbeofipedolaaQOrderPlacesHOrdA
import Derived.Test.YtojbeofipedolaaQOrderPlacesHOrdE
import Derived.Test.YtojbeofipedolaaQOrderPlacesHOrdF
namespace Go.Proofs.Ytojbeofipedolaa.P
open Go.RowKit Go.Proofs.YtojbeofipedolaaW.PrintWords Go.Proofs.YtojbeofipedolaaW.PrintLast Go.Proofs.YtojbeofipedolaaW.PrintMore
attribute [local go_sem] max2_int min2_int max_two min_two max_three min_three max_four min_four   -- for this text's walks alone
set_option linter.unusedVariables false
set_option linter.unusedSimpArgs false
mutual
def thresherlaw09_OrderPlaces.j0 : Nat→Bool→List (List (S41))→List (S41)→Int→Int→Bool→List Int→Int→Int→Int→Option (Bool)
 | 0,_,_,_,_,_,_,_,_,_,_=>none
 | k + 1,x7,x9,x10,x11,x12,x48,x388000,x388001,x388002,x388003=>if x48=true then (some false) else ((some (([] : List (List (S41))) : List (List (S41)))).bind fun y399=>(if 0≤x12 then (if x12≤(x9.length : Int) then ((some (x9.take (x12 : Int).toNat : List (List (S41)))).bind fun y402=>(if y399.length + y402.length < 5864062014805 then ((some (y399 ++ y402 : List (List (S41)))).bind fun y407=>((some (([x10] : List (List (S41))) : List (List (S41)))).bind fun y410=>(if y407.length + y410.length < 5864062014805 then ((some (y407 ++ y410 : List (List (S41)))).bind fun y413=>((some (x9.drop (x12 : Int).toNat : List (List (S41)))).bind fun y416=>(if y413.length + y416.length < 5864062014805 then ((some (y413 ++ y416 : List (List (S41)))).bind fun y421=>((some (([] : List (List (S41))) : List (List (S41)))).bind fun y424=>(if 0≤x11 then (if x11≤(x9.length : Int) then ((some (x9.take (x11 : Int).toNat : List (List (S41)))).bind fun y427=>(if y424.length + y427.length < 5864062014805 then ((some (y424 ++ y427 : List (List (S41)))).bind fun y432=>((some (([x10] : List (List (S41))) : List (List (S41)))).bind fun y435=>(if y432.length + y435.length < 5864062014805 then ((some (y432 ++ y435 : List (List (S41)))).bind fun y438=>((some (x9.drop (x11 : Int).toNat : List (List (S41)))).bind fun y441=>(if y438.length + y441.length < 5864062014805 then ((some (y438 ++ y441 : List (List (S41)))).bind fun y446=>((some (([] : List (List (S41))) : List (List (S41)))).bind fun y449=>(if y449.length + x9.length < 5864062014805 then ((some (y449 ++ x9 : List (List (S41)))).bind fun y452=>((some (([x10] : List (List (S41))) : List (List (S41)))).bind fun y455=>(if y452.length + y455.length < 5864062014805 then ((order_Sort.f k x388000 x388001 x388002 x388003 (y452 ++ y455)).bind fun t461=>((thresherref04_Rows.f k t461 y421).bind fun t464=>((some (([x10] : List (List (S41))) : List (List (S41)))).bind fun y465=>(if y465.length + x9.length < 5864062014805 then ((order_Sort.f k x388000 x388001 x388002 x388003 (y465 ++ x9)).bind fun t471=>((thresherref04_Rows.f k t471 y446).bind fun t474=>(if x7=true then (if t464=true then (if t474=true then ((order_Sorted.f k x388000 x388001 x388002 x388003 y421).bind fun t475=>(if t475=true then ((order_Sorted.f k x388000 x388001 x388002 x388003 y446).bind fun t476=>(thresherlaw09_OrderPlaces.j1 k t476)) else (thresherlaw09_OrderPlaces.j1 k false))) else (thresherlaw09_OrderPlaces.j1 k false)) else (thresherlaw09_OrderPlaces.j1 k false)) else (thresherlaw09_OrderPlaces.j1 k false)))) else (none))))) else (none)))) else (none)))) else (none)))) else (none)))) else (none))) else (none)) else (none)))) else (none)))) else (none)))) else (none))) else (none)) else (none)))
def thresherlaw09_OrderPlaces.j1 : Nat→Bool→Option (Bool)
 | 0,_=>none
 | k + 1,x6=>some x6
end
def thresherlaw09_OrderPlaces.f (k : Nat) (a0_0 : Int) (a0_1 : Int) (a0_2 : Int) (a0_3 : Int) (a0_4 : Int) (a0_5 : Int) (a0_6 : Int) (a0_7 : Int) (a0_8 : Int) (a0_9 : Int) (a0_10 : Int) (a0_11 : Int) (l1 : List (List (S41))) (l2 : List (S41)) : Option (Bool):=(thresherlaw09_shown.f k).bind fun t380=>((thresherlaw09_made.f k a0_0 a0_1 a0_2 a0_3 a0_4 a0_5 a0_6 a0_7 a0_8 a0_9 a0_10 a0_11).bind fun bt381=>((thresherref04_Fits.f k bt381.1 bt381.2.1 bt381.2.2.1 bt381.2.2.2 l1 60).bind fun t388=>((order_Sort.f k bt381.1 bt381.2.1 bt381.2.2.1 bt381.2.2.2 t388).bind fun t391=>((thresherref04_Fit.f k bt381.1 bt381.2.1 bt381.2.2.1 bt381.2.2.2 l2).bind fun t394=>((order_Below.f k bt381.1 bt381.2.1 bt381.2.2.1 bt381.2.2.2 t391 t394).bind fun t397=>((order_Upto.f k bt381.1 bt381.2.1 bt381.2.2.1 bt381.2.2.2 t391 t394).bind fun t398=>(if t397 < 0 then (thresherlaw09_OrderPlaces.j0 k t380 t391 t394 t397 t398 true bt381.1 bt381.2.1 bt381.2.2.1 bt381.2.2.2) else (if t397 > t398 then (thresherlaw09_OrderPlaces.j0 k t380 t391 t394 t397 t398 true bt381.1 bt381.2.1 bt381.2.2.1 bt381.2.2.2) else (thresherlaw09_OrderPlaces.j0 k t380 t391 t394 t397 t398 (decide (t398 > (t391.length : Int))) bt381.1 bt381.2.1 bt381.2.2.1 bt381.2.2.2)))))))))
theorem thresherlaw09_OrderPlaces.mono_l : ∀ k,(∀ y0 y1 y2 y3 y4 y5 y6 y7 y8 y9,LeO (thresherlaw09_OrderPlaces.j0 k y0 y1 y2 y3 y4 y5 y6 y7 y8 y9) (thresherlaw09_OrderPlaces.j0 (k + 1) y0 y1 y2 y3 y4 y5 y6 y7 y8 y9))∧(∀ y0,LeO (thresherlaw09_OrderPlaces.j1 k y0) (thresherlaw09_OrderPlaces.j1 (k + 1) y0))
 | 0=>⟨fun _ _ _ _ _ _ _ _ _ _ r h=>by simp [thresherlaw09_OrderPlaces.j0] at h,fun _ r h=>by simp [thresherlaw09_OrderPlaces.j1] at h⟩
 | k + 1=>by
  obtain ⟨ih0,ih1⟩:=thresherlaw09_OrderPlaces.mono_l k
  refine ⟨?_,?_⟩
  ·intro y0 y1 y2 y3 y4 y5 y6 y7 y8 y9
   unfold thresherlaw09_OrderPlaces.j0
   repeat' first
   | (with_reducible exact ih0 _ _ _ _ _ _ _ _ _ _)
   | (with_reducible exact ih1 _)
   | (with_reducible exact order_Below.mono _ _ _ _ _ _ _)
   | (with_reducible exact order_Sort.mono _ _ _ _ _ _)
   | (with_reducible exact order_Sorted.mono _ _ _ _ _ _)
   | (with_reducible exact order_Upto.mono _ _ _ _ _ _ _)
   | (with_reducible exact thresherlaw09_made.mono _ _ _ _ _ _ _ _ _ _ _ _ _)
   | (with_reducible exact thresherlaw09_shown.mono _)
   | (with_reducible exact thresherref04_Fit.mono _ _ _ _ _ _)
   | (with_reducible exact thresherref04_Fits.mono _ _ _ _ _ _ _)
   | (with_reducible exact thresherref04_Rows.mono _ _ _)
   | (with_reducible exact LeO.refl _)
   | (with_reducible exact LeO.none _)
   | (with_reducible refine LeO.ite ?_ ?_)
   | (with_reducible refine LeO.bind ?_ (fun _=>?_))
   | exact ih0 _ _ _ _ _ _ _ _ _ _
   | exact ih1 _
   | exact order_Below.mono _ _ _ _ _ _ _
   | exact order_Sort.mono _ _ _ _ _ _
   | exact order_Sorted.mono _ _ _ _ _ _
   | exact order_Upto.mono _ _ _ _ _ _ _
   | exact thresherlaw09_made.mono _ _ _ _ _ _ _ _ _ _ _ _ _
   | exact thresherlaw09_shown.mono _
   | exact thresherref04_Fit.mono _ _ _ _ _ _
   | exact thresherref04_Fits.mono _ _ _ _ _ _ _
   | exact thresherref04_Rows.mono _ _ _
   | exact LeO.none _
   | refine LeO.ite ?_ ?_
   | refine LeO.bind ?_ (fun _=>?_)
  ·intro y0
   unfold thresherlaw09_OrderPlaces.j1
   repeat' first
   | (with_reducible exact ih0 _ _ _ _ _ _ _ _ _ _)
   | (with_reducible exact ih1 _)
   | (with_reducible exact order_Below.mono _ _ _ _ _ _ _)
   | (with_reducible exact order_Sort.mono _ _ _ _ _ _)
   | (with_reducible exact order_Sorted.mono _ _ _ _ _ _)
   | (with_reducible exact order_Upto.mono _ _ _ _ _ _ _)
   | (with_reducible exact thresherlaw09_made.mono _ _ _ _ _ _ _ _ _ _ _ _ _)
   | (with_reducible exact thresherlaw09_shown.mono _)
   | (with_reducible exact thresherref04_Fit.mono _ _ _ _ _ _)
   | (with_reducible exact thresherref04_Fits.mono _ _ _ _ _ _ _)
   | (with_reducible exact thresherref04_Rows.mono _ _ _)
   | (with_reducible exact LeO.refl _)
   | (with_reducible exact LeO.none _)
   | (with_reducible refine LeO.ite ?_ ?_)
   | (with_reducible refine LeO.bind ?_ (fun _=>?_))
   | exact ih0 _ _ _ _ _ _ _ _ _ _
   | exact ih1 _
   | exact order_Below.mono _ _ _ _ _ _ _
   | exact order_Sort.mono _ _ _ _ _ _
   | exact order_Sorted.mono _ _ _ _ _ _
   | exact order_Upto.mono _ _ _ _ _ _ _
   | exact thresherlaw09_made.mono _ _ _ _ _ _ _ _ _ _ _ _ _
   | exact thresherlaw09_shown.mono _
   | exact thresherref04_Fit.mono _ _ _ _ _ _
   | exact thresherref04_Fits.mono _ _ _ _ _ _ _
   | exact thresherref04_Rows.mono _ _ _
   | exact LeO.none _
   | refine LeO.ite ?_ ?_
   | refine LeO.bind ?_ (fun _=>?_)
theorem thresherlaw09_OrderPlaces.mono : ∀ a0 a1 a2 a3 a4 a5 a6 a7 a8 a9 a10 a11 a12 a13 k,LeO (thresherlaw09_OrderPlaces.f k a0 a1 a2 a3 a4 a5 a6 a7 a8 a9 a10 a11 a12 a13) (thresherlaw09_OrderPlaces.f (k + 1) a0 a1 a2 a3 a4 a5 a6 a7 a8 a9 a10 a11 a12 a13):=by
 intro a0 a1 a2 a3 a4 a5 a6 a7 a8 a9 a10 a11 a12 a13 k
 obtain ⟨ih0,ih1⟩:=thresherlaw09_OrderPlaces.mono_l k
 unfold thresherlaw09_OrderPlaces.f
 repeat' first
   | (with_reducible exact ih0 _ _ _ _ _ _ _ _ _ _)
   | (with_reducible exact ih1 _)
   | (with_reducible exact order_Below.mono _ _ _ _ _ _ _)
   | (with_reducible exact order_Sort.mono _ _ _ _ _ _)
   | (with_reducible exact order_Sorted.mono _ _ _ _ _ _)
   | (with_reducible exact order_Upto.mono _ _ _ _ _ _ _)
   | (with_reducible exact thresherlaw09_made.mono _ _ _ _ _ _ _ _ _ _ _ _ _)
   | (with_reducible exact thresherlaw09_shown.mono _)
   | (with_reducible exact thresherref04_Fit.mono _ _ _ _ _ _)
   | (with_reducible exact thresherref04_Fits.mono _ _ _ _ _ _ _)
   | (with_reducible exact thresherref04_Rows.mono _ _ _)
   | (with_reducible exact LeO.refl _)
   | (with_reducible exact LeO.none _)
   | (with_reducible refine LeO.ite ?_ ?_)
   | (with_reducible refine LeO.bind ?_ (fun _=>?_))
   | exact ih0 _ _ _ _ _ _ _ _ _ _
   | exact ih1 _
   | exact order_Below.mono _ _ _ _ _ _ _
   | exact order_Sort.mono _ _ _ _ _ _
   | exact order_Sorted.mono _ _ _ _ _ _
   | exact order_Upto.mono _ _ _ _ _ _ _
   | exact thresherlaw09_made.mono _ _ _ _ _ _ _ _ _ _ _ _ _
   | exact thresherlaw09_shown.mono _
   | exact thresherref04_Fit.mono _ _ _ _ _ _
   | exact thresherref04_Fits.mono _ _ _ _ _ _ _
   | exact thresherref04_Rows.mono _ _ _
   | exact LeO.none _
   | refine LeO.ite ?_ ?_
   | refine LeO.bind ?_ (fun _=>?_)
def thresherlaw09_OrderPlaces.T9 : Bool × List (List Nat × List Nat):=(true,[([],[]),([],[]),([],[]),([1,2],[1,2]),([0,3],[0,3]),([],[]),([5],[5]),([4,6,4],[4,6]),([],[]),([],[]),([8,9],[8,9]),([7,10,7],[7,10]),([11,11,0,1,2,3,4,5,6,7,8,9,10,11],[11])])
def thresherlaw09_OrderPlaces.B9 : List Nat:=[0,0,0,6,15,0,32,127,0,0,768,2047,4095]
theorem thresherlaw09_OrderPlaces.tab9 : rtab .any (opsOf Try.f7 9)=thresherlaw09_OrderPlaces.T9:=by kernel_rfl
theorem thresherlaw09_OrderPlaces.bits9 : waitsOk thresherlaw09_OrderPlaces.T9.2 thresherlaw09_OrderPlaces.B9=true:=by kernel_rfl
def thresherlaw09_OrderPlaces.T10 : Bool × List (List Nat × List Nat):=(true,[([],[]),([],[]),([],[]),([1,2],[1,2]),([0,3],[0,3]),([],[]),([5],[5]),([4,6,4],[4,6]),([],[]),([],[]),([8,9],[8,9]),([7,10,7],[7,10]),([11,11,0,1,2,3,4,5,6,7,8,9,10,11],[11])])
def thresherlaw09_OrderPlaces.B10 : List Nat:=[0,0,0,6,15,0,32,127,0,0,768,2047,4095]
theorem thresherlaw09_OrderPlaces.tab10 : rtab .any (opsOf Try.f7 10)=thresherlaw09_OrderPlaces.T10:=by kernel_rfl
theorem thresherlaw09_OrderPlaces.bits10 : waitsOk thresherlaw09_OrderPlaces.T10.2 thresherlaw09_OrderPlaces.B10=true:=by kernel_rfl
def thresherlaw09_OrderPlaces.T11 : Bool × List (List Nat × List Nat):=(true,[([],[]),([],[]),([],[]),([1,2],[1,2]),([],[]),([4],[4]),([3,5,3],[3,5]),([0,6,6],[0,6]),([],[]),([7,8,7],[7,8]),([9,9,0,1,2,3,4,5,6,7,8,9],[9])])
def thresherlaw09_OrderPlaces.B11 : List Nat:=[0,0,0,6,0,16,62,127,0,511,1023]
theorem thresherlaw09_OrderPlaces.tab11 : rtab .any (opsOf Try.f7 11)=thresherlaw09_OrderPlaces.T11:=by kernel_rfl
theorem thresherlaw09_OrderPlaces.bits11 : waitsOk thresherlaw09_OrderPlaces.T11.2 thresherlaw09_OrderPlaces.B11=true:=by kernel_rfl
def thresherlaw09_OrderPlaces.T12 : Bool × List (List Nat × List Nat):=(true,[([],[]),([],[]),([1],[1]),([],[]),([2,3],[2,3]),([0,4,4],[0,4]),([],[]),([5,6,5],[5,6]),([7,7,0,1,2,3,4,5,6,7],[7])])
def thresherlaw09_OrderPlaces.B12 : List Nat:=[0,0,2,0,14,31,0,127,255]
theorem thresherlaw09_OrderPlaces.tab12 : rtab .any (opsOf Try.f7 12)=thresherlaw09_OrderPlaces.T12:=by kernel_rfl
theorem thresherlaw09_OrderPlaces.bits12 : waitsOk thresherlaw09_OrderPlaces.T12.2 thresherlaw09_OrderPlaces.B12=true:=by kernel_rfl
structure thresherlaw09_OrderPlaces.calls_later (P : Prop) : Prop where
  out : P
set_option maxHeartbeats 8000000 in
set_option maxRecDepth 100000 in
noncomputable def thresherlaw09_OrderPlaces.calls_part :
  (hP0_ : Prop) ×' (hP1_ : Prop) ×' (hP2_ : Prop) ×' (thresherlaw09_OrderPlaces.calls_later hP0_ → thresherlaw09_OrderPlaces.calls_later hP1_ → thresherlaw09_OrderPlaces.calls_later hP2_ → ∀ (k : Nat) (a0_0 : Int) (a0_1 : Int) (a0_2 : Int) (a0_3 : Int) (a0_4 : Int) (a0_5 : Int) (a0_6 : Int) (a0_7 : Int) (a0_8 : Int) (a0_9 : Int) (a0_10 : Int) (a0_11 : Int) (A1 : Option Addr) (c1 : Nat) (l1 : List (List (S41))) (A2 : Option Addr) (c2 : Nat) (l2 : List (S41)) (r : Bool) (w : World) (hr1 : Kd.C (Kd.slice 41 k41) w A1 l1.length l1) (hc1 : l1.length≤c1) (hr2 : Kd.C k41 w A2 l2.length l2) (hc2 : l2.length≤c2) (h : thresherlaw09_OrderPlaces.f k a0_0 a0_1 a0_2 a0_3 a0_4 a0_5 a0_6 a0_7 a0_8 a0_9 a0_10 a0_11 l1 l2=some r), Calls Try.prog 7 #[.agg #[.int .u8 a0_0,.int .u8 a0_1,.int .u8 a0_2,.int .u8 a0_3,.int .u8 a0_4,.int .u8 a0_5,.int .u8 a0_6,.int .u8 a0_7,.int .u8 a0_8,.int .u8 a0_9,.int .u8 a0_10,.int .u8 a0_11],.slice A1 l1.length c1,.slice A2 l2.length c2] w fun e w'=>e=.returned (.bool r)∧Below w.heap.size w w'):= by
 apply PSigma.mk
 apply PSigma.mk
 apply PSigma.mk
 · intro hp0_ hp1_ hp2_
   intro k a0_0 a0_1 a0_2 a0_3 a0_4 a0_5 a0_6 a0_7 a0_8 a0_9 a0_10 a0_11 A1 c1 l1 A2 c2 l2 r w hr1 hc1 hr2 hc2 h
   have hu24:=Try.underlying24
   have hu31:=Try.underlying31
   have HR1:=Aside0.mk hr1
   have HC1:=Aside0.mk hc1
   clear hr1 hc1
   have HR2:=Aside0.mk hr2
   have HC2:=Aside0.mk hc2
   clear hr2 hc2
   have HB:=Aside0.mk (Below.refl w.heap.size w)
   have H : ((thresherlaw09_shown.f k).bind fun t380=>((thresherlaw09_made.f k a0_0 a0_1 a0_2 a0_3 a0_4 a0_5 a0_6 a0_7 a0_8 a0_9 a0_10 a0_11).bind fun bt381=>((thresherref04_Fits.f k bt381.1 bt381.2.1 bt381.2.2.1 bt381.2.2.2 l1 60).bind fun t388=>((order_Sort.f k bt381.1 bt381.2.1 bt381.2.2.1 bt381.2.2.2 t388).bind fun t391=>((thresherref04_Fit.f k bt381.1 bt381.2.1 bt381.2.2.1 bt381.2.2.2 l2).bind fun t394=>((order_Below.f k bt381.1 bt381.2.1 bt381.2.2.1 bt381.2.2.2 t391 t394).bind fun t397=>((order_Upto.f k bt381.1 bt381.2.1 bt381.2.2.1 bt381.2.2.2 t391 t394).bind fun t398=>(if t397 < 0 then (thresherlaw09_OrderPlaces.j0 k t380 t391 t394 t397 t398 true bt381.1 bt381.2.1 bt381.2.2.1 bt381.2.2.2) else (if t397 > t398 then (thresherlaw09_OrderPlaces.j0 k t380 t391 t394 t397 t398 true bt381.1 bt381.2.1 bt381.2.2.1 bt381.2.2.2) else (thresherlaw09_OrderPlaces.j0 k t380 t391 t394 t397 t398 (decide (t398 > (t391.length : Int))) bt381.1 bt381.2.1 bt381.2.2.1 bt381.2.2.2))))))))))=some r:=h
   clear h
   replace H:=Option.bind_eq_some_iff.mp H
   obtain ⟨t380,A40,H⟩:=H
   replace H : ((thresherlaw09_made.f k a0_0 a0_1 a0_2 a0_3 a0_4 a0_5 a0_6 a0_7 a0_8 a0_9 a0_10 a0_11).bind fun bt381=>((thresherref04_Fits.f k bt381.1 bt381.2.1 bt381.2.2.1 bt381.2.2.2 l1 60).bind fun t388=>((order_Sort.f k bt381.1 bt381.2.1 bt381.2.2.1 bt381.2.2.2 t388).bind fun t391=>((thresherref04_Fit.f k bt381.1 bt381.2.1 bt381.2.2.1 bt381.2.2.2 l2).bind fun t394=>((order_Below.f k bt381.1 bt381.2.1 bt381.2.2.1 bt381.2.2.2 t391 t394).bind fun t397=>((order_Upto.f k bt381.1 bt381.2.1 bt381.2.2.1 bt381.2.2.2 t391 t394).bind fun t398=>(if t397 < 0 then (thresherlaw09_OrderPlaces.j0 k t380 t391 t394 t397 t398 true bt381.1 bt381.2.1 bt381.2.2.1 bt381.2.2.2) else (if t397 > t398 then (thresherlaw09_OrderPlaces.j0 k t380 t391 t394 t397 t398 true bt381.1 bt381.2.1 bt381.2.2.1 bt381.2.2.2) else (thresherlaw09_OrderPlaces.j0 k t380 t391 t394 t397 t398 (decide (t398 > (t391.length : Int))) bt381.1 bt381.2.1 bt381.2.2.1 bt381.2.2.2)))))))))=some r:=H
   have A4:=Aside0.mk A40
   clear A40
   replace H:=Option.bind_eq_some_iff.mp H
   obtain ⟨⟨t381,t384,t385,t386⟩,A50,H⟩:=H
   replace H : ((thresherref04_Fits.f k t381 t384 t385 t386 l1 60).bind fun t388=>((order_Sort.f k t381 t384 t385 t386 t388).bind fun t391=>((thresherref04_Fit.f k t381 t384 t385 t386 l2).bind fun t394=>((order_Below.f k t381 t384 t385 t386 t391 t394).bind fun t397=>((order_Upto.f k t381 t384 t385 t386 t391 t394).bind fun t398=>(if t397 < 0 then (thresherlaw09_OrderPlaces.j0 k t380 t391 t394 t397 t398 true t381 t384 t385 t386) else (if t397 > t398 then (thresherlaw09_OrderPlaces.j0 k t380 t391 t394 t397 t398 true t381 t384 t385 t386) else (thresherlaw09_OrderPlaces.j0 k t380 t391 t394 t397 t398 (decide (t398 > (t391.length : Int))) t381 t384 t385 t386))))))))=some r:=H
   have A5:=Aside0.mk A50
   clear A50
   replace H:=Option.bind_eq_some_iff.mp H
   obtain ⟨t388,A60,H⟩:=H
   replace H : ((order_Sort.f k t381 t384 t385 t386 t388).bind fun t391=>((thresherref04_Fit.f k t381 t384 t385 t386 l2).bind fun t394=>((order_Below.f k t381 t384 t385 t386 t391 t394).bind fun t397=>((order_Upto.f k t381 t384 t385 t386 t391 t394).bind fun t398=>(if t397 < 0 then (thresherlaw09_OrderPlaces.j0 k t380 t391 t394 t397 t398 true t381 t384 t385 t386) else (if t397 > t398 then (thresherlaw09_OrderPlaces.j0 k t380 t391 t394 t397 t398 true t381 t384 t385 t386) else (thresherlaw09_OrderPlaces.j0 k t380 t391 t394 t397 t398 (decide (t398 > (t391.length : Int))) t381 t384 t385 t386)))))))=some r:=H
   have A6:=Aside0.mk A60
   clear A60
   replace H:=Option.bind_eq_some_iff.mp H
   obtain ⟨t391,A70,H⟩:=H
   replace H : ((thresherref04_Fit.f k t381 t384 t385 t386 l2).bind fun t394=>((order_Below.f k t381 t384 t385 t386 t391 t394).bind fun t397=>((order_Upto.f k t381 t384 t385 t386 t391 t394).bind fun t398=>(if t397 < 0 then (thresherlaw09_OrderPlaces.j0 k t380 t391 t394 t397 t398 true t381 t384 t385 t386) else (if t397 > t398 then (thresherlaw09_OrderPlaces.j0 k t380 t391 t394 t397 t398 true t381 t384 t385 t386) else (thresherlaw09_OrderPlaces.j0 k t380 t391 t394 t397 t398 (decide (t398 > (t391.length : Int))) t381 t384 t385 t386))))))=some r:=H
   have A7:=Aside0.mk A70
   clear A70
   replace H:=Option.bind_eq_some_iff.mp H
   obtain ⟨t394,A80,H⟩:=H
   replace H : ((order_Below.f k t381 t384 t385 t386 t391 t394).bind fun t397=>((order_Upto.f k t381 t384 t385 t386 t391 t394).bind fun t398=>(if t397 < 0 then (thresherlaw09_OrderPlaces.j0 k t380 t391 t394 t397 t398 true t381 t384 t385 t386) else (if t397 > t398 then (thresherlaw09_OrderPlaces.j0 k t380 t391 t394 t397 t398 true t381 t384 t385 t386) else (thresherlaw09_OrderPlaces.j0 k t380 t391 t394 t397 t398 (decide (t398 > (t391.length : Int))) t381 t384 t385 t386)))))=some r:=H
   have A8:=Aside0.mk A80
   clear A80
   replace H:=Option.bind_eq_some_iff.mp H
   obtain ⟨t397,A90,H⟩:=H
   replace H : ((order_Upto.f k t381 t384 t385 t386 t391 t394).bind fun t398=>(if t397 < 0 then (thresherlaw09_OrderPlaces.j0 k t380 t391 t394 t397 t398 true t381 t384 t385 t386) else (if t397 > t398 then (thresherlaw09_OrderPlaces.j0 k t380 t391 t394 t397 t398 true t381 t384 t385 t386) else (thresherlaw09_OrderPlaces.j0 k t380 t391 t394 t397 t398 (decide (t398 > (t391.length : Int))) t381 t384 t385 t386))))=some r:=H
   have A9:=Aside0.mk A90
   clear A90
   replace H:=Option.bind_eq_some_iff.mp H
   obtain ⟨t398,A100,H⟩:=H
   replace H : (if t397 < 0 then (thresherlaw09_OrderPlaces.j0 k t380 t391 t394 t397 t398 true t381 t384 t385 t386) else (if t397 > t398 then (thresherlaw09_OrderPlaces.j0 k t380 t391 t394 t397 t398 true t381 t384 t385 t386) else (thresherlaw09_OrderPlaces.j0 k t380 t391 t394 t397 t398 (decide (t398 > (t391.length : Int))) t381 t384 t385 t386)))=some r:=H
   have A10:=Aside0.mk A100
   clear A100
   have HC11:=Aside0.mk H
   clear H
   go_enter Try.func7,Try.ntmps7
   try go_wp2_with (first|((with_reducible refine gate_dst (N:=3) rfl ?_);(try (refine gate_guard (by rfl) ?_;dsimp only));refine box_event ?hg (N:=3) ?hd (cs:=#[.int .u8 a0_0,.int .u8 a0_1,.int .u8 a0_2,.int .u8 a0_3,.int .u8 a0_4,.int .u8 a0_5,.int .u8 a0_6,.int .u8 a0_7,.int .u8 a0_8,.int .u8 a0_9,.int .u8 a0_10,.int .u8 a0_11]) (t:=24) ?hr ?_;(case hd=>rfl);(case hg=>rfl);(case hr=>first|(go_simp;done)|(go_simp;rfl));intro gb379 hg w12 hbox hb;have n0_:=Aside0.mk (below_step (below_up HB.out) hb);have n1_:=Aside0.mk (hbox);have n2_:=Aside0.mk ((by rw [hg];exact (below_size (below_up HB.out)) : w.heap.size≤gb379));have n3_:=Aside0.mk ((by rw [hg];exact (below_size (below_up HB.out)) : w.heap.size≤gb379));clear HB;have HB:=n0_;have BK379:=n1_;have GW379:=n2_;have GE379:=n3_;clear n0_ n1_ n2_ n3_;clear hb hbox hg)|((with_reducible refine gate_callee (f:=8) rfl ?_);refine goesL_ (some 17) rfl rfl Try.func8 (by kernel_rfl) rfl #[] rfl (by (try simp only [List.map_toArray,List.map_cons,List.map_nil]);first|done|rfl|(simp only [List.length_drop,List.length_take];rfl)) ?_;(with_reducible refine (thresherlaw09_shown.calls k  t380 _ A4.out).mono ?_);rintro e w13 ⟨rfl,hb⟩;refine ⟨_,rfl,?_⟩;have n0_:=Aside0.mk (blk_below (blk_up BK379.out) hb);have n1_:=Aside0.mk (below_step (below_go HB.out) hb);clear BK379;clear HB;have BK379:=n0_;have HB:=n1_;clear n0_ n1_;(try clear hb);(try clear hb2);(try clear hk);(try clear hi);have hcz14_0 : w13.cell? ⟨gb379,0,none⟩=some (.int .u8 a0_0):=(blk_cell BK379.out 0).trans rfl;have hcz14_1 : w13.cell? ⟨gb379,1,none⟩=some (.int .u8 a0_1):=(blk_cell BK379.out 1).trans rfl;have hcz14_2 : w13.cell? ⟨gb379,2,none⟩=some (.int .u8 a0_2):=(blk_cell BK379.out 2).trans rfl;have hcz14_3 : w13.cell? ⟨gb379,3,none⟩=some (.int .u8 a0_3):=(blk_cell BK379.out 3).trans rfl;have hcz14_4 : w13.cell? ⟨gb379,4,none⟩=some (.int .u8 a0_4):=(blk_cell BK379.out 4).trans rfl;have hcz14_5 : w13.cell? ⟨gb379,5,none⟩=some (.int .u8 a0_5):=(blk_cell BK379.out 5).trans rfl;have hcz14_6 : w13.cell? ⟨gb379,6,none⟩=some (.int .u8 a0_6):=(blk_cell BK379.out 6).trans rfl;have hcz14_7 : w13.cell? ⟨gb379,7,none⟩=some (.int .u8 a0_7):=(blk_cell BK379.out 7).trans rfl;have hcz14_8 : w13.cell? ⟨gb379,8,none⟩=some (.int .u8 a0_8):=(blk_cell BK379.out 8).trans rfl;have hcz14_9 : w13.cell? ⟨gb379,9,none⟩=some (.int .u8 a0_9):=(blk_cell BK379.out 9).trans rfl;have hcz14_10 : w13.cell? ⟨gb379,10,none⟩=some (.int .u8 a0_10):=(blk_cell BK379.out 10).trans rfl;have hcz14_11 : w13.cell? ⟨gb379,11,none⟩=some (.int .u8 a0_11):=(blk_cell BK379.out 11).trans rfl;have hfz14_0:=blk_frozen BK379.out 0;have hfz14_1:=blk_frozen BK379.out 1;have hfz14_2:=blk_frozen BK379.out 2;have hfz14_3:=blk_frozen BK379.out 3;have hfz14_4:=blk_frozen BK379.out 4;have hfz14_5:=blk_frozen BK379.out 5;have hfz14_6:=blk_frozen BK379.out 6;have hfz14_7:=blk_frozen BK379.out 7;have hfz14_8:=blk_frozen BK379.out 8;have hfz14_9:=blk_frozen BK379.out 9;have hfz14_10:=blk_frozen BK379.out 10;have hfz14_11:=blk_frozen BK379.out 11)|((with_reducible refine gate_callee (f:=9) rfl ?_);refine goesL_ (some 19) rfl rfl Try.func9 (by kernel_rfl) rfl #[.agg #[.int .u8 a0_0,.int .u8 a0_1,.int .u8 a0_2,.int .u8 a0_3,.int .u8 a0_4,.int .u8 a0_5,.int .u8 a0_6,.int .u8 a0_7,.int .u8 a0_8,.int .u8 a0_9,.int .u8 a0_10,.int .u8 a0_11]] rfl (by (try simp only [List.map_toArray,List.map_cons,List.map_nil]);first|done|rfl|(simp only [List.length_drop,List.length_take];rfl)) ?_;(with_reducible refine (thresherlaw09_made.calls k a0_0 a0_1 a0_2 a0_3 a0_4 a0_5 a0_6 a0_7 a0_8 a0_9 a0_10 a0_11 t381 t384 t385 t386 _ A5.out).mono ?_);rintro e w15 ⟨v382,rfl,ho0,hb⟩;refine ⟨_,rfl,?_⟩;have n0_:=Aside0.mk (Kd.R_lower ho0 (below_size (below_go HB.out)));have n1_:=Aside0.mk (blk_below (blk_up BK379.out) hb);have n2_:=Aside0.mk (below_step (below_go HB.out) hb);clear BK379;clear HB;have HO383:=n0_;have BK379:=n1_;have HB:=n2_;clear n0_ n1_ n2_;(try clear hb);(try clear hb2);(try clear hk);(try clear hi);(try clear ho0))|((with_reducible refine gate_dst (N:=8) rfl ?_);(try (refine gate_guard (by rfl) ?_;dsimp only));refine box_event ?hg (N:=8) ?hd (cs:=#[.slice none 0 0,.int .i64 0,.int .i64 0,.int .i64 0]) (t:=31) ?hr ?_;(case hd=>rfl);(case hg=>rfl);(case hr=>first|(go_simp;done)|(go_simp;rfl));intro gb387 hg w16 hbox hb;have n0_:=Aside0.mk (Kd.R_below (R_up HO383.out) hb);have n1_:=Aside0.mk (blk_below (blk_up BK379.out) hb);have n2_:=Aside0.mk (below_step (below_go HB.out) hb);have n3_:=Aside0.mk (hbox);have n4_:=Aside0.mk ((by rw [hg];exact (below_size (below_go HB.out)) : w.heap.size≤gb387));have n5_:=Aside0.mk ((by rw [hg];exact (below_size (below_go HB.out)) : w.heap.size≤gb387));have n6_:=Aside0.mk ((by rw [hg];exact Nat.ne_of_lt (blk_lt (blk_up BK379.out)) : gb379≠gb387));have n7_:=Aside0.mk ((by rw [hg];exact Nat.ne_of_gt (blk_lt (blk_up BK379.out)) : gb387≠gb379));clear HO383;clear BK379;clear HB;have HO383:=n0_;have BK379:=n1_;have HB:=n2_;have BK387:=n3_;have GW387:=n4_;have GE387:=n5_;have NB379_387:=n6_;have NB387_379:=n7_;clear n0_ n1_ n2_ n3_ n4_ n5_ n6_ n7_;clear hb hbox hg;obtain ⟨Ao17,co17,eo17⟩:=Kd.R_slice HO383.out;subst eo17;have hnb18:=NB387_379.out;have hnc18:=NB379_387.out;have hcz19_0 : w16.cell? ⟨gb387,0,none⟩=some (.slice none 0 0):=(blk_cell BK387.out 0).trans rfl;have hcz19_1 : w16.cell? ⟨gb387,1,none⟩=some (.int .i64 0):=(blk_cell BK387.out 1).trans rfl;have hcz19_2 : w16.cell? ⟨gb387,2,none⟩=some (.int .i64 0):=(blk_cell BK387.out 2).trans rfl;have hcz19_3 : w16.cell? ⟨gb387,3,none⟩=some (.int .i64 0):=(blk_cell BK387.out 3).trans rfl;have hfz19_0:=blk_frozen BK387.out 0;have hfz19_1:=blk_frozen BK387.out 1;have hfz19_2:=blk_frozen BK387.out 2;have hfz19_3:=blk_frozen BK387.out 3))
   have n0_ : Aside0 (Kd.R (Kd.int .i64) 3 ((((w16.setCell ⟨gb387,0,none⟩ (.slice Ao17 t381.length co17)).setCell ⟨gb387,1,none⟩ (.int .i64 t384)).setCell ⟨gb387,2,none⟩ (.int .i64 t385)).setCell ⟨gb387,3,none⟩ (.int .i64 t386)) w.heap.size (fun _=>True) (.slice Ao17 t381.length co17) t381):=⟨by (with_reducible repeat (first|apply Kd.R_alloc|apply Kd.R_drewN|apply Kd.R_drew));exact Kd.R_mono (Kd.R_far (p:=⟨gb387,3,none⟩) (Kd.R_far (p:=⟨gb387,2,none⟩) (Kd.R_far (p:=⟨gb387,1,none⟩) (Kd.R_far (p:=⟨gb387,0,none⟩) (Kd.R_types HO383.out BK387.out (by decide)) (fun _ hk=>hk.2) (.slice Ao17 t381.length co17)) (fun _ hk=>hk.2) (.int .i64 t384)) (fun _ hk=>hk.2) (.int .i64 t385)) (fun _ hk=>hk.2) (.int .i64 t386)) (fun _ hk=>trivial)⟩
   have n1_ : Aside0 (((((w16.setCell ⟨gb387,0,none⟩ (.slice Ao17 t381.length co17)).setCell ⟨gb387,1,none⟩ (.int .i64 t384)).setCell ⟨gb387,2,none⟩ (.int .i64 t385)).setCell ⟨gb387,3,none⟩ (.int .i64 t386)).heap[gb379]?=some (.cells #[.int .u8 a0_0,.int .u8 a0_1,.int .u8 a0_2,.int .u8 a0_3,.int .u8 a0_4,.int .u8 a0_5,.int .u8 a0_6,.int .u8 a0_7,.int .u8 a0_8,.int .u8 a0_9,.int .u8 a0_10,.int .u8 a0_11] 24 (0,0))):=⟨by (with_reducible repeat (first|refine blk_drewN ?_ _|refine blk_drew ?_|refine blk_alloc ?_ _));refine blk_far ?_ NB379_387.out _;(with_reducible repeat (first|refine blk_drewN ?_ _|refine blk_drew ?_|refine blk_alloc ?_ _));refine blk_far ?_ NB379_387.out _;(with_reducible repeat (first|refine blk_drewN ?_ _|refine blk_drew ?_|refine blk_alloc ?_ _));refine blk_far ?_ NB379_387.out _;(with_reducible repeat (first|refine blk_drewN ?_ _|refine blk_drew ?_|refine blk_alloc ?_ _));refine blk_far ?_ NB379_387.out _;(with_reducible repeat (first|refine blk_drewN ?_ _|refine blk_drew ?_|refine blk_alloc ?_ _));exact BK379.out⟩
   have n2_ : Aside0 (((((w16.setCell ⟨gb387,0,none⟩ (.slice Ao17 t381.length co17)).setCell ⟨gb387,1,none⟩ (.int .i64 t384)).setCell ⟨gb387,2,none⟩ (.int .i64 t385)).setCell ⟨gb387,3,none⟩ (.int .i64 t386)).heap[gb387]?=some (.cells #[.slice Ao17 t381.length co17,.int .i64 t384,.int .i64 t385,.int .i64 t386] 31 (0,0))):=⟨by (with_reducible repeat (first|refine blk_drewN ?_ _|refine blk_drew ?_|refine blk_alloc ?_ _));refine blk_put (cs:=#[.slice Ao17 t381.length co17,.int .i64 t384,.int .i64 t385,.int .i64 0]) ?_ 3 _ rfl;(with_reducible repeat (first|refine blk_drewN ?_ _|refine blk_drew ?_|refine blk_alloc ?_ _));refine blk_put (cs:=#[.slice Ao17 t381.length co17,.int .i64 t384,.int .i64 0,.int .i64 0]) ?_ 2 _ rfl;(with_reducible repeat (first|refine blk_drewN ?_ _|refine blk_drew ?_|refine blk_alloc ?_ _));refine blk_put (cs:=#[.slice Ao17 t381.length co17,.int .i64 0,.int .i64 0,.int .i64 0]) ?_ 1 _ rfl;(with_reducible repeat (first|refine blk_drewN ?_ _|refine blk_drew ?_|refine blk_alloc ?_ _));refine blk_put (cs:=#[.slice none 0 0,.int .i64 0,.int .i64 0,.int .i64 0]) ?_ 0 _ rfl;(with_reducible repeat (first|refine blk_drewN ?_ _|refine blk_drew ?_|refine blk_alloc ?_ _));exact BK387.out⟩
   have n3_ : Aside0 (Below w.heap.size w ((((w16.setCell ⟨gb387,0,none⟩ (.slice Ao17 t381.length co17)).setCell ⟨gb387,1,none⟩ (.int .i64 t384)).setCell ⟨gb387,2,none⟩ (.int .i64 t385)).setCell ⟨gb387,3,none⟩ (.int .i64 t386))):=⟨by repeat (first|(with_reducible first|exact HB.out|apply below_alloc|apply pw_below_drewN|apply below_drew1|refine below_set ?_ GE379.out|refine below_set ?_ GE387.out)|exact HB.out)⟩
   (try clear HO383)
   (try clear BK379)
   (try clear BK387)
   (try clear HB)
   generalize ((((w16.setCell ⟨gb387,0,none⟩ (.slice Ao17 t381.length co17)).setCell ⟨gb387,1,none⟩ (.int .i64 t384)).setCell ⟨gb387,2,none⟩ (.int .i64 t385)).setCell ⟨gb387,3,none⟩ (.int .i64 t386))=w20 at n0_ n1_ n2_ n3_ ⊢
   have HO383:=n0_
   have BK379:=n1_
   have BK387:=n2_
   have HB:=n3_
   clear n0_ n1_ n2_ n3_
   have n0_:=Aside0.mk (Kd.R_drew HO383.out)
   have n1_:=Aside0.mk (blk_drew BK379.out)
   have n2_:=Aside0.mk (blk_drew BK387.out)
   have n3_:=Aside0.mk (below_drew1 HB.out)
   clear HO383
   clear BK379
   clear BK387
   clear HB
   have HO383:=n0_
   have BK379:=n1_
   have BK387:=n2_
   have HB:=n3_
   clear n0_ n1_ n2_ n3_
   refine start_ (n:=6) (S:=fun w'=>w'.cell? ⟨gb387,0,none⟩=some (.slice Ao17 t381.length co17)∧w'.cell? ⟨gb387,1,none⟩=some (.int .i64 t384)∧w'.cell? ⟨gb387,2,none⟩=some (.int .i64 t385)∧w'.cell? ⟨gb387,3,none⟩=some (.int .i64 t386)) (ds:=[]) #[false,false,false,false,false,false] (by kernel_rfl) rfl rfl ⟨(blk_cell BK387.out 0).trans rfl,(blk_cell BK387.out 1).trans rfl,(blk_cell BK387.out 2).trans rfl,(blk_cell BK387.out 3).trans rfl⟩ (fun hHeld=>?_)
   generalize w20.drew=w21 at HO383 BK379 BK387 HB hHeld ⊢
   refine pure_ (i:=2) (N:=some 22) (v:=?_) (a':=?_) #[false,false,true,false,false,false] rfl rfl (by kernel_rfl) (fun _ _ _ h=>h) (Or.inl ⟨by rfl,?_⟩) ?_ ?_
   rotate_left;(intro w';go_simp;with_reducible rfl);rotate_left;(simp only [Act.put,List.setIfInBounds_toArray,List.set_cons_zero,List.set_cons_succ,i64_w,i32_w];rfl)
   refine take_ (i:=0) (N:=some 20) (v:=?_) (a':=?_) #[true,false,true,false,false,false] rfl rfl (by kernel_rfl) (fun _ _ _ h=>h) (Or.inl ⟨by rfl,?_⟩) hHeld ?_ ?_
   rotate_left;(rintro w' ⟨s0,s1,s2,s3⟩;go_simp;with_reducible rfl);rotate_left;(simp only [Act.put,List.setIfInBounds_toArray,List.set_cons_zero,List.set_cons_succ,i64_w,i32_w];rfl)
   refine take_ (i:=1) (N:=some 21) (v:=?_) (a':=?_) #[true,true,true,false,false,false] rfl rfl (by kernel_rfl) (fun _ _ _ h=>h) (Or.inl ⟨by rfl,?_⟩) hHeld ?_ ?_
   rotate_left;(rintro w' ⟨s0,s1,s2,s3⟩;go_simp;with_reducible rfl);rotate_left;(simp only [Act.put,List.setIfInBounds_toArray,List.set_cons_zero,List.set_cons_succ,i64_w,i32_w];rfl)
   refine one_ (i:=3) (N:=some 23) #[true,true,true,true,false,false] rfl rfl (by kernel_rfl) (by decide) (fun K hK=>?_)
   refine goes_ Try.func11 (by kernel_rfl) rfl #[.agg #[.slice Ao17 t381.length co17,.int .i64 t384,.int .i64 t385,.int .i64 t386],.slice A1 l1.length c1,.int .i64 60] (by rfl) rfl rfl (by (try simp only [List.map_toArray,List.map_cons,List.map_nil]);first|done|rfl|(simp only [List.length_drop,List.length_take];rfl)) ?_
   with_reducible refine (thresherref04_Fits.calls k _ _ t381 t384 t385 t386 _ _ l1 60 t388 _ ?side1 ?side2 ?side3 ?side4 A6.out).mono ?_
   (case side1=>repeat (first|exact (Kd.R_reads' HO383.out).2.2|(with_reducible refine Kd.C_alloc ?_ _)|(with_reducible refine Kd.C_drewN ?_ _)|(with_reducible refine Kd.C_drew ?_)))
   (case side2=>exact (Kd.R_reads' HO383.out).2.1)
   (case side3=>repeat (first|exact (Kd.C_below HR1.out HB.out)|(with_reducible refine Kd.C_alloc ?_ _)|(with_reducible refine Kd.C_drewN ?_ _)|(with_reducible refine Kd.C_drew ?_)))
   (case side4=>exact HC1.out)
   rintro e w22 ⟨v389,rfl,ho0,hb⟩
   refine ⟨_,rfl,?_⟩
   have n0_:=Aside0.mk (Kd.R_below (R_up HO383.out) hb)
   have n1_:=Aside0.mk (Kd.N_lower (Kd.N_mono (ok':=fun k_=>some k_≠(.slice Ao17 t381.length co17 : Value).ownBlock∧k_≠gb379∧k_≠gb387) (Kd.S_N (Kd.S_bound ho0)) (fun k_ hk_=>⟨(Kd.fresh' (Kd.R_lt (R_up HO383.out)) k_ hk_.2.1),(Kd.freshB (blk_up BK379.out) k_ hk_.2.1),(Kd.freshB (blk_up BK387.out) k_ hk_.2.1)⟩)) (below_size (below_go HB.out)))
   have n2_:=Aside0.mk (blk_below (blk_up BK379.out) hb)
   have n3_:=Aside0.mk (blk_below (blk_up BK387.out) hb)
   have n4_:=Aside0.mk (below_step (below_go HB.out) hb)
   clear HO383
   clear BK379
   clear BK387
   clear HB
   have HO383:=n0_
   have HO390:=n1_
   have BK379:=n2_
   have BK387:=n3_
   have HB:=n4_
   clear n0_ n1_ n2_ n3_ n4_
   (try clear hb)
   (try clear hb2)
   (try clear hk)
   (try clear hi)
   (try clear ho0)
   obtain ⟨Ao23,co23,eo23⟩:=Kd.N_slice HO390.out
   (first|subst eo23|(injection eo23 with f1_ f2_ f3_;have f4_:=f1_.symm;have f5_:=f3_.symm;clear f1_ f2_ f3_;subst f4_;subst f5_))
   refine hK.out _ _ ⟨(blk_cell BK387.out 0).trans rfl,(blk_cell BK387.out 1).trans rfl,(blk_cell BK387.out 2).trans rfl,(blk_cell BK387.out 3).trans rfl⟩ (fun hHeld=>?_)
   clear hK K
   refine norm_ (a':=?_) ?_ ?_
   rotate_left
   ·show Act.put _ (some 23) _=_
    simp only [Act.put,List.setIfInBounds_toArray,List.set_cons_zero,List.set_cons_succ,i64_w,i32_w]
    rfl
   refine one_ (i:=4) (N:=some 24) #[true,true,true,true,true,false] rfl rfl (by kernel_rfl) (by decide) (fun K hK=>?_)
   refine goes_ Try.func10 (by kernel_rfl) rfl #[.agg #[.slice Ao17 t381.length co17,.int .i64 t384,.int .i64 t385,.int .i64 t386],.slice Ao23 t388.length co23] (by rfl) rfl rfl (by (try simp only [List.map_toArray,List.map_cons,List.map_nil]);first|done|rfl|(simp only [List.length_drop,List.length_take];rfl)) ?_
   with_reducible refine (order_Sort.calls k _ _ t381 t384 t385 t386 (fun k_=>(some k_≠(.slice Ao17 t381.length co17 : Value).ownBlock∧(k_≠gb379∧k_≠gb387))) _ _ t388 t391 _ ?side1 ?side2 ?side3 A7.out).mono ?_
   (case side1=>repeat (first|exact (Kd.R_reads' HO383.out).2.2|(with_reducible refine Kd.C_alloc ?_ _)|(with_reducible refine Kd.C_drewN ?_ _)|(with_reducible refine Kd.C_drew ?_)))
   (case side2=>exact (Kd.R_reads' HO383.out).2.1)
   (case side3=>exact Kd.N_V (HO390.out))
   rintro e w24 ⟨v392,rfl,ho0,hb⟩
   refine ⟨_,rfl,?_⟩
   have n0_:=Aside0.mk (Kd.R_below (R_up HO383.out) hb)
   have n1_:=Aside0.mk (Kd.N_elder' (N_up HO390.out) (by first | exact Kd.N_base ho0 | exact Kd.S_base ho0) hb)
   have n2_:=Aside0.mk (Kd.N_lower (Kd.N_mono (ok':=fun k_=>some k_≠(.slice Ao17 t381.length co17 : Value).ownBlock∧k_≠gb379∧k_≠gb387) ho0 (fun k_ hk_=>⟨Or.elim hk_ (fun hs_=>hs_.1) (fun hn_=>(Kd.fresh' (Kd.R_lt (R_up HO383.out)) k_ hn_)),Or.elim hk_ (fun hs_=>hs_.2.1) (fun hn_=>(Kd.freshB (blk_up BK379.out) k_ hn_)),Or.elim hk_ (fun hs_=>hs_.2.2) (fun hn_=>(Kd.freshB (blk_up BK387.out) k_ hn_))⟩)) (below_size (below_go HB.out)))
   have n3_:=Aside0.mk (blk_below (blk_up BK379.out) hb)
   have n4_:=Aside0.mk (blk_below (blk_up BK387.out) hb)
   have n5_:=Aside0.mk (below_step (below_go HB.out) hb)
   clear HO383
   clear HO390
   clear BK379
   clear BK387
   clear HB
   have HO383:=n0_
   have HO390:=n1_
   have HO393:=n2_
   have BK379:=n3_
   have BK387:=n4_
   have HB:=n5_
   clear n0_ n1_ n2_ n3_ n4_ n5_
   (try clear hb)
   (try clear hb2)
   (try clear hk)
   (try clear hi)
   (try clear ho0)
   refine hK.out _ _ ⟨(blk_cell BK387.out 0).trans rfl,(blk_cell BK387.out 1).trans rfl,(blk_cell BK387.out 2).trans rfl,(blk_cell BK387.out 3).trans rfl⟩ (fun hHeld=>?_)
   clear hK K
   refine norm_ (a':=?_) ?_ ?_
   rotate_left
   ·show Act.put _ (some 24) _=_
    simp only [Act.put,List.setIfInBounds_toArray,List.set_cons_zero,List.set_cons_succ,i64_w,i32_w]
    rfl
   refine pure_ (i:=5) (N:=some 9) (v:=?_) (a':=?_) #[true,true,true,true,true,true] rfl rfl (by kernel_rfl) (fun _ _ _ h=>h) (Or.inl ⟨by rfl,?_⟩) ?_ ?_
   rotate_left;(intro w';go_simp;with_reducible rfl);rotate_left;(simp only [Act.put,List.setIfInBounds_toArray,List.set_cons_zero,List.set_cons_succ,i64_w,i32_w];rfl)
   refine done_ (by kernel_rfl) ?_
   have hcz25_0 : w24.cell? ⟨gb387,0,none⟩=some (.slice Ao17 t381.length co17):=(blk_cell BK387.out 0).trans rfl
   have hcz25_1 : w24.cell? ⟨gb387,1,none⟩=some (.int .i64 t384):=(blk_cell BK387.out 1).trans rfl
   have hcz25_2 : w24.cell? ⟨gb387,2,none⟩=some (.int .i64 t385):=(blk_cell BK387.out 2).trans rfl
   have hcz25_3 : w24.cell? ⟨gb387,3,none⟩=some (.int .i64 t386):=(blk_cell BK387.out 3).trans rfl
   have hfz25_0:=blk_frozen BK387.out 0
   have hfz25_1:=blk_frozen BK387.out 1
   have hfz25_2:=blk_frozen BK387.out 2
   have hfz25_3:=blk_frozen BK387.out 3
   go_upto_region 7 with (first|((with_reducible refine gate_callee (f:=12) rfl ?_);refine goesL_ (some 27) rfl rfl Try.func12 (by kernel_rfl) rfl #[.agg #[.slice Ao17 t381.length co17,.int .i64 t384,.int .i64 t385,.int .i64 t386],.slice A2 l2.length c2] rfl (by (try simp only [List.map_toArray,List.map_cons,List.map_nil]);first|done|rfl|(simp only [List.length_drop,List.length_take];rfl)) ?_;(with_reducible refine (thresherref04_Fit.calls k _ _ t381 t384 t385 t386 _ _ l2 t394 _ ?side1 ?side2 ?side3 ?side4 A8.out).mono ?_);(case side1=>repeat (first|exact (Kd.R_reads' HO383.out).2.2|(with_reducible refine Kd.C_alloc ?_ _)|(with_reducible refine Kd.C_drewN ?_ _)|(with_reducible refine Kd.C_drew ?_)));(case side2=>exact (Kd.R_reads' HO383.out).2.1);(case side3=>repeat (first|exact (Kd.C_below HR2.out HB.out)|(with_reducible refine Kd.C_alloc ?_ _)|(with_reducible refine Kd.C_drewN ?_ _)|(with_reducible refine Kd.C_drew ?_)));(case side4=>exact HC2.out);rintro e w26 ⟨v395,rfl,ho0,hb⟩;refine ⟨_,rfl,?_⟩;have n0_:=Aside0.mk (Kd.R_below (R_up HO383.out) hb);have n1_:=Aside0.mk (Kd.N_elder' (N_up HO390.out) (Kd.R_base ho0) hb);have n2_:=Aside0.mk (Kd.N_elder' (N_up HO393.out) (Kd.R_base ho0) hb);have n3_:=Aside0.mk (Kd.R_lower ho0 (below_size (below_go HB.out)));have n4_:=Aside0.mk (blk_below (blk_up BK379.out) hb);have n5_:=Aside0.mk (blk_below (blk_up BK387.out) hb);have n6_:=Aside0.mk (below_step (below_go HB.out) hb);clear HO383;clear HO390;clear HO393;clear BK379;clear BK387;clear HB;have HO383:=n0_;have HO390:=n1_;have HO393:=n2_;have HO396:=n3_;have BK379:=n4_;have BK387:=n5_;have HB:=n6_;clear n0_ n1_ n2_ n3_ n4_ n5_ n6_;(try clear hb);(try clear hb2);(try clear hk);(try clear hi);(try clear ho0);have hcz27_0 : w26.cell? ⟨gb387,0,none⟩=some (.slice Ao17 t381.length co17):=(blk_cell BK387.out 0).trans rfl;have hcz27_1 : w26.cell? ⟨gb387,1,none⟩=some (.int .i64 t384):=(blk_cell BK387.out 1).trans rfl;have hcz27_2 : w26.cell? ⟨gb387,2,none⟩=some (.int .i64 t385):=(blk_cell BK387.out 2).trans rfl;have hcz27_3 : w26.cell? ⟨gb387,3,none⟩=some (.int .i64 t386):=(blk_cell BK387.out 3).trans rfl;have hfz27_0:=blk_frozen BK387.out 0;have hfz27_1:=blk_frozen BK387.out 1;have hfz27_2:=blk_frozen BK387.out 2;have hfz27_3:=blk_frozen BK387.out 3;obtain ⟨Ao28,co28,eo28⟩:=Kd.N_slice HO393.out;subst eo28;obtain ⟨Ao29,co29,eo29⟩:=Kd.R_slice HO396.out;subst eo29)|((with_reducible refine gate_callee (f:=13) rfl ?_);refine goesL_ (some 31) rfl rfl Try.func13 (by kernel_rfl) rfl #[.agg #[.slice Ao17 t381.length co17,.int .i64 t384,.int .i64 t385,.int .i64 t386],.slice Ao28 t391.length co28,.slice Ao29 t394.length co29] rfl (by (try simp only [List.map_toArray,List.map_cons,List.map_nil]);first|done|rfl|(simp only [List.length_drop,List.length_take];rfl)) ?_;(with_reducible refine (order_Below.calls k _ _ t381 t384 t385 t386 _ _ t391 _ _ t394 t397 _ ?side1 ?side2 ?side3 ?side4 ?side5 ?side6 A9.out).mono ?_);(case side1=>repeat (first|exact (Kd.R_reads' HO383.out).2.2|(with_reducible refine Kd.C_alloc ?_ _)|(with_reducible refine Kd.C_drewN ?_ _)|(with_reducible refine Kd.C_drew ?_)));(case side2=>exact (Kd.R_reads' HO383.out).2.1);(case side3=>repeat (first|exact (Kd.N_reads' HO393.out).2.2|(with_reducible refine Kd.C_alloc ?_ _)|(with_reducible refine Kd.C_drewN ?_ _)|(with_reducible refine Kd.C_drew ?_)));(case side4=>exact (Kd.N_reads' HO393.out).2.1);(case side5=>repeat (first|exact (Kd.R_reads' HO396.out).2.2|(with_reducible refine Kd.C_alloc ?_ _)|(with_reducible refine Kd.C_drewN ?_ _)|(with_reducible refine Kd.C_drew ?_)));(case side6=>exact (Kd.R_reads' HO396.out).2.1);rintro e w30 ⟨rfl,hb⟩;refine ⟨_,rfl,?_⟩;have n0_:=Aside0.mk (Kd.R_below (R_up HO383.out) hb);have n1_:=Aside0.mk (Kd.N_below (N_up HO390.out) hb);have n2_:=Aside0.mk (Kd.N_below (N_up HO393.out) hb);have n3_:=Aside0.mk (Kd.R_below (R_up HO396.out) hb);have n4_:=Aside0.mk (blk_below (blk_up BK379.out) hb);have n5_:=Aside0.mk (blk_below (blk_up BK387.out) hb);have n6_:=Aside0.mk (below_step (below_go HB.out) hb);clear HO383;clear HO390;clear HO393;clear HO396;clear BK379;clear BK387;clear HB;have HO383:=n0_;have HO390:=n1_;have HO393:=n2_;have HO396:=n3_;have BK379:=n4_;have BK387:=n5_;have HB:=n6_;clear n0_ n1_ n2_ n3_ n4_ n5_ n6_;(try clear hb);(try clear hb2);(try clear hk);(try clear hi);have hcz31_0 : w30.cell? ⟨gb387,0,none⟩=some (.slice Ao17 t381.length co17):=(blk_cell BK387.out 0).trans rfl;have hcz31_1 : w30.cell? ⟨gb387,1,none⟩=some (.int .i64 t384):=(blk_cell BK387.out 1).trans rfl;have hcz31_2 : w30.cell? ⟨gb387,2,none⟩=some (.int .i64 t385):=(blk_cell BK387.out 2).trans rfl;have hcz31_3 : w30.cell? ⟨gb387,3,none⟩=some (.int .i64 t386):=(blk_cell BK387.out 3).trans rfl;have hfz31_0:=blk_frozen BK387.out 0;have hfz31_1:=blk_frozen BK387.out 1;have hfz31_2:=blk_frozen BK387.out 2;have hfz31_3:=blk_frozen BK387.out 3)|((with_reducible refine gate_callee (f:=14) rfl ?_);refine goesL_ (some 35) rfl rfl Try.func14 (by kernel_rfl) rfl #[.agg #[.slice Ao17 t381.length co17,.int .i64 t384,.int .i64 t385,.int .i64 t386],.slice Ao28 t391.length co28,.slice Ao29 t394.length co29] rfl (by (try simp only [List.map_toArray,List.map_cons,List.map_nil]);first|done|rfl|(simp only [List.length_drop,List.length_take];rfl)) ?_;(with_reducible refine (order_Upto.calls k _ _ t381 t384 t385 t386 _ _ t391 _ _ t394 t398 _ ?side1 ?side2 ?side3 ?side4 ?side5 ?side6 A10.out).mono ?_);(case side1=>repeat (first|exact (Kd.R_reads' HO383.out).2.2|(with_reducible refine Kd.C_alloc ?_ _)|(with_reducible refine Kd.C_drewN ?_ _)|(with_reducible refine Kd.C_drew ?_)));(case side2=>exact (Kd.R_reads' HO383.out).2.1);(case side3=>repeat (first|exact (Kd.N_reads' HO393.out).2.2|(with_reducible refine Kd.C_alloc ?_ _)|(with_reducible refine Kd.C_drewN ?_ _)|(with_reducible refine Kd.C_drew ?_)));(case side4=>exact (Kd.N_reads' HO393.out).2.1);(case side5=>repeat (first|exact (Kd.R_reads' HO396.out).2.2|(with_reducible refine Kd.C_alloc ?_ _)|(with_reducible refine Kd.C_drewN ?_ _)|(with_reducible refine Kd.C_drew ?_)));(case side6=>exact (Kd.R_reads' HO396.out).2.1);rintro e w32 ⟨rfl,hb⟩;refine ⟨_,rfl,?_⟩;have n0_:=Aside0.mk (Kd.R_below (R_up HO383.out) hb);have n1_:=Aside0.mk (Kd.N_below (N_up HO390.out) hb);have n2_:=Aside0.mk (Kd.N_below (N_up HO393.out) hb);have n3_:=Aside0.mk (Kd.R_below (R_up HO396.out) hb);have n4_:=Aside0.mk (blk_below (blk_up BK379.out) hb);have n5_:=Aside0.mk (blk_below (blk_up BK387.out) hb);have n6_:=Aside0.mk (below_step (below_go HB.out) hb);clear HO383;clear HO390;clear HO393;clear HO396;clear BK379;clear BK387;clear HB;have HO383:=n0_;have HO390:=n1_;have HO393:=n2_;have HO396:=n3_;have BK379:=n4_;have BK387:=n5_;have HB:=n6_;clear n0_ n1_ n2_ n3_ n4_ n5_ n6_;(try clear hb);(try clear hb2);(try clear hk);(try clear hi)))
   (try simp only [Act.put,List.setIfInBounds_toArray,List.set_cons_zero,List.set_cons_succ])
   go_cut [48] (fun v48 wc=>∃ (kq : Nat) (x48_10 : Bool),v48=.bool x48_10∧Aside0 (thresherlaw09_OrderPlaces.j0 kq t380 t391 t394 t397 t398 x48_10 t381 t384 t385 t386=some r)∧Aside0 (kq≤k)∧Aside0 (Kd.N (Kd.slice 41 k41) 27 wc w.heap.size (fun k_=>some k_≠((.slice Ao29 t394.length co29) : Value).ownBlock∧some k_≠((.slice Ao17 t381.length co17) : Value).ownBlock∧k_≠gb379∧k_≠gb387) (.slice Ao28 t391.length co28) t391)∧Aside0 (Kd.R k41 41 wc w.heap.size (fun _=>True) (.slice Ao29 t394.length co29) t394)∧Aside0 (Kd.R (Kd.int .i64) 3 wc w.heap.size (fun _=>True) (.slice Ao17 t381.length co17) t381)∧Aside0 (wc.heap[gb379]?=some (.cells #[.int .u8 a0_0,.int .u8 a0_1,.int .u8 a0_2,.int .u8 a0_3,.int .u8 a0_4,.int .u8 a0_5,.int .u8 a0_6,.int .u8 a0_7,.int .u8 a0_8,.int .u8 a0_9,.int .u8 a0_10,.int .u8 a0_11] 24 (0,0)))∧Aside0 (wc.heap[gb387]?=some (.cells #[(.slice Ao17 t381.length co17),.int .i64 t384,.int .i64 t385,.int .i64 t386] 31 (0,0)))∧Aside0 (Below w.heap.size w wc))
   case first =>
    have H:=HC11.out
    clear HC11
    by_cases c33 : t397 < 0
    ·rw [if_pos c33] at H
     have c33b0 : decide (t397 < 0)=true:=decide_eq_true c33
     clear c33
     (first|rw [c33b0]|(simp only [i64_w,i32_w];rw [c33b0])|skip)
     have H':=Aside0.mk H
     clear H
     go_wp2
     go_meet
     case rel=>exact ⟨_,(true),(by first|rfl|(simp;done)|(simp [*];done)),(by first|exact H'|(subst_vars;exact H')),⟨by first|omega|exact Nat.le_refl _⟩,⟨by (with_reducible repeat (first|apply Kd.N_alloc|apply Kd.N_drewN|apply Kd.N_drew));exact Kd.N_mono HO393.out (fun _ hk=>⟨hk.2,⟨hk.1.1,⟨hk.1.2.1,hk.1.2.2⟩⟩⟩)⟩,⟨by (with_reducible repeat (first|apply Kd.R_alloc|apply Kd.R_drewN|apply Kd.R_drew));exact HO396.out⟩,⟨by (with_reducible repeat (first|apply Kd.R_alloc|apply Kd.R_drewN|apply Kd.R_drew));exact HO383.out⟩,⟨by (with_reducible repeat (first|refine blk_drewN ?_ _|refine blk_drew ?_|refine blk_alloc ?_ _));exact BK379.out⟩,⟨by (with_reducible repeat (first|refine blk_drewN ?_ _|refine blk_drew ?_|refine blk_alloc ?_ _));exact BK387.out⟩,⟨by repeat (first|(with_reducible first|exact HB.out|apply below_alloc|apply pw_below_drewN|apply below_drew1|refine below_set ?_ GE379.out|refine below_set ?_ GE387.out)|exact HB.out)⟩⟩
    ·rw [if_neg c33] at H
     have c33b0 : decide (t397 < 0)=false:=decide_eq_false c33
     clear c33
     (first|rw [c33b0]|(simp only [i64_w,i32_w];rw [c33b0])|skip)
     by_cases c34 : t397 > t398
     ·rw [if_pos c34] at H
      have c34b0 : decide (t398 < t397)=true:=decide_eq_true c34
      clear c34
      have H':=Aside0.mk H
      clear H
      go_wp2
      go_meet
      case rel=>exact ⟨_,(true),(by first|rfl|(simp;done)|(simp [*];done)),(by first|exact H'|(subst_vars;exact H')),⟨by first|omega|exact Nat.le_refl _⟩,⟨by (with_reducible repeat (first|apply Kd.N_alloc|apply Kd.N_drewN|apply Kd.N_drew));exact Kd.N_mono HO393.out (fun _ hk=>⟨hk.2,⟨hk.1.1,⟨hk.1.2.1,hk.1.2.2⟩⟩⟩)⟩,⟨by (with_reducible repeat (first|apply Kd.R_alloc|apply Kd.R_drewN|apply Kd.R_drew));exact HO396.out⟩,⟨by (with_reducible repeat (first|apply Kd.R_alloc|apply Kd.R_drewN|apply Kd.R_drew));exact HO383.out⟩,⟨by (with_reducible repeat (first|refine blk_drewN ?_ _|refine blk_drew ?_|refine blk_alloc ?_ _));exact BK379.out⟩,⟨by (with_reducible repeat (first|refine blk_drewN ?_ _|refine blk_drew ?_|refine blk_alloc ?_ _));exact BK387.out⟩,⟨by repeat (first|(with_reducible first|exact HB.out|apply below_alloc|apply pw_below_drewN|apply below_drew1|refine below_set ?_ GE379.out|refine below_set ?_ GE387.out)|exact HB.out)⟩⟩
     ·rw [if_neg c34] at H
      have c34b0 : decide (t398 < t397)=false:=decide_eq_false c34
      clear c34
      have H':=Aside0.mk H
      clear H
      go_wp2
      go_meet
      case rel=>exact ⟨_,(decide (t398 > (t391.length : Int))),(by first|rfl|(simp;done)|(simp [*];done)),(by first|exact H'|(subst_vars;exact H')),⟨by first|omega|exact Nat.le_refl _⟩,⟨by (with_reducible repeat (first|apply Kd.N_alloc|apply Kd.N_drewN|apply Kd.N_drew));exact Kd.N_mono HO393.out (fun _ hk=>⟨hk.2,⟨hk.1.1,⟨hk.1.2.1,hk.1.2.2⟩⟩⟩)⟩,⟨by (with_reducible repeat (first|apply Kd.R_alloc|apply Kd.R_drewN|apply Kd.R_drew));exact HO396.out⟩,⟨by (with_reducible repeat (first|apply Kd.R_alloc|apply Kd.R_drewN|apply Kd.R_drew));exact HO383.out⟩,⟨by (with_reducible repeat (first|refine blk_drewN ?_ _|refine blk_drew ?_|refine blk_alloc ?_ _));exact BK379.out⟩,⟨by (with_reducible repeat (first|refine blk_drewN ?_ _|refine blk_drew ?_|refine blk_alloc ?_ _));exact BK387.out⟩,⟨by repeat (first|(with_reducible first|exact HB.out|apply below_alloc|apply pw_below_drewN|apply below_drew1|refine below_set ?_ GE379.out|refine below_set ?_ GE387.out)|exact HB.out)⟩⟩
   case rest =>
    clear HC11
    try clear c1
    try clear c2
    try clear p2
    try clear c3
    try clear c7
    try clear c8
    try clear c9
    try clear c10
    try clear c11
    try clear c12
    try clear c13
    try clear c14
    try clear c18
    try clear c33
    try clear c33b0
    try clear c34
    try clear c34b0
    try clear hcz14_0
    try clear hcz14_1
    try clear hcz14_10
    try clear hcz14_11
    try clear hcz14_2
    try clear hcz14_3
    try clear hcz14_4
    try clear hcz14_5
    try clear hcz14_6
    try clear hcz14_7
    try clear hcz14_8
    try clear hcz14_9
    try clear hcz19_0
    try clear hcz19_1
    try clear hcz19_2
    try clear hcz19_3
    try clear hcz25_0
    try clear hcz25_1
    try clear hcz25_2
    try clear hcz25_3
    try clear hcz27_0
    try clear hcz27_1
    try clear hcz27_2
    try clear hcz27_3
    try clear hcz31_0
    try clear hcz31_1
    try clear hcz31_2
    try clear hcz31_3
    try clear hfz14_0
    try clear hfz14_1
    try clear hfz14_10
    try clear hfz14_11
    try clear hfz14_2
    try clear hfz14_3
    try clear hfz14_4
    try clear hfz14_5
    try clear hfz14_6
    try clear hfz14_7
    try clear hfz14_8
    try clear hfz14_9
    try clear hfz19_0
    try clear hfz19_1
    try clear hfz19_2
    try clear hfz19_3
    try clear hfz25_0
    try clear hfz25_1
    try clear hfz25_2
    try clear hfz25_3
    try clear hfz27_0
    try clear hfz27_1
    try clear hfz27_2
    try clear hfz27_3
    try clear hfz31_0
    try clear hfz31_1
    try clear hfz31_2
    try clear hfz31_3
    obtain ⟨kq,x48_10,rfl,HA,HJ10,HO_9,HO_10,HO_388000,BK379,BK387,HB⟩:=hcut
    cases kq with
    | zero=>exact absurd HA.out (by simp [thresherlaw09_OrderPlaces.j0])
    | succ kj10 =>
     have H:=HA.out
     clear HA
     simp only [thresherlaw09_OrderPlaces.j0] at H
     by_cases c35 : x48_10=true
     ·subst c35
      have H1 : (some false)=some r:=by rw [if_pos rfl] at H;exact H
      clear H
      have H:=H1
      clear H1
      obtain rfl:=Option.some.inj H
      go_wp2
      go_ret
      exact ⟨by first|rfl|(simp [errW_none,errW_some] <;> rfl)|(simp [*,errW_none,errW_some] <;> rfl),by repeat (first|(with_reducible first|exact HB.out|apply below_alloc|apply pw_below_drewN|apply below_drew1|refine below_set ?_ GE379.out|refine below_set ?_ GE387.out)|exact HB.out)⟩
     ·replace c35:=Bool.eq_false_iff.mpr c35
      subst c35
      have H1 : ((some (([] : List (List (S41))) : List (List (S41)))).bind fun y399=>(if 0≤t398 then (if t398≤(t391.length : Int) then ((some (t391.take (t398 : Int).toNat : List (List (S41)))).bind fun y402=>(if y399.length + y402.length < 5864062014805 then ((some (y399 ++ y402 : List (List (S41)))).bind fun y407=>((some (([t394] : List (List (S41))) : List (List (S41)))).bind fun y410=>(if y407.length + y410.length < 5864062014805 then ((some (y407 ++ y410 : List (List (S41)))).bind fun y413=>((some (t391.drop (t398 : Int).toNat : List (List (S41)))).bind fun y416=>(if y413.length + y416.length < 5864062014805 then ((some (y413 ++ y416 : List (List (S41)))).bind fun y421=>((some (([] : List (List (S41))) : List (List (S41)))).bind fun y424=>(if 0≤t397 then (if t397≤(t391.length : Int) then ((some (t391.take (t397 : Int).toNat : List (List (S41)))).bind fun y427=>(if y424.length + y427.length < 5864062014805 then ((some (y424 ++ y427 : List (List (S41)))).bind fun y432=>((some (([t394] : List (List (S41))) : List (List (S41)))).bind fun y435=>(if y432.length + y435.length < 5864062014805 then ((some (y432 ++ y435 : List (List (S41)))).bind fun y438=>((some (t391.drop (t397 : Int).toNat : List (List (S41)))).bind fun y441=>(if y438.length + y441.length < 5864062014805 then ((some (y438 ++ y441 : List (List (S41)))).bind fun y446=>((some (([] : List (List (S41))) : List (List (S41)))).bind fun y449=>(if y449.length + t391.length < 5864062014805 then ((some (y449 ++ t391 : List (List (S41)))).bind fun y452=>((some (([t394] : List (List (S41))) : List (List (S41)))).bind fun y455=>(if y452.length + y455.length < 5864062014805 then ((order_Sort.f kj10 t381 t384 t385 t386 (y452 ++ y455)).bind fun t461=>((thresherref04_Rows.f kj10 t461 y421).bind fun t464=>((some (([t394] : List (List (S41))) : List (List (S41)))).bind fun y465=>(if y465.length + t391.length < 5864062014805 then ((order_Sort.f kj10 t381 t384 t385 t386 (y465 ++ t391)).bind fun t471=>((thresherref04_Rows.f kj10 t471 y446).bind fun t474=>(if t380=true then (if t464=true then (if t474=true then ((order_Sorted.f kj10 t381 t384 t385 t386 y421).bind fun t475=>(if t475=true then ((order_Sorted.f kj10 t381 t384 t385 t386 y446).bind fun t476=>(thresherlaw09_OrderPlaces.j1 kj10 t476)) else (thresherlaw09_OrderPlaces.j1 kj10 false))) else (thresherlaw09_OrderPlaces.j1 kj10 false)) else (thresherlaw09_OrderPlaces.j1 kj10 false)) else (thresherlaw09_OrderPlaces.j1 kj10 false)))) else (none))))) else (none)))) else (none)))) else (none)))) else (none)))) else (none))) else (none)) else (none)))) else (none)))) else (none)))) else (none))) else (none)) else (none)))=some r:=by rw [if_neg (show ¬ (false=true) by decide)] at H;exact H
      clear H
      have H:=H1
      clear H1
      obtain ⟨y399,hy399⟩ : ∃ y_ : List (List (S41)),y_=(([] : List (List (S41)))):=⟨_,rfl⟩
      replace H : (if 0≤t398 then (if t398≤(t391.length : Int) then ((some (t391.take (t398 : Int).toNat : List (List (S41)))).bind fun y402=>(if y399.length + y402.length < 5864062014805 then ((some (y399 ++ y402 : List (List (S41)))).bind fun y407=>((some (([t394] : List (List (S41))) : List (List (S41)))).bind fun y410=>(if y407.length + y410.length < 5864062014805 then ((some (y407 ++ y410 : List (List (S41)))).bind fun y413=>((some (t391.drop (t398 : Int).toNat : List (List (S41)))).bind fun y416=>(if y413.length + y416.length < 5864062014805 then ((some (y413 ++ y416 : List (List (S41)))).bind fun y421=>((some (([] : List (List (S41))) : List (List (S41)))).bind fun y424=>(if 0≤t397 then (if t397≤(t391.length : Int) then ((some (t391.take (t397 : Int).toNat : List (List (S41)))).bind fun y427=>(if y424.length + y427.length < 5864062014805 then ((some (y424 ++ y427 : List (List (S41)))).bind fun y432=>((some (([t394] : List (List (S41))) : List (List (S41)))).bind fun y435=>(if y432.length + y435.length < 5864062014805 then ((some (y432 ++ y435 : List (List (S41)))).bind fun y438=>((some (t391.drop (t397 : Int).toNat : List (List (S41)))).bind fun y441=>(if y438.length + y441.length < 5864062014805 then ((some (y438 ++ y441 : List (List (S41)))).bind fun y446=>((some (([] : List (List (S41))) : List (List (S41)))).bind fun y449=>(if y449.length + t391.length < 5864062014805 then ((some (y449 ++ t391 : List (List (S41)))).bind fun y452=>((some (([t394] : List (List (S41))) : List (List (S41)))).bind fun y455=>(if y452.length + y455.length < 5864062014805 then ((order_Sort.f kj10 t381 t384 t385 t386 (y452 ++ y455)).bind fun t461=>((thresherref04_Rows.f kj10 t461 y421).bind fun t464=>((some (([t394] : List (List (S41))) : List (List (S41)))).bind fun y465=>(if y465.length + t391.length < 5864062014805 then ((order_Sort.f kj10 t381 t384 t385 t386 (y465 ++ t391)).bind fun t471=>((thresherref04_Rows.f kj10 t471 y446).bind fun t474=>(if t380=true then (if t464=true then (if t474=true then ((order_Sorted.f kj10 t381 t384 t385 t386 y421).bind fun t475=>(if t475=true then ((order_Sorted.f kj10 t381 t384 t385 t386 y446).bind fun t476=>(thresherlaw09_OrderPlaces.j1 kj10 t476)) else (thresherlaw09_OrderPlaces.j1 kj10 false))) else (thresherlaw09_OrderPlaces.j1 kj10 false)) else (thresherlaw09_OrderPlaces.j1 kj10 false)) else (thresherlaw09_OrderPlaces.j1 kj10 false)))) else (none))))) else (none)))) else (none)))) else (none)))) else (none)))) else (none))) else (none)) else (none)))) else (none)))) else (none)))) else (none))) else (none)) else (none))=some r:=by first|(rw [hy399];with_reducible exact H)|(have H2_:=(Option.bind_some _ _).symm.trans H;rw [hy399];with_reducible exact H2_)|(have H2_:=(Option.bind_some _ _).symm.trans H;with_reducible exact H2_)|with_reducible exact H|(rw [hy399];exact H)|exact H
      have Ny399:=Aside0.mk hy399
      clear hy399
      by_cases c36 : 0≤t398
      ·rw [if_pos c36] at H
       have c36b0:=eq_true c36
       have c36b1 : decide (0≤t398)=true:=decide_eq_true c36
       clear c36
       by_cases c37 : t398≤(t391.length : Int)
       ·rw [if_pos c37] at H
        have c37b0:=eq_true c37
        have c37b1 : decide (t398≤(t391.length : Int))=true:=decide_eq_true c37
        clear c37
        obtain ⟨y402,hy402⟩ : ∃ y_ : List (List (S41)),y_=(t391.take (t398 : Int).toNat):=⟨_,rfl⟩
        replace H : (if y399.length + y402.length < 5864062014805 then ((some (y399 ++ y402 : List (List (S41)))).bind fun y407=>((some (([t394] : List (List (S41))) : List (List (S41)))).bind fun y410=>(if y407.length + y410.length < 5864062014805 then ((some (y407 ++ y410 : List (List (S41)))).bind fun y413=>((some (t391.drop (t398 : Int).toNat : List (List (S41)))).bind fun y416=>(if y413.length + y416.length < 5864062014805 then ((some (y413 ++ y416 : List (List (S41)))).bind fun y421=>((some (([] : List (List (S41))) : List (List (S41)))).bind fun y424=>(if 0≤t397 then (if t397≤(t391.length : Int) then ((some (t391.take (t397 : Int).toNat : List (List (S41)))).bind fun y427=>(if y424.length + y427.length < 5864062014805 then ((some (y424 ++ y427 : List (List (S41)))).bind fun y432=>((some (([t394] : List (List (S41))) : List (List (S41)))).bind fun y435=>(if y432.length + y435.length < 5864062014805 then ((some (y432 ++ y435 : List (List (S41)))).bind fun y438=>((some (t391.drop (t397 : Int).toNat : List (List (S41)))).bind fun y441=>(if y438.length + y441.length < 5864062014805 then ((some (y438 ++ y441 : List (List (S41)))).bind fun y446=>((some (([] : List (List (S41))) : List (List (S41)))).bind fun y449=>(if y449.length + t391.length < 5864062014805 then ((some (y449 ++ t391 : List (List (S41)))).bind fun y452=>((some (([t394] : List (List (S41))) : List (List (S41)))).bind fun y455=>(if y452.length + y455.length < 5864062014805 then ((order_Sort.f kj10 t381 t384 t385 t386 (y452 ++ y455)).bind fun t461=>((thresherref04_Rows.f kj10 t461 y421).bind fun t464=>((some (([t394] : List (List (S41))) : List (List (S41)))).bind fun y465=>(if y465.length + t391.length < 5864062014805 then ((order_Sort.f kj10 t381 t384 t385 t386 (y465 ++ t391)).bind fun t471=>((thresherref04_Rows.f kj10 t471 y446).bind fun t474=>(if t380=true then (if t464=true then (if t474=true then ((order_Sorted.f kj10 t381 t384 t385 t386 y421).bind fun t475=>(if t475=true then ((order_Sorted.f kj10 t381 t384 t385 t386 y446).bind fun t476=>(thresherlaw09_OrderPlaces.j1 kj10 t476)) else (thresherlaw09_OrderPlaces.j1 kj10 false))) else (thresherlaw09_OrderPlaces.j1 kj10 false)) else (thresherlaw09_OrderPlaces.j1 kj10 false)) else (thresherlaw09_OrderPlaces.j1 kj10 false)))) else (none))))) else (none)))) else (none)))) else (none)))) else (none)))) else (none))) else (none)) else (none)))) else (none)))) else (none)))) else (none))=some r:=by first|(rw [hy402];with_reducible exact H)|(have H2_:=(Option.bind_some _ _).symm.trans H;rw [hy402];with_reducible exact H2_)|(have H2_:=(Option.bind_some _ _).symm.trans H;with_reducible exact H2_)|with_reducible exact H|(rw [hy402];exact H)|exact H
        have Ny402:=Aside0.mk hy402
        clear hy402
        by_cases c38 : y399.length + y402.length < 5864062014805
        ·rw [if_pos c38] at H
         have LMc38:=Aside0.mk c38
         clear c38
         obtain ⟨y407,hy407⟩ : ∃ y_ : List (List (S41)),y_=(y399 ++ y402):=⟨_,rfl⟩
         replace H : ((some (([t394] : List (List (S41))) : List (List (S41)))).bind fun y410=>(if y407.length + y410.length < 5864062014805 then ((some (y407 ++ y410 : List (List (S41)))).bind fun y413=>((some (t391.drop (t398 : Int).toNat : List (List (S41)))).bind fun y416=>(if y413.length + y416.length < 5864062014805 then ((some (y413 ++ y416 : List (List (S41)))).bind fun y421=>((some (([] : List (List (S41))) : List (List (S41)))).bind fun y424=>(if 0≤t397 then (if t397≤(t391.length : Int) then ((some (t391.take (t397 : Int).toNat : List (List (S41)))).bind fun y427=>(if y424.length + y427.length < 5864062014805 then ((some (y424 ++ y427 : List (List (S41)))).bind fun y432=>((some (([t394] : List (List (S41))) : List (List (S41)))).bind fun y435=>(if y432.length + y435.length < 5864062014805 then ((some (y432 ++ y435 : List (List (S41)))).bind fun y438=>((some (t391.drop (t397 : Int).toNat : List (List (S41)))).bind fun y441=>(if y438.length + y441.length < 5864062014805 then ((some (y438 ++ y441 : List (List (S41)))).bind fun y446=>((some (([] : List (List (S41))) : List (List (S41)))).bind fun y449=>(if y449.length + t391.length < 5864062014805 then ((some (y449 ++ t391 : List (List (S41)))).bind fun y452=>((some (([t394] : List (List (S41))) : List (List (S41)))).bind fun y455=>(if y452.length + y455.length < 5864062014805 then ((order_Sort.f kj10 t381 t384 t385 t386 (y452 ++ y455)).bind fun t461=>((thresherref04_Rows.f kj10 t461 y421).bind fun t464=>((some (([t394] : List (List (S41))) : List (List (S41)))).bind fun y465=>(if y465.length + t391.length < 5864062014805 then ((order_Sort.f kj10 t381 t384 t385 t386 (y465 ++ t391)).bind fun t471=>((thresherref04_Rows.f kj10 t471 y446).bind fun t474=>(if t380=true then (if t464=true then (if t474=true then ((order_Sorted.f kj10 t381 t384 t385 t386 y421).bind fun t475=>(if t475=true then ((order_Sorted.f kj10 t381 t384 t385 t386 y446).bind fun t476=>(thresherlaw09_OrderPlaces.j1 kj10 t476)) else (thresherlaw09_OrderPlaces.j1 kj10 false))) else (thresherlaw09_OrderPlaces.j1 kj10 false)) else (thresherlaw09_OrderPlaces.j1 kj10 false)) else (thresherlaw09_OrderPlaces.j1 kj10 false)))) else (none))))) else (none)))) else (none)))) else (none)))) else (none)))) else (none))) else (none)) else (none)))) else (none)))) else (none)))=some r:=by first|(rw [hy407];with_reducible exact H)|(have H2_:=(Option.bind_some _ _).symm.trans H;rw [hy407];with_reducible exact H2_)|(have H2_:=(Option.bind_some _ _).symm.trans H;with_reducible exact H2_)|with_reducible exact H|(rw [hy407];exact H)|exact H
         have Ny407:=Aside0.mk hy407
         clear hy407
         obtain ⟨y410,hy410⟩ : ∃ y_ : List (List (S41)),y_=(([t394] : List (List (S41)))):=⟨_,rfl⟩
         replace H : (if y407.length + y410.length < 5864062014805 then ((some (y407 ++ y410 : List (List (S41)))).bind fun y413=>((some (t391.drop (t398 : Int).toNat : List (List (S41)))).bind fun y416=>(if y413.length + y416.length < 5864062014805 then ((some (y413 ++ y416 : List (List (S41)))).bind fun y421=>((some (([] : List (List (S41))) : List (List (S41)))).bind fun y424=>(if 0≤t397 then (if t397≤(t391.length : Int) then ((some (t391.take (t397 : Int).toNat : List (List (S41)))).bind fun y427=>(if y424.length + y427.length < 5864062014805 then ((some (y424 ++ y427 : List (List (S41)))).bind fun y432=>((some (([t394] : List (List (S41))) : List (List (S41)))).bind fun y435=>(if y432.length + y435.length < 5864062014805 then ((some (y432 ++ y435 : List (List (S41)))).bind fun y438=>((some (t391.drop (t397 : Int).toNat : List (List (S41)))).bind fun y441=>(if y438.length + y441.length < 5864062014805 then ((some (y438 ++ y441 : List (List (S41)))).bind fun y446=>((some (([] : List (List (S41))) : List (List (S41)))).bind fun y449=>(if y449.length + t391.length < 5864062014805 then ((some (y449 ++ t391 : List (List (S41)))).bind fun y452=>((some (([t394] : List (List (S41))) : List (List (S41)))).bind fun y455=>(if y452.length + y455.length < 5864062014805 then ((order_Sort.f kj10 t381 t384 t385 t386 (y452 ++ y455)).bind fun t461=>((thresherref04_Rows.f kj10 t461 y421).bind fun t464=>((some (([t394] : List (List (S41))) : List (List (S41)))).bind fun y465=>(if y465.length + t391.length < 5864062014805 then ((order_Sort.f kj10 t381 t384 t385 t386 (y465 ++ t391)).bind fun t471=>((thresherref04_Rows.f kj10 t471 y446).bind fun t474=>(if t380=true then (if t464=true then (if t474=true then ((order_Sorted.f kj10 t381 t384 t385 t386 y421).bind fun t475=>(if t475=true then ((order_Sorted.f kj10 t381 t384 t385 t386 y446).bind fun t476=>(thresherlaw09_OrderPlaces.j1 kj10 t476)) else (thresherlaw09_OrderPlaces.j1 kj10 false))) else (thresherlaw09_OrderPlaces.j1 kj10 false)) else (thresherlaw09_OrderPlaces.j1 kj10 false)) else (thresherlaw09_OrderPlaces.j1 kj10 false)))) else (none))))) else (none)))) else (none)))) else (none)))) else (none)))) else (none))) else (none)) else (none)))) else (none)))) else (none))=some r:=by first|(rw [hy410];with_reducible exact H)|(have H2_:=(Option.bind_some _ _).symm.trans H;rw [hy410];with_reducible exact H2_)|(have H2_:=(Option.bind_some _ _).symm.trans H;with_reducible exact H2_)|with_reducible exact H|(rw [hy410];exact H)|exact H
         have Ny410:=Aside0.mk hy410
         clear hy410
         by_cases c39 : y407.length + y410.length < 5864062014805
         ·rw [if_pos c39] at H
          have LMc39:=Aside0.mk c39
          clear c39
          obtain ⟨y413,hy413⟩ : ∃ y_ : List (List (S41)),y_=(y407 ++ y410):=⟨_,rfl⟩
          replace H : ((some (t391.drop (t398 : Int).toNat : List (List (S41)))).bind fun y416=>(if y413.length + y416.length < 5864062014805 then ((some (y413 ++ y416 : List (List (S41)))).bind fun y421=>((some (([] : List (List (S41))) : List (List (S41)))).bind fun y424=>(if 0≤t397 then (if t397≤(t391.length : Int) then ((some (t391.take (t397 : Int).toNat : List (List (S41)))).bind fun y427=>(if y424.length + y427.length < 5864062014805 then ((some (y424 ++ y427 : List (List (S41)))).bind fun y432=>((some (([t394] : List (List (S41))) : List (List (S41)))).bind fun y435=>(if y432.length + y435.length < 5864062014805 then ((some (y432 ++ y435 : List (List (S41)))).bind fun y438=>((some (t391.drop (t397 : Int).toNat : List (List (S41)))).bind fun y441=>(if y438.length + y441.length < 5864062014805 then ((some (y438 ++ y441 : List (List (S41)))).bind fun y446=>((some (([] : List (List (S41))) : List (List (S41)))).bind fun y449=>(if y449.length + t391.length < 5864062014805 then ((some (y449 ++ t391 : List (List (S41)))).bind fun y452=>((some (([t394] : List (List (S41))) : List (List (S41)))).bind fun y455=>(if y452.length + y455.length < 5864062014805 then ((order_Sort.f kj10 t381 t384 t385 t386 (y452 ++ y455)).bind fun t461=>((thresherref04_Rows.f kj10 t461 y421).bind fun t464=>((some (([t394] : List (List (S41))) : List (List (S41)))).bind fun y465=>(if y465.length + t391.length < 5864062014805 then ((order_Sort.f kj10 t381 t384 t385 t386 (y465 ++ t391)).bind fun t471=>((thresherref04_Rows.f kj10 t471 y446).bind fun t474=>(if t380=true then (if t464=true then (if t474=true then ((order_Sorted.f kj10 t381 t384 t385 t386 y421).bind fun t475=>(if t475=true then ((order_Sorted.f kj10 t381 t384 t385 t386 y446).bind fun t476=>(thresherlaw09_OrderPlaces.j1 kj10 t476)) else (thresherlaw09_OrderPlaces.j1 kj10 false))) else (thresherlaw09_OrderPlaces.j1 kj10 false)) else (thresherlaw09_OrderPlaces.j1 kj10 false)) else (thresherlaw09_OrderPlaces.j1 kj10 false)))) else (none))))) else (none)))) else (none)))) else (none)))) else (none)))) else (none))) else (none)) else (none)))) else (none)))=some r:=by first|(rw [hy413];with_reducible exact H)|(have H2_:=(Option.bind_some _ _).symm.trans H;rw [hy413];with_reducible exact H2_)|(have H2_:=(Option.bind_some _ _).symm.trans H;with_reducible exact H2_)|with_reducible exact H|(rw [hy413];exact H)|exact H
          have Ny413:=Aside0.mk hy413
          clear hy413
          have c40b0:=eq_true (of_decide_eq_true (by first|(with_reducible assumption)|assumption) : 0≤t398)
          have c41b0:=eq_true (of_decide_eq_true (by first|(with_reducible assumption)|assumption) : t398≤(t391.length : Int))
          obtain ⟨y416,hy416⟩ : ∃ y_ : List (List (S41)),y_=(t391.drop (t398 : Int).toNat):=⟨_,rfl⟩
          replace H : (if y413.length + y416.length < 5864062014805 then ((some (y413 ++ y416 : List (List (S41)))).bind fun y421=>((some (([] : List (List (S41))) : List (List (S41)))).bind fun y424=>(if 0≤t397 then (if t397≤(t391.length : Int) then ((some (t391.take (t397 : Int).toNat : List (List (S41)))).bind fun y427=>(if y424.length + y427.length < 5864062014805 then ((some (y424 ++ y427 : List (List (S41)))).bind fun y432=>((some (([t394] : List (List (S41))) : List (List (S41)))).bind fun y435=>(if y432.length + y435.length < 5864062014805 then ((some (y432 ++ y435 : List (List (S41)))).bind fun y438=>((some (t391.drop (t397 : Int).toNat : List (List (S41)))).bind fun y441=>(if y438.length + y441.length < 5864062014805 then ((some (y438 ++ y441 : List (List (S41)))).bind fun y446=>((some (([] : List (List (S41))) : List (List (S41)))).bind fun y449=>(if y449.length + t391.length < 5864062014805 then ((some (y449 ++ t391 : List (List (S41)))).bind fun y452=>((some (([t394] : List (List (S41))) : List (List (S41)))).bind fun y455=>(if y452.length + y455.length < 5864062014805 then ((order_Sort.f kj10 t381 t384 t385 t386 (y452 ++ y455)).bind fun t461=>((thresherref04_Rows.f kj10 t461 y421).bind fun t464=>((some (([t394] : List (List (S41))) : List (List (S41)))).bind fun y465=>(if y465.length + t391.length < 5864062014805 then ((order_Sort.f kj10 t381 t384 t385 t386 (y465 ++ t391)).bind fun t471=>((thresherref04_Rows.f kj10 t471 y446).bind fun t474=>(if t380=true then (if t464=true then (if t474=true then ((order_Sorted.f kj10 t381 t384 t385 t386 y421).bind fun t475=>(if t475=true then ((order_Sorted.f kj10 t381 t384 t385 t386 y446).bind fun t476=>(thresherlaw09_OrderPlaces.j1 kj10 t476)) else (thresherlaw09_OrderPlaces.j1 kj10 false))) else (thresherlaw09_OrderPlaces.j1 kj10 false)) else (thresherlaw09_OrderPlaces.j1 kj10 false)) else (thresherlaw09_OrderPlaces.j1 kj10 false)))) else (none))))) else (none)))) else (none)))) else (none)))) else (none)))) else (none))) else (none)) else (none)))) else (none))=some r:=by first|(rw [hy416];with_reducible exact H)|(have H2_:=(Option.bind_some _ _).symm.trans H;rw [hy416];with_reducible exact H2_)|(have H2_:=(Option.bind_some _ _).symm.trans H;with_reducible exact H2_)|with_reducible exact H|(rw [hy416];exact H)|exact H
          have Ny416:=Aside0.mk hy416
          clear hy416
          by_cases c42 : y413.length + y416.length < 5864062014805
          ·rw [if_pos c42] at H
           have LMc42:=Aside0.mk c42
           clear c42
           obtain ⟨y421,hy421⟩ : ∃ y_ : List (List (S41)),y_=(y413 ++ y416):=⟨_,rfl⟩
           replace H : ((some (([] : List (List (S41))) : List (List (S41)))).bind fun y424=>(if 0≤t397 then (if t397≤(t391.length : Int) then ((some (t391.take (t397 : Int).toNat : List (List (S41)))).bind fun y427=>(if y424.length + y427.length < 5864062014805 then ((some (y424 ++ y427 : List (List (S41)))).bind fun y432=>((some (([t394] : List (List (S41))) : List (List (S41)))).bind fun y435=>(if y432.length + y435.length < 5864062014805 then ((some (y432 ++ y435 : List (List (S41)))).bind fun y438=>((some (t391.drop (t397 : Int).toNat : List (List (S41)))).bind fun y441=>(if y438.length + y441.length < 5864062014805 then ((some (y438 ++ y441 : List (List (S41)))).bind fun y446=>((some (([] : List (List (S41))) : List (List (S41)))).bind fun y449=>(if y449.length + t391.length < 5864062014805 then ((some (y449 ++ t391 : List (List (S41)))).bind fun y452=>((some (([t394] : List (List (S41))) : List (List (S41)))).bind fun y455=>(if y452.length + y455.length < 5864062014805 then ((order_Sort.f kj10 t381 t384 t385 t386 (y452 ++ y455)).bind fun t461=>((thresherref04_Rows.f kj10 t461 y421).bind fun t464=>((some (([t394] : List (List (S41))) : List (List (S41)))).bind fun y465=>(if y465.length + t391.length < 5864062014805 then ((order_Sort.f kj10 t381 t384 t385 t386 (y465 ++ t391)).bind fun t471=>((thresherref04_Rows.f kj10 t471 y446).bind fun t474=>(if t380=true then (if t464=true then (if t474=true then ((order_Sorted.f kj10 t381 t384 t385 t386 y421).bind fun t475=>(if t475=true then ((order_Sorted.f kj10 t381 t384 t385 t386 y446).bind fun t476=>(thresherlaw09_OrderPlaces.j1 kj10 t476)) else (thresherlaw09_OrderPlaces.j1 kj10 false))) else (thresherlaw09_OrderPlaces.j1 kj10 false)) else (thresherlaw09_OrderPlaces.j1 kj10 false)) else (thresherlaw09_OrderPlaces.j1 kj10 false)))) else (none))))) else (none)))) else (none)))) else (none)))) else (none)))) else (none))) else (none)) else (none)))=some r:=by first|(rw [hy421];with_reducible exact H)|(have H2_:=(Option.bind_some _ _).symm.trans H;rw [hy421];with_reducible exact H2_)|(have H2_:=(Option.bind_some _ _).symm.trans H;with_reducible exact H2_)|with_reducible exact H|(rw [hy421];exact H)|exact H
           have Ny421:=Aside0.mk hy421
           clear hy421
           obtain ⟨y424,hy424⟩ : ∃ y_ : List (List (S41)),y_=(([] : List (List (S41)))):=⟨_,rfl⟩
           replace H : (if 0≤t397 then (if t397≤(t391.length : Int) then ((some (t391.take (t397 : Int).toNat : List (List (S41)))).bind fun y427=>(if y424.length + y427.length < 5864062014805 then ((some (y424 ++ y427 : List (List (S41)))).bind fun y432=>((some (([t394] : List (List (S41))) : List (List (S41)))).bind fun y435=>(if y432.length + y435.length < 5864062014805 then ((some (y432 ++ y435 : List (List (S41)))).bind fun y438=>((some (t391.drop (t397 : Int).toNat : List (List (S41)))).bind fun y441=>(if y438.length + y441.length < 5864062014805 then ((some (y438 ++ y441 : List (List (S41)))).bind fun y446=>((some (([] : List (List (S41))) : List (List (S41)))).bind fun y449=>(if y449.length + t391.length < 5864062014805 then ((some (y449 ++ t391 : List (List (S41)))).bind fun y452=>((some (([t394] : List (List (S41))) : List (List (S41)))).bind fun y455=>(if y452.length + y455.length < 5864062014805 then ((order_Sort.f kj10 t381 t384 t385 t386 (y452 ++ y455)).bind fun t461=>((thresherref04_Rows.f kj10 t461 y421).bind fun t464=>((some (([t394] : List (List (S41))) : List (List (S41)))).bind fun y465=>(if y465.length + t391.length < 5864062014805 then ((order_Sort.f kj10 t381 t384 t385 t386 (y465 ++ t391)).bind fun t471=>((thresherref04_Rows.f kj10 t471 y446).bind fun t474=>(if t380=true then (if t464=true then (if t474=true then ((order_Sorted.f kj10 t381 t384 t385 t386 y421).bind fun t475=>(if t475=true then ((order_Sorted.f kj10 t381 t384 t385 t386 y446).bind fun t476=>(thresherlaw09_OrderPlaces.j1 kj10 t476)) else (thresherlaw09_OrderPlaces.j1 kj10 false))) else (thresherlaw09_OrderPlaces.j1 kj10 false)) else (thresherlaw09_OrderPlaces.j1 kj10 false)) else (thresherlaw09_OrderPlaces.j1 kj10 false)))) else (none))))) else (none)))) else (none)))) else (none)))) else (none)))) else (none))) else (none)) else (none))=some r:=by first|(rw [hy424];with_reducible exact H)|(have H2_:=(Option.bind_some _ _).symm.trans H;rw [hy424];with_reducible exact H2_)|(have H2_:=(Option.bind_some _ _).symm.trans H;with_reducible exact H2_)|with_reducible exact H|(rw [hy424];exact H)|exact H
           have Ny424:=Aside0.mk hy424
           clear hy424
           by_cases c43 : 0≤t397
           ·rw [if_pos c43] at H
            have c43b0:=eq_true c43
            have c43b1 : decide (0≤t397)=true:=decide_eq_true c43
            clear c43
            by_cases c44 : t397≤(t391.length : Int)
            ·rw [if_pos c44] at H
             have c44b0:=eq_true c44
             have c44b1 : decide (t397≤(t391.length : Int))=true:=decide_eq_true c44
             clear c44
             obtain ⟨y427,hy427⟩ : ∃ y_ : List (List (S41)),y_=(t391.take (t397 : Int).toNat):=⟨_,rfl⟩
             replace H : (if y424.length + y427.length < 5864062014805 then ((some (y424 ++ y427 : List (List (S41)))).bind fun y432=>((some (([t394] : List (List (S41))) : List (List (S41)))).bind fun y435=>(if y432.length + y435.length < 5864062014805 then ((some (y432 ++ y435 : List (List (S41)))).bind fun y438=>((some (t391.drop (t397 : Int).toNat : List (List (S41)))).bind fun y441=>(if y438.length + y441.length < 5864062014805 then ((some (y438 ++ y441 : List (List (S41)))).bind fun y446=>((some (([] : List (List (S41))) : List (List (S41)))).bind fun y449=>(if y449.length + t391.length < 5864062014805 then ((some (y449 ++ t391 : List (List (S41)))).bind fun y452=>((some (([t394] : List (List (S41))) : List (List (S41)))).bind fun y455=>(if y452.length + y455.length < 5864062014805 then ((order_Sort.f kj10 t381 t384 t385 t386 (y452 ++ y455)).bind fun t461=>((thresherref04_Rows.f kj10 t461 y421).bind fun t464=>((some (([t394] : List (List (S41))) : List (List (S41)))).bind fun y465=>(if y465.length + t391.length < 5864062014805 then ((order_Sort.f kj10 t381 t384 t385 t386 (y465 ++ t391)).bind fun t471=>((thresherref04_Rows.f kj10 t471 y446).bind fun t474=>(if t380=true then (if t464=true then (if t474=true then ((order_Sorted.f kj10 t381 t384 t385 t386 y421).bind fun t475=>(if t475=true then ((order_Sorted.f kj10 t381 t384 t385 t386 y446).bind fun t476=>(thresherlaw09_OrderPlaces.j1 kj10 t476)) else (thresherlaw09_OrderPlaces.j1 kj10 false))) else (thresherlaw09_OrderPlaces.j1 kj10 false)) else (thresherlaw09_OrderPlaces.j1 kj10 false)) else (thresherlaw09_OrderPlaces.j1 kj10 false)))) else (none))))) else (none)))) else (none)))) else (none)))) else (none)))) else (none))=some r:=by first|(rw [hy427];with_reducible exact H)|(have H2_:=(Option.bind_some _ _).symm.trans H;rw [hy427];with_reducible exact H2_)|(have H2_:=(Option.bind_some _ _).symm.trans H;with_reducible exact H2_)|with_reducible exact H|(rw [hy427];exact H)|exact H
             have Ny427:=Aside0.mk hy427
             clear hy427
             by_cases c45 : y424.length + y427.length < 5864062014805
             ·rw [if_pos c45] at H
              have LMc45:=Aside0.mk c45
              clear c45
              obtain ⟨y432,hy432⟩ : ∃ y_ : List (List (S41)),y_=(y424 ++ y427):=⟨_,rfl⟩
              replace H : ((some (([t394] : List (List (S41))) : List (List (S41)))).bind fun y435=>(if y432.length + y435.length < 5864062014805 then ((some (y432 ++ y435 : List (List (S41)))).bind fun y438=>((some (t391.drop (t397 : Int).toNat : List (List (S41)))).bind fun y441=>(if y438.length + y441.length < 5864062014805 then ((some (y438 ++ y441 : List (List (S41)))).bind fun y446=>((some (([] : List (List (S41))) : List (List (S41)))).bind fun y449=>(if y449.length + t391.length < 5864062014805 then ((some (y449 ++ t391 : List (List (S41)))).bind fun y452=>((some (([t394] : List (List (S41))) : List (List (S41)))).bind fun y455=>(if y452.length + y455.length < 5864062014805 then ((order_Sort.f kj10 t381 t384 t385 t386 (y452 ++ y455)).bind fun t461=>((thresherref04_Rows.f kj10 t461 y421).bind fun t464=>((some (([t394] : List (List (S41))) : List (List (S41)))).bind fun y465=>(if y465.length + t391.length < 5864062014805 then ((order_Sort.f kj10 t381 t384 t385 t386 (y465 ++ t391)).bind fun t471=>((thresherref04_Rows.f kj10 t471 y446).bind fun t474=>(if t380=true then (if t464=true then (if t474=true then ((order_Sorted.f kj10 t381 t384 t385 t386 y421).bind fun t475=>(if t475=true then ((order_Sorted.f kj10 t381 t384 t385 t386 y446).bind fun t476=>(thresherlaw09_OrderPlaces.j1 kj10 t476)) else (thresherlaw09_OrderPlaces.j1 kj10 false))) else (thresherlaw09_OrderPlaces.j1 kj10 false)) else (thresherlaw09_OrderPlaces.j1 kj10 false)) else (thresherlaw09_OrderPlaces.j1 kj10 false)))) else (none))))) else (none)))) else (none)))) else (none)))) else (none)))=some r:=by first|(rw [hy432];with_reducible exact H)|(have H2_:=(Option.bind_some _ _).symm.trans H;rw [hy432];with_reducible exact H2_)|(have H2_:=(Option.bind_some _ _).symm.trans H;with_reducible exact H2_)|with_reducible exact H|(rw [hy432];exact H)|exact H
              have Ny432:=Aside0.mk hy432
              clear hy432
              obtain ⟨y435,hy435⟩ : ∃ y_ : List (List (S41)),y_=(([t394] : List (List (S41)))):=⟨_,rfl⟩
              replace H : (if y432.length + y435.length < 5864062014805 then ((some (y432 ++ y435 : List (List (S41)))).bind fun y438=>((some (t391.drop (t397 : Int).toNat : List (List (S41)))).bind fun y441=>(if y438.length + y441.length < 5864062014805 then ((some (y438 ++ y441 : List (List (S41)))).bind fun y446=>((some (([] : List (List (S41))) : List (List (S41)))).bind fun y449=>(if y449.length + t391.length < 5864062014805 then ((some (y449 ++ t391 : List (List (S41)))).bind fun y452=>((some (([t394] : List (List (S41))) : List (List (S41)))).bind fun y455=>(if y452.length + y455.length < 5864062014805 then ((order_Sort.f kj10 t381 t384 t385 t386 (y452 ++ y455)).bind fun t461=>((thresherref04_Rows.f kj10 t461 y421).bind fun t464=>((some (([t394] : List (List (S41))) : List (List (S41)))).bind fun y465=>(if y465.length + t391.length < 5864062014805 then ((order_Sort.f kj10 t381 t384 t385 t386 (y465 ++ t391)).bind fun t471=>((thresherref04_Rows.f kj10 t471 y446).bind fun t474=>(if t380=true then (if t464=true then (if t474=true then ((order_Sorted.f kj10 t381 t384 t385 t386 y421).bind fun t475=>(if t475=true then ((order_Sorted.f kj10 t381 t384 t385 t386 y446).bind fun t476=>(thresherlaw09_OrderPlaces.j1 kj10 t476)) else (thresherlaw09_OrderPlaces.j1 kj10 false))) else (thresherlaw09_OrderPlaces.j1 kj10 false)) else (thresherlaw09_OrderPlaces.j1 kj10 false)) else (thresherlaw09_OrderPlaces.j1 kj10 false)))) else (none))))) else (none)))) else (none)))) else (none)))) else (none))=some r:=by first|(rw [hy435];with_reducible exact H)|(have H2_:=(Option.bind_some _ _).symm.trans H;rw [hy435];with_reducible exact H2_)|(have H2_:=(Option.bind_some _ _).symm.trans H;with_reducible exact H2_)|with_reducible exact H|(rw [hy435];exact H)|exact H
              have Ny435:=Aside0.mk hy435
              clear hy435
              by_cases c46 : y432.length + y435.length < 5864062014805
              ·rw [if_pos c46] at H
               have LMc46:=Aside0.mk c46
               clear c46
               obtain ⟨y438,hy438⟩ : ∃ y_ : List (List (S41)),y_=(y432 ++ y435):=⟨_,rfl⟩
               replace H : ((some (t391.drop (t397 : Int).toNat : List (List (S41)))).bind fun y441=>(if y438.length + y441.length < 5864062014805 then ((some (y438 ++ y441 : List (List (S41)))).bind fun y446=>((some (([] : List (List (S41))) : List (List (S41)))).bind fun y449=>(if y449.length + t391.length < 5864062014805 then ((some (y449 ++ t391 : List (List (S41)))).bind fun y452=>((some (([t394] : List (List (S41))) : List (List (S41)))).bind fun y455=>(if y452.length + y455.length < 5864062014805 then ((order_Sort.f kj10 t381 t384 t385 t386 (y452 ++ y455)).bind fun t461=>((thresherref04_Rows.f kj10 t461 y421).bind fun t464=>((some (([t394] : List (List (S41))) : List (List (S41)))).bind fun y465=>(if y465.length + t391.length < 5864062014805 then ((order_Sort.f kj10 t381 t384 t385 t386 (y465 ++ t391)).bind fun t471=>((thresherref04_Rows.f kj10 t471 y446).bind fun t474=>(if t380=true then (if t464=true then (if t474=true then ((order_Sorted.f kj10 t381 t384 t385 t386 y421).bind fun t475=>(if t475=true then ((order_Sorted.f kj10 t381 t384 t385 t386 y446).bind fun t476=>(thresherlaw09_OrderPlaces.j1 kj10 t476)) else (thresherlaw09_OrderPlaces.j1 kj10 false))) else (thresherlaw09_OrderPlaces.j1 kj10 false)) else (thresherlaw09_OrderPlaces.j1 kj10 false)) else (thresherlaw09_OrderPlaces.j1 kj10 false)))) else (none))))) else (none)))) else (none)))) else (none)))=some r:=by first|(rw [hy438];with_reducible exact H)|(have H2_:=(Option.bind_some _ _).symm.trans H;rw [hy438];with_reducible exact H2_)|(have H2_:=(Option.bind_some _ _).symm.trans H;with_reducible exact H2_)|with_reducible exact H|(rw [hy438];exact H)|exact H
               have Ny438:=Aside0.mk hy438
               clear hy438
               have c47b0:=eq_true (of_decide_eq_true (by first|(with_reducible assumption)|assumption) : 0≤t397)
               have c48b0:=eq_true (of_decide_eq_true (by first|(with_reducible assumption)|assumption) : t397≤(t391.length : Int))
               obtain ⟨y441,hy441⟩ : ∃ y_ : List (List (S41)),y_=(t391.drop (t397 : Int).toNat):=⟨_,rfl⟩
               replace H : (if y438.length + y441.length < 5864062014805 then ((some (y438 ++ y441 : List (List (S41)))).bind fun y446=>((some (([] : List (List (S41))) : List (List (S41)))).bind fun y449=>(if y449.length + t391.length < 5864062014805 then ((some (y449 ++ t391 : List (List (S41)))).bind fun y452=>((some (([t394] : List (List (S41))) : List (List (S41)))).bind fun y455=>(if y452.length + y455.length < 5864062014805 then ((order_Sort.f kj10 t381 t384 t385 t386 (y452 ++ y455)).bind fun t461=>((thresherref04_Rows.f kj10 t461 y421).bind fun t464=>((some (([t394] : List (List (S41))) : List (List (S41)))).bind fun y465=>(if y465.length + t391.length < 5864062014805 then ((order_Sort.f kj10 t381 t384 t385 t386 (y465 ++ t391)).bind fun t471=>((thresherref04_Rows.f kj10 t471 y446).bind fun t474=>(if t380=true then (if t464=true then (if t474=true then ((order_Sorted.f kj10 t381 t384 t385 t386 y421).bind fun t475=>(if t475=true then ((order_Sorted.f kj10 t381 t384 t385 t386 y446).bind fun t476=>(thresherlaw09_OrderPlaces.j1 kj10 t476)) else (thresherlaw09_OrderPlaces.j1 kj10 false))) else (thresherlaw09_OrderPlaces.j1 kj10 false)) else (thresherlaw09_OrderPlaces.j1 kj10 false)) else (thresherlaw09_OrderPlaces.j1 kj10 false)))) else (none))))) else (none)))) else (none)))) else (none))=some r:=by first|(rw [hy441];with_reducible exact H)|(have H2_:=(Option.bind_some _ _).symm.trans H;rw [hy441];with_reducible exact H2_)|(have H2_:=(Option.bind_some _ _).symm.trans H;with_reducible exact H2_)|with_reducible exact H|(rw [hy441];exact H)|exact H
               have Ny441:=Aside0.mk hy441
               clear hy441
               by_cases c49 : y438.length + y441.length < 5864062014805
               ·rw [if_pos c49] at H
                have LMc49:=Aside0.mk c49
                clear c49
                obtain ⟨y446,hy446⟩ : ∃ y_ : List (List (S41)),y_=(y438 ++ y441):=⟨_,rfl⟩
                replace H : ((some (([] : List (List (S41))) : List (List (S41)))).bind fun y449=>(if y449.length + t391.length < 5864062014805 then ((some (y449 ++ t391 : List (List (S41)))).bind fun y452=>((some (([t394] : List (List (S41))) : List (List (S41)))).bind fun y455=>(if y452.length + y455.length < 5864062014805 then ((order_Sort.f kj10 t381 t384 t385 t386 (y452 ++ y455)).bind fun t461=>((thresherref04_Rows.f kj10 t461 y421).bind fun t464=>((some (([t394] : List (List (S41))) : List (List (S41)))).bind fun y465=>(if y465.length + t391.length < 5864062014805 then ((order_Sort.f kj10 t381 t384 t385 t386 (y465 ++ t391)).bind fun t471=>((thresherref04_Rows.f kj10 t471 y446).bind fun t474=>(if t380=true then (if t464=true then (if t474=true then ((order_Sorted.f kj10 t381 t384 t385 t386 y421).bind fun t475=>(if t475=true then ((order_Sorted.f kj10 t381 t384 t385 t386 y446).bind fun t476=>(thresherlaw09_OrderPlaces.j1 kj10 t476)) else (thresherlaw09_OrderPlaces.j1 kj10 false))) else (thresherlaw09_OrderPlaces.j1 kj10 false)) else (thresherlaw09_OrderPlaces.j1 kj10 false)) else (thresherlaw09_OrderPlaces.j1 kj10 false)))) else (none))))) else (none)))) else (none)))=some r:=by first|(rw [hy446];with_reducible exact H)|(have H2_:=(Option.bind_some _ _).symm.trans H;rw [hy446];with_reducible exact H2_)|(have H2_:=(Option.bind_some _ _).symm.trans H;with_reducible exact H2_)|with_reducible exact H|(rw [hy446];exact H)|exact H
                have Ny446:=Aside0.mk hy446
                clear hy446
                obtain ⟨y449,hy449⟩ : ∃ y_ : List (List (S41)),y_=(([] : List (List (S41)))):=⟨_,rfl⟩
                replace H : (if y449.length + t391.length < 5864062014805 then ((some (y449 ++ t391 : List (List (S41)))).bind fun y452=>((some (([t394] : List (List (S41))) : List (List (S41)))).bind fun y455=>(if y452.length + y455.length < 5864062014805 then ((order_Sort.f kj10 t381 t384 t385 t386 (y452 ++ y455)).bind fun t461=>((thresherref04_Rows.f kj10 t461 y421).bind fun t464=>((some (([t394] : List (List (S41))) : List (List (S41)))).bind fun y465=>(if y465.length + t391.length < 5864062014805 then ((order_Sort.f kj10 t381 t384 t385 t386 (y465 ++ t391)).bind fun t471=>((thresherref04_Rows.f kj10 t471 y446).bind fun t474=>(if t380=true then (if t464=true then (if t474=true then ((order_Sorted.f kj10 t381 t384 t385 t386 y421).bind fun t475=>(if t475=true then ((order_Sorted.f kj10 t381 t384 t385 t386 y446).bind fun t476=>(thresherlaw09_OrderPlaces.j1 kj10 t476)) else (thresherlaw09_OrderPlaces.j1 kj10 false))) else (thresherlaw09_OrderPlaces.j1 kj10 false)) else (thresherlaw09_OrderPlaces.j1 kj10 false)) else (thresherlaw09_OrderPlaces.j1 kj10 false)))) else (none))))) else (none)))) else (none))=some r:=by first|(rw [hy449];with_reducible exact H)|(have H2_:=(Option.bind_some _ _).symm.trans H;rw [hy449];with_reducible exact H2_)|(have H2_:=(Option.bind_some _ _).symm.trans H;with_reducible exact H2_)|with_reducible exact H|(rw [hy449];exact H)|exact H
                have Ny449:=Aside0.mk hy449
                clear hy449
                by_cases c50 : y449.length + t391.length < 5864062014805
                ·rw [if_pos c50] at H
                 have LMc50:=Aside0.mk c50
                 clear c50
                 obtain ⟨y452,hy452⟩ : ∃ y_ : List (List (S41)),y_=(y449 ++ t391):=⟨_,rfl⟩
                 replace H : ((some (([t394] : List (List (S41))) : List (List (S41)))).bind fun y455=>(if y452.length + y455.length < 5864062014805 then ((order_Sort.f kj10 t381 t384 t385 t386 (y452 ++ y455)).bind fun t461=>((thresherref04_Rows.f kj10 t461 y421).bind fun t464=>((some (([t394] : List (List (S41))) : List (List (S41)))).bind fun y465=>(if y465.length + t391.length < 5864062014805 then ((order_Sort.f kj10 t381 t384 t385 t386 (y465 ++ t391)).bind fun t471=>((thresherref04_Rows.f kj10 t471 y446).bind fun t474=>(if t380=true then (if t464=true then (if t474=true then ((order_Sorted.f kj10 t381 t384 t385 t386 y421).bind fun t475=>(if t475=true then ((order_Sorted.f kj10 t381 t384 t385 t386 y446).bind fun t476=>(thresherlaw09_OrderPlaces.j1 kj10 t476)) else (thresherlaw09_OrderPlaces.j1 kj10 false))) else (thresherlaw09_OrderPlaces.j1 kj10 false)) else (thresherlaw09_OrderPlaces.j1 kj10 false)) else (thresherlaw09_OrderPlaces.j1 kj10 false)))) else (none))))) else (none)))=some r:=by first|(rw [hy452];with_reducible exact H)|(have H2_:=(Option.bind_some _ _).symm.trans H;rw [hy452];with_reducible exact H2_)|(have H2_:=(Option.bind_some _ _).symm.trans H;with_reducible exact H2_)|with_reducible exact H|(rw [hy452];exact H)|exact H
                 have Ny452:=Aside0.mk hy452
                 clear hy452
                 obtain ⟨y455,hy455⟩ : ∃ y_ : List (List (S41)),y_=(([t394] : List (List (S41)))):=⟨_,rfl⟩
                 replace H : (if y452.length + y455.length < 5864062014805 then ((order_Sort.f kj10 t381 t384 t385 t386 (y452 ++ y455)).bind fun t461=>((thresherref04_Rows.f kj10 t461 y421).bind fun t464=>((some (([t394] : List (List (S41))) : List (List (S41)))).bind fun y465=>(if y465.length + t391.length < 5864062014805 then ((order_Sort.f kj10 t381 t384 t385 t386 (y465 ++ t391)).bind fun t471=>((thresherref04_Rows.f kj10 t471 y446).bind fun t474=>(if t380=true then (if t464=true then (if t474=true then ((order_Sorted.f kj10 t381 t384 t385 t386 y421).bind fun t475=>(if t475=true then ((order_Sorted.f kj10 t381 t384 t385 t386 y446).bind fun t476=>(thresherlaw09_OrderPlaces.j1 kj10 t476)) else (thresherlaw09_OrderPlaces.j1 kj10 false))) else (thresherlaw09_OrderPlaces.j1 kj10 false)) else (thresherlaw09_OrderPlaces.j1 kj10 false)) else (thresherlaw09_OrderPlaces.j1 kj10 false)))) else (none))))) else (none))=some r:=by first|(rw [hy455];with_reducible exact H)|(have H2_:=(Option.bind_some _ _).symm.trans H;rw [hy455];with_reducible exact H2_)|(have H2_:=(Option.bind_some _ _).symm.trans H;with_reducible exact H2_)|with_reducible exact H|(rw [hy455];exact H)|exact H
                 have Ny455:=Aside0.mk hy455
                 clear hy455
                 by_cases c51 : y452.length + y455.length < 5864062014805
                 ·rw [if_pos c51] at H
                  have LMc51:=Aside0.mk c51
                  clear c51
                  obtain ⟨y458,hy458⟩ : ∃ y_ : List (List (S41)),y_=(y452 ++ y455):=⟨_,rfl⟩
                  replace H : ((order_Sort.f kj10 t381 t384 t385 t386 y458).bind fun t461=>((thresherref04_Rows.f kj10 t461 y421).bind fun t464=>((some (([t394] : List (List (S41))) : List (List (S41)))).bind fun y465=>(if y465.length + t391.length < 5864062014805 then ((order_Sort.f kj10 t381 t384 t385 t386 (y465 ++ t391)).bind fun t471=>((thresherref04_Rows.f kj10 t471 y446).bind fun t474=>(if t380=true then (if t464=true then (if t474=true then ((order_Sorted.f kj10 t381 t384 t385 t386 y421).bind fun t475=>(if t475=true then ((order_Sorted.f kj10 t381 t384 t385 t386 y446).bind fun t476=>(thresherlaw09_OrderPlaces.j1 kj10 t476)) else (thresherlaw09_OrderPlaces.j1 kj10 false))) else (thresherlaw09_OrderPlaces.j1 kj10 false)) else (thresherlaw09_OrderPlaces.j1 kj10 false)) else (thresherlaw09_OrderPlaces.j1 kj10 false)))) else (none)))))=some r:=by first|(rw [hy458];with_reducible exact H)|(have H2_:=(Option.bind_some _ _).symm.trans H;rw [hy458];with_reducible exact H2_)|(have H2_:=(Option.bind_some _ _).symm.trans H;with_reducible exact H2_)|with_reducible exact H|(rw [hy458];exact H)|exact H
                  have Ny458:=Aside0.mk hy458
                  clear hy458
                  replace H:=Option.bind_eq_some_iff.mp H
                  obtain ⟨t461,A520,H⟩:=H
                  replace H : ((thresherref04_Rows.f kj10 t461 y421).bind fun t464=>((some (([t394] : List (List (S41))) : List (List (S41)))).bind fun y465=>(if y465.length + t391.length < 5864062014805 then ((order_Sort.f kj10 t381 t384 t385 t386 (y465 ++ t391)).bind fun t471=>((thresherref04_Rows.f kj10 t471 y446).bind fun t474=>(if t380=true then (if t464=true then (if t474=true then ((order_Sorted.f kj10 t381 t384 t385 t386 y421).bind fun t475=>(if t475=true then ((order_Sorted.f kj10 t381 t384 t385 t386 y446).bind fun t476=>(thresherlaw09_OrderPlaces.j1 kj10 t476)) else (thresherlaw09_OrderPlaces.j1 kj10 false))) else (thresherlaw09_OrderPlaces.j1 kj10 false)) else (thresherlaw09_OrderPlaces.j1 kj10 false)) else (thresherlaw09_OrderPlaces.j1 kj10 false)))) else (none))))=some r:=H
                  have A52:=Aside0.mk A520
                  clear A520
                  replace H:=Option.bind_eq_some_iff.mp H
                  obtain ⟨t464,A530,H⟩:=H
                  replace H : ((some (([t394] : List (List (S41))) : List (List (S41)))).bind fun y465=>(if y465.length + t391.length < 5864062014805 then ((order_Sort.f kj10 t381 t384 t385 t386 (y465 ++ t391)).bind fun t471=>((thresherref04_Rows.f kj10 t471 y446).bind fun t474=>(if t380=true then (if t464=true then (if t474=true then ((order_Sorted.f kj10 t381 t384 t385 t386 y421).bind fun t475=>(if t475=true then ((order_Sorted.f kj10 t381 t384 t385 t386 y446).bind fun t476=>(thresherlaw09_OrderPlaces.j1 kj10 t476)) else (thresherlaw09_OrderPlaces.j1 kj10 false))) else (thresherlaw09_OrderPlaces.j1 kj10 false)) else (thresherlaw09_OrderPlaces.j1 kj10 false)) else (thresherlaw09_OrderPlaces.j1 kj10 false)))) else (none)))=some r:=H
                  have A53:=Aside0.mk A530
                  clear A530
                  obtain ⟨y465,hy465⟩ : ∃ y_ : List (List (S41)),y_=(([t394] : List (List (S41)))):=⟨_,rfl⟩
                  replace H : (if y465.length + t391.length < 5864062014805 then ((order_Sort.f kj10 t381 t384 t385 t386 (y465 ++ t391)).bind fun t471=>((thresherref04_Rows.f kj10 t471 y446).bind fun t474=>(if t380=true then (if t464=true then (if t474=true then ((order_Sorted.f kj10 t381 t384 t385 t386 y421).bind fun t475=>(if t475=true then ((order_Sorted.f kj10 t381 t384 t385 t386 y446).bind fun t476=>(thresherlaw09_OrderPlaces.j1 kj10 t476)) else (thresherlaw09_OrderPlaces.j1 kj10 false))) else (thresherlaw09_OrderPlaces.j1 kj10 false)) else (thresherlaw09_OrderPlaces.j1 kj10 false)) else (thresherlaw09_OrderPlaces.j1 kj10 false)))) else (none))=some r:=by first|(rw [hy465];with_reducible exact H)|(have H2_:=(Option.bind_some _ _).symm.trans H;rw [hy465];with_reducible exact H2_)|(have H2_:=(Option.bind_some _ _).symm.trans H;with_reducible exact H2_)|with_reducible exact H|(rw [hy465];exact H)|exact H
                  have Ny465:=Aside0.mk hy465
                  clear hy465
                  by_cases c54 : y465.length + t391.length < 5864062014805
                  ·rw [if_pos c54] at H
                   have LMc54:=Aside0.mk c54
                   clear c54
                   obtain ⟨y468,hy468⟩ : ∃ y_ : List (List (S41)),y_=(y465 ++ t391):=⟨_,rfl⟩
                   replace H : ((order_Sort.f kj10 t381 t384 t385 t386 y468).bind fun t471=>((thresherref04_Rows.f kj10 t471 y446).bind fun t474=>(if t380=true then (if t464=true then (if t474=true then ((order_Sorted.f kj10 t381 t384 t385 t386 y421).bind fun t475=>(if t475=true then ((order_Sorted.f kj10 t381 t384 t385 t386 y446).bind fun t476=>(thresherlaw09_OrderPlaces.j1 kj10 t476)) else (thresherlaw09_OrderPlaces.j1 kj10 false))) else (thresherlaw09_OrderPlaces.j1 kj10 false)) else (thresherlaw09_OrderPlaces.j1 kj10 false)) else (thresherlaw09_OrderPlaces.j1 kj10 false))))=some r:=by first|(rw [hy468];with_reducible exact H)|(have H2_:=(Option.bind_some _ _).symm.trans H;rw [hy468];with_reducible exact H2_)|(have H2_:=(Option.bind_some _ _).symm.trans H;with_reducible exact H2_)|with_reducible exact H|(rw [hy468];exact H)|exact H
                   have Ny468:=Aside0.mk hy468
                   clear hy468
                   replace H:=Option.bind_eq_some_iff.mp H
                   obtain ⟨t471,A550,H⟩:=H
                   replace H : ((thresherref04_Rows.f kj10 t471 y446).bind fun t474=>(if t380=true then (if t464=true then (if t474=true then ((order_Sorted.f kj10 t381 t384 t385 t386 y421).bind fun t475=>(if t475=true then ((order_Sorted.f kj10 t381 t384 t385 t386 y446).bind fun t476=>(thresherlaw09_OrderPlaces.j1 kj10 t476)) else (thresherlaw09_OrderPlaces.j1 kj10 false))) else (thresherlaw09_OrderPlaces.j1 kj10 false)) else (thresherlaw09_OrderPlaces.j1 kj10 false)) else (thresherlaw09_OrderPlaces.j1 kj10 false)))=some r:=H
                   have A55:=Aside0.mk A550
                   clear A550
                   replace H:=Option.bind_eq_some_iff.mp H
                   obtain ⟨t474,A560,H⟩:=H
                   replace H : (if t380=true then (if t464=true then (if t474=true then ((order_Sorted.f kj10 t381 t384 t385 t386 y421).bind fun t475=>(if t475=true then ((order_Sorted.f kj10 t381 t384 t385 t386 y446).bind fun t476=>(thresherlaw09_OrderPlaces.j1 kj10 t476)) else (thresherlaw09_OrderPlaces.j1 kj10 false))) else (thresherlaw09_OrderPlaces.j1 kj10 false)) else (thresherlaw09_OrderPlaces.j1 kj10 false)) else (thresherlaw09_OrderPlaces.j1 kj10 false))=some r:=H
                   have A56:=Aside0.mk A560
                   clear A560
                   have HC57:=Aside0.mk H
                   clear H
                   try go_wp2
                   have n0_:=Aside0.mk (Kd.N_drew HO_9.out)
                   have n1_:=Aside0.mk (Kd.R_drew HO_10.out)
                   have n2_:=Aside0.mk (Kd.R_drew HO_388000.out)
                   have n3_:=Aside0.mk (blk_drew BK379.out)
                   have n4_:=Aside0.mk (blk_drew BK387.out)
                   have n5_:=Aside0.mk (below_drew1 HB.out)
                   clear HO_9
                   clear HO_10
                   clear HO_388000
                   clear BK379
                   clear BK387
                   clear HB
                   have HO_9:=n0_
                   have HO_10:=n1_
                   have HO_388000:=n2_
                   have BK379:=n3_
                   have BK387:=n4_
                   have HB:=n5_
                   clear n0_ n1_ n2_ n3_ n4_ n5_
                   have q59 : (t398 : Int)≤((t391.length : Int) : Int):=of_decide_eq_true (by first|(with_reducible assumption)|assumption)
                   obtain ⟨i059,hi059,_,hsz59,_⟩:=info_parts info27
                   have hroom59 : t391.length≤co28:=(Kd.N_reads' HO_9.out).2.1
                   have hC59 : Kd.F (Kd.slice 41 k41) _ _ Ao28 t391.length t391:=(Kd.V_at (base:=w.heap.size) (Kd.N_V HO_9.out)).2.2
                   have hcut59:=cut_to (P:=Try.prog) 25 27 .i64 Try.underlying25 hi059 Ao28 t391.length co28 t398 (of_decide_eq_true (by first|(with_reducible assumption)|assumption)) q59 hroom59
                   have hr59:=Kd.F_take (m:=(t398 : Int).toNat) hC59 (by omega)
                   have hy59 : y402.length=(t398 : Int).toNat:=(by rw [Ny402.out,List.length_take];omega)
                   rw [← Ny402.out] at hr59
                   rw [← hy59] at hcut59
                   have HO406:=Aside0.mk (show Kd.V (Kd.slice 41 k41) 27 _ w.heap.size _ (.slice Ao28 y402.length co28) y402 from Kd.V_mk (by omega) hr59)
                   have HC406:=Aside0.mk (show y402.length≤co28 from by omega)
                   clear hr59 hC59 hroom59 hi059 hsz59
                   have KY59:=Aside0.mk hy59
                   clear hy59
                   replace q59:=eq_true q59
                   have q60 : (t398 : Int)≤((t391.length : Int) : Int):=of_decide_eq_true (by first|(with_reducible assumption)|assumption)
                   obtain ⟨i060,hi060,_,hsz60,_⟩:=info_parts info27
                   have hroom60 : t391.length≤co28:=(Kd.N_reads' HO_9.out).2.1
                   have hC60 : Kd.F (Kd.slice 41 k41) _ _ Ao28 t391.length t391:=(Kd.V_at (base:=w.heap.size) (Kd.N_V HO_9.out)).2.2
                   have q060 : (0 : Int)≤(t398 : Int):=of_decide_eq_true (by first|(with_reducible assumption)|assumption)
                   have hcut60:=cut_from (P:=Try.prog) 25 27 .i64 Try.underlying25 hi060 1 hsz60 Ao28 t391.length co28 t398 q060 q60
                   have hr60:=Kd.F_cut (m:=(t398 : Int).toNat) (c:=co28) hC60 (by omega) hroom60
                   obtain ⟨A60,hA60⟩ : ∃ Z_,Z_=(if co28=(t398 : Int).toNat then Ao28 else (Ao28 : Option Addr).map (·.add ((t398 : Int).toNat * 1))):=⟨_,rfl⟩
                   obtain ⟨c60,hc60⟩ : ∃ z_,z_=co28 - (t398 : Int).toNat:=⟨_,rfl⟩
                   have hy60 : y416.length=t391.length - (t398 : Int).toNat:=(by rw [Ny416.out,List.length_drop] <;> omega)
                   rw [show (t391).drop (t398 : Int).toNat=y416 from Ny416.out.symm] at hr60
                   replace hr60 : Kd.F (Kd.slice 41 k41) _ _ A60 y416.length y416:=(by rw [hA60];exact hr60)
                   rw [← hy60,← hA60,← hc60] at hcut60
                   have HO420:=Aside0.mk (show Kd.V (Kd.slice 41 k41) 27 _ w.heap.size _ (.slice A60 y416.length c60) y416 from Kd.V_mk (by rw [hy60,hc60];exact Nat.sub_le_sub_right hroom60 _) hr60)
                   have HC420:=Aside0.mk (show y416.length≤c60 from by rw [hy60,hc60];exact Nat.sub_le_sub_right hroom60 _)
                   clear hr60 hC60 hroom60 hi060 hsz60 hc60
                   have KY60:=Aside0.mk hy60
                   have KA60:=Aside0.mk hA60
                   clear hy60 hA60
                   replace q60:=eq_true q60
                   refine start_ (n:=13) (S:=fun w'=>True) (ds:=[]) #[false,false,false,false,false,false,false,false,false,false,false,false,false] (by kernel_rfl) rfl rfl trivial (fun hHeld=>?_);refine with_tabW thresherlaw09_OrderPlaces.tab9 thresherlaw09_OrderPlaces.bits9 (fun HT_ HW_=>?_)
                   generalize wc.drew=w58 at HO_9 HO_10 HO_388000 BK379 BK387 HB HO406 HO420 hHeld ⊢
                   refine pure_ (i:=1) (N:=some 50) (v:=?_) (a':=?_) #[false,true,false,false,false,false,false,false,false,false,false,false,false] rfl rfl (any_of HT_.out (by kernel_rfl)) (fun _ _ _ h=>h) (Or.inl ⟨by rfl,?_⟩) ?_ ?_
                   rotate_left;(intro w';go_simp;with_reducible rfl);rotate_left;(simp only [Act.put,List.setIfInBounds_toArray,List.set_cons_zero,List.set_cons_succ,i64_w,i32_w];rfl)
                   refine pure_ (i:=2) (N:=some 51) (v:=?_) (a':=?_) #[false,true,true,false,false,false,false,false,false,false,false,false,false] rfl rfl (any_of HT_.out (by kernel_rfl)) (fun _ _ _ h=>h) (Or.inl ⟨by rfl,?_⟩) ?_ ?_
                   rotate_left;(intro w';go_simp;with_reducible rfl);rotate_left;(simp only [Act.put,List.setIfInBounds_toArray,List.set_cons_zero,List.set_cons_succ,i64_w,i32_w];rfl)
                   refine pure_ (i:=3) (N:=some 52) (v:=?_) (a':=?_) #[false,true,true,true,false,false,false,false,false,false,false,false,false] rfl rfl (any_of HT_.out (by kernel_rfl)) (fun _ _ _ h=>h) (Or.inl ⟨by rfl,?_⟩) ?_ ?_
                   rotate_left;(intro w';go_simp;with_reducible rfl);rotate_left;(simp only [Act.put,List.setIfInBounds_toArray,List.set_cons_zero,List.set_cons_succ,i64_w,i32_w];rfl)
                   refine pure_ (i:=5) (N:=some 54) (v:=?_) (a':=?_) #[false,true,true,true,false,true,false,false,false,false,false,false,false] rfl rfl (any_of HT_.out (by kernel_rfl)) (fun _ _ _ h=>h) (Or.inl ⟨by rfl,?_⟩) ?_ ?_
                   rotate_left;(intro w';go_simp;with_reducible rfl);rotate_left;(simp only [Act.put,List.setIfInBounds_toArray,List.set_cons_zero,List.set_cons_succ,i64_w,i32_w];rfl)
                   refine pure_ (i:=8) (N:=some 57) (v:=?_) (a':=?_) #[false,true,true,true,false,true,false,false,true,false,false,false,false] rfl rfl (any_of HT_.out (by kernel_rfl)) (fun _ _ _ h=>h) (Or.inl ⟨by rfl,?_⟩) ?_ ?_
                   rotate_left;(intro w';go_simp;with_reducible rfl);rotate_left;(simp only [Act.put,List.setIfInBounds_toArray,List.set_cons_zero,List.set_cons_succ,i64_w,i32_w];rfl)
                   refine pure_ (i:=9) (N:=some 58) (v:=?_) (a':=?_) #[false,true,true,true,false,true,false,false,true,true,false,false,false] rfl rfl (any_of HT_.out (by kernel_rfl)) (fun _ _ _ h=>h) (Or.inl ⟨by rfl,?_⟩) ?_ ?_
                   rotate_left;(intro w';go_simp;with_reducible rfl);rotate_left;(simp only [Act.put,List.setIfInBounds_toArray,List.set_cons_zero,List.set_cons_succ,i64_w,i32_w];rfl)
                   refine pure_ (i:=10) (N:=some 59) (v:=?_) (a':=?_) #[false,true,true,true,false,true,false,false,true,true,true,false,false] rfl rfl (any_of HT_.out (by kernel_rfl)) (fun _ _ _ h=>h) (Or.inl ⟨by rfl,?_⟩) ?_ ?_
                   rotate_left;(intro w';go_simp;with_reducible rfl);rotate_left;(simp only [Act.put,List.setIfInBounds_toArray,List.set_cons_zero,List.set_cons_succ,i64_w,i32_w];rfl)
                   refine join_ (σ:=Value × Value × Value) 3 #[true,true,true,true,true,true,true,false,true,true,true,false,false] (fun s_=>[(49,s_.1),(53,s_.2.1),(55,s_.2.2)]) (fun s_ w'=>(Kd.V (Kd.slice 41 k41) 27 w' w.heap.size (fun k_=>some k_≠(s_.2.1 : Value).ownBlock∧some k_≠(s_.2.2 : Value).ownBlock∧some k_≠(.slice Ao29 t394.length co29 : Value).ownBlock∧some k_≠(.slice Ao17 t381.length co17 : Value).ownBlock∧k_≠gb379∧k_≠gb387) (.slice Ao28 y402.length co28) y402)∧(Kd.N (Kd.slice 41 k41) 27 w' w.heap.size (fun k_=>some k_≠(s_.2.2 : Value).ownBlock∧some k_≠(.slice Ao29 t394.length co29 : Value).ownBlock∧some k_≠(.slice Ao17 t381.length co17 : Value).ownBlock∧k_≠gb379∧k_≠gb387) s_.2.1 y407)∧(Kd.N (Kd.slice 41 k41) 27 w' w.heap.size (fun k_=>some k_≠(s_.2.1 : Value).ownBlock∧some k_≠(.slice Ao17 t381.length co17 : Value).ownBlock∧some k_≠(.slice Ao28 t391.length co28 : Value).ownBlock∧k_≠gb379∧k_≠gb387) s_.2.2 y410)∧(Kd.V (Kd.slice 41 k41) 27 w' w.heap.size (fun k_=>some k_≠(s_.2.1 : Value).ownBlock∧some k_≠(s_.2.2 : Value).ownBlock∧some k_≠(.slice Ao29 t394.length co29 : Value).ownBlock∧some k_≠(.slice Ao17 t381.length co17 : Value).ownBlock∧k_≠gb379∧k_≠gb387) (.slice A60 y416.length c60) y416)∧(Kd.R k41 41 w' w.heap.size (fun _=>True) (.slice Ao29 t394.length co29) t394)∧(Kd.R (Kd.int .i64) 3 w' w.heap.size (fun _=>True) (.slice Ao17 t381.length co17) t381)∧(Kd.N (Kd.slice 41 k41) 27 w' w.heap.size (fun k_=>some k_≠(s_.2.1 : Value).ownBlock∧some k_≠(s_.2.2 : Value).ownBlock∧some k_≠(.slice Ao29 t394.length co29 : Value).ownBlock∧some k_≠(.slice Ao17 t381.length co17 : Value).ownBlock∧k_≠gb379∧k_≠gb387) (.slice Ao28 t391.length co28) t391)∧(w'.heap[gb379]?=some (.cells #[.int .u8 a0_0,.int .u8 a0_1,.int .u8 a0_2,.int .u8 a0_3,.int .u8 a0_4,.int .u8 a0_5,.int .u8 a0_6,.int .u8 a0_7,.int .u8 a0_8,.int .u8 a0_9,.int .u8 a0_10,.int .u8 a0_11] 24 (0,0)))∧(w'.heap[gb387]?=some (.cells #[.slice Ao17 t381.length co17,.int .i64 t384,.int .i64 t385,.int .i64 t386] 31 (0,0)))∧(Below w.heap.size w w')) ?_ ?_
                   rotate_left
                   ·
                    rename_i zz0_ zz1_ zz2_ zz3_ zz4_ zz5_ zz6_ zz7_ zz8_ zz9_ zz10_ zz11_ zz12_
                    revert k a0_0 a0_1 a0_2 a0_3 a0_4 a0_5 a0_6 a0_7 a0_8 a0_9 a0_10 a0_11 A1 c1 l1 A2 c2 l2 r w hu24 hu31 HR1 HC1 HR2 HC2 t380 A4 t381 t384 t385 t386 A5 t388 A6 t391 A7 t394 A8 t397 A9 t398 A10 zz0_ gb379 w12 GW379 GE379 w13 w15 gb387 w16 GW387 GE387 NB379_387 NB387_379 Ao17 co17 hnb18 hnc18 w20 w21 zz1_ w22 Ao23 co23 zz2_ w24 zz3_ w26 Ao28 co28 Ao29 co29 w30 w32 HO383 HO390 HO393 HO396 zz4_ zz5_ zz6_ wc u17 u18 u19 u20 u21 u22 u23 u24 u25 u26 u27 u28 u29 u30 u31 u32 u33 u34 u35 u36 u37 u38 u39 u40 u41 u42 u43 u44 u45 u46 u47 u49 u50 u51 u52 u53 u54 u55 u56 u57 u58 u59 u60 u61 u62 u63 u64 u65 u66 u67 u68 u69 u70 u71 u72 u73 u74 u75 u76 u77 u78 u79 u80 u81 u82 u83 u84 u85 u86 u87 u88 u89 u90 u91 u92 u93 u94 u95 u96 u97 u98 u99 u100 u101 u102 u103 u104 u105 u106 u107 kj10 HJ10 y399 Ny399 c36b0 c36b1 c37b0 c37b1 y402 Ny402 LMc38 y407 Ny407 y410 Ny410 LMc39 y413 Ny413 c40b0 c41b0 y416 Ny416 LMc42 y421 Ny421 y424 Ny424 c43b0 c43b1 c44b0 c44b1 y427 Ny427 LMc45 y432 Ny432 y435 Ny435 LMc46 y438 Ny438 c47b0 c48b0 y441 Ny441 LMc49 y446 Ny446 y449 Ny449 LMc50 y452 Ny452 y455 Ny455 LMc51 y458 Ny458 t461 A52 t464 A53 y465 Ny465 LMc54 y468 Ny468 t471 A55 t474 A56 HC57 zz7_ zz8_ i059 zz9_ zz10_ hcut59 HC406 KY59 q59 i060 zz11_ zz12_ q060 A60 c60 hcut60 HC420 KY60 KA60 q60 hHeld HT_ HW_ w58 HO_9 HO_10 HO_388000 BK379 BK387 HB HO406 HO420
                    exact hp0_.out
                   rintro ⟨v400,v408,v411⟩ w66 ⟨h0_,h1_,h2_,h3_,h4_,h5_,h6_,h7_,h8_,h9_⟩
                   have n0_ : Aside0 (Kd.V (Kd.slice 41 k41) 27 w66 w.heap.size (fun k_=>some k_≠(v408 : Value).ownBlock∧some k_≠(v411 : Value).ownBlock∧some k_≠(.slice Ao29 t394.length co29 : Value).ownBlock∧some k_≠(.slice Ao17 t381.length co17 : Value).ownBlock∧k_≠gb379∧k_≠gb387) (.slice Ao28 y402.length co28) y402):=⟨h0_⟩
                   have n1_ : Aside0 (Kd.N (Kd.slice 41 k41) 27 w66 w.heap.size (fun k_=>some k_≠(v411 : Value).ownBlock∧some k_≠(.slice Ao29 t394.length co29 : Value).ownBlock∧some k_≠(.slice Ao17 t381.length co17 : Value).ownBlock∧k_≠gb379∧k_≠gb387) v408 y407):=⟨h1_⟩
                   have n2_ : Aside0 (Kd.N (Kd.slice 41 k41) 27 w66 w.heap.size (fun k_=>some k_≠(v408 : Value).ownBlock∧some k_≠(.slice Ao17 t381.length co17 : Value).ownBlock∧some k_≠(.slice Ao28 t391.length co28 : Value).ownBlock∧k_≠gb379∧k_≠gb387) v411 y410):=⟨h2_⟩
                   have n3_ : Aside0 (Kd.V (Kd.slice 41 k41) 27 w66 w.heap.size (fun k_=>some k_≠(v408 : Value).ownBlock∧some k_≠(v411 : Value).ownBlock∧some k_≠(.slice Ao29 t394.length co29 : Value).ownBlock∧some k_≠(.slice Ao17 t381.length co17 : Value).ownBlock∧k_≠gb379∧k_≠gb387) (.slice A60 y416.length c60) y416):=⟨h3_⟩
                   have n4_ : Aside0 (Kd.R k41 41 w66 w.heap.size (fun _=>True) (.slice Ao29 t394.length co29) t394):=⟨h4_⟩
                   have n5_ : Aside0 (Kd.R (Kd.int .i64) 3 w66 w.heap.size (fun _=>True) (.slice Ao17 t381.length co17) t381):=⟨h5_⟩
                   have n6_ : Aside0 (Kd.N (Kd.slice 41 k41) 27 w66 w.heap.size (fun k_=>some k_≠(v408 : Value).ownBlock∧some k_≠(v411 : Value).ownBlock∧some k_≠(.slice Ao29 t394.length co29 : Value).ownBlock∧some k_≠(.slice Ao17 t381.length co17 : Value).ownBlock∧k_≠gb379∧k_≠gb387) (.slice Ao28 t391.length co28) t391):=⟨h6_⟩
                   have n7_ : Aside0 (w66.heap[gb379]?=some (.cells #[.int .u8 a0_0,.int .u8 a0_1,.int .u8 a0_2,.int .u8 a0_3,.int .u8 a0_4,.int .u8 a0_5,.int .u8 a0_6,.int .u8 a0_7,.int .u8 a0_8,.int .u8 a0_9,.int .u8 a0_10,.int .u8 a0_11] 24 (0,0))):=⟨h7_⟩
                   have n8_ : Aside0 (w66.heap[gb387]?=some (.cells #[.slice Ao17 t381.length co17,.int .i64 t384,.int .i64 t385,.int .i64 t386] 31 (0,0))):=⟨h8_⟩
                   have n9_ : Aside0 (Below w.heap.size w w66):=⟨h9_⟩
                   clear HO_9
                   clear HO_10
                   clear HO_388000
                   clear BK379
                   clear BK387
                   clear HB
                   clear h0_ h1_ h2_ h3_ h4_ h5_ h6_ h7_ h8_ h9_
                   have HO406:=n0_
                   have HO409:=n1_
                   have HO412:=n2_
                   have HO420:=n3_
                   have HO_10:=n4_
                   have HO_388000:=n5_
                   have HO_9:=n6_
                   have BK379:=n7_
                   have BK387:=n8_
                   have HB:=n9_
                   clear n0_ n1_ n2_ n3_ n4_ n5_ n6_ n7_ n8_ n9_
                   have hHeld:=trivial
                   obtain ⟨Ao68,co68,eo68⟩:=Kd.N_slice HO412.out
                   (first|subst eo68|(injection eo68 with f1_ f2_ f3_;have f4_:=f1_.symm;have f5_:=f3_.symm;clear f1_ f2_ f3_;subst f4_;subst f5_))
                   refine norm_ (a':=?_) ?_ ?_
                   rotate_left
                   ·simp only [putAll,Act.put,List.setIfInBounds_toArray,List.set_cons_zero,List.set_cons_succ]
                    rfl
                   refine one_ (i:=7) (N:=some 56) #[true,true,true,true,true,true,true,true,true,true,true,false,false] rfl rfl (one_of HT_.out (by kernel_rfl)) (by decide) (fun K hK=>?_)
                   refine Kd.N_append_rows_step (Kd.slice 41 k41) (w0:=w) w.heap.size (by rfl) (.tmp 53) (.tmp 55) 25 27 (.slice none 0 0) 24 rfl Try.underlying25 info27 rfl (by decide) (by omega) v408 y407 y410 _ _ _ (fun k_=>some k_≠(.slice Ao17 t381.length co17 : Value).ownBlock∧k_≠gb379∧k_≠gb387) (fun k_=>((fun k_=>some k_≠(.slice Ao17 t381.length co17 : Value).ownBlock∧k_≠gb379∧k_≠gb387)) k_∧some k_≠(v408 : Value).ownBlock) rfl rfl ?aO ?aR (fun _ hk=>hk) ?aF ?aB ?aS ?aL ?_
                   (case aR=>exact (by skip;exact Kd.N_F (Kd.N_mono (ok':=(fun k_=>((fun k_=>some k_≠(.slice Ao17 t381.length co17 : Value).ownBlock∧k_≠gb379∧k_≠gb387)) k_∧some k_≠(v408 : Value).ownBlock)) (HO412.out) (fun k_ hk=>⟨⟨hk.2.1,⟨hk.2.2.2.1,hk.2.2.2.2⟩⟩,hk.1⟩))))
                   (case aB=>exact (below_go HB.out))
                   (case aF=>exact (fun k_ hk=>⟨Kd.fresh' (Kd.R_lt (R_up HO_388000.out)) k_ hk,Kd.freshB (blk_up BK379.out) k_ hk,Kd.freshB (blk_up BK387.out) k_ hk⟩))
                   (case aO=>exact (N_upm HO409.out (fun _ hk=>⟨hk.2.2.1,⟨hk.2.2.2.1,hk.2.2.2.2⟩⟩)))
                   (case aS=>exact (below_size (below_go HB.out)))
                   (case aL=>have:=LMc39.out;omega)
                   intro v414 w67 ho hb hg hat
                   rw [← Ny413.out] at ho
                   have n0_:=Aside0.mk (Kd.N_afterv (ok:=(fun k_=>some k_≠(.slice Ao29 t394.length co29 : Value).ownBlock∧some k_≠(.slice Ao17 t381.length co17 : Value).ownBlock∧some k_≠(.slice Ao68 y410.length co68 : Value).ownBlock∧k_≠gb379∧k_≠gb387)) (N_upm HO_9.out (fun _ hk=>⟨⟨hk.2.2.1,⟨hk.2.2.2.1,⟨hk.2.1,⟨hk.2.2.2.2.1,hk.2.2.2.2.2⟩⟩⟩⟩,hk.1⟩)) hg hat)
                   have n1_:=Aside0.mk (Kd.R_over' (R_up HO_10.out) (Kd.N_typed (N_up HO409.out)) (by decide) hg)
                   have n2_:=Aside0.mk (Kd.R_over' (R_up HO_388000.out) (Kd.N_typed (N_up HO409.out)) (by decide) hg)
                   have n3_:=Aside0.mk (blk_grown (blk_up BK379.out) hg (Kd.N_ne HO409.out BK379.out (by decide)))
                   have n4_:=Aside0.mk (blk_grown (blk_up BK387.out) hg (Kd.N_ne HO409.out BK387.out (by decide)))
                   have n5_:=Aside0.mk (Kd.V_afterv (ok:=(fun k_=>some k_≠(.slice Ao29 t394.length co29 : Value).ownBlock∧some k_≠(.slice Ao17 t381.length co17 : Value).ownBlock∧some k_≠(.slice Ao68 y410.length co68 : Value).ownBlock∧k_≠gb379∧k_≠gb387)) (V_upm HO406.out (fun _ hk=>⟨⟨hk.2.2.1,⟨hk.2.2.2.1,⟨hk.2.1,⟨hk.2.2.2.2.1,hk.2.2.2.2.2⟩⟩⟩⟩,hk.1⟩)) hg hat)
                   have n6_:=Aside0.mk (Kd.V_afterv (ok:=(fun k_=>some k_≠(.slice Ao29 t394.length co29 : Value).ownBlock∧some k_≠(.slice Ao17 t381.length co17 : Value).ownBlock∧some k_≠(.slice Ao68 y410.length co68 : Value).ownBlock∧k_≠gb379∧k_≠gb387)) (V_upm HO420.out (fun _ hk=>⟨⟨hk.2.2.1,⟨hk.2.2.2.1,⟨hk.2.1,⟨hk.2.2.2.2.1,hk.2.2.2.2.2⟩⟩⟩⟩,hk.1⟩)) hg hat)
                   have n7_:=Aside0.mk (Kd.N_afterv (ok:=(fun k_=>some k_≠(.slice Ao28 t391.length co28 : Value).ownBlock∧some k_≠(.slice Ao17 t381.length co17 : Value).ownBlock∧k_≠gb379∧k_≠gb387)) (N_upm HO412.out (fun _ hk=>⟨⟨hk.2.2.1,⟨hk.2.1,⟨hk.2.2.2.1,hk.2.2.2.2⟩⟩⟩,hk.1⟩)) hg hat)
                   have n8_:=Aside0.mk (hb)
                   have n9_:=Aside0.mk (ho)
                   clear HO_9
                   clear HO_10
                   clear HO_388000
                   clear BK379
                   clear BK387
                   clear HO406
                   clear HO420
                   clear HO412
                   clear HB
                   clear HO409
                   have HO_9:=n0_
                   have HO_10:=n1_
                   have HO_388000:=n2_
                   have BK379:=n3_
                   have BK387:=n4_
                   have HO406:=n5_
                   have HO420:=n6_
                   have HO412:=n7_
                   have HB:=n8_
                   have HO415:=n9_
                   clear n0_ n1_ n2_ n3_ n4_ n5_ n6_ n7_ n8_ n9_
                   clear ho hb hg hat
                   refine hK.out _ _ trivial (fun hHeld=>?_)
                   clear hK K
                   refine norm_ (a':=?_) ?_ ?_
                   rotate_left
                   ·show Act.put _ (some 56) _=_
                    simp only [Act.put,List.setIfInBounds_toArray,List.set_cons_zero,List.set_cons_succ,i64_w,i32_w]
                    rfl
                   refine one_ (i:=11) (N:=some 60) #[true,true,true,true,true,true,true,true,true,true,true,true,false] rfl rfl (one_of HT_.out (by kernel_rfl)) (by decide) (fun K hK=>?_)
                   refine Kd.N_append_rows_step (Kd.slice 41 k41) (w0:=w) w.heap.size (by rfl) (.tmp 56) (.tmp 59) 25 27 (.slice none 0 0) 24 rfl Try.underlying25 info27 rfl (by decide) (by omega) v414 y413 y416 _ _ _ (fun k_=>some k_≠(.slice Ao17 t381.length co17 : Value).ownBlock∧k_≠gb379∧k_≠gb387) (fun k_=>((fun k_=>some k_≠(.slice Ao17 t381.length co17 : Value).ownBlock∧k_≠gb379∧k_≠gb387)) k_∧some k_≠(v414 : Value).ownBlock) rfl rfl ?aO ?aR (fun _ hk=>hk) ?aF ?aB ?aS ?aL ?_
                   (case aR=>exact (by skip;exact Kd.V_F (Kd.V_mono (ok':=(fun k_=>((fun k_=>some k_≠(.slice Ao17 t381.length co17 : Value).ownBlock∧k_≠gb379∧k_≠gb387)) k_∧some k_≠(v414 : Value).ownBlock)) (HO420.out) (fun k_ hk=>⟨⟨hk.1.2.1,⟨hk.1.2.2.2.1,hk.1.2.2.2.2⟩⟩,hk.2⟩))))
                   (case aB=>exact (below_go HB.out))
                   (case aF=>exact (fun k_ hk=>⟨Kd.fresh' (Kd.R_lt (R_up HO_388000.out)) k_ hk,Kd.freshB (blk_up BK379.out) k_ hk,Kd.freshB (blk_up BK387.out) k_ hk⟩))
                   (case aO=>exact (N_up HO415.out))
                   (case aS=>exact (below_size (below_go HB.out)))
                   (case aL=>have:=LMc42.out;omega)
                   intro v422 w69 ho hb hg hat
                   rw [← Ny421.out] at ho
                   have n0_:=Aside0.mk (Kd.N_afterv (ok:=(fun k_=>some k_≠(.slice Ao29 t394.length co29 : Value).ownBlock∧some k_≠(.slice Ao17 t381.length co17 : Value).ownBlock∧some k_≠(.slice Ao68 y410.length co68 : Value).ownBlock∧k_≠gb379∧k_≠gb387)) (N_up HO_9.out) hg hat)
                   have n1_:=Aside0.mk (Kd.R_over' (R_up HO_10.out) (Kd.N_typed (N_up HO415.out)) (by decide) hg)
                   have n2_:=Aside0.mk (Kd.R_over' (R_up HO_388000.out) (Kd.N_typed (N_up HO415.out)) (by decide) hg)
                   have n3_:=Aside0.mk (blk_grown (blk_up BK379.out) hg (Kd.N_ne HO415.out BK379.out (by decide)))
                   have n4_:=Aside0.mk (blk_grown (blk_up BK387.out) hg (Kd.N_ne HO415.out BK387.out (by decide)))
                   have n5_:=Aside0.mk (Kd.V_afterv (ok:=(fun k_=>some k_≠(.slice Ao29 t394.length co29 : Value).ownBlock∧some k_≠(.slice Ao17 t381.length co17 : Value).ownBlock∧some k_≠(.slice Ao68 y410.length co68 : Value).ownBlock∧k_≠gb379∧k_≠gb387)) (V_up HO406.out) hg hat)
                   have n6_:=Aside0.mk (Kd.V_afterv (ok:=(fun k_=>some k_≠(.slice Ao29 t394.length co29 : Value).ownBlock∧some k_≠(.slice Ao17 t381.length co17 : Value).ownBlock∧some k_≠(.slice Ao68 y410.length co68 : Value).ownBlock∧k_≠gb379∧k_≠gb387)) (V_up HO420.out) hg hat)
                   have n7_:=Aside0.mk (Kd.N_afterv (ok:=(fun k_=>some k_≠(.slice Ao28 t391.length co28 : Value).ownBlock∧some k_≠(.slice Ao17 t381.length co17 : Value).ownBlock∧k_≠gb379∧k_≠gb387)) (N_up HO412.out) hg hat)
                   have n8_:=Aside0.mk (hb)
                   have n9_:=Aside0.mk (ho)
                   clear HO_9
                   clear HO_10
                   clear HO_388000
                   clear BK379
                   clear BK387
                   clear HO406
                   clear HO420
                   clear HO412
                   clear HB
                   clear HO415
                   have HO_9:=n0_
                   have HO_10:=n1_
                   have HO_388000:=n2_
                   have BK379:=n3_
                   have BK387:=n4_
                   have HO406:=n5_
                   have HO420:=n6_
                   have HO412:=n7_
                   have HB:=n8_
                   have HO423:=n9_
                   clear n0_ n1_ n2_ n3_ n4_ n5_ n6_ n7_ n8_ n9_
                   clear ho hb hg hat
                   refine hK.out _ _ trivial (fun hHeld=>?_)
                   clear hK K
                   refine norm_ (a':=?_) ?_ ?_
                   rotate_left
                   ·show Act.put _ (some 60) _=_
                    simp only [Act.put,List.setIfInBounds_toArray,List.set_cons_zero,List.set_cons_succ,i64_w,i32_w]
                    rfl
                   refine pure_ (i:=12) (N:=some 13) (v:=?_) (a':=?_) #[true,true,true,true,true,true,true,true,true,true,true,true,true] rfl rfl (any_of HT_.out (by kernel_rfl)) (fun _ _ _ h=>h) (Or.inl ⟨by rfl,?_⟩) ?_ ?_
                   rotate_left;(intro w';go_simp;with_reducible rfl);rotate_left;(simp only [Act.put,List.setIfInBounds_toArray,List.set_cons_zero,List.set_cons_succ,i64_w,i32_w];rfl)
                   refine done_ (done_of HT_.out (by kernel_rfl)) ?_
                   (try clear hHeld)
                   try go_wp2
                   have n0_:=Aside0.mk (Kd.N_drew HO_9.out)
                   have n1_:=Aside0.mk (Kd.R_drew HO_10.out)
                   have n2_:=Aside0.mk (Kd.R_drew HO_388000.out)
                   have n3_:=Aside0.mk (Kd.V_drew HO406.out)
                   have n4_:=Aside0.mk (Kd.V_drew HO420.out)
                   have n5_:=Aside0.mk (Kd.N_drew HO412.out)
                   have n6_:=Aside0.mk (Kd.N_drew HO423.out)
                   have n7_:=Aside0.mk (blk_drew BK379.out)
                   have n8_:=Aside0.mk (blk_drew BK387.out)
                   have n9_:=Aside0.mk (below_drew1 HB.out)
                   clear HO_9
                   clear HO_10
                   clear HO_388000
                   clear HO406
                   clear HO420
                   clear HO412
                   clear HO423
                   clear BK379
                   clear BK387
                   clear HB
                   have HO_9:=n0_
                   have HO_10:=n1_
                   have HO_388000:=n2_
                   have HO406:=n3_
                   have HO420:=n4_
                   have HO412:=n5_
                   have HO423:=n6_
                   have BK379:=n7_
                   have BK387:=n8_
                   have HB:=n9_
                   clear n0_ n1_ n2_ n3_ n4_ n5_ n6_ n7_ n8_ n9_
                   have q71 : (t397 : Int)≤((t391.length : Int) : Int):=of_decide_eq_true (by first|(with_reducible assumption)|assumption)
                   obtain ⟨i071,hi071,_,hsz71,_⟩:=info_parts info27
                   have hroom71 : t391.length≤co28:=(Kd.N_reads' HO_9.out).2.1
                   have hC71 : Kd.F (Kd.slice 41 k41) _ _ Ao28 t391.length t391:=(Kd.V_at (base:=w.heap.size) (Kd.N_V HO_9.out)).2.2
                   have hcut71:=cut_to (P:=Try.prog) 25 27 .i64 Try.underlying25 hi071 Ao28 t391.length co28 t397 (of_decide_eq_true (by first|(with_reducible assumption)|assumption)) q71 hroom71
                   have hr71:=Kd.F_take (m:=(t397 : Int).toNat) hC71 (by omega)
                   have hy71 : y427.length=(t397 : Int).toNat:=(by rw [Ny427.out,List.length_take];omega)
                   rw [← Ny427.out] at hr71
                   rw [← hy71] at hcut71
                   have HO431:=Aside0.mk (show Kd.V (Kd.slice 41 k41) 27 _ w.heap.size _ (.slice Ao28 y427.length co28) y427 from Kd.V_mk (by omega) hr71)
                   have HC431:=Aside0.mk (show y427.length≤co28 from by omega)
                   clear hr71 hC71 hroom71 hi071 hsz71
                   have KY71:=Aside0.mk hy71
                   clear hy71
                   replace q71:=eq_true q71
                   have q72 : (t397 : Int)≤((t391.length : Int) : Int):=of_decide_eq_true (by first|(with_reducible assumption)|assumption)
                   obtain ⟨i072,hi072,_,hsz72,_⟩:=info_parts info27
                   have hroom72 : t391.length≤co28:=(Kd.N_reads' HO_9.out).2.1
                   have hC72 : Kd.F (Kd.slice 41 k41) _ _ Ao28 t391.length t391:=(Kd.V_at (base:=w.heap.size) (Kd.N_V HO_9.out)).2.2
                   have q072 : (0 : Int)≤(t397 : Int):=of_decide_eq_true (by first|(with_reducible assumption)|assumption)
                   have hcut72:=cut_from (P:=Try.prog) 25 27 .i64 Try.underlying25 hi072 1 hsz72 Ao28 t391.length co28 t397 q072 q72
                   have hr72:=Kd.F_cut (m:=(t397 : Int).toNat) (c:=co28) hC72 (by omega) hroom72
                   obtain ⟨A72,hA72⟩ : ∃ Z_,Z_=(if co28=(t397 : Int).toNat then Ao28 else (Ao28 : Option Addr).map (·.add ((t397 : Int).toNat * 1))):=⟨_,rfl⟩
                   obtain ⟨c72,hc72⟩ : ∃ z_,z_=co28 - (t397 : Int).toNat:=⟨_,rfl⟩
                   have hy72 : y441.length=t391.length - (t397 : Int).toNat:=(by rw [Ny441.out,List.length_drop] <;> omega)
                   rw [show (t391).drop (t397 : Int).toNat=y441 from Ny441.out.symm] at hr72
                   replace hr72 : Kd.F (Kd.slice 41 k41) _ _ A72 y441.length y441:=(by rw [hA72];exact hr72)
                   rw [← hy72,← hA72,← hc72] at hcut72
                   have HO445:=Aside0.mk (show Kd.V (Kd.slice 41 k41) 27 _ w.heap.size _ (.slice A72 y441.length c72) y441 from Kd.V_mk (by rw [hy72,hc72];exact Nat.sub_le_sub_right hroom72 _) hr72)
                   have HC445:=Aside0.mk (show y441.length≤c72 from by rw [hy72,hc72];exact Nat.sub_le_sub_right hroom72 _)
                   clear hr72 hC72 hroom72 hi072 hsz72 hc72
                   have KY72:=Aside0.mk hy72
                   have KA72:=Aside0.mk hA72
                   clear hy72 hA72
                   replace q72:=eq_true q72
                   refine start_ (n:=13) (S:=fun w'=>True) (ds:=[]) #[false,false,false,false,false,false,false,false,false,false,false,false,false] (by kernel_rfl) rfl rfl trivial (fun hHeld=>?_);refine with_tabW thresherlaw09_OrderPlaces.tab10 thresherlaw09_OrderPlaces.bits10 (fun HT_ HW_=>?_)
                   generalize w69.drew=w70 at HO_9 HO_10 HO_388000 HO406 HO420 HO412 HO423 BK379 BK387 HB HO431 HO445 hHeld ⊢
                   refine pure_ (i:=1) (N:=some 62) (v:=?_) (a':=?_) #[false,true,false,false,false,false,false,false,false,false,false,false,false] rfl rfl (any_of HT_.out (by kernel_rfl)) (fun _ _ _ h=>h) (Or.inl ⟨by rfl,?_⟩) ?_ ?_
                   rotate_left;(intro w';go_simp;with_reducible rfl);rotate_left;(simp only [Act.put,List.setIfInBounds_toArray,List.set_cons_zero,List.set_cons_succ,i64_w,i32_w];rfl)
                   refine pure_ (i:=2) (N:=some 63) (v:=?_) (a':=?_) #[false,true,true,false,false,false,false,false,false,false,false,false,false] rfl rfl (any_of HT_.out (by kernel_rfl)) (fun _ _ _ h=>h) (Or.inl ⟨by rfl,?_⟩) ?_ ?_
                   rotate_left;(intro w';go_simp;with_reducible rfl);rotate_left;(simp only [Act.put,List.setIfInBounds_toArray,List.set_cons_zero,List.set_cons_succ,i64_w,i32_w];rfl)
                   refine pure_ (i:=3) (N:=some 64) (v:=?_) (a':=?_) #[false,true,true,true,false,false,false,false,false,false,false,false,false] rfl rfl (any_of HT_.out (by kernel_rfl)) (fun _ _ _ h=>h) (Or.inl ⟨by rfl,?_⟩) ?_ ?_
                   rotate_left;(intro w';go_simp;with_reducible rfl);rotate_left;(simp only [Act.put,List.setIfInBounds_toArray,List.set_cons_zero,List.set_cons_succ,i64_w,i32_w];rfl)
                   refine pure_ (i:=5) (N:=some 66) (v:=?_) (a':=?_) #[false,true,true,true,false,true,false,false,false,false,false,false,false] rfl rfl (any_of HT_.out (by kernel_rfl)) (fun _ _ _ h=>h) (Or.inl ⟨by rfl,?_⟩) ?_ ?_
                   rotate_left;(intro w';go_simp;with_reducible rfl);rotate_left;(simp only [Act.put,List.setIfInBounds_toArray,List.set_cons_zero,List.set_cons_succ,i64_w,i32_w];rfl)
                   refine pure_ (i:=8) (N:=some 69) (v:=?_) (a':=?_) #[false,true,true,true,false,true,false,false,true,false,false,false,false] rfl rfl (any_of HT_.out (by kernel_rfl)) (fun _ _ _ h=>h) (Or.inl ⟨by rfl,?_⟩) ?_ ?_
                   rotate_left;(intro w';go_simp;with_reducible rfl);rotate_left;(simp only [Act.put,List.setIfInBounds_toArray,List.set_cons_zero,List.set_cons_succ,i64_w,i32_w];rfl)
                   refine pure_ (i:=9) (N:=some 70) (v:=?_) (a':=?_) #[false,true,true,true,false,true,false,false,true,true,false,false,false] rfl rfl (any_of HT_.out (by kernel_rfl)) (fun _ _ _ h=>h) (Or.inl ⟨by rfl,?_⟩) ?_ ?_
                   rotate_left;(intro w';go_simp;with_reducible rfl);rotate_left;(simp only [Act.put,List.setIfInBounds_toArray,List.set_cons_zero,List.set_cons_succ,i64_w,i32_w];rfl)
                   refine pure_ (i:=10) (N:=some 71) (v:=?_) (a':=?_) #[false,true,true,true,false,true,false,false,true,true,true,false,false] rfl rfl (any_of HT_.out (by kernel_rfl)) (fun _ _ _ h=>h) (Or.inl ⟨by rfl,?_⟩) ?_ ?_
                   rotate_left;(intro w';go_simp;with_reducible rfl);rotate_left;(simp only [Act.put,List.setIfInBounds_toArray,List.set_cons_zero,List.set_cons_succ,i64_w,i32_w];rfl)
                   refine join_ (σ:=Value × Value × Value) 3 #[true,true,true,true,true,true,true,false,true,true,true,false,false] (fun s_=>[(61,s_.1),(65,s_.2.1),(67,s_.2.2)]) (fun s_ w'=>(Kd.V (Kd.slice 41 k41) 27 w' w.heap.size (fun k_=>some k_≠(.slice Ao68 y410.length co68 : Value).ownBlock∧some k_≠(v422 : Value).ownBlock∧some k_≠(s_.2.1 : Value).ownBlock∧some k_≠(s_.2.2 : Value).ownBlock∧some k_≠(.slice Ao29 t394.length co29 : Value).ownBlock∧some k_≠(.slice Ao17 t381.length co17 : Value).ownBlock∧k_≠gb379∧k_≠gb387) (.slice Ao28 y402.length co28) y402)∧(Kd.N (Kd.slice 41 k41) 27 w' w.heap.size (fun k_=>some k_≠(v422 : Value).ownBlock∧some k_≠(s_.2.1 : Value).ownBlock∧some k_≠(s_.2.2 : Value).ownBlock∧some k_≠(.slice Ao17 t381.length co17 : Value).ownBlock∧some k_≠(.slice Ao28 t391.length co28 : Value).ownBlock∧k_≠gb379∧k_≠gb387) (.slice Ao68 y410.length co68) y410)∧(Kd.V (Kd.slice 41 k41) 27 w' w.heap.size (fun k_=>some k_≠(.slice Ao68 y410.length co68 : Value).ownBlock∧some k_≠(v422 : Value).ownBlock∧some k_≠(s_.2.1 : Value).ownBlock∧some k_≠(s_.2.2 : Value).ownBlock∧some k_≠(.slice Ao29 t394.length co29 : Value).ownBlock∧some k_≠(.slice Ao17 t381.length co17 : Value).ownBlock∧k_≠gb379∧k_≠gb387) (.slice A60 y416.length c60) y416)∧(Kd.N (Kd.slice 41 k41) 27 w' w.heap.size (fun k_=>some k_≠(s_.2.1 : Value).ownBlock∧some k_≠(s_.2.2 : Value).ownBlock∧some k_≠(.slice Ao17 t381.length co17 : Value).ownBlock∧k_≠gb379∧k_≠gb387) v422 y421)∧(Kd.V (Kd.slice 41 k41) 27 w' w.heap.size (fun k_=>some k_≠(.slice Ao68 y410.length co68 : Value).ownBlock∧some k_≠(v422 : Value).ownBlock∧some k_≠(s_.2.1 : Value).ownBlock∧some k_≠(s_.2.2 : Value).ownBlock∧some k_≠(.slice Ao29 t394.length co29 : Value).ownBlock∧some k_≠(.slice Ao17 t381.length co17 : Value).ownBlock∧k_≠gb379∧k_≠gb387) (.slice Ao28 y427.length co28) y427)∧(Kd.N (Kd.slice 41 k41) 27 w' w.heap.size (fun k_=>some k_≠(.slice Ao68 y410.length co68 : Value).ownBlock∧some k_≠(v422 : Value).ownBlock∧some k_≠(s_.2.2 : Value).ownBlock∧some k_≠(.slice Ao29 t394.length co29 : Value).ownBlock∧some k_≠(.slice Ao17 t381.length co17 : Value).ownBlock∧k_≠gb379∧k_≠gb387) s_.2.1 y432)∧(Kd.N (Kd.slice 41 k41) 27 w' w.heap.size (fun k_=>some k_≠(.slice Ao68 y410.length co68 : Value).ownBlock∧some k_≠(v422 : Value).ownBlock∧some k_≠(s_.2.1 : Value).ownBlock∧some k_≠(.slice Ao17 t381.length co17 : Value).ownBlock∧some k_≠(.slice Ao28 t391.length co28 : Value).ownBlock∧k_≠gb379∧k_≠gb387) s_.2.2 y435)∧(Kd.V (Kd.slice 41 k41) 27 w' w.heap.size (fun k_=>some k_≠(.slice Ao68 y410.length co68 : Value).ownBlock∧some k_≠(v422 : Value).ownBlock∧some k_≠(s_.2.1 : Value).ownBlock∧some k_≠(s_.2.2 : Value).ownBlock∧some k_≠(.slice Ao29 t394.length co29 : Value).ownBlock∧some k_≠(.slice Ao17 t381.length co17 : Value).ownBlock∧k_≠gb379∧k_≠gb387) (.slice A72 y441.length c72) y441)∧(Kd.R k41 41 w' w.heap.size (fun _=>True) (.slice Ao29 t394.length co29) t394)∧(Kd.R (Kd.int .i64) 3 w' w.heap.size (fun _=>True) (.slice Ao17 t381.length co17) t381)∧(Kd.N (Kd.slice 41 k41) 27 w' w.heap.size (fun k_=>some k_≠(.slice Ao68 y410.length co68 : Value).ownBlock∧some k_≠(v422 : Value).ownBlock∧some k_≠(s_.2.1 : Value).ownBlock∧some k_≠(s_.2.2 : Value).ownBlock∧some k_≠(.slice Ao29 t394.length co29 : Value).ownBlock∧some k_≠(.slice Ao17 t381.length co17 : Value).ownBlock∧k_≠gb379∧k_≠gb387) (.slice Ao28 t391.length co28) t391)∧(w'.heap[gb379]?=some (.cells #[.int .u8 a0_0,.int .u8 a0_1,.int .u8 a0_2,.int .u8 a0_3,.int .u8 a0_4,.int .u8 a0_5,.int .u8 a0_6,.int .u8 a0_7,.int .u8 a0_8,.int .u8 a0_9,.int .u8 a0_10,.int .u8 a0_11] 24 (0,0)))∧(w'.heap[gb387]?=some (.cells #[.slice Ao17 t381.length co17,.int .i64 t384,.int .i64 t385,.int .i64 t386] 31 (0,0)))∧(Below w.heap.size w w')) ?_ ?_
                   rotate_left
                   ·
                    rename_i zz0_ zz1_ zz2_ zz3_ zz4_ zz5_ zz6_ zz7_ zz8_ zz9_ zz10_ zz11_ zz12_ zz13_ zz14_ zz15_ zz16_ zz17_ zz18_ zz19_ zz20_ zz21_ zz22_ zz23_
                    revert k a0_0 a0_1 a0_2 a0_3 a0_4 a0_5 a0_6 a0_7 a0_8 a0_9 a0_10 a0_11 A1 c1 l1 A2 c2 l2 r w hu24 hu31 HR1 HC1 HR2 HC2 t380 A4 t381 t384 t385 t386 A5 t388 A6 t391 A7 t394 A8 t397 A9 t398 A10 zz0_ gb379 w12 GW379 GE379 w13 w15 gb387 w16 GW387 GE387 NB379_387 NB387_379 Ao17 co17 hnb18 hnc18 w20 w21 zz1_ w22 Ao23 co23 zz2_ w24 zz3_ w26 Ao28 co28 Ao29 co29 w30 w32 HO383 HO390 HO393 HO396 zz4_ zz5_ zz6_ wc u17 u18 u19 u20 u21 u22 u23 u24 u25 u26 u27 u28 u29 u30 u31 u32 u33 u34 u35 u36 u37 u38 u39 u40 u41 u42 u43 u44 u45 u46 u47 u49 u50 u51 u52 u53 u54 u55 u56 u57 u58 u59 u60 u61 u62 u63 u64 u65 u66 u67 u68 u69 u70 u71 u72 u73 u74 u75 u76 u77 u78 u79 u80 u81 u82 u83 u84 u85 u86 u87 u88 u89 u90 u91 u92 u93 u94 u95 u96 u97 u98 u99 u100 u101 u102 u103 u104 u105 u106 u107 kj10 HJ10 y399 Ny399 c36b0 c36b1 c37b0 c37b1 y402 Ny402 LMc38 y407 Ny407 y410 Ny410 LMc39 y413 Ny413 c40b0 c41b0 y416 Ny416 LMc42 y421 Ny421 y424 Ny424 c43b0 c43b1 c44b0 c44b1 y427 Ny427 LMc45 y432 Ny432 y435 Ny435 LMc46 y438 Ny438 c47b0 c48b0 y441 Ny441 LMc49 y446 Ny446 y449 Ny449 LMc50 y452 Ny452 y455 Ny455 LMc51 y458 Ny458 t461 A52 t464 A53 y465 Ny465 LMc54 y468 Ny468 t471 A55 t474 A56 HC57 i059 zz7_ zz8_ hcut59 HC406 KY59 q59 i060 zz9_ zz10_ q060 A60 c60 hcut60 HC420 KY60 KA60 q60 zz11_ zz12_ zz13_ w58 zz14_ zz15_ v400 v408 w66 zz16_ Ao68 co68 v414 w67 zz17_ v422 w69 zz18_ zz19_ i071 zz20_ zz21_ hcut71 HC431 KY71 q71 i072 zz22_ zz23_ q072 A72 c72 hcut72 HC445 KY72 KA72 q72 hHeld HT_ HW_ w70 HO_9 HO_10 HO_388000 HO406 HO420 HO412 HO423 BK379 BK387 HB HO431 HO445
                    exact hp1_.out
                   rintro ⟨v425,v433,v436⟩ w78 ⟨h0_,h1_,h2_,h3_,h4_,h5_,h6_,h7_,h8_,h9_,h10_,h11_,h12_,h13_⟩
                   have n0_ : Aside0 (Kd.V (Kd.slice 41 k41) 27 w78 w.heap.size (fun k_=>some k_≠(.slice Ao68 y410.length co68 : Value).ownBlock∧some k_≠(v422 : Value).ownBlock∧some k_≠(v433 : Value).ownBlock∧some k_≠(v436 : Value).ownBlock∧some k_≠(.slice Ao29 t394.length co29 : Value).ownBlock∧some k_≠(.slice Ao17 t381.length co17 : Value).ownBlock∧k_≠gb379∧k_≠gb387) (.slice Ao28 y402.length co28) y402):=⟨h0_⟩
                   have n1_ : Aside0 (Kd.N (Kd.slice 41 k41) 27 w78 w.heap.size (fun k_=>some k_≠(v422 : Value).ownBlock∧some k_≠(v433 : Value).ownBlock∧some k_≠(v436 : Value).ownBlock∧some k_≠(.slice Ao17 t381.length co17 : Value).ownBlock∧some k_≠(.slice Ao28 t391.length co28 : Value).ownBlock∧k_≠gb379∧k_≠gb387) (.slice Ao68 y410.length co68) y410):=⟨h1_⟩
                   have n2_ : Aside0 (Kd.V (Kd.slice 41 k41) 27 w78 w.heap.size (fun k_=>some k_≠(.slice Ao68 y410.length co68 : Value).ownBlock∧some k_≠(v422 : Value).ownBlock∧some k_≠(v433 : Value).ownBlock∧some k_≠(v436 : Value).ownBlock∧some k_≠(.slice Ao29 t394.length co29 : Value).ownBlock∧some k_≠(.slice Ao17 t381.length co17 : Value).ownBlock∧k_≠gb379∧k_≠gb387) (.slice A60 y416.length c60) y416):=⟨h2_⟩
                   have n3_ : Aside0 (Kd.N (Kd.slice 41 k41) 27 w78 w.heap.size (fun k_=>some k_≠(v433 : Value).ownBlock∧some k_≠(v436 : Value).ownBlock∧some k_≠(.slice Ao17 t381.length co17 : Value).ownBlock∧k_≠gb379∧k_≠gb387) v422 y421):=⟨h3_⟩
                   have n4_ : Aside0 (Kd.V (Kd.slice 41 k41) 27 w78 w.heap.size (fun k_=>some k_≠(.slice Ao68 y410.length co68 : Value).ownBlock∧some k_≠(v422 : Value).ownBlock∧some k_≠(v433 : Value).ownBlock∧some k_≠(v436 : Value).ownBlock∧some k_≠(.slice Ao29 t394.length co29 : Value).ownBlock∧some k_≠(.slice Ao17 t381.length co17 : Value).ownBlock∧k_≠gb379∧k_≠gb387) (.slice Ao28 y427.length co28) y427):=⟨h4_⟩
                   have n5_ : Aside0 (Kd.N (Kd.slice 41 k41) 27 w78 w.heap.size (fun k_=>some k_≠(.slice Ao68 y410.length co68 : Value).ownBlock∧some k_≠(v422 : Value).ownBlock∧some k_≠(v436 : Value).ownBlock∧some k_≠(.slice Ao29 t394.length co29 : Value).ownBlock∧some k_≠(.slice Ao17 t381.length co17 : Value).ownBlock∧k_≠gb379∧k_≠gb387) v433 y432):=⟨h5_⟩
                   have n6_ : Aside0 (Kd.N (Kd.slice 41 k41) 27 w78 w.heap.size (fun k_=>some k_≠(.slice Ao68 y410.length co68 : Value).ownBlock∧some k_≠(v422 : Value).ownBlock∧some k_≠(v433 : Value).ownBlock∧some k_≠(.slice Ao17 t381.length co17 : Value).ownBlock∧some k_≠(.slice Ao28 t391.length co28 : Value).ownBlock∧k_≠gb379∧k_≠gb387) v436 y435):=⟨h6_⟩
                   have n7_ : Aside0 (Kd.V (Kd.slice 41 k41) 27 w78 w.heap.size (fun k_=>some k_≠(.slice Ao68 y410.length co68 : Value).ownBlock∧some k_≠(v422 : Value).ownBlock∧some k_≠(v433 : Value).ownBlock∧some k_≠(v436 : Value).ownBlock∧some k_≠(.slice Ao29 t394.length co29 : Value).ownBlock∧some k_≠(.slice Ao17 t381.length co17 : Value).ownBlock∧k_≠gb379∧k_≠gb387) (.slice A72 y441.length c72) y441):=⟨h7_⟩
                   have n8_ : Aside0 (Kd.R k41 41 w78 w.heap.size (fun _=>True) (.slice Ao29 t394.length co29) t394):=⟨h8_⟩
                   have n9_ : Aside0 (Kd.R (Kd.int .i64) 3 w78 w.heap.size (fun _=>True) (.slice Ao17 t381.length co17) t381):=⟨h9_⟩
                   have n10_ : Aside0 (Kd.N (Kd.slice 41 k41) 27 w78 w.heap.size (fun k_=>some k_≠(.slice Ao68 y410.length co68 : Value).ownBlock∧some k_≠(v422 : Value).ownBlock∧some k_≠(v433 : Value).ownBlock∧some k_≠(v436 : Value).ownBlock∧some k_≠(.slice Ao29 t394.length co29 : Value).ownBlock∧some k_≠(.slice Ao17 t381.length co17 : Value).ownBlock∧k_≠gb379∧k_≠gb387) (.slice Ao28 t391.length co28) t391):=⟨h10_⟩
                   have n11_ : Aside0 (w78.heap[gb379]?=some (.cells #[.int .u8 a0_0,.int .u8 a0_1,.int .u8 a0_2,.int .u8 a0_3,.int .u8 a0_4,.int .u8 a0_5,.int .u8 a0_6,.int .u8 a0_7,.int .u8 a0_8,.int .u8 a0_9,.int .u8 a0_10,.int .u8 a0_11] 24 (0,0))):=⟨h11_⟩
                   have n12_ : Aside0 (w78.heap[gb387]?=some (.cells #[.slice Ao17 t381.length co17,.int .i64 t384,.int .i64 t385,.int .i64 t386] 31 (0,0))):=⟨h12_⟩
                   have n13_ : Aside0 (Below w.heap.size w w78):=⟨h13_⟩
                   clear HO_9
                   clear HO_10
                   clear HO_388000
                   clear HO406
                   clear HO420
                   clear HO412
                   clear HO423
                   clear BK379
                   clear BK387
                   clear HB
                   clear h0_ h1_ h2_ h3_ h4_ h5_ h6_ h7_ h8_ h9_ h10_ h11_ h12_ h13_
                   have HO406:=n0_
                   have HO412:=n1_
                   have HO420:=n2_
                   have HO423:=n3_
                   have HO431:=n4_
                   have HO434:=n5_
                   have HO437:=n6_
                   have HO445:=n7_
                   have HO_10:=n8_
                   have HO_388000:=n9_
                   have HO_9:=n10_
                   have BK379:=n11_
                   have BK387:=n12_
                   have HB:=n13_
                   clear n0_ n1_ n2_ n3_ n4_ n5_ n6_ n7_ n8_ n9_ n10_ n11_ n12_ n13_
                   have hHeld:=trivial
                   obtain ⟨Ao80,co80,eo80⟩:=Kd.N_slice HO437.out
                   (first|subst eo80|(injection eo80 with f1_ f2_ f3_;have f4_:=f1_.symm;have f5_:=f3_.symm;clear f1_ f2_ f3_;subst f4_;subst f5_))
                   refine norm_ (a':=?_) ?_ ?_
                   rotate_left
                   ·simp only [putAll,Act.put,List.setIfInBounds_toArray,List.set_cons_zero,List.set_cons_succ]
                    rfl
                   refine one_ (i:=7) (N:=some 68) #[true,true,true,true,true,true,true,true,true,true,true,false,false] rfl rfl (one_of HT_.out (by kernel_rfl)) (by decide) (fun K hK=>?_)
                   refine Kd.N_append_rows_step (Kd.slice 41 k41) (w0:=w) w.heap.size (by rfl) (.tmp 65) (.tmp 67) 25 27 (.slice none 0 0) 24 rfl Try.underlying25 info27 rfl (by decide) (by omega) v433 y432 y435 _ _ _ (fun k_=>some k_≠(.slice Ao17 t381.length co17 : Value).ownBlock∧some k_≠(.slice Ao68 y410.length co68 : Value).ownBlock∧some k_≠(v422 : Value).ownBlock∧k_≠gb379∧k_≠gb387) (fun k_=>((fun k_=>some k_≠(.slice Ao17 t381.length co17 : Value).ownBlock∧some k_≠(.slice Ao68 y410.length co68 : Value).ownBlock∧some k_≠(v422 : Value).ownBlock∧k_≠gb379∧k_≠gb387)) k_∧some k_≠(v433 : Value).ownBlock) rfl rfl ?aO ?aR (fun _ hk=>hk) ?aF ?aB ?aS ?aL ?_
                   (case aR=>exact (by skip;exact Kd.N_F (Kd.N_mono (ok':=(fun k_=>((fun k_=>some k_≠(.slice Ao17 t381.length co17 : Value).ownBlock∧some k_≠(.slice Ao68 y410.length co68 : Value).ownBlock∧some k_≠(v422 : Value).ownBlock∧k_≠gb379∧k_≠gb387)) k_∧some k_≠(v433 : Value).ownBlock)) (HO437.out) (fun k_ hk=>⟨⟨hk.2.2.2.1,⟨hk.1,⟨hk.2.1,⟨hk.2.2.2.2.2.1,hk.2.2.2.2.2.2⟩⟩⟩⟩,hk.2.2.1⟩))))
                   (case aB=>exact (below_go HB.out))
                   (case aF=>exact (fun k_ hk=>⟨Kd.fresh' (Kd.R_lt (R_up HO_388000.out)) k_ hk,Kd.fresh' (Kd.N_lt (N_up HO412.out)) k_ hk,Kd.fresh' (Kd.N_lt (N_up HO423.out)) k_ hk,Kd.freshB (blk_up BK379.out) k_ hk,Kd.freshB (blk_up BK387.out) k_ hk⟩))
                   (case aO=>exact (N_upm HO434.out (fun _ hk=>⟨hk.2.2.2.2.1,⟨hk.1,⟨hk.2.1,⟨hk.2.2.2.2.2.1,hk.2.2.2.2.2.2⟩⟩⟩⟩)))
                   (case aS=>exact (below_size (below_go HB.out)))
                   (case aL=>have:=LMc46.out;omega)
                   intro v439 w79 ho hb hg hat
                   rw [← Ny438.out] at ho
                   have n0_:=Aside0.mk (Kd.N_afterv (ok:=(fun k_=>some k_≠(.slice Ao29 t394.length co29 : Value).ownBlock∧some k_≠(.slice Ao17 t381.length co17 : Value).ownBlock∧some k_≠(.slice Ao68 y410.length co68 : Value).ownBlock∧some k_≠(v422 : Value).ownBlock∧some k_≠(.slice Ao80 y435.length co80 : Value).ownBlock∧k_≠gb379∧k_≠gb387)) (N_upm HO_9.out (fun _ hk=>⟨⟨hk.2.2.2.2.1,⟨hk.2.2.2.2.2.1,⟨hk.1,⟨hk.2.1,⟨hk.2.2.2.1,⟨hk.2.2.2.2.2.2.1,hk.2.2.2.2.2.2.2⟩⟩⟩⟩⟩⟩,hk.2.2.1⟩)) hg hat)
                   have n1_:=Aside0.mk (Kd.R_over' (R_up HO_10.out) (Kd.N_typed (N_up HO434.out)) (by decide) hg)
                   have n2_:=Aside0.mk (Kd.R_over' (R_up HO_388000.out) (Kd.N_typed (N_up HO434.out)) (by decide) hg)
                   have n3_:=Aside0.mk (blk_grown (blk_up BK379.out) hg (Kd.N_ne HO434.out BK379.out (by decide)))
                   have n4_:=Aside0.mk (blk_grown (blk_up BK387.out) hg (Kd.N_ne HO434.out BK387.out (by decide)))
                   have n5_:=Aside0.mk (Kd.V_afterv (ok:=(fun k_=>some k_≠(.slice Ao29 t394.length co29 : Value).ownBlock∧some k_≠(.slice Ao17 t381.length co17 : Value).ownBlock∧some k_≠(.slice Ao68 y410.length co68 : Value).ownBlock∧some k_≠(v422 : Value).ownBlock∧some k_≠(.slice Ao80 y435.length co80 : Value).ownBlock∧k_≠gb379∧k_≠gb387)) (V_upm HO406.out (fun _ hk=>⟨⟨hk.2.2.2.2.1,⟨hk.2.2.2.2.2.1,⟨hk.1,⟨hk.2.1,⟨hk.2.2.2.1,⟨hk.2.2.2.2.2.2.1,hk.2.2.2.2.2.2.2⟩⟩⟩⟩⟩⟩,hk.2.2.1⟩)) hg hat)
                   have n6_:=Aside0.mk (Kd.V_afterv (ok:=(fun k_=>some k_≠(.slice Ao29 t394.length co29 : Value).ownBlock∧some k_≠(.slice Ao17 t381.length co17 : Value).ownBlock∧some k_≠(.slice Ao68 y410.length co68 : Value).ownBlock∧some k_≠(v422 : Value).ownBlock∧some k_≠(.slice Ao80 y435.length co80 : Value).ownBlock∧k_≠gb379∧k_≠gb387)) (V_upm HO420.out (fun _ hk=>⟨⟨hk.2.2.2.2.1,⟨hk.2.2.2.2.2.1,⟨hk.1,⟨hk.2.1,⟨hk.2.2.2.1,⟨hk.2.2.2.2.2.2.1,hk.2.2.2.2.2.2.2⟩⟩⟩⟩⟩⟩,hk.2.2.1⟩)) hg hat)
                   have n7_:=Aside0.mk (Kd.N_afterv (ok:=(fun k_=>some k_≠(.slice Ao28 t391.length co28 : Value).ownBlock∧some k_≠(.slice Ao17 t381.length co17 : Value).ownBlock∧some k_≠(v422 : Value).ownBlock∧some k_≠(.slice Ao80 y435.length co80 : Value).ownBlock∧k_≠gb379∧k_≠gb387)) (N_upm HO412.out (fun _ hk=>⟨⟨hk.2.2.2.2.1,⟨hk.2.2.2.1,⟨hk.1,⟨hk.2.2.1,⟨hk.2.2.2.2.2.1,hk.2.2.2.2.2.2⟩⟩⟩⟩⟩,hk.2.1⟩)) hg hat)
                   have n8_:=Aside0.mk (Kd.N_afterv (ok:=(fun k_=>some k_≠(.slice Ao17 t381.length co17 : Value).ownBlock∧some k_≠(.slice Ao80 y435.length co80 : Value).ownBlock∧k_≠gb379∧k_≠gb387)) (N_upm HO423.out (fun _ hk=>⟨⟨hk.2.2.1,⟨hk.2.1,⟨hk.2.2.2.1,hk.2.2.2.2⟩⟩⟩,hk.1⟩)) hg hat)
                   have n9_:=Aside0.mk (Kd.V_afterv (ok:=(fun k_=>some k_≠(.slice Ao29 t394.length co29 : Value).ownBlock∧some k_≠(.slice Ao17 t381.length co17 : Value).ownBlock∧some k_≠(.slice Ao68 y410.length co68 : Value).ownBlock∧some k_≠(v422 : Value).ownBlock∧some k_≠(.slice Ao80 y435.length co80 : Value).ownBlock∧k_≠gb379∧k_≠gb387)) (V_upm HO431.out (fun _ hk=>⟨⟨hk.2.2.2.2.1,⟨hk.2.2.2.2.2.1,⟨hk.1,⟨hk.2.1,⟨hk.2.2.2.1,⟨hk.2.2.2.2.2.2.1,hk.2.2.2.2.2.2.2⟩⟩⟩⟩⟩⟩,hk.2.2.1⟩)) hg hat)
                   have n10_:=Aside0.mk (Kd.V_afterv (ok:=(fun k_=>some k_≠(.slice Ao29 t394.length co29 : Value).ownBlock∧some k_≠(.slice Ao17 t381.length co17 : Value).ownBlock∧some k_≠(.slice Ao68 y410.length co68 : Value).ownBlock∧some k_≠(v422 : Value).ownBlock∧some k_≠(.slice Ao80 y435.length co80 : Value).ownBlock∧k_≠gb379∧k_≠gb387)) (V_upm HO445.out (fun _ hk=>⟨⟨hk.2.2.2.2.1,⟨hk.2.2.2.2.2.1,⟨hk.1,⟨hk.2.1,⟨hk.2.2.2.1,⟨hk.2.2.2.2.2.2.1,hk.2.2.2.2.2.2.2⟩⟩⟩⟩⟩⟩,hk.2.2.1⟩)) hg hat)
                   have n11_:=Aside0.mk (Kd.N_afterv (ok:=(fun k_=>some k_≠(.slice Ao28 t391.length co28 : Value).ownBlock∧some k_≠(.slice Ao17 t381.length co17 : Value).ownBlock∧some k_≠(.slice Ao68 y410.length co68 : Value).ownBlock∧some k_≠(v422 : Value).ownBlock∧k_≠gb379∧k_≠gb387)) (N_upm HO437.out (fun _ hk=>⟨⟨hk.2.2.2.2.1,⟨hk.2.2.2.1,⟨hk.1,⟨hk.2.1,⟨hk.2.2.2.2.2.1,hk.2.2.2.2.2.2⟩⟩⟩⟩⟩,hk.2.2.1⟩)) hg hat)
                   have n12_:=Aside0.mk (hb)
                   have n13_:=Aside0.mk (ho)
                   clear HO_9
                   clear HO_10
                   clear HO_388000
                   clear BK379
                   clear BK387
                   clear HO406
                   clear HO420
                   clear HO412
                   clear HO423
                   clear HO431
                   clear HO445
                   clear HO437
                   clear HB
                   clear HO434
                   have HO_9:=n0_
                   have HO_10:=n1_
                   have HO_388000:=n2_
                   have BK379:=n3_
                   have BK387:=n4_
                   have HO406:=n5_
                   have HO420:=n6_
                   have HO412:=n7_
                   have HO423:=n8_
                   have HO431:=n9_
                   have HO445:=n10_
                   have HO437:=n11_
                   have HB:=n12_
                   have HO440:=n13_
                   clear n0_ n1_ n2_ n3_ n4_ n5_ n6_ n7_ n8_ n9_ n10_ n11_ n12_ n13_
                   clear ho hb hg hat
                   refine hK.out _ _ trivial (fun hHeld=>?_)
                   clear hK K
                   refine norm_ (a':=?_) ?_ ?_
                   rotate_left
                   ·show Act.put _ (some 68) _=_
                    simp only [Act.put,List.setIfInBounds_toArray,List.set_cons_zero,List.set_cons_succ,i64_w,i32_w]
                    rfl
                   refine one_ (i:=11) (N:=some 72) #[true,true,true,true,true,true,true,true,true,true,true,true,false] rfl rfl (one_of HT_.out (by kernel_rfl)) (by decide) (fun K hK=>?_)
                   refine Kd.N_append_rows_step (Kd.slice 41 k41) (w0:=w) w.heap.size (by rfl) (.tmp 68) (.tmp 71) 25 27 (.slice none 0 0) 24 rfl Try.underlying25 info27 rfl (by decide) (by omega) v439 y438 y441 _ _ _ (fun k_=>some k_≠(.slice Ao17 t381.length co17 : Value).ownBlock∧some k_≠(.slice Ao68 y410.length co68 : Value).ownBlock∧some k_≠(v422 : Value).ownBlock∧k_≠gb379∧k_≠gb387) (fun k_=>((fun k_=>some k_≠(.slice Ao17 t381.length co17 : Value).ownBlock∧some k_≠(.slice Ao68 y410.length co68 : Value).ownBlock∧some k_≠(v422 : Value).ownBlock∧k_≠gb379∧k_≠gb387)) k_∧some k_≠(v439 : Value).ownBlock) rfl rfl ?aO ?aR (fun _ hk=>hk) ?aF ?aB ?aS ?aL ?_
                   (case aR=>exact (by skip;exact Kd.V_F (Kd.V_mono (ok':=(fun k_=>((fun k_=>some k_≠(.slice Ao17 t381.length co17 : Value).ownBlock∧some k_≠(.slice Ao68 y410.length co68 : Value).ownBlock∧some k_≠(v422 : Value).ownBlock∧k_≠gb379∧k_≠gb387)) k_∧some k_≠(v439 : Value).ownBlock)) (HO445.out) (fun k_ hk=>⟨⟨hk.1.2.1,⟨hk.1.2.2.1,⟨hk.1.2.2.2.1,⟨hk.1.2.2.2.2.2.1,hk.1.2.2.2.2.2.2⟩⟩⟩⟩,hk.2⟩))))
                   (case aB=>exact (below_go HB.out))
                   (case aF=>exact (fun k_ hk=>⟨Kd.fresh' (Kd.R_lt (R_up HO_388000.out)) k_ hk,Kd.fresh' (Kd.N_lt (N_up HO412.out)) k_ hk,Kd.fresh' (Kd.N_lt (N_up HO423.out)) k_ hk,Kd.freshB (blk_up BK379.out) k_ hk,Kd.freshB (blk_up BK387.out) k_ hk⟩))
                   (case aO=>exact (N_up HO440.out))
                   (case aS=>exact (below_size (below_go HB.out)))
                   (case aL=>have:=LMc49.out;omega)
                   intro v447 w81 ho hb hg hat
                   rw [← Ny446.out] at ho
                   have n0_:=Aside0.mk (Kd.N_afterv (ok:=(fun k_=>some k_≠(.slice Ao29 t394.length co29 : Value).ownBlock∧some k_≠(.slice Ao17 t381.length co17 : Value).ownBlock∧some k_≠(.slice Ao68 y410.length co68 : Value).ownBlock∧some k_≠(v422 : Value).ownBlock∧some k_≠(.slice Ao80 y435.length co80 : Value).ownBlock∧k_≠gb379∧k_≠gb387)) (N_up HO_9.out) hg hat)
                   have n1_:=Aside0.mk (Kd.R_over' (R_up HO_10.out) (Kd.N_typed (N_up HO440.out)) (by decide) hg)
                   have n2_:=Aside0.mk (Kd.R_over' (R_up HO_388000.out) (Kd.N_typed (N_up HO440.out)) (by decide) hg)
                   have n3_:=Aside0.mk (blk_grown (blk_up BK379.out) hg (Kd.N_ne HO440.out BK379.out (by decide)))
                   have n4_:=Aside0.mk (blk_grown (blk_up BK387.out) hg (Kd.N_ne HO440.out BK387.out (by decide)))
                   have n5_:=Aside0.mk (Kd.V_afterv (ok:=(fun k_=>some k_≠(.slice Ao29 t394.length co29 : Value).ownBlock∧some k_≠(.slice Ao17 t381.length co17 : Value).ownBlock∧some k_≠(.slice Ao68 y410.length co68 : Value).ownBlock∧some k_≠(v422 : Value).ownBlock∧some k_≠(.slice Ao80 y435.length co80 : Value).ownBlock∧k_≠gb379∧k_≠gb387)) (V_up HO406.out) hg hat)
                   have n6_:=Aside0.mk (Kd.V_afterv (ok:=(fun k_=>some k_≠(.slice Ao29 t394.length co29 : Value).ownBlock∧some k_≠(.slice Ao17 t381.length co17 : Value).ownBlock∧some k_≠(.slice Ao68 y410.length co68 : Value).ownBlock∧some k_≠(v422 : Value).ownBlock∧some k_≠(.slice Ao80 y435.length co80 : Value).ownBlock∧k_≠gb379∧k_≠gb387)) (V_up HO420.out) hg hat)
                   have n7_:=Aside0.mk (Kd.N_afterv (ok:=(fun k_=>some k_≠(.slice Ao28 t391.length co28 : Value).ownBlock∧some k_≠(.slice Ao17 t381.length co17 : Value).ownBlock∧some k_≠(v422 : Value).ownBlock∧some k_≠(.slice Ao80 y435.length co80 : Value).ownBlock∧k_≠gb379∧k_≠gb387)) (N_up HO412.out) hg hat)
                   have n8_:=Aside0.mk (Kd.N_afterv (ok:=(fun k_=>some k_≠(.slice Ao17 t381.length co17 : Value).ownBlock∧some k_≠(.slice Ao80 y435.length co80 : Value).ownBlock∧k_≠gb379∧k_≠gb387)) (N_up HO423.out) hg hat)
                   have n9_:=Aside0.mk (Kd.V_afterv (ok:=(fun k_=>some k_≠(.slice Ao29 t394.length co29 : Value).ownBlock∧some k_≠(.slice Ao17 t381.length co17 : Value).ownBlock∧some k_≠(.slice Ao68 y410.length co68 : Value).ownBlock∧some k_≠(v422 : Value).ownBlock∧some k_≠(.slice Ao80 y435.length co80 : Value).ownBlock∧k_≠gb379∧k_≠gb387)) (V_up HO431.out) hg hat)
                   have n10_:=Aside0.mk (Kd.V_afterv (ok:=(fun k_=>some k_≠(.slice Ao29 t394.length co29 : Value).ownBlock∧some k_≠(.slice Ao17 t381.length co17 : Value).ownBlock∧some k_≠(.slice Ao68 y410.length co68 : Value).ownBlock∧some k_≠(v422 : Value).ownBlock∧some k_≠(.slice Ao80 y435.length co80 : Value).ownBlock∧k_≠gb379∧k_≠gb387)) (V_up HO445.out) hg hat)
                   have n11_:=Aside0.mk (Kd.N_afterv (ok:=(fun k_=>some k_≠(.slice Ao28 t391.length co28 : Value).ownBlock∧some k_≠(.slice Ao17 t381.length co17 : Value).ownBlock∧some k_≠(.slice Ao68 y410.length co68 : Value).ownBlock∧some k_≠(v422 : Value).ownBlock∧k_≠gb379∧k_≠gb387)) (N_up HO437.out) hg hat)
                   have n12_:=Aside0.mk (hb)
                   have n13_:=Aside0.mk (ho)
                   clear HO_9
                   clear HO_10
                   clear HO_388000
                   clear BK379
                   clear BK387
                   clear HO406
                   clear HO420
                   clear HO412
                   clear HO423
                   clear HO431
                   clear HO445
                   clear HO437
                   clear HB
                   clear HO440
                   have HO_9:=n0_
                   have HO_10:=n1_
                   have HO_388000:=n2_
                   have BK379:=n3_
                   have BK387:=n4_
                   have HO406:=n5_
                   have HO420:=n6_
                   have HO412:=n7_
                   have HO423:=n8_
                   have HO431:=n9_
                   have HO445:=n10_
                   have HO437:=n11_
                   have HB:=n12_
                   have HO448:=n13_
                   clear n0_ n1_ n2_ n3_ n4_ n5_ n6_ n7_ n8_ n9_ n10_ n11_ n12_ n13_
                   clear ho hb hg hat
                   refine hK.out _ _ trivial (fun hHeld=>?_)
                   clear hK K
                   refine norm_ (a':=?_) ?_ ?_
                   rotate_left
                   ·show Act.put _ (some 72) _=_
                    simp only [Act.put,List.setIfInBounds_toArray,List.set_cons_zero,List.set_cons_succ,i64_w,i32_w]
                    rfl
                   refine pure_ (i:=12) (N:=some 14) (v:=?_) (a':=?_) #[true,true,true,true,true,true,true,true,true,true,true,true,true] rfl rfl (any_of HT_.out (by kernel_rfl)) (fun _ _ _ h=>h) (Or.inl ⟨by rfl,?_⟩) ?_ ?_
                   rotate_left;(intro w';go_simp;with_reducible rfl);rotate_left;(simp only [Act.put,List.setIfInBounds_toArray,List.set_cons_zero,List.set_cons_succ,i64_w,i32_w];rfl)
                   refine done_ (done_of HT_.out (by kernel_rfl)) ?_
                   (try clear hHeld)
                   obtain ⟨Ao82,co82,eo82⟩:=Kd.N_slice HO423.out
                   subst eo82
                   try go_wp2
                   have n0_:=Aside0.mk (Kd.N_drew HO_9.out)
                   have n1_:=Aside0.mk (Kd.R_drew HO_10.out)
                   have n2_:=Aside0.mk (Kd.R_drew HO_388000.out)
                   have n3_:=Aside0.mk (Kd.V_drew HO406.out)
                   have n4_:=Aside0.mk (Kd.V_drew HO420.out)
                   have n5_:=Aside0.mk (Kd.N_drew HO412.out)
                   have n6_:=Aside0.mk (Kd.N_drew HO423.out)
                   have n7_:=Aside0.mk (Kd.V_drew HO431.out)
                   have n8_:=Aside0.mk (Kd.V_drew HO445.out)
                   have n9_:=Aside0.mk (Kd.N_drew HO437.out)
                   have n10_:=Aside0.mk (Kd.N_drew HO448.out)
                   have n11_:=Aside0.mk (blk_drew BK379.out)
                   have n12_:=Aside0.mk (blk_drew BK387.out)
                   have n13_:=Aside0.mk (below_drew1 HB.out)
                   clear HO_9
                   clear HO_10
                   clear HO_388000
                   clear HO406
                   clear HO420
                   clear HO412
                   clear HO423
                   clear HO431
                   clear HO445
                   clear HO437
                   clear HO448
                   clear BK379
                   clear BK387
                   clear HB
                   have HO_9:=n0_
                   have HO_10:=n1_
                   have HO_388000:=n2_
                   have HO406:=n3_
                   have HO420:=n4_
                   have HO412:=n5_
                   have HO423:=n6_
                   have HO431:=n7_
                   have HO445:=n8_
                   have HO437:=n9_
                   have HO448:=n10_
                   have BK379:=n11_
                   have BK387:=n12_
                   have HB:=n13_
                   clear n0_ n1_ n2_ n3_ n4_ n5_ n6_ n7_ n8_ n9_ n10_ n11_ n12_ n13_
                   refine start_ (n:=11) (S:=fun w'=>w'.cell? ⟨gb387,0,none⟩=some (.slice Ao17 t381.length co17)∧w'.cell? ⟨gb387,1,none⟩=some (.int .i64 t384)∧w'.cell? ⟨gb387,2,none⟩=some (.int .i64 t385)∧w'.cell? ⟨gb387,3,none⟩=some (.int .i64 t386)) (ds:=[]) #[false,false,false,false,false,false,false,false,false,false,false] (by kernel_rfl) rfl rfl ⟨(blk_cell BK387.out 0).trans rfl,(blk_cell BK387.out 1).trans rfl,(blk_cell BK387.out 2).trans rfl,(blk_cell BK387.out 3).trans rfl⟩ (fun hHeld=>?_);refine with_tabW thresherlaw09_OrderPlaces.tab11 thresherlaw09_OrderPlaces.bits11 (fun HT_ HW_=>?_)
                   generalize w81.drew=w83 at HO_9 HO_10 HO_388000 HO406 HO420 HO412 HO423 HO431 HO445 HO437 HO448 BK379 BK387 HB hHeld ⊢
                   refine pure_ (i:=2) (N:=some 75) (v:=?_) (a':=?_) #[false,false,true,false,false,false,false,false,false,false,false] rfl rfl (any_of HT_.out (by kernel_rfl)) (fun _ _ _ h=>h) (Or.inl ⟨by rfl,?_⟩) ?_ ?_
                   rotate_left;(intro w';go_simp;with_reducible rfl);rotate_left;(simp only [Act.put,List.setIfInBounds_toArray,List.set_cons_zero,List.set_cons_succ,i64_w,i32_w];rfl)
                   refine pure_ (i:=4) (N:=some 77) (v:=?_) (a':=?_) #[false,false,true,false,true,false,false,false,false,false,false] rfl rfl (any_of HT_.out (by kernel_rfl)) (fun _ _ _ h=>h) (Or.inl ⟨by rfl,?_⟩) ?_ ?_
                   rotate_left;(intro w';go_simp;with_reducible rfl);rotate_left;(simp only [Act.put,List.setIfInBounds_toArray,List.set_cons_zero,List.set_cons_succ,i64_w,i32_w];rfl)
                   refine pure_ (i:=8) (N:=some 81) (v:=?_) (a':=?_) #[false,false,true,false,true,false,false,false,true,false,false] rfl rfl (any_of HT_.out (by kernel_rfl)) (fun _ _ _ h=>h) (Or.inl ⟨by rfl,?_⟩) ?_ ?_
                   rotate_left;(intro w';go_simp;with_reducible rfl);rotate_left;(simp only [Act.put,List.setIfInBounds_toArray,List.set_cons_zero,List.set_cons_succ,i64_w,i32_w];rfl)
                   refine take_ (i:=0) (N:=some 73) (v:=?_) (a':=?_) #[true,false,true,false,true,false,false,false,true,false,false] rfl rfl (take_ofW HT_.out HW_.out (by kernel_rfl)) (fun _ _ _ h=>h) (Or.inl ⟨by rfl,?_⟩) hHeld ?_ ?_
                   rotate_left;(rintro w' ⟨s0,s1,s2,s3⟩;go_simp;with_reducible rfl);rotate_left;(simp only [Act.put,List.setIfInBounds_toArray,List.set_cons_zero,List.set_cons_succ,i64_w,i32_w];rfl)
                   refine join_ (σ:=Value × Value × Value) 4 #[true,true,true,true,true,true,false,false,true,false,false] (fun s_=>[(74,s_.1),(76,s_.2.1),(78,s_.2.2)]) (fun s_ w'=>(w'.cell? ⟨gb387,0,none⟩=some (.slice Ao17 t381.length co17)∧w'.cell? ⟨gb387,1,none⟩=some (.int .i64 t384)∧w'.cell? ⟨gb387,2,none⟩=some (.int .i64 t385)∧w'.cell? ⟨gb387,3,none⟩=some (.int .i64 t386))∧(Kd.V (Kd.slice 41 k41) 27 w' w.heap.size (fun k_=>some k_≠(.slice Ao68 y410.length co68 : Value).ownBlock∧some k_≠(.slice Ao82 y421.length co82 : Value).ownBlock∧some k_≠(.slice Ao80 y435.length co80 : Value).ownBlock∧some k_≠(v447 : Value).ownBlock∧some k_≠(s_.2.1 : Value).ownBlock∧some k_≠(s_.2.2 : Value).ownBlock∧some k_≠(.slice Ao29 t394.length co29 : Value).ownBlock∧some k_≠(.slice Ao17 t381.length co17 : Value).ownBlock∧k_≠gb379∧k_≠gb387) (.slice Ao28 y402.length co28) y402)∧(Kd.N (Kd.slice 41 k41) 27 w' w.heap.size (fun k_=>some k_≠(.slice Ao82 y421.length co82 : Value).ownBlock∧some k_≠(.slice Ao80 y435.length co80 : Value).ownBlock∧some k_≠(v447 : Value).ownBlock∧some k_≠(s_.2.1 : Value).ownBlock∧some k_≠(s_.2.2 : Value).ownBlock∧some k_≠(.slice Ao17 t381.length co17 : Value).ownBlock∧some k_≠(.slice Ao28 t391.length co28 : Value).ownBlock∧k_≠gb379∧k_≠gb387) (.slice Ao68 y410.length co68) y410)∧(Kd.V (Kd.slice 41 k41) 27 w' w.heap.size (fun k_=>some k_≠(.slice Ao68 y410.length co68 : Value).ownBlock∧some k_≠(.slice Ao82 y421.length co82 : Value).ownBlock∧some k_≠(.slice Ao80 y435.length co80 : Value).ownBlock∧some k_≠(v447 : Value).ownBlock∧some k_≠(s_.2.1 : Value).ownBlock∧some k_≠(s_.2.2 : Value).ownBlock∧some k_≠(.slice Ao29 t394.length co29 : Value).ownBlock∧some k_≠(.slice Ao17 t381.length co17 : Value).ownBlock∧k_≠gb379∧k_≠gb387) (.slice A60 y416.length c60) y416)∧(Kd.N (Kd.slice 41 k41) 27 w' w.heap.size (fun k_=>some k_≠(.slice Ao80 y435.length co80 : Value).ownBlock∧some k_≠(v447 : Value).ownBlock∧some k_≠(s_.2.1 : Value).ownBlock∧some k_≠(s_.2.2 : Value).ownBlock∧some k_≠(.slice Ao17 t381.length co17 : Value).ownBlock∧k_≠gb379∧k_≠gb387) (.slice Ao82 y421.length co82) y421)∧(Kd.V (Kd.slice 41 k41) 27 w' w.heap.size (fun k_=>some k_≠(.slice Ao68 y410.length co68 : Value).ownBlock∧some k_≠(.slice Ao82 y421.length co82 : Value).ownBlock∧some k_≠(.slice Ao80 y435.length co80 : Value).ownBlock∧some k_≠(v447 : Value).ownBlock∧some k_≠(s_.2.1 : Value).ownBlock∧some k_≠(s_.2.2 : Value).ownBlock∧some k_≠(.slice Ao29 t394.length co29 : Value).ownBlock∧some k_≠(.slice Ao17 t381.length co17 : Value).ownBlock∧k_≠gb379∧k_≠gb387) (.slice Ao28 y427.length co28) y427)∧(Kd.N (Kd.slice 41 k41) 27 w' w.heap.size (fun k_=>some k_≠(.slice Ao68 y410.length co68 : Value).ownBlock∧some k_≠(.slice Ao82 y421.length co82 : Value).ownBlock∧some k_≠(v447 : Value).ownBlock∧some k_≠(s_.2.1 : Value).ownBlock∧some k_≠(s_.2.2 : Value).ownBlock∧some k_≠(.slice Ao17 t381.length co17 : Value).ownBlock∧some k_≠(.slice Ao28 t391.length co28 : Value).ownBlock∧k_≠gb379∧k_≠gb387) (.slice Ao80 y435.length co80) y435)∧(Kd.V (Kd.slice 41 k41) 27 w' w.heap.size (fun k_=>some k_≠(.slice Ao68 y410.length co68 : Value).ownBlock∧some k_≠(.slice Ao82 y421.length co82 : Value).ownBlock∧some k_≠(.slice Ao80 y435.length co80 : Value).ownBlock∧some k_≠(v447 : Value).ownBlock∧some k_≠(s_.2.1 : Value).ownBlock∧some k_≠(s_.2.2 : Value).ownBlock∧some k_≠(.slice Ao29 t394.length co29 : Value).ownBlock∧some k_≠(.slice Ao17 t381.length co17 : Value).ownBlock∧k_≠gb379∧k_≠gb387) (.slice A72 y441.length c72) y441)∧(Kd.N (Kd.slice 41 k41) 27 w' w.heap.size (fun k_=>some k_≠(.slice Ao68 y410.length co68 : Value).ownBlock∧some k_≠(.slice Ao82 y421.length co82 : Value).ownBlock∧some k_≠(s_.2.1 : Value).ownBlock∧some k_≠(s_.2.2 : Value).ownBlock∧some k_≠(.slice Ao17 t381.length co17 : Value).ownBlock∧k_≠gb379∧k_≠gb387) v447 y446)∧(Kd.N (Kd.slice 41 k41) 27 w' w.heap.size (fun k_=>some k_≠(.slice Ao68 y410.length co68 : Value).ownBlock∧some k_≠(.slice Ao82 y421.length co82 : Value).ownBlock∧some k_≠(.slice Ao80 y435.length co80 : Value).ownBlock∧some k_≠(v447 : Value).ownBlock∧some k_≠(s_.2.2 : Value).ownBlock∧some k_≠(.slice Ao29 t394.length co29 : Value).ownBlock∧some k_≠(.slice Ao17 t381.length co17 : Value).ownBlock∧k_≠gb379∧k_≠gb387) s_.2.1 y452)∧(Kd.N (Kd.slice 41 k41) 27 w' w.heap.size (fun k_=>some k_≠(.slice Ao68 y410.length co68 : Value).ownBlock∧some k_≠(.slice Ao82 y421.length co82 : Value).ownBlock∧some k_≠(.slice Ao80 y435.length co80 : Value).ownBlock∧some k_≠(v447 : Value).ownBlock∧some k_≠(s_.2.1 : Value).ownBlock∧some k_≠(.slice Ao17 t381.length co17 : Value).ownBlock∧some k_≠(.slice Ao28 t391.length co28 : Value).ownBlock∧k_≠gb379∧k_≠gb387) s_.2.2 y455)∧(Kd.R k41 41 w' w.heap.size (fun _=>True) (.slice Ao29 t394.length co29) t394)∧(Kd.R (Kd.int .i64) 3 w' w.heap.size (fun _=>True) (.slice Ao17 t381.length co17) t381)∧(Kd.N (Kd.slice 41 k41) 27 w' w.heap.size (fun k_=>some k_≠(.slice Ao68 y410.length co68 : Value).ownBlock∧some k_≠(.slice Ao82 y421.length co82 : Value).ownBlock∧some k_≠(.slice Ao80 y435.length co80 : Value).ownBlock∧some k_≠(v447 : Value).ownBlock∧some k_≠(s_.2.1 : Value).ownBlock∧some k_≠(s_.2.2 : Value).ownBlock∧some k_≠(.slice Ao29 t394.length co29 : Value).ownBlock∧some k_≠(.slice Ao17 t381.length co17 : Value).ownBlock∧k_≠gb379∧k_≠gb387) (.slice Ao28 t391.length co28) t391)∧(w'.heap[gb379]?=some (.cells #[.int .u8 a0_0,.int .u8 a0_1,.int .u8 a0_2,.int .u8 a0_3,.int .u8 a0_4,.int .u8 a0_5,.int .u8 a0_6,.int .u8 a0_7,.int .u8 a0_8,.int .u8 a0_9,.int .u8 a0_10,.int .u8 a0_11] 24 (0,0)))∧(w'.heap[gb387]?=some (.cells #[.slice Ao17 t381.length co17,.int .i64 t384,.int .i64 t385,.int .i64 t386] 31 (0,0)))∧(Below w.heap.size w w')) ?_ ?_
                   rotate_left
                   ·
                    rename_i zz0_ zz1_ zz2_ zz3_ zz4_ zz5_ zz6_ zz7_ zz8_ zz9_ zz10_ zz11_ zz12_ zz13_ zz14_ zz15_ zz16_ zz17_ zz18_ zz19_ zz20_ zz21_ zz22_ zz23_ zz24_ zz25_ zz26_ zz27_ zz28_ zz29_ zz30_
                    revert k a0_0 a0_1 a0_2 a0_3 a0_4 a0_5 a0_6 a0_7 a0_8 a0_9 a0_10 a0_11 A1 c1 l1 A2 c2 l2 r w hu24 hu31 HR1 HC1 HR2 HC2 t380 A4 t381 t384 t385 t386 A5 t388 A6 t391 A7 t394 A8 t397 A9 t398 A10 zz0_ gb379 w12 GW379 GE379 w13 w15 gb387 w16 GW387 GE387 NB379_387 NB387_379 Ao17 co17 hnb18 hnc18 w20 w21 zz1_ w22 Ao23 co23 zz2_ w24 zz3_ w26 Ao28 co28 Ao29 co29 w30 w32 HO383 HO390 HO393 HO396 zz4_ zz5_ zz6_ wc u17 u18 u19 u20 u21 u22 u23 u24 u25 u26 u27 u28 u29 u30 u31 u32 u33 u34 u35 u36 u37 u38 u39 u40 u41 u42 u43 u44 u45 u46 u47 u49 u50 u51 u52 u53 u54 u55 u56 u57 u58 u59 u60 u61 u62 u63 u64 u65 u66 u67 u68 u69 u70 u71 u72 u73 u74 u75 u76 u77 u78 u79 u80 u81 u82 u83 u84 u85 u86 u87 u88 u89 u90 u91 u92 u93 u94 u95 u96 u97 u98 u99 u100 u101 u102 u103 u104 u105 u106 u107 kj10 HJ10 y399 Ny399 c36b0 c36b1 c37b0 c37b1 y402 Ny402 LMc38 y407 Ny407 y410 Ny410 LMc39 y413 Ny413 c40b0 c41b0 y416 Ny416 LMc42 y421 Ny421 y424 Ny424 c43b0 c43b1 c44b0 c44b1 y427 Ny427 LMc45 y432 Ny432 y435 Ny435 LMc46 y438 Ny438 c47b0 c48b0 y441 Ny441 LMc49 y446 Ny446 y449 Ny449 LMc50 y452 Ny452 y455 Ny455 LMc51 y458 Ny458 t461 A52 t464 A53 y465 Ny465 LMc54 y468 Ny468 t471 A55 t474 A56 HC57 i059 zz7_ zz8_ hcut59 HC406 KY59 q59 i060 zz9_ zz10_ q060 A60 c60 hcut60 HC420 KY60 KA60 q60 zz11_ zz12_ zz13_ w58 zz14_ zz15_ v400 v408 w66 zz16_ Ao68 co68 v414 w67 zz17_ w69 i071 zz18_ zz19_ hcut71 HC431 KY71 q71 i072 zz20_ zz21_ q072 A72 c72 hcut72 HC445 KY72 KA72 q72 zz22_ zz23_ zz24_ w70 v425 v433 w78 zz25_ Ao80 co80 v439 w79 zz26_ v447 w81 Ao82 co82 zz27_ zz28_ zz29_ zz30_ HT_ HW_ w83 HO_9 HO_10 HO_388000 HO406 HO420 HO412 HO423 HO431 HO445 HO437 HO448 BK379 BK387 HB hHeld
                    exact hp2_.out
                   rintro ⟨v450,v453,v456⟩ w89 ⟨hS_,h0_,h1_,h2_,h3_,h4_,h5_,h6_,h7_,h8_,h9_,h10_,h11_,h12_,h13_,h14_,h15_⟩
                   have n0_ : Aside0 (Kd.V (Kd.slice 41 k41) 27 w89 w.heap.size (fun k_=>some k_≠(.slice Ao68 y410.length co68 : Value).ownBlock∧some k_≠(.slice Ao82 y421.length co82 : Value).ownBlock∧some k_≠(.slice Ao80 y435.length co80 : Value).ownBlock∧some k_≠(v447 : Value).ownBlock∧some k_≠(v453 : Value).ownBlock∧some k_≠(v456 : Value).ownBlock∧some k_≠(.slice Ao29 t394.length co29 : Value).ownBlock∧some k_≠(.slice Ao17 t381.length co17 : Value).ownBlock∧k_≠gb379∧k_≠gb387) (.slice Ao28 y402.length co28) y402):=⟨h0_⟩
                   have n1_ : Aside0 (Kd.N (Kd.slice 41 k41) 27 w89 w.heap.size (fun k_=>some k_≠(.slice Ao82 y421.length co82 : Value).ownBlock∧some k_≠(.slice Ao80 y435.length co80 : Value).ownBlock∧some k_≠(v447 : Value).ownBlock∧some k_≠(v453 : Value).ownBlock∧some k_≠(v456 : Value).ownBlock∧some k_≠(.slice Ao17 t381.length co17 : Value).ownBlock∧some k_≠(.slice Ao28 t391.length co28 : Value).ownBlock∧k_≠gb379∧k_≠gb387) (.slice Ao68 y410.length co68) y410):=⟨h1_⟩
                   have n2_ : Aside0 (Kd.V (Kd.slice 41 k41) 27 w89 w.heap.size (fun k_=>some k_≠(.slice Ao68 y410.length co68 : Value).ownBlock∧some k_≠(.slice Ao82 y421.length co82 : Value).ownBlock∧some k_≠(.slice Ao80 y435.length co80 : Value).ownBlock∧some k_≠(v447 : Value).ownBlock∧some k_≠(v453 : Value).ownBlock∧some k_≠(v456 : Value).ownBlock∧some k_≠(.slice Ao29 t394.length co29 : Value).ownBlock∧some k_≠(.slice Ao17 t381.length co17 : Value).ownBlock∧k_≠gb379∧k_≠gb387) (.slice A60 y416.length c60) y416):=⟨h2_⟩
                   have n3_ : Aside0 (Kd.N (Kd.slice 41 k41) 27 w89 w.heap.size (fun k_=>some k_≠(.slice Ao80 y435.length co80 : Value).ownBlock∧some k_≠(v447 : Value).ownBlock∧some k_≠(v453 : Value).ownBlock∧some k_≠(v456 : Value).ownBlock∧some k_≠(.slice Ao17 t381.length co17 : Value).ownBlock∧k_≠gb379∧k_≠gb387) (.slice Ao82 y421.length co82) y421):=⟨h3_⟩
                   have n4_ : Aside0 (Kd.V (Kd.slice 41 k41) 27 w89 w.heap.size (fun k_=>some k_≠(.slice Ao68 y410.length co68 : Value).ownBlock∧some k_≠(.slice Ao82 y421.length co82 : Value).ownBlock∧some k_≠(.slice Ao80 y435.length co80 : Value).ownBlock∧some k_≠(v447 : Value).ownBlock∧some k_≠(v453 : Value).ownBlock∧some k_≠(v456 : Value).ownBlock∧some k_≠(.slice Ao29 t394.length co29 : Value).ownBlock∧some k_≠(.slice Ao17 t381.length co17 : Value).ownBlock∧k_≠gb379∧k_≠gb387) (.slice Ao28 y427.length co28) y427):=⟨h4_⟩
                   have n5_ : Aside0 (Kd.N (Kd.slice 41 k41) 27 w89 w.heap.size (fun k_=>some k_≠(.slice Ao68 y410.length co68 : Value).ownBlock∧some k_≠(.slice Ao82 y421.length co82 : Value).ownBlock∧some k_≠(v447 : Value).ownBlock∧some k_≠(v453 : Value).ownBlock∧some k_≠(v456 : Value).ownBlock∧some k_≠(.slice Ao17 t381.length co17 : Value).ownBlock∧some k_≠(.slice Ao28 t391.length co28 : Value).ownBlock∧k_≠gb379∧k_≠gb387) (.slice Ao80 y435.length co80) y435):=⟨h5_⟩
                   have n6_ : Aside0 (Kd.V (Kd.slice 41 k41) 27 w89 w.heap.size (fun k_=>some k_≠(.slice Ao68 y410.length co68 : Value).ownBlock∧some k_≠(.slice Ao82 y421.length co82 : Value).ownBlock∧some k_≠(.slice Ao80 y435.length co80 : Value).ownBlock∧some k_≠(v447 : Value).ownBlock∧some k_≠(v453 : Value).ownBlock∧some k_≠(v456 : Value).ownBlock∧some k_≠(.slice Ao29 t394.length co29 : Value).ownBlock∧some k_≠(.slice Ao17 t381.length co17 : Value).ownBlock∧k_≠gb379∧k_≠gb387) (.slice A72 y441.length c72) y441):=⟨h6_⟩
                   have n7_ : Aside0 (Kd.N (Kd.slice 41 k41) 27 w89 w.heap.size (fun k_=>some k_≠(.slice Ao68 y410.length co68 : Value).ownBlock∧some k_≠(.slice Ao82 y421.length co82 : Value).ownBlock∧some k_≠(v453 : Value).ownBlock∧some k_≠(v456 : Value).ownBlock∧some k_≠(.slice Ao17 t381.length co17 : Value).ownBlock∧k_≠gb379∧k_≠gb387) v447 y446):=⟨h7_⟩
                   have n8_ : Aside0 (Kd.N (Kd.slice 41 k41) 27 w89 w.heap.size (fun k_=>some k_≠(.slice Ao68 y410.length co68 : Value).ownBlock∧some k_≠(.slice Ao82 y421.length co82 : Value).ownBlock∧some k_≠(.slice Ao80 y435.length co80 : Value).ownBlock∧some k_≠(v447 : Value).ownBlock∧some k_≠(v456 : Value).ownBlock∧some k_≠(.slice Ao29 t394.length co29 : Value).ownBlock∧some k_≠(.slice Ao17 t381.length co17 : Value).ownBlock∧k_≠gb379∧k_≠gb387) v453 y452):=⟨h8_⟩
                   have n9_ : Aside0 (Kd.N (Kd.slice 41 k41) 27 w89 w.heap.size (fun k_=>some k_≠(.slice Ao68 y410.length co68 : Value).ownBlock∧some k_≠(.slice Ao82 y421.length co82 : Value).ownBlock∧some k_≠(.slice Ao80 y435.length co80 : Value).ownBlock∧some k_≠(v447 : Value).ownBlock∧some k_≠(v453 : Value).ownBlock∧some k_≠(.slice Ao17 t381.length co17 : Value).ownBlock∧some k_≠(.slice Ao28 t391.length co28 : Value).ownBlock∧k_≠gb379∧k_≠gb387) v456 y455):=⟨h9_⟩
                   have n10_ : Aside0 (Kd.R k41 41 w89 w.heap.size (fun _=>True) (.slice Ao29 t394.length co29) t394):=⟨h10_⟩
                   have n11_ : Aside0 (Kd.R (Kd.int .i64) 3 w89 w.heap.size (fun _=>True) (.slice Ao17 t381.length co17) t381):=⟨h11_⟩
                   have n12_ : Aside0 (Kd.N (Kd.slice 41 k41) 27 w89 w.heap.size (fun k_=>some k_≠(.slice Ao68 y410.length co68 : Value).ownBlock∧some k_≠(.slice Ao82 y421.length co82 : Value).ownBlock∧some k_≠(.slice Ao80 y435.length co80 : Value).ownBlock∧some k_≠(v447 : Value).ownBlock∧some k_≠(v453 : Value).ownBlock∧some k_≠(v456 : Value).ownBlock∧some k_≠(.slice Ao29 t394.length co29 : Value).ownBlock∧some k_≠(.slice Ao17 t381.length co17 : Value).ownBlock∧k_≠gb379∧k_≠gb387) (.slice Ao28 t391.length co28) t391):=⟨h12_⟩
                   have n13_ : Aside0 (w89.heap[gb379]?=some (.cells #[.int .u8 a0_0,.int .u8 a0_1,.int .u8 a0_2,.int .u8 a0_3,.int .u8 a0_4,.int .u8 a0_5,.int .u8 a0_6,.int .u8 a0_7,.int .u8 a0_8,.int .u8 a0_9,.int .u8 a0_10,.int .u8 a0_11] 24 (0,0))):=⟨h13_⟩
                   have n14_ : Aside0 (w89.heap[gb387]?=some (.cells #[.slice Ao17 t381.length co17,.int .i64 t384,.int .i64 t385,.int .i64 t386] 31 (0,0))):=⟨h14_⟩
                   have n15_ : Aside0 (Below w.heap.size w w89):=⟨h15_⟩
                   clear HO_9
                   clear HO_10
                   clear HO_388000
                   clear HO406
                   clear HO420
                   clear HO412
                   clear HO423
                   clear HO431
                   clear HO445
                   clear HO437
                   clear HO448
                   clear BK379
                   clear BK387
                   clear HB
                   clear h0_ h1_ h2_ h3_ h4_ h5_ h6_ h7_ h8_ h9_ h10_ h11_ h12_ h13_ h14_ h15_
                   have HO406:=n0_
                   have HO412:=n1_
                   have HO420:=n2_
                   have HO423:=n3_
                   have HO431:=n4_
                   have HO437:=n5_
                   have HO445:=n6_
                   have HO448:=n7_
                   have HO454:=n8_
                   have HO457:=n9_
                   have HO_10:=n10_
                   have HO_388000:=n11_
                   have HO_9:=n12_
                   have BK379:=n13_
                   have BK387:=n14_
                   have HB:=n15_
                   clear n0_ n1_ n2_ n3_ n4_ n5_ n6_ n7_ n8_ n9_ n10_ n11_ n12_ n13_ n14_ n15_
                   have hHeld : w89.cell? ⟨gb387,0,none⟩=some (.slice Ao17 t381.length co17)∧w89.cell? ⟨gb387,1,none⟩=some (.int .i64 t384)∧w89.cell? ⟨gb387,2,none⟩=some (.int .i64 t385)∧w89.cell? ⟨gb387,3,none⟩=some (.int .i64 t386):=hS_
                   obtain ⟨Ao91,co91,eo91⟩:=Kd.N_slice HO457.out
                   (first|subst eo91|(injection eo91 with f1_ f2_ f3_;have f4_:=f1_.symm;have f5_:=f3_.symm;clear f1_ f2_ f3_;subst f4_;subst f5_))
                   refine norm_ (a':=?_) ?_ ?_
                   rotate_left
                   ·simp only [putAll,Act.put,List.setIfInBounds_toArray,List.set_cons_zero,List.set_cons_succ]
                    rfl
                   refine one_ (i:=6) (N:=some 79) #[true,true,true,true,true,true,true,false,true,false,false] rfl rfl (one_of HT_.out (by kernel_rfl)) (by decide) (fun K hK=>?_)
                   refine Kd.N_append_rows_step (Kd.slice 41 k41) (w0:=w) w.heap.size (by rfl) (.tmp 76) (.tmp 78) 25 27 (.slice none 0 0) 24 rfl Try.underlying25 info27 rfl (by decide) (by omega) v453 y452 y455 _ _ _ (fun k_=>some k_≠(.slice Ao17 t381.length co17 : Value).ownBlock∧some k_≠(.slice Ao68 y410.length co68 : Value).ownBlock∧some k_≠(.slice Ao82 y421.length co82 : Value).ownBlock∧some k_≠(.slice Ao80 y435.length co80 : Value).ownBlock∧some k_≠(v447 : Value).ownBlock∧k_≠gb379∧k_≠gb387) (fun k_=>((fun k_=>some k_≠(.slice Ao17 t381.length co17 : Value).ownBlock∧some k_≠(.slice Ao68 y410.length co68 : Value).ownBlock∧some k_≠(.slice Ao82 y421.length co82 : Value).ownBlock∧some k_≠(.slice Ao80 y435.length co80 : Value).ownBlock∧some k_≠(v447 : Value).ownBlock∧k_≠gb379∧k_≠gb387)) k_∧some k_≠(v453 : Value).ownBlock) rfl rfl ?aO ?aR (fun _ hk=>hk) ?aF ?aB ?aS ?aL ?_
                   (case aR=>exact (by skip;exact Kd.N_F (Kd.N_mono (ok':=(fun k_=>((fun k_=>some k_≠(.slice Ao17 t381.length co17 : Value).ownBlock∧some k_≠(.slice Ao68 y410.length co68 : Value).ownBlock∧some k_≠(.slice Ao82 y421.length co82 : Value).ownBlock∧some k_≠(.slice Ao80 y435.length co80 : Value).ownBlock∧some k_≠(v447 : Value).ownBlock∧k_≠gb379∧k_≠gb387)) k_∧some k_≠(v453 : Value).ownBlock)) (HO457.out) (fun k_ hk=>⟨⟨hk.2.2.2.2.2.1,⟨hk.1,⟨hk.2.1,⟨hk.2.2.1,⟨hk.2.2.2.1,⟨hk.2.2.2.2.2.2.2.1,hk.2.2.2.2.2.2.2.2⟩⟩⟩⟩⟩⟩,hk.2.2.2.2.1⟩))))
                   (case aB=>exact (below_go HB.out))
                   (case aF=>exact (fun k_ hk=>⟨Kd.fresh' (Kd.R_lt (R_up HO_388000.out)) k_ hk,Kd.fresh' (Kd.N_lt (N_up HO412.out)) k_ hk,Kd.fresh' (Kd.N_lt (N_up HO423.out)) k_ hk,Kd.fresh' (Kd.N_lt (N_up HO437.out)) k_ hk,Kd.fresh' (Kd.N_lt (N_up HO448.out)) k_ hk,Kd.freshB (blk_up BK379.out) k_ hk,Kd.freshB (blk_up BK387.out) k_ hk⟩))
                   (case aO=>exact (N_upm HO454.out (fun _ hk=>⟨hk.2.2.2.2.2.2.1,⟨hk.1,⟨hk.2.1,⟨hk.2.2.1,⟨hk.2.2.2.1,⟨hk.2.2.2.2.2.2.2.1,hk.2.2.2.2.2.2.2.2⟩⟩⟩⟩⟩⟩)))
                   (case aS=>exact (below_size (below_go HB.out)))
                   (case aL=>have:=LMc51.out;omega)
                   intro v459 w90 ho hb hg hat
                   rw [← Ny458.out] at ho
                   have n0_:=Aside0.mk (Kd.N_afterv (ok:=(fun k_=>some k_≠(.slice Ao29 t394.length co29 : Value).ownBlock∧some k_≠(.slice Ao17 t381.length co17 : Value).ownBlock∧some k_≠(.slice Ao68 y410.length co68 : Value).ownBlock∧some k_≠(.slice Ao82 y421.length co82 : Value).ownBlock∧some k_≠(.slice Ao80 y435.length co80 : Value).ownBlock∧some k_≠(v447 : Value).ownBlock∧some k_≠(.slice Ao91 y455.length co91 : Value).ownBlock∧k_≠gb379∧k_≠gb387)) (N_upm HO_9.out (fun _ hk=>⟨⟨hk.2.2.2.2.2.2.1,⟨hk.2.2.2.2.2.2.2.1,⟨hk.1,⟨hk.2.1,⟨hk.2.2.1,⟨hk.2.2.2.1,⟨hk.2.2.2.2.2.1,⟨hk.2.2.2.2.2.2.2.2.1,hk.2.2.2.2.2.2.2.2.2⟩⟩⟩⟩⟩⟩⟩⟩,hk.2.2.2.2.1⟩)) hg hat)
                   have n1_:=Aside0.mk (Kd.R_over' (R_up HO_10.out) (Kd.N_typed (N_up HO454.out)) (by decide) hg)
                   have n2_:=Aside0.mk (Kd.R_over' (R_up HO_388000.out) (Kd.N_typed (N_up HO454.out)) (by decide) hg)
                   have n3_:=Aside0.mk (blk_grown (blk_up BK379.out) hg (Kd.N_ne HO454.out BK379.out (by decide)))
                   have n4_:=Aside0.mk (blk_grown (blk_up BK387.out) hg (Kd.N_ne HO454.out BK387.out (by decide)))
                   have n5_:=Aside0.mk (Kd.V_afterv (ok:=(fun k_=>some k_≠(.slice Ao29 t394.length co29 : Value).ownBlock∧some k_≠(.slice Ao17 t381.length co17 : Value).ownBlock∧some k_≠(.slice Ao68 y410.length co68 : Value).ownBlock∧some k_≠(.slice Ao82 y421.length co82 : Value).ownBlock∧some k_≠(.slice Ao80 y435.length co80 : Value).ownBlock∧some k_≠(v447 : Value).ownBlock∧some k_≠(.slice Ao91 y455.length co91 : Value).ownBlock∧k_≠gb379∧k_≠gb387)) (V_upm HO406.out (fun _ hk=>⟨⟨hk.2.2.2.2.2.2.1,⟨hk.2.2.2.2.2.2.2.1,⟨hk.1,⟨hk.2.1,⟨hk.2.2.1,⟨hk.2.2.2.1,⟨hk.2.2.2.2.2.1,⟨hk.2.2.2.2.2.2.2.2.1,hk.2.2.2.2.2.2.2.2.2⟩⟩⟩⟩⟩⟩⟩⟩,hk.2.2.2.2.1⟩)) hg hat)
                   have n6_:=Aside0.mk (Kd.V_afterv (ok:=(fun k_=>some k_≠(.slice Ao29 t394.length co29 : Value).ownBlock∧some k_≠(.slice Ao17 t381.length co17 : Value).ownBlock∧some k_≠(.slice Ao68 y410.length co68 : Value).ownBlock∧some k_≠(.slice Ao82 y421.length co82 : Value).ownBlock∧some k_≠(.slice Ao80 y435.length co80 : Value).ownBlock∧some k_≠(v447 : Value).ownBlock∧some k_≠(.slice Ao91 y455.length co91 : Value).ownBlock∧k_≠gb379∧k_≠gb387)) (V_upm HO420.out (fun _ hk=>⟨⟨hk.2.2.2.2.2.2.1,⟨hk.2.2.2.2.2.2.2.1,⟨hk.1,⟨hk.2.1,⟨hk.2.2.1,⟨hk.2.2.2.1,⟨hk.2.2.2.2.2.1,⟨hk.2.2.2.2.2.2.2.2.1,hk.2.2.2.2.2.2.2.2.2⟩⟩⟩⟩⟩⟩⟩⟩,hk.2.2.2.2.1⟩)) hg hat)
                   have n7_:=Aside0.mk (Kd.N_afterv (ok:=(fun k_=>some k_≠(.slice Ao28 t391.length co28 : Value).ownBlock∧some k_≠(.slice Ao17 t381.length co17 : Value).ownBlock∧some k_≠(.slice Ao82 y421.length co82 : Value).ownBlock∧some k_≠(.slice Ao80 y435.length co80 : Value).ownBlock∧some k_≠(v447 : Value).ownBlock∧some k_≠(.slice Ao91 y455.length co91 : Value).ownBlock∧k_≠gb379∧k_≠gb387)) (N_upm HO412.out (fun _ hk=>⟨⟨hk.2.2.2.2.2.2.1,⟨hk.2.2.2.2.2.1,⟨hk.1,⟨hk.2.1,⟨hk.2.2.1,⟨hk.2.2.2.2.1,⟨hk.2.2.2.2.2.2.2.1,hk.2.2.2.2.2.2.2.2⟩⟩⟩⟩⟩⟩⟩,hk.2.2.2.1⟩)) hg hat)
                   have n8_:=Aside0.mk (Kd.N_afterv (ok:=(fun k_=>some k_≠(.slice Ao17 t381.length co17 : Value).ownBlock∧some k_≠(.slice Ao80 y435.length co80 : Value).ownBlock∧some k_≠(v447 : Value).ownBlock∧some k_≠(.slice Ao91 y455.length co91 : Value).ownBlock∧k_≠gb379∧k_≠gb387)) (N_upm HO423.out (fun _ hk=>⟨⟨hk.2.2.2.2.1,⟨hk.1,⟨hk.2.1,⟨hk.2.2.2.1,⟨hk.2.2.2.2.2.1,hk.2.2.2.2.2.2⟩⟩⟩⟩⟩,hk.2.2.1⟩)) hg hat)
                   have n9_:=Aside0.mk (Kd.V_afterv (ok:=(fun k_=>some k_≠(.slice Ao29 t394.length co29 : Value).ownBlock∧some k_≠(.slice Ao17 t381.length co17 : Value).ownBlock∧some k_≠(.slice Ao68 y410.length co68 : Value).ownBlock∧some k_≠(.slice Ao82 y421.length co82 : Value).ownBlock∧some k_≠(.slice Ao80 y435.length co80 : Value).ownBlock∧some k_≠(v447 : Value).ownBlock∧some k_≠(.slice Ao91 y455.length co91 : Value).ownBlock∧k_≠gb379∧k_≠gb387)) (V_upm HO431.out (fun _ hk=>⟨⟨hk.2.2.2.2.2.2.1,⟨hk.2.2.2.2.2.2.2.1,⟨hk.1,⟨hk.2.1,⟨hk.2.2.1,⟨hk.2.2.2.1,⟨hk.2.2.2.2.2.1,⟨hk.2.2.2.2.2.2.2.2.1,hk.2.2.2.2.2.2.2.2.2⟩⟩⟩⟩⟩⟩⟩⟩,hk.2.2.2.2.1⟩)) hg hat)
                   have n10_:=Aside0.mk (Kd.V_afterv (ok:=(fun k_=>some k_≠(.slice Ao29 t394.length co29 : Value).ownBlock∧some k_≠(.slice Ao17 t381.length co17 : Value).ownBlock∧some k_≠(.slice Ao68 y410.length co68 : Value).ownBlock∧some k_≠(.slice Ao82 y421.length co82 : Value).ownBlock∧some k_≠(.slice Ao80 y435.length co80 : Value).ownBlock∧some k_≠(v447 : Value).ownBlock∧some k_≠(.slice Ao91 y455.length co91 : Value).ownBlock∧k_≠gb379∧k_≠gb387)) (V_upm HO445.out (fun _ hk=>⟨⟨hk.2.2.2.2.2.2.1,⟨hk.2.2.2.2.2.2.2.1,⟨hk.1,⟨hk.2.1,⟨hk.2.2.1,⟨hk.2.2.2.1,⟨hk.2.2.2.2.2.1,⟨hk.2.2.2.2.2.2.2.2.1,hk.2.2.2.2.2.2.2.2.2⟩⟩⟩⟩⟩⟩⟩⟩,hk.2.2.2.2.1⟩)) hg hat)
                   have n11_:=Aside0.mk (Kd.N_afterv (ok:=(fun k_=>some k_≠(.slice Ao28 t391.length co28 : Value).ownBlock∧some k_≠(.slice Ao17 t381.length co17 : Value).ownBlock∧some k_≠(.slice Ao68 y410.length co68 : Value).ownBlock∧some k_≠(.slice Ao82 y421.length co82 : Value).ownBlock∧some k_≠(v447 : Value).ownBlock∧some k_≠(.slice Ao91 y455.length co91 : Value).ownBlock∧k_≠gb379∧k_≠gb387)) (N_upm HO437.out (fun _ hk=>⟨⟨hk.2.2.2.2.2.2.1,⟨hk.2.2.2.2.2.1,⟨hk.1,⟨hk.2.1,⟨hk.2.2.1,⟨hk.2.2.2.2.1,⟨hk.2.2.2.2.2.2.2.1,hk.2.2.2.2.2.2.2.2⟩⟩⟩⟩⟩⟩⟩,hk.2.2.2.1⟩)) hg hat)
                   have n12_:=Aside0.mk (Kd.N_afterv (ok:=(fun k_=>some k_≠(.slice Ao17 t381.length co17 : Value).ownBlock∧some k_≠(.slice Ao68 y410.length co68 : Value).ownBlock∧some k_≠(.slice Ao82 y421.length co82 : Value).ownBlock∧some k_≠(.slice Ao91 y455.length co91 : Value).ownBlock∧k_≠gb379∧k_≠gb387)) (N_upm HO448.out (fun _ hk=>⟨⟨hk.2.2.2.2.1,⟨hk.1,⟨hk.2.1,⟨hk.2.2.2.1,⟨hk.2.2.2.2.2.1,hk.2.2.2.2.2.2⟩⟩⟩⟩⟩,hk.2.2.1⟩)) hg hat)
                   have n13_:=Aside0.mk (Kd.N_afterv (ok:=(fun k_=>some k_≠(.slice Ao28 t391.length co28 : Value).ownBlock∧some k_≠(.slice Ao17 t381.length co17 : Value).ownBlock∧some k_≠(.slice Ao68 y410.length co68 : Value).ownBlock∧some k_≠(.slice Ao82 y421.length co82 : Value).ownBlock∧some k_≠(.slice Ao80 y435.length co80 : Value).ownBlock∧some k_≠(v447 : Value).ownBlock∧k_≠gb379∧k_≠gb387)) (N_upm HO457.out (fun _ hk=>⟨⟨hk.2.2.2.2.2.2.1,⟨hk.2.2.2.2.2.1,⟨hk.1,⟨hk.2.1,⟨hk.2.2.1,⟨hk.2.2.2.1,⟨hk.2.2.2.2.2.2.2.1,hk.2.2.2.2.2.2.2.2⟩⟩⟩⟩⟩⟩⟩,hk.2.2.2.2.1⟩)) hg hat)
                   have n14_:=Aside0.mk (hb)
                   have n15_:=Aside0.mk (ho)
                   clear HO_9
                   clear HO_10
                   clear HO_388000
                   clear BK379
                   clear BK387
                   clear HO406
                   clear HO420
                   clear HO412
                   clear HO423
                   clear HO431
                   clear HO445
                   clear HO437
                   clear HO448
                   clear HO457
                   clear HB
                   clear HO454
                   have HO_9:=n0_
                   have HO_10:=n1_
                   have HO_388000:=n2_
                   have BK379:=n3_
                   have BK387:=n4_
                   have HO406:=n5_
                   have HO420:=n6_
                   have HO412:=n7_
                   have HO423:=n8_
                   have HO431:=n9_
                   have HO445:=n10_
                   have HO437:=n11_
                   have HO448:=n12_
                   have HO457:=n13_
                   have HB:=n14_
                   have HO460:=n15_
                   clear n0_ n1_ n2_ n3_ n4_ n5_ n6_ n7_ n8_ n9_ n10_ n11_ n12_ n13_ n14_ n15_
                   clear ho hb hg hat
                   obtain ⟨Ao92,co92,eo92⟩:=Kd.N_slice HO460.out
                   (first|subst eo92|(injection eo92 with f1_ f2_ f3_;have f4_:=f1_.symm;have f5_:=f3_.symm;clear f1_ f2_ f3_;subst f4_;subst f5_))
                   refine hK.out _ _ ⟨(blk_cell BK387.out 0).trans rfl,(blk_cell BK387.out 1).trans rfl,(blk_cell BK387.out 2).trans rfl,(blk_cell BK387.out 3).trans rfl⟩ (fun hHeld=>?_)
                   clear hK K
                   refine norm_ (a':=?_) ?_ ?_
                   rotate_left
                   ·show Act.put _ (some 79) _=_
                    simp only [Act.put,List.setIfInBounds_toArray,List.set_cons_zero,List.set_cons_succ,i64_w,i32_w]
                    rfl
                   refine one_ (i:=7) (N:=some 80) #[true,true,true,true,true,true,true,true,true,false,false] rfl rfl (one_of HT_.out (by kernel_rfl)) (by decide) (fun K hK=>?_)
                   refine goes_ Try.func10 (by kernel_rfl) rfl #[.agg #[.slice Ao17 t381.length co17,.int .i64 t384,.int .i64 t385,.int .i64 t386],.slice Ao92 y458.length co92] (by rfl) rfl rfl (by (try simp only [List.map_toArray,List.map_cons,List.map_nil]);first|done|rfl|(simp only [List.length_drop,List.length_take];rfl)) ?_
                   with_reducible refine (order_Sort.calls kj10 _ _ t381 t384 t385 t386 (fun k_=>(some k_≠(.slice Ao17 t381.length co17 : Value).ownBlock∧(some k_≠(.slice Ao68 y410.length co68 : Value).ownBlock∧(some k_≠(.slice Ao82 y421.length co82 : Value).ownBlock∧(some k_≠(.slice Ao80 y435.length co80 : Value).ownBlock∧(some k_≠(v447 : Value).ownBlock∧(k_≠gb379∧k_≠gb387))))))) _ _ y458 t461 _ ?side1 ?side2 ?side3 A52.out).mono ?_
                   (case side1=>repeat (first|exact (Kd.R_reads' HO_388000.out).2.2|(with_reducible refine Kd.C_alloc ?_ _)|(with_reducible refine Kd.C_drewN ?_ _)|(with_reducible refine Kd.C_drew ?_)))
                   (case side2=>exact (Kd.R_reads' HO_388000.out).2.1)
                   (case side3=>exact Kd.N_V (HO460.out))
                   rintro e w93 ⟨v462,rfl,ho0,hb⟩
                   refine ⟨_,rfl,?_⟩
                   have n0_:=Aside0.mk (Kd.N_elder' (N_up HO_9.out) (by first | exact Kd.N_base ho0 | exact Kd.S_base ho0) hb)
                   have n1_:=Aside0.mk (Kd.R_below (R_up HO_10.out) hb)
                   have n2_:=Aside0.mk (Kd.R_below (R_up HO_388000.out) hb)
                   have n3_:=Aside0.mk (Kd.V_elder' (V_up HO406.out) (by first | exact Kd.N_base ho0 | exact Kd.S_base ho0) hb)
                   have n4_:=Aside0.mk (Kd.V_elder' (V_up HO420.out) (by first | exact Kd.N_base ho0 | exact Kd.S_base ho0) hb)
                   have n5_:=Aside0.mk (Kd.N_elder' (N_up HO412.out) (by first | exact Kd.N_base ho0 | exact Kd.S_base ho0) hb)
                   have n6_:=Aside0.mk (Kd.N_elder' (N_up HO423.out) (by first | exact Kd.N_base ho0 | exact Kd.S_base ho0) hb)
                   have n7_:=Aside0.mk (Kd.V_elder' (V_up HO431.out) (by first | exact Kd.N_base ho0 | exact Kd.S_base ho0) hb)
                   have n8_:=Aside0.mk (Kd.V_elder' (V_up HO445.out) (by first | exact Kd.N_base ho0 | exact Kd.S_base ho0) hb)
                   have n9_:=Aside0.mk (Kd.N_elder' (N_up HO437.out) (by first | exact Kd.N_base ho0 | exact Kd.S_base ho0) hb)
                   have n10_:=Aside0.mk (Kd.N_elder' (N_up HO448.out) (by first | exact Kd.N_base ho0 | exact Kd.S_base ho0) hb)
                   have n11_:=Aside0.mk (Kd.N_elder' (N_up HO457.out) (by first | exact Kd.N_base ho0 | exact Kd.S_base ho0) hb)
                   have n12_:=Aside0.mk (Kd.N_elder' (N_up HO460.out) (by first | exact Kd.N_base ho0 | exact Kd.S_base ho0) hb)
                   have n13_:=Aside0.mk (Kd.N_lower (Kd.N_mono (ok':=fun k_=>some k_≠(.slice Ao17 t381.length co17 : Value).ownBlock∧some k_≠(.slice Ao68 y410.length co68 : Value).ownBlock∧some k_≠(.slice Ao82 y421.length co82 : Value).ownBlock∧some k_≠(.slice Ao80 y435.length co80 : Value).ownBlock∧some k_≠(v447 : Value).ownBlock∧k_≠gb379∧k_≠gb387) ho0 (fun k_ hk_=>⟨Or.elim hk_ (fun hs_=>hs_.1) (fun hn_=>(Kd.fresh' (Kd.R_lt (R_up HO_388000.out)) k_ hn_)),Or.elim hk_ (fun hs_=>hs_.2.1) (fun hn_=>(Kd.fresh' (Kd.N_lt (N_up HO412.out)) k_ hn_)),Or.elim hk_ (fun hs_=>hs_.2.2.1) (fun hn_=>(Kd.fresh' (Kd.N_lt (N_up HO423.out)) k_ hn_)),Or.elim hk_ (fun hs_=>hs_.2.2.2.1) (fun hn_=>(Kd.fresh' (Kd.N_lt (N_up HO437.out)) k_ hn_)),Or.elim hk_ (fun hs_=>hs_.2.2.2.2.1) (fun hn_=>(Kd.fresh' (Kd.N_lt (N_up HO448.out)) k_ hn_)),Or.elim hk_ (fun hs_=>hs_.2.2.2.2.2.1) (fun hn_=>(Kd.freshB (blk_up BK379.out) k_ hn_)),Or.elim hk_ (fun hs_=>hs_.2.2.2.2.2.2) (fun hn_=>(Kd.freshB (blk_up BK387.out) k_ hn_))⟩)) (below_size (below_go HB.out)))
                   have n14_:=Aside0.mk (blk_below (blk_up BK379.out) hb)
                   have n15_:=Aside0.mk (blk_below (blk_up BK387.out) hb)
                   have n16_:=Aside0.mk (below_step (below_go HB.out) hb)
                   clear HO_9
                   clear HO_10
                   clear HO_388000
                   clear HO406
                   clear HO420
                   clear HO412
                   clear HO423
                   clear HO431
                   clear HO445
                   clear HO437
                   clear HO448
                   clear HO457
                   clear HO460
                   clear BK379
                   clear BK387
                   clear HB
                   have HO_9:=n0_
                   have HO_10:=n1_
                   have HO_388000:=n2_
                   have HO406:=n3_
                   have HO420:=n4_
                   have HO412:=n5_
                   have HO423:=n6_
                   have HO431:=n7_
                   have HO445:=n8_
                   have HO437:=n9_
                   have HO448:=n10_
                   have HO457:=n11_
                   have HO460:=n12_
                   have HO463:=n13_
                   have BK379:=n14_
                   have BK387:=n15_
                   have HB:=n16_
                   clear n0_ n1_ n2_ n3_ n4_ n5_ n6_ n7_ n8_ n9_ n10_ n11_ n12_ n13_ n14_ n15_ n16_
                   (try clear hb)
                   (try clear hb2)
                   (try clear hk)
                   (try clear hi)
                   (try clear ho0)
                   obtain ⟨Ao94,co94,eo94⟩:=Kd.N_slice HO463.out
                   (first|subst eo94|(injection eo94 with f1_ f2_ f3_;have f4_:=f1_.symm;have f5_:=f3_.symm;clear f1_ f2_ f3_;subst f4_;subst f5_))
                   refine hK.out _ _ ⟨(blk_cell BK387.out 0).trans rfl,(blk_cell BK387.out 1).trans rfl,(blk_cell BK387.out 2).trans rfl,(blk_cell BK387.out 3).trans rfl⟩ (fun hHeld=>?_)
                   clear hK K
                   refine norm_ (a':=?_) ?_ ?_
                   rotate_left
                   ·show Act.put _ (some 80) _=_
                    simp only [Act.put,List.setIfInBounds_toArray,List.set_cons_zero,List.set_cons_succ,i64_w,i32_w]
                    rfl
                   refine one_ (i:=9) (N:=some 82) #[true,true,true,true,true,true,true,true,true,true,false] rfl rfl (one_of HT_.out (by kernel_rfl)) (by decide) (fun K hK=>?_)
                   refine goes_ Try.func16 (by kernel_rfl) rfl #[.slice Ao94 t461.length co94,.slice Ao82 y421.length co82] (by rfl) rfl rfl (by (try simp only [List.map_toArray,List.map_cons,List.map_nil]);first|done|rfl|(simp only [List.length_drop,List.length_take];rfl)) ?_
                   with_reducible refine (thresherref04_Rows.calls kj10 _ _ t461 _ _ y421 t464 _ ?side1 ?side2 ?side3 ?side4 A53.out).mono ?_
                   (case side1=>repeat (first|exact (Kd.N_reads' HO463.out).2.2|(with_reducible refine Kd.C_alloc ?_ _)|(with_reducible refine Kd.C_drewN ?_ _)|(with_reducible refine Kd.C_drew ?_)))
                   (case side2=>exact (Kd.N_reads' HO463.out).2.1)
                   (case side3=>repeat (first|exact (Kd.N_reads' HO423.out).2.2|(with_reducible refine Kd.C_alloc ?_ _)|(with_reducible refine Kd.C_drewN ?_ _)|(with_reducible refine Kd.C_drew ?_)))
                   (case side4=>exact (Kd.N_reads' HO423.out).2.1)
                   rintro e w' ⟨rfl,⟨nd,rfl⟩⟩
                   refine ⟨_,rfl,?_⟩
                   refine hK.out _ _ ⟨(blk_cell BK387.out 0).trans rfl,(blk_cell BK387.out 1).trans rfl,(blk_cell BK387.out 2).trans rfl,(blk_cell BK387.out 3).trans rfl⟩ (fun hHeld=>?_)
                   clear hK K
                   refine norm_ (a':=?_) ?_ ?_
                   rotate_left
                   ·show Act.put _ (some 82) _=_
                    simp only [Act.put,List.setIfInBounds_toArray,List.set_cons_zero,List.set_cons_succ,i64_w,i32_w]
                    rfl
                   refine pure_ (i:=10) (N:=some 15) (v:=?_) (a':=?_) #[true,true,true,true,true,true,true,true,true,true,true] rfl rfl (any_of HT_.out (by kernel_rfl)) (fun _ _ _ h=>h) (Or.inl ⟨by rfl,?_⟩) ?_ ?_
                   rotate_left;(intro w';go_simp;with_reducible rfl);rotate_left;(simp only [Act.put,List.setIfInBounds_toArray,List.set_cons_zero,List.set_cons_succ,i64_w,i32_w];rfl)
                   refine done_ (done_of HT_.out (by kernel_rfl)) ?_
                   (try clear hHeld)
                   try go_wp2
                   (try (rw [drewN_self w93];generalize hq_ : World.drewN w93 _=w93;have n0_ : Aside0 (Kd.V (Kd.slice 41 k41) 27 w93 w.heap.size (fun k_=>some k_≠(.slice Ao68 y410.length co68 : Value).ownBlock∧some k_≠(.slice Ao82 y421.length co82 : Value).ownBlock∧some k_≠(.slice Ao80 y435.length co80 : Value).ownBlock∧some k_≠(v447 : Value).ownBlock∧some k_≠(.slice Ao91 y455.length co91 : Value).ownBlock∧some k_≠(.slice Ao92 y458.length co92 : Value).ownBlock∧some k_≠(.slice Ao94 t461.length co94 : Value).ownBlock∧some k_≠(.slice Ao29 t394.length co29 : Value).ownBlock∧some k_≠(.slice Ao17 t381.length co17 : Value).ownBlock∧k_≠gb379∧k_≠gb387) (.slice Ao28 y402.length co28) y402):=⟨by rw [← hq_];exact (V_upm HO406.out (fun _ hk=>⟨hk.1.1.2.2.1,⟨hk.1.1.2.2.2.1,⟨hk.1.1.2.2.2.2.1,⟨hk.1.1.2.2.2.2.2.1,⟨hk.1.1.2.2.2.2.2.2.1,⟨hk.1.2,⟨hk.2,⟨hk.1.1.1,⟨hk.1.1.2.1,⟨hk.1.1.2.2.2.2.2.2.2.1,hk.1.1.2.2.2.2.2.2.2.2⟩⟩⟩⟩⟩⟩⟩⟩⟩⟩))⟩;have n1_ : Aside0 (Kd.N (Kd.slice 41 k41) 27 w93 w.heap.size (fun k_=>some k_≠(.slice Ao82 y421.length co82 : Value).ownBlock∧some k_≠(.slice Ao80 y435.length co80 : Value).ownBlock∧some k_≠(v447 : Value).ownBlock∧some k_≠(.slice Ao91 y455.length co91 : Value).ownBlock∧some k_≠(.slice Ao92 y458.length co92 : Value).ownBlock∧some k_≠(.slice Ao94 t461.length co94 : Value).ownBlock∧some k_≠(.slice Ao17 t381.length co17 : Value).ownBlock∧some k_≠(.slice Ao28 t391.length co28 : Value).ownBlock∧k_≠gb379∧k_≠gb387) (.slice Ao68 y410.length co68) y410):=⟨by rw [← hq_];exact (N_upm HO412.out (fun _ hk=>⟨hk.1.1.2.2.1,⟨hk.1.1.2.2.2.1,⟨hk.1.1.2.2.2.2.1,⟨hk.1.1.2.2.2.2.2.1,⟨hk.1.2,⟨hk.2,⟨hk.1.1.2.1,⟨hk.1.1.1,⟨hk.1.1.2.2.2.2.2.2.1,hk.1.1.2.2.2.2.2.2.2⟩⟩⟩⟩⟩⟩⟩⟩⟩))⟩;have n2_ : Aside0 (Kd.V (Kd.slice 41 k41) 27 w93 w.heap.size (fun k_=>some k_≠(.slice Ao68 y410.length co68 : Value).ownBlock∧some k_≠(.slice Ao82 y421.length co82 : Value).ownBlock∧some k_≠(.slice Ao80 y435.length co80 : Value).ownBlock∧some k_≠(v447 : Value).ownBlock∧some k_≠(.slice Ao91 y455.length co91 : Value).ownBlock∧some k_≠(.slice Ao92 y458.length co92 : Value).ownBlock∧some k_≠(.slice Ao94 t461.length co94 : Value).ownBlock∧some k_≠(.slice Ao29 t394.length co29 : Value).ownBlock∧some k_≠(.slice Ao17 t381.length co17 : Value).ownBlock∧k_≠gb379∧k_≠gb387) (.slice A60 y416.length c60) y416):=⟨by rw [← hq_];exact (V_upm HO420.out (fun _ hk=>⟨hk.1.1.2.2.1,⟨hk.1.1.2.2.2.1,⟨hk.1.1.2.2.2.2.1,⟨hk.1.1.2.2.2.2.2.1,⟨hk.1.1.2.2.2.2.2.2.1,⟨hk.1.2,⟨hk.2,⟨hk.1.1.1,⟨hk.1.1.2.1,⟨hk.1.1.2.2.2.2.2.2.2.1,hk.1.1.2.2.2.2.2.2.2.2⟩⟩⟩⟩⟩⟩⟩⟩⟩⟩))⟩;have n3_ : Aside0 (Kd.N (Kd.slice 41 k41) 27 w93 w.heap.size (fun k_=>some k_≠(.slice Ao80 y435.length co80 : Value).ownBlock∧some k_≠(v447 : Value).ownBlock∧some k_≠(.slice Ao91 y455.length co91 : Value).ownBlock∧some k_≠(.slice Ao92 y458.length co92 : Value).ownBlock∧some k_≠(.slice Ao94 t461.length co94 : Value).ownBlock∧some k_≠(.slice Ao17 t381.length co17 : Value).ownBlock∧k_≠gb379∧k_≠gb387) (.slice Ao82 y421.length co82) y421):=⟨by rw [← hq_];exact (N_upm HO423.out (fun _ hk=>⟨hk.1.1.2.1,⟨hk.1.1.2.2.1,⟨hk.1.1.2.2.2.1,⟨hk.1.2,⟨hk.2,⟨hk.1.1.1,⟨hk.1.1.2.2.2.2.1,hk.1.1.2.2.2.2.2⟩⟩⟩⟩⟩⟩⟩))⟩;have n4_ : Aside0 (Kd.V (Kd.slice 41 k41) 27 w93 w.heap.size (fun k_=>some k_≠(.slice Ao68 y410.length co68 : Value).ownBlock∧some k_≠(.slice Ao82 y421.length co82 : Value).ownBlock∧some k_≠(.slice Ao80 y435.length co80 : Value).ownBlock∧some k_≠(v447 : Value).ownBlock∧some k_≠(.slice Ao91 y455.length co91 : Value).ownBlock∧some k_≠(.slice Ao92 y458.length co92 : Value).ownBlock∧some k_≠(.slice Ao94 t461.length co94 : Value).ownBlock∧some k_≠(.slice Ao29 t394.length co29 : Value).ownBlock∧some k_≠(.slice Ao17 t381.length co17 : Value).ownBlock∧k_≠gb379∧k_≠gb387) (.slice Ao28 y427.length co28) y427):=⟨by rw [← hq_];exact (V_upm HO431.out (fun _ hk=>⟨hk.1.1.2.2.1,⟨hk.1.1.2.2.2.1,⟨hk.1.1.2.2.2.2.1,⟨hk.1.1.2.2.2.2.2.1,⟨hk.1.1.2.2.2.2.2.2.1,⟨hk.1.2,⟨hk.2,⟨hk.1.1.1,⟨hk.1.1.2.1,⟨hk.1.1.2.2.2.2.2.2.2.1,hk.1.1.2.2.2.2.2.2.2.2⟩⟩⟩⟩⟩⟩⟩⟩⟩⟩))⟩;have n5_ : Aside0 (Kd.N (Kd.slice 41 k41) 27 w93 w.heap.size (fun k_=>some k_≠(.slice Ao68 y410.length co68 : Value).ownBlock∧some k_≠(.slice Ao82 y421.length co82 : Value).ownBlock∧some k_≠(v447 : Value).ownBlock∧some k_≠(.slice Ao91 y455.length co91 : Value).ownBlock∧some k_≠(.slice Ao92 y458.length co92 : Value).ownBlock∧some k_≠(.slice Ao94 t461.length co94 : Value).ownBlock∧some k_≠(.slice Ao17 t381.length co17 : Value).ownBlock∧some k_≠(.slice Ao28 t391.length co28 : Value).ownBlock∧k_≠gb379∧k_≠gb387) (.slice Ao80 y435.length co80) y435):=⟨by rw [← hq_];exact (N_upm HO437.out (fun _ hk=>⟨hk.1.1.2.2.1,⟨hk.1.1.2.2.2.1,⟨hk.1.1.2.2.2.2.1,⟨hk.1.1.2.2.2.2.2.1,⟨hk.1.2,⟨hk.2,⟨hk.1.1.2.1,⟨hk.1.1.1,⟨hk.1.1.2.2.2.2.2.2.1,hk.1.1.2.2.2.2.2.2.2⟩⟩⟩⟩⟩⟩⟩⟩⟩))⟩;have n6_ : Aside0 (Kd.V (Kd.slice 41 k41) 27 w93 w.heap.size (fun k_=>some k_≠(.slice Ao68 y410.length co68 : Value).ownBlock∧some k_≠(.slice Ao82 y421.length co82 : Value).ownBlock∧some k_≠(.slice Ao80 y435.length co80 : Value).ownBlock∧some k_≠(v447 : Value).ownBlock∧some k_≠(.slice Ao91 y455.length co91 : Value).ownBlock∧some k_≠(.slice Ao92 y458.length co92 : Value).ownBlock∧some k_≠(.slice Ao94 t461.length co94 : Value).ownBlock∧some k_≠(.slice Ao29 t394.length co29 : Value).ownBlock∧some k_≠(.slice Ao17 t381.length co17 : Value).ownBlock∧k_≠gb379∧k_≠gb387) (.slice A72 y441.length c72) y441):=⟨by rw [← hq_];exact (V_upm HO445.out (fun _ hk=>⟨hk.1.1.2.2.1,⟨hk.1.1.2.2.2.1,⟨hk.1.1.2.2.2.2.1,⟨hk.1.1.2.2.2.2.2.1,⟨hk.1.1.2.2.2.2.2.2.1,⟨hk.1.2,⟨hk.2,⟨hk.1.1.1,⟨hk.1.1.2.1,⟨hk.1.1.2.2.2.2.2.2.2.1,hk.1.1.2.2.2.2.2.2.2.2⟩⟩⟩⟩⟩⟩⟩⟩⟩⟩))⟩;have n7_ : Aside0 (Kd.N (Kd.slice 41 k41) 27 w93 w.heap.size (fun k_=>some k_≠(.slice Ao68 y410.length co68 : Value).ownBlock∧some k_≠(.slice Ao82 y421.length co82 : Value).ownBlock∧some k_≠(.slice Ao91 y455.length co91 : Value).ownBlock∧some k_≠(.slice Ao92 y458.length co92 : Value).ownBlock∧some k_≠(.slice Ao94 t461.length co94 : Value).ownBlock∧some k_≠(.slice Ao17 t381.length co17 : Value).ownBlock∧k_≠gb379∧k_≠gb387) v447 y446):=⟨by rw [← hq_];exact (N_upm HO448.out (fun _ hk=>⟨hk.1.1.2.1,⟨hk.1.1.2.2.1,⟨hk.1.1.2.2.2.1,⟨hk.1.2,⟨hk.2,⟨hk.1.1.1,⟨hk.1.1.2.2.2.2.1,hk.1.1.2.2.2.2.2⟩⟩⟩⟩⟩⟩⟩))⟩;have n8_ : Aside0 (Kd.N (Kd.slice 41 k41) 27 w93 w.heap.size (fun k_=>some k_≠(.slice Ao68 y410.length co68 : Value).ownBlock∧some k_≠(.slice Ao82 y421.length co82 : Value).ownBlock∧some k_≠(.slice Ao80 y435.length co80 : Value).ownBlock∧some k_≠(v447 : Value).ownBlock∧some k_≠(.slice Ao92 y458.length co92 : Value).ownBlock∧some k_≠(.slice Ao94 t461.length co94 : Value).ownBlock∧some k_≠(.slice Ao17 t381.length co17 : Value).ownBlock∧some k_≠(.slice Ao28 t391.length co28 : Value).ownBlock∧k_≠gb379∧k_≠gb387) (.slice Ao91 y455.length co91) y455):=⟨by rw [← hq_];exact (N_upm HO457.out (fun _ hk=>⟨hk.1.1.2.2.1,⟨hk.1.1.2.2.2.1,⟨hk.1.1.2.2.2.2.1,⟨hk.1.1.2.2.2.2.2.1,⟨hk.1.2,⟨hk.2,⟨hk.1.1.2.1,⟨hk.1.1.1,⟨hk.1.1.2.2.2.2.2.2.1,hk.1.1.2.2.2.2.2.2.2⟩⟩⟩⟩⟩⟩⟩⟩⟩))⟩;have n9_ : Aside0 (Kd.N (Kd.slice 41 k41) 27 w93 w.heap.size (fun k_=>some k_≠(.slice Ao68 y410.length co68 : Value).ownBlock∧some k_≠(.slice Ao82 y421.length co82 : Value).ownBlock∧some k_≠(.slice Ao80 y435.length co80 : Value).ownBlock∧some k_≠(v447 : Value).ownBlock∧some k_≠(.slice Ao94 t461.length co94 : Value).ownBlock∧some k_≠(.slice Ao17 t381.length co17 : Value).ownBlock∧k_≠gb379∧k_≠gb387) (.slice Ao92 y458.length co92) y458):=⟨by rw [← hq_];exact (N_upm HO460.out (fun _ hk=>⟨hk.1.2.1,⟨hk.1.2.2.1,⟨hk.1.2.2.2.1,⟨hk.1.2.2.2.2.1,⟨hk.2,⟨hk.1.1,⟨hk.1.2.2.2.2.2.1,hk.1.2.2.2.2.2.2⟩⟩⟩⟩⟩⟩⟩))⟩;have n10_ : Aside0 (Kd.N (Kd.slice 41 k41) 27 w93 w.heap.size (fun k_=>some k_≠(.slice Ao68 y410.length co68 : Value).ownBlock∧some k_≠(.slice Ao82 y421.length co82 : Value).ownBlock∧some k_≠(.slice Ao80 y435.length co80 : Value).ownBlock∧some k_≠(v447 : Value).ownBlock∧some k_≠(.slice Ao17 t381.length co17 : Value).ownBlock∧k_≠gb379∧k_≠gb387) (.slice Ao94 t461.length co94) t461):=⟨by rw [← hq_];exact (N_upm HO463.out (fun _ hk=>⟨hk.2.1,⟨hk.2.2.1,⟨hk.2.2.2.1,⟨hk.2.2.2.2.1,⟨hk.1,⟨hk.2.2.2.2.2.1,hk.2.2.2.2.2.2⟩⟩⟩⟩⟩⟩))⟩;have n11_ : Aside0 (Kd.R k41 41 w93 w.heap.size (fun _=>True) (.slice Ao29 t394.length co29) t394):=⟨by rw [← hq_];exact (R_up HO_10.out)⟩;have n12_ : Aside0 (Kd.R (Kd.int .i64) 3 w93 w.heap.size (fun _=>True) (.slice Ao17 t381.length co17) t381):=⟨by rw [← hq_];exact (R_up HO_388000.out)⟩;have n13_ : Aside0 (Kd.N (Kd.slice 41 k41) 27 w93 w.heap.size (fun k_=>some k_≠(.slice Ao68 y410.length co68 : Value).ownBlock∧some k_≠(.slice Ao82 y421.length co82 : Value).ownBlock∧some k_≠(.slice Ao80 y435.length co80 : Value).ownBlock∧some k_≠(v447 : Value).ownBlock∧some k_≠(.slice Ao91 y455.length co91 : Value).ownBlock∧some k_≠(.slice Ao92 y458.length co92 : Value).ownBlock∧some k_≠(.slice Ao94 t461.length co94 : Value).ownBlock∧some k_≠(.slice Ao29 t394.length co29 : Value).ownBlock∧some k_≠(.slice Ao17 t381.length co17 : Value).ownBlock∧k_≠gb379∧k_≠gb387) (.slice Ao28 t391.length co28) t391):=⟨by rw [← hq_];exact (N_upm HO_9.out (fun _ hk=>⟨hk.1.1.2.2.1,⟨hk.1.1.2.2.2.1,⟨hk.1.1.2.2.2.2.1,⟨hk.1.1.2.2.2.2.2.1,⟨hk.1.1.2.2.2.2.2.2.1,⟨hk.1.2,⟨hk.2,⟨hk.1.1.1,⟨hk.1.1.2.1,⟨hk.1.1.2.2.2.2.2.2.2.1,hk.1.1.2.2.2.2.2.2.2.2⟩⟩⟩⟩⟩⟩⟩⟩⟩⟩))⟩;have n14_ : Aside0 (w93.heap[gb379]?=some (.cells #[.int .u8 a0_0,.int .u8 a0_1,.int .u8 a0_2,.int .u8 a0_3,.int .u8 a0_4,.int .u8 a0_5,.int .u8 a0_6,.int .u8 a0_7,.int .u8 a0_8,.int .u8 a0_9,.int .u8 a0_10,.int .u8 a0_11] 24 (0,0))):=⟨by rw [← hq_];exact (blk_up BK379.out)⟩;have n15_ : Aside0 (w93.heap[gb387]?=some (.cells #[.slice Ao17 t381.length co17,.int .i64 t384,.int .i64 t385,.int .i64 t386] 31 (0,0))):=⟨by rw [← hq_];exact (blk_up BK387.out)⟩;have n16_ : Aside0 (Below w.heap.size w w93):=⟨by rw [← hq_];exact (below_go HB.out)⟩;clear HO406 HO412 HO420 HO423 HO431 HO437 HO445 HO448 HO457 HO460 HO463 HO_10 HO_388000 HO_9 BK379 BK387 HB hq_;have HO406:=n0_;have HO412:=n1_;have HO420:=n2_;have HO423:=n3_;have HO431:=n4_;have HO437:=n5_;have HO445:=n6_;have HO448:=n7_;have HO457:=n8_;have HO460:=n9_;have HO463:=n10_;have HO_10:=n11_;have HO_388000:=n12_;have HO_9:=n13_;have BK379:=n14_;have BK387:=n15_;have HB:=n16_;clear n0_ n1_ n2_ n3_ n4_ n5_ n6_ n7_ n8_ n9_ n10_ n11_ n12_ n13_ n14_ n15_ n16_))
                   have n0_:=Aside0.mk (Kd.N_drew HO_9.out)
                   have n1_:=Aside0.mk (Kd.R_drew HO_10.out)
                   have n2_:=Aside0.mk (Kd.R_drew HO_388000.out)
                   have n3_:=Aside0.mk (Kd.V_drew HO406.out)
                   have n4_:=Aside0.mk (Kd.V_drew HO420.out)
                   have n5_:=Aside0.mk (Kd.N_drew HO412.out)
                   have n6_:=Aside0.mk (Kd.N_drew HO423.out)
                   have n7_:=Aside0.mk (Kd.V_drew HO431.out)
                   have n8_:=Aside0.mk (Kd.V_drew HO445.out)
                   have n9_:=Aside0.mk (Kd.N_drew HO437.out)
                   have n10_:=Aside0.mk (Kd.N_drew HO448.out)
                   have n11_:=Aside0.mk (Kd.N_drew HO457.out)
                   have n12_:=Aside0.mk (Kd.N_drew HO460.out)
                   have n13_:=Aside0.mk (Kd.N_drew HO463.out)
                   have n14_:=Aside0.mk (blk_drew BK379.out)
                   have n15_:=Aside0.mk (blk_drew BK387.out)
                   have n16_:=Aside0.mk (below_drew1 HB.out)
                   clear HO_9
                   clear HO_10
                   clear HO_388000
                   clear HO406
                   clear HO420
                   clear HO412
                   clear HO423
                   clear HO431
                   clear HO445
                   clear HO437
                   clear HO448
                   clear HO457
                   clear HO460
                   clear HO463
                   clear BK379
                   clear BK387
                   clear HB
                   have HO_9:=n0_
                   have HO_10:=n1_
                   have HO_388000:=n2_
                   have HO406:=n3_
                   have HO420:=n4_
                   have HO412:=n5_
                   have HO423:=n6_
                   have HO431:=n7_
                   have HO445:=n8_
                   have HO437:=n9_
                   have HO448:=n10_
                   have HO457:=n11_
                   have HO460:=n12_
                   have HO463:=n13_
                   have BK379:=n14_
                   have BK387:=n15_
                   have HB:=n16_
                   clear n0_ n1_ n2_ n3_ n4_ n5_ n6_ n7_ n8_ n9_ n10_ n11_ n12_ n13_ n14_ n15_ n16_
                   refine start_ (n:=9) (S:=fun w'=>w'.cell? ⟨gb387,0,none⟩=some (.slice Ao17 t381.length co17)∧w'.cell? ⟨gb387,1,none⟩=some (.int .i64 t384)∧w'.cell? ⟨gb387,2,none⟩=some (.int .i64 t385)∧w'.cell? ⟨gb387,3,none⟩=some (.int .i64 t386)) (ds:=[]) #[false,false,false,false,false,false,false,false,false] (by kernel_rfl) rfl rfl ⟨(blk_cell BK387.out 0).trans rfl,(blk_cell BK387.out 1).trans rfl,(blk_cell BK387.out 2).trans rfl,(blk_cell BK387.out 3).trans rfl⟩ (fun hHeld=>?_);refine with_tabW thresherlaw09_OrderPlaces.tab12 thresherlaw09_OrderPlaces.bits12 (fun HT_ HW_=>?_)
                   generalize w93.drew=w95 at HO_9 HO_10 HO_388000 HO406 HO420 HO412 HO423 HO431 HO445 HO437 HO448 HO457 HO460 HO463 BK379 BK387 HB hHeld ⊢
                   refine pure_ (i:=1) (N:=some 84) (v:=?_) (a':=?_) #[false,true,false,false,false,false,false,false,false] rfl rfl (any_of HT_.out (by kernel_rfl)) (fun _ _ _ h=>h) (Or.inl ⟨by rfl,?_⟩) ?_ ?_
                   rotate_left;(intro w';go_simp;with_reducible rfl);rotate_left;(simp only [Act.put,List.setIfInBounds_toArray,List.set_cons_zero,List.set_cons_succ,i64_w,i32_w];rfl)
                   refine pure_ (i:=3) (N:=some 86) (v:=?_) (a':=?_) #[false,true,false,true,false,false,false,false,false] rfl rfl (any_of HT_.out (by kernel_rfl)) (fun _ _ _ h=>h) (Or.inl ⟨by rfl,?_⟩) ?_ ?_
                   rotate_left;(intro w';go_simp;with_reducible rfl);rotate_left;(simp only [Act.put,List.setIfInBounds_toArray,List.set_cons_zero,List.set_cons_succ,i64_w,i32_w];rfl)
                   refine pure_ (i:=6) (N:=some 89) (v:=?_) (a':=?_) #[false,true,false,true,false,false,true,false,false] rfl rfl (any_of HT_.out (by kernel_rfl)) (fun _ _ _ h=>h) (Or.inl ⟨by rfl,?_⟩) ?_ ?_
                   rotate_left;(intro w';go_simp;with_reducible rfl);rotate_left;(simp only [Act.put,List.setIfInBounds_toArray,List.set_cons_zero,List.set_cons_succ,i64_w,i32_w];rfl)
                   refine take_ (i:=0) (N:=some 83) (v:=?_) (a':=?_) #[true,true,false,true,false,false,true,false,false] rfl rfl (take_ofW HT_.out HW_.out (by kernel_rfl)) (fun _ _ _ h=>h) (Or.inl ⟨by rfl,?_⟩) hHeld ?_ ?_
                   rotate_left;(rintro w' ⟨s0,s1,s2,s3⟩;go_simp;with_reducible rfl);rotate_left;(simp only [Act.put,List.setIfInBounds_toArray,List.set_cons_zero,List.set_cons_succ,i64_w,i32_w];rfl)
                   refine one_ (i:=2) (N:=some 85) #[true,true,true,true,false,false,true,false,false] rfl rfl (one_of HT_.out (by kernel_rfl)) (by decide) (fun K hK=>?_)
                   refine Kd.N_lit_step (Kd.slice 41 k41) _ 27 ?hg (N':=85) ?hd (xs:=([t394] : List (List (S41)))) (inner:=[.slice Ao29 t394.length co29]) (ok:=(fun k_=>some k_≠(.slice Ao28 t391.length co28 : Value).ownBlock∧some k_≠(.slice Ao17 t381.length co17 : Value).ownBlock∧some k_≠(.slice Ao68 y410.length co68 : Value).ownBlock∧some k_≠(.slice Ao82 y421.length co82 : Value).ownBlock∧some k_≠(.slice Ao80 y435.length co80 : Value).ownBlock∧some k_≠(v447 : Value).ownBlock∧some k_≠(.slice Ao91 y455.length co91 : Value).ownBlock∧some k_≠(.slice Ao92 y458.length co92 : Value).ownBlock∧some k_≠(.slice Ao94 t461.length co94 : Value).ownBlock∧k_≠gb379∧k_≠gb387)) (okp:=(fun k_=>some k_≠(.slice Ao28 t391.length co28 : Value).ownBlock∧some k_≠(.slice Ao17 t381.length co17 : Value).ownBlock∧some k_≠(.slice Ao68 y410.length co68 : Value).ownBlock∧some k_≠(.slice Ao82 y421.length co82 : Value).ownBlock∧some k_≠(.slice Ao80 y435.length co80 : Value).ownBlock∧some k_≠(v447 : Value).ownBlock∧some k_≠(.slice Ao91 y455.length co91 : Value).ownBlock∧some k_≠(.slice Ao92 y458.length co92 : Value).ownBlock∧some k_≠(.slice Ao94 t461.length co94 : Value).ownBlock∧k_≠gb379∧k_≠gb387)) ?hr ?hp (fun _ hk=>hk) ((show ∀ k_,w95.heap.size≤k_→(fun k_=>some k_≠(.slice Ao28 t391.length co28 : Value).ownBlock∧some k_≠(.slice Ao17 t381.length co17 : Value).ownBlock∧some k_≠(.slice Ao68 y410.length co68 : Value).ownBlock∧some k_≠(.slice Ao82 y421.length co82 : Value).ownBlock∧some k_≠(.slice Ao80 y435.length co80 : Value).ownBlock∧some k_≠(v447 : Value).ownBlock∧some k_≠(.slice Ao91 y455.length co91 : Value).ownBlock∧some k_≠(.slice Ao92 y458.length co92 : Value).ownBlock∧some k_≠(.slice Ao94 t461.length co94 : Value).ownBlock∧k_≠gb379∧k_≠gb387) k_ from fun k_ hk=>⟨Kd.fresh' (Kd.N_lt (N_up HO_9.out)) k_ hk,Kd.fresh' (Kd.R_lt (R_up HO_388000.out)) k_ hk,Kd.fresh' (Kd.N_lt (N_up HO412.out)) k_ hk,Kd.fresh' (Kd.N_lt (N_up HO423.out)) k_ hk,Kd.fresh' (Kd.N_lt (N_up HO437.out)) k_ hk,Kd.fresh' (Kd.N_lt (N_up HO448.out)) k_ hk,Kd.fresh' (Kd.N_lt (N_up HO457.out)) k_ hk,Kd.fresh' (Kd.N_lt (N_up HO460.out)) k_ hk,Kd.fresh' (Kd.N_lt (N_up HO463.out)) k_ hk,Kd.freshB (blk_up BK379.out) k_ hk,Kd.freshB (blk_up BK387.out) k_ hk⟩) _ (Nat.le_refl _)) (Below.refl _ _) (Nat.le_refl _) (by simp) ?_;(case hd=>rfl);(case hg=>rfl);(case hr=>first|(go_simp;done)|(go_simp;rfl));(case hp=>exact (Reps.one (show Kd.FK (Kd.slice 41 k41) _ _ t394 [.slice Ao29 t394.length co29] from (Kd.FK_slice_mk (Kd.R_reads' (Kd.R_mono (ok':=(fun k_=>some k_≠(.slice Ao28 t391.length co28 : Value).ownBlock∧some k_≠(.slice Ao17 t381.length co17 : Value).ownBlock∧some k_≠(.slice Ao68 y410.length co68 : Value).ownBlock∧some k_≠(.slice Ao82 y421.length co82 : Value).ownBlock∧some k_≠(.slice Ao80 y435.length co80 : Value).ownBlock∧some k_≠(v447 : Value).ownBlock∧some k_≠(.slice Ao91 y455.length co91 : Value).ownBlock∧some k_≠(.slice Ao92 y458.length co92 : Value).ownBlock∧some k_≠(.slice Ao94 t461.length co94 : Value).ownBlock∧k_≠gb379∧k_≠gb387)) (Kd.R_types (Kd.R_types (Kd.R_apart' (Kd.R_apart' (Kd.R_apart' (Kd.R_apart' (Kd.R_apart' (Kd.R_apart' (Kd.R_apart' (Kd.R_apart' (Kd.R_apart' (HO_10.out) (Kd.N_typed HO_9.out) (by decide)) (Kd.R_typed HO_388000.out) (by decide)) (Kd.N_typed HO412.out) (by decide)) (Kd.N_typed HO423.out) (by decide)) (Kd.N_typed HO437.out) (by decide)) (Kd.N_typed HO448.out) (by decide)) (Kd.N_typed HO457.out) (by decide)) (Kd.N_typed HO460.out) (by decide)) (Kd.N_typed HO463.out) (by decide)) BK379.out (by decide)) BK387.out (by decide)) (fun k_ hk=>⟨hk.1.1.1.1.1.1.1.1.1.1.2,⟨hk.1.1.1.1.1.1.1.1.1.2,⟨hk.1.1.1.1.1.1.1.1.2,⟨hk.1.1.1.1.1.1.1.2,⟨hk.1.1.1.1.1.1.2,⟨hk.1.1.1.1.1.2,⟨hk.1.1.1.1.2,⟨hk.1.1.1.2,⟨hk.1.1.2,⟨hk.1.2,hk.2⟩⟩⟩⟩⟩⟩⟩⟩⟩⟩))).2.1 (Kd.R_F (Kd.R_mono (ok':=(fun k_=>some k_≠(.slice Ao28 t391.length co28 : Value).ownBlock∧some k_≠(.slice Ao17 t381.length co17 : Value).ownBlock∧some k_≠(.slice Ao68 y410.length co68 : Value).ownBlock∧some k_≠(.slice Ao82 y421.length co82 : Value).ownBlock∧some k_≠(.slice Ao80 y435.length co80 : Value).ownBlock∧some k_≠(v447 : Value).ownBlock∧some k_≠(.slice Ao91 y455.length co91 : Value).ownBlock∧some k_≠(.slice Ao92 y458.length co92 : Value).ownBlock∧some k_≠(.slice Ao94 t461.length co94 : Value).ownBlock∧k_≠gb379∧k_≠gb387)) (Kd.R_types (Kd.R_types (Kd.R_apart' (Kd.R_apart' (Kd.R_apart' (Kd.R_apart' (Kd.R_apart' (Kd.R_apart' (Kd.R_apart' (Kd.R_apart' (Kd.R_apart' (HO_10.out) (Kd.N_typed HO_9.out) (by decide)) (Kd.R_typed HO_388000.out) (by decide)) (Kd.N_typed HO412.out) (by decide)) (Kd.N_typed HO423.out) (by decide)) (Kd.N_typed HO437.out) (by decide)) (Kd.N_typed HO448.out) (by decide)) (Kd.N_typed HO457.out) (by decide)) (Kd.N_typed HO460.out) (by decide)) (Kd.N_typed HO463.out) (by decide)) BK379.out (by decide)) BK387.out (by decide)) (fun k_ hk=>⟨hk.1.1.1.1.1.1.1.1.1.1.2,⟨hk.1.1.1.1.1.1.1.1.1.2,⟨hk.1.1.1.1.1.1.1.1.2,⟨hk.1.1.1.1.1.1.1.2,⟨hk.1.1.1.1.1.1.2,⟨hk.1.1.1.1.1.2,⟨hk.1.1.1.1.2,⟨hk.1.1.1.2,⟨hk.1.1.2,⟨hk.1.2,hk.2⟩⟩⟩⟩⟩⟩⟩⟩⟩⟩))))) (Reps.none _ _)))
                   intro v466 w96 ho97 hb hg_ hnew_
                   clear hg_ hnew_
                   (first|rw [← Ny465.out] at ho97|(simp only [Int.reduceToNat] at ho97;rw [← Ny465.out] at ho97))
                   have n0_:=Aside0.mk (Kd.N_elder' (N_up HO_9.out) (Kd.N_base ho97) hb)
                   have n1_:=Aside0.mk (Kd.R_below (R_up HO_10.out) hb)
                   have n2_:=Aside0.mk (Kd.R_below (R_up HO_388000.out) hb)
                   have n3_:=Aside0.mk (Kd.V_elder' (V_up HO406.out) (Kd.N_base ho97) hb)
                   have n4_:=Aside0.mk (Kd.V_elder' (V_up HO420.out) (Kd.N_base ho97) hb)
                   have n5_:=Aside0.mk (Kd.N_elder' (N_up HO412.out) (Kd.N_base ho97) hb)
                   have n6_:=Aside0.mk (Kd.N_elder' (N_up HO423.out) (Kd.N_base ho97) hb)
                   have n7_:=Aside0.mk (Kd.V_elder' (V_up HO431.out) (Kd.N_base ho97) hb)
                   have n8_:=Aside0.mk (Kd.V_elder' (V_up HO445.out) (Kd.N_base ho97) hb)
                   have n9_:=Aside0.mk (Kd.N_elder' (N_up HO437.out) (Kd.N_base ho97) hb)
                   have n10_:=Aside0.mk (Kd.N_elder' (N_up HO448.out) (Kd.N_base ho97) hb)
                   have n11_:=Aside0.mk (Kd.N_elder' (N_up HO457.out) (Kd.N_base ho97) hb)
                   have n12_:=Aside0.mk (Kd.N_elder' (N_up HO460.out) (Kd.N_base ho97) hb)
                   have n13_:=Aside0.mk (Kd.N_elder' (N_up HO463.out) (Kd.N_base ho97) hb)
                   have n14_:=Aside0.mk (Kd.N_lower ho97 (below_size (below_go HB.out)))
                   have n15_:=Aside0.mk (blk_below (blk_up BK379.out) hb)
                   have n16_:=Aside0.mk (blk_below (blk_up BK387.out) hb)
                   have n17_:=Aside0.mk (below_step (below_go HB.out) hb)
                   clear HO_9
                   clear HO_10
                   clear HO_388000
                   clear HO406
                   clear HO420
                   clear HO412
                   clear HO423
                   clear HO431
                   clear HO445
                   clear HO437
                   clear HO448
                   clear HO457
                   clear HO460
                   clear HO463
                   clear BK379
                   clear BK387
                   clear HB
                   have HO_9:=n0_
                   have HO_10:=n1_
                   have HO_388000:=n2_
                   have HO406:=n3_
                   have HO420:=n4_
                   have HO412:=n5_
                   have HO423:=n6_
                   have HO431:=n7_
                   have HO445:=n8_
                   have HO437:=n9_
                   have HO448:=n10_
                   have HO457:=n11_
                   have HO460:=n12_
                   have HO463:=n13_
                   have HO467:=n14_
                   have BK379:=n15_
                   have BK387:=n16_
                   have HB:=n17_
                   clear n0_ n1_ n2_ n3_ n4_ n5_ n6_ n7_ n8_ n9_ n10_ n11_ n12_ n13_ n14_ n15_ n16_ n17_
                   clear hb ho97
                   refine hK.out _ _ ⟨(blk_cell BK387.out 0).trans rfl,(blk_cell BK387.out 1).trans rfl,(blk_cell BK387.out 2).trans rfl,(blk_cell BK387.out 3).trans rfl⟩ (fun hHeld=>?_)
                   clear hK K
                   refine norm_ (a':=?_) ?_ ?_
                   rotate_left
                   ·show Act.put _ (some 85) _=_
                    simp only [Act.put,List.setIfInBounds_toArray,List.set_cons_zero,List.set_cons_succ,i64_w,i32_w]
                    rfl
                   refine one_ (i:=4) (N:=some 87) #[true,true,true,true,true,false,true,false,false] rfl rfl (one_of HT_.out (by kernel_rfl)) (by decide) (fun K hK=>?_)
                   refine Kd.N_append_rows_step (Kd.slice 41 k41) (w0:=w) w.heap.size (by rfl) (.tmp 85) (.tmp 86) 25 27 (.slice none 0 0) 24 rfl Try.underlying25 info27 rfl (by decide) (by omega) v466 y465 t391 _ _ _ (fun k_=>some k_≠(.slice Ao17 t381.length co17 : Value).ownBlock∧some k_≠(.slice Ao68 y410.length co68 : Value).ownBlock∧some k_≠(.slice Ao82 y421.length co82 : Value).ownBlock∧some k_≠(.slice Ao80 y435.length co80 : Value).ownBlock∧some k_≠(v447 : Value).ownBlock∧some k_≠(.slice Ao91 y455.length co91 : Value).ownBlock∧some k_≠(.slice Ao92 y458.length co92 : Value).ownBlock∧some k_≠(.slice Ao94 t461.length co94 : Value).ownBlock∧k_≠gb379∧k_≠gb387) (fun k_=>((fun k_=>some k_≠(.slice Ao17 t381.length co17 : Value).ownBlock∧some k_≠(.slice Ao68 y410.length co68 : Value).ownBlock∧some k_≠(.slice Ao82 y421.length co82 : Value).ownBlock∧some k_≠(.slice Ao80 y435.length co80 : Value).ownBlock∧some k_≠(v447 : Value).ownBlock∧some k_≠(.slice Ao91 y455.length co91 : Value).ownBlock∧some k_≠(.slice Ao92 y458.length co92 : Value).ownBlock∧some k_≠(.slice Ao94 t461.length co94 : Value).ownBlock∧k_≠gb379∧k_≠gb387)) k_∧some k_≠(v466 : Value).ownBlock) rfl rfl ?aO ?aR (fun _ hk=>hk) ?aF ?aB ?aS ?aL ?_
                   (case aR=>exact (by skip;exact Kd.N_F (Kd.N_mono (ok':=(fun k_=>((fun k_=>some k_≠(.slice Ao17 t381.length co17 : Value).ownBlock∧some k_≠(.slice Ao68 y410.length co68 : Value).ownBlock∧some k_≠(.slice Ao82 y421.length co82 : Value).ownBlock∧some k_≠(.slice Ao80 y435.length co80 : Value).ownBlock∧some k_≠(v447 : Value).ownBlock∧some k_≠(.slice Ao91 y455.length co91 : Value).ownBlock∧some k_≠(.slice Ao92 y458.length co92 : Value).ownBlock∧some k_≠(.slice Ao94 t461.length co94 : Value).ownBlock∧k_≠gb379∧k_≠gb387)) k_∧some k_≠(v466 : Value).ownBlock)) (HO_9.out) (fun k_ hk=>by simp only [ne_eq] at hk ⊢;simp only [hk,not_false_eq_true,and_self]))))
                   (case aB=>exact (below_go HB.out))
                   (case aF=>exact (fun k_ hk=>⟨Kd.fresh' (Kd.R_lt (R_up HO_388000.out)) k_ hk,Kd.fresh' (Kd.N_lt (N_up HO412.out)) k_ hk,Kd.fresh' (Kd.N_lt (N_up HO423.out)) k_ hk,Kd.fresh' (Kd.N_lt (N_up HO437.out)) k_ hk,Kd.fresh' (Kd.N_lt (N_up HO448.out)) k_ hk,Kd.fresh' (Kd.N_lt (N_up HO457.out)) k_ hk,Kd.fresh' (Kd.N_lt (N_up HO460.out)) k_ hk,Kd.fresh' (Kd.N_lt (N_up HO463.out)) k_ hk,Kd.freshB (blk_up BK379.out) k_ hk,Kd.freshB (blk_up BK387.out) k_ hk⟩))
                   (case aO=>exact (by (with_reducible repeat (first|apply Kd.N_alloc|apply Kd.N_drewN|apply Kd.N_drew));exact Kd.N_mono HO467.out (fun k_ hk=>by simp only [ne_eq] at hk ⊢;simp only [hk,not_false_eq_true,and_self])))
                   (case aS=>exact (below_size (below_go HB.out)))
                   (case aL=>have:=LMc54.out;omega)
                   intro v469 w98 ho hb hg hat
                   rw [← Ny468.out] at ho
                   have n0_:=Aside0.mk (Kd.N_afterv (ok:=(fun k_=>some k_≠(.slice Ao29 t394.length co29 : Value).ownBlock∧some k_≠(.slice Ao17 t381.length co17 : Value).ownBlock∧some k_≠(.slice Ao68 y410.length co68 : Value).ownBlock∧some k_≠(.slice Ao82 y421.length co82 : Value).ownBlock∧some k_≠(.slice Ao80 y435.length co80 : Value).ownBlock∧some k_≠(v447 : Value).ownBlock∧some k_≠(.slice Ao91 y455.length co91 : Value).ownBlock∧some k_≠(.slice Ao92 y458.length co92 : Value).ownBlock∧some k_≠(.slice Ao94 t461.length co94 : Value).ownBlock∧k_≠gb379∧k_≠gb387)) (by (with_reducible repeat (first|apply Kd.N_alloc|apply Kd.N_drewN|apply Kd.N_drew));exact Kd.N_mono HO_9.out (fun k_ hk=>by simp only [ne_eq] at hk ⊢;simp only [hk,not_false_eq_true,and_self])) hg hat)
                   have n1_:=Aside0.mk (Kd.R_over' (R_up HO_10.out) (Kd.N_typed (N_up HO467.out)) (by decide) hg)
                   have n2_:=Aside0.mk (Kd.R_over' (R_up HO_388000.out) (Kd.N_typed (N_up HO467.out)) (by decide) hg)
                   have n3_:=Aside0.mk (blk_grown (blk_up BK379.out) hg (Kd.N_ne HO467.out BK379.out (by decide)))
                   have n4_:=Aside0.mk (blk_grown (blk_up BK387.out) hg (Kd.N_ne HO467.out BK387.out (by decide)))
                   have n5_:=Aside0.mk (Kd.V_afterv (ok:=(fun k_=>some k_≠(.slice Ao29 t394.length co29 : Value).ownBlock∧some k_≠(.slice Ao17 t381.length co17 : Value).ownBlock∧some k_≠(.slice Ao68 y410.length co68 : Value).ownBlock∧some k_≠(.slice Ao82 y421.length co82 : Value).ownBlock∧some k_≠(.slice Ao80 y435.length co80 : Value).ownBlock∧some k_≠(v447 : Value).ownBlock∧some k_≠(.slice Ao91 y455.length co91 : Value).ownBlock∧some k_≠(.slice Ao92 y458.length co92 : Value).ownBlock∧some k_≠(.slice Ao94 t461.length co94 : Value).ownBlock∧k_≠gb379∧k_≠gb387)) (by (with_reducible repeat (first|apply Kd.V_alloc|apply Kd.V_drewN|apply Kd.V_drew));exact Kd.V_mono HO406.out (fun k_ hk=>by simp only [ne_eq] at hk ⊢;simp only [hk,not_false_eq_true,and_self])) hg hat)
                   have n6_:=Aside0.mk (Kd.V_afterv (ok:=(fun k_=>some k_≠(.slice Ao29 t394.length co29 : Value).ownBlock∧some k_≠(.slice Ao17 t381.length co17 : Value).ownBlock∧some k_≠(.slice Ao68 y410.length co68 : Value).ownBlock∧some k_≠(.slice Ao82 y421.length co82 : Value).ownBlock∧some k_≠(.slice Ao80 y435.length co80 : Value).ownBlock∧some k_≠(v447 : Value).ownBlock∧some k_≠(.slice Ao91 y455.length co91 : Value).ownBlock∧some k_≠(.slice Ao92 y458.length co92 : Value).ownBlock∧some k_≠(.slice Ao94 t461.length co94 : Value).ownBlock∧k_≠gb379∧k_≠gb387)) (by (with_reducible repeat (first|apply Kd.V_alloc|apply Kd.V_drewN|apply Kd.V_drew));exact Kd.V_mono HO420.out (fun k_ hk=>by simp only [ne_eq] at hk ⊢;simp only [hk,not_false_eq_true,and_self])) hg hat)
                   have n7_:=Aside0.mk (Kd.N_afterv (ok:=(fun k_=>some k_≠(.slice Ao28 t391.length co28 : Value).ownBlock∧some k_≠(.slice Ao17 t381.length co17 : Value).ownBlock∧some k_≠(.slice Ao82 y421.length co82 : Value).ownBlock∧some k_≠(.slice Ao80 y435.length co80 : Value).ownBlock∧some k_≠(v447 : Value).ownBlock∧some k_≠(.slice Ao91 y455.length co91 : Value).ownBlock∧some k_≠(.slice Ao92 y458.length co92 : Value).ownBlock∧some k_≠(.slice Ao94 t461.length co94 : Value).ownBlock∧k_≠gb379∧k_≠gb387)) (by (with_reducible repeat (first|apply Kd.N_alloc|apply Kd.N_drewN|apply Kd.N_drew));exact Kd.N_mono HO412.out (fun k_ hk=>by simp only [ne_eq] at hk ⊢;simp only [hk,not_false_eq_true,and_self])) hg hat)
                   have n8_:=Aside0.mk (Kd.N_afterv (ok:=(fun k_=>some k_≠(.slice Ao17 t381.length co17 : Value).ownBlock∧some k_≠(.slice Ao80 y435.length co80 : Value).ownBlock∧some k_≠(v447 : Value).ownBlock∧some k_≠(.slice Ao91 y455.length co91 : Value).ownBlock∧some k_≠(.slice Ao92 y458.length co92 : Value).ownBlock∧some k_≠(.slice Ao94 t461.length co94 : Value).ownBlock∧k_≠gb379∧k_≠gb387)) (by (with_reducible repeat (first|apply Kd.N_alloc|apply Kd.N_drewN|apply Kd.N_drew));exact Kd.N_mono HO423.out (fun k_ hk=>by simp only [ne_eq] at hk ⊢;simp only [hk,not_false_eq_true,and_self])) hg hat)
                   have n9_:=Aside0.mk (Kd.V_afterv (ok:=(fun k_=>some k_≠(.slice Ao29 t394.length co29 : Value).ownBlock∧some k_≠(.slice Ao17 t381.length co17 : Value).ownBlock∧some k_≠(.slice Ao68 y410.length co68 : Value).ownBlock∧some k_≠(.slice Ao82 y421.length co82 : Value).ownBlock∧some k_≠(.slice Ao80 y435.length co80 : Value).ownBlock∧some k_≠(v447 : Value).ownBlock∧some k_≠(.slice Ao91 y455.length co91 : Value).ownBlock∧some k_≠(.slice Ao92 y458.length co92 : Value).ownBlock∧some k_≠(.slice Ao94 t461.length co94 : Value).ownBlock∧k_≠gb379∧k_≠gb387)) (by (with_reducible repeat (first|apply Kd.V_alloc|apply Kd.V_drewN|apply Kd.V_drew));exact Kd.V_mono HO431.out (fun k_ hk=>by simp only [ne_eq] at hk ⊢;simp only [hk,not_false_eq_true,and_self])) hg hat)
                   have n10_:=Aside0.mk (Kd.V_afterv (ok:=(fun k_=>some k_≠(.slice Ao29 t394.length co29 : Value).ownBlock∧some k_≠(.slice Ao17 t381.length co17 : Value).ownBlock∧some k_≠(.slice Ao68 y410.length co68 : Value).ownBlock∧some k_≠(.slice Ao82 y421.length co82 : Value).ownBlock∧some k_≠(.slice Ao80 y435.length co80 : Value).ownBlock∧some k_≠(v447 : Value).ownBlock∧some k_≠(.slice Ao91 y455.length co91 : Value).ownBlock∧some k_≠(.slice Ao92 y458.length co92 : Value).ownBlock∧some k_≠(.slice Ao94 t461.length co94 : Value).ownBlock∧k_≠gb379∧k_≠gb387)) (by (with_reducible repeat (first|apply Kd.V_alloc|apply Kd.V_drewN|apply Kd.V_drew));exact Kd.V_mono HO445.out (fun k_ hk=>by simp only [ne_eq] at hk ⊢;simp only [hk,not_false_eq_true,and_self])) hg hat)
                   have n11_:=Aside0.mk (Kd.N_afterv (ok:=(fun k_=>some k_≠(.slice Ao28 t391.length co28 : Value).ownBlock∧some k_≠(.slice Ao17 t381.length co17 : Value).ownBlock∧some k_≠(.slice Ao68 y410.length co68 : Value).ownBlock∧some k_≠(.slice Ao82 y421.length co82 : Value).ownBlock∧some k_≠(v447 : Value).ownBlock∧some k_≠(.slice Ao91 y455.length co91 : Value).ownBlock∧some k_≠(.slice Ao92 y458.length co92 : Value).ownBlock∧some k_≠(.slice Ao94 t461.length co94 : Value).ownBlock∧k_≠gb379∧k_≠gb387)) (by (with_reducible repeat (first|apply Kd.N_alloc|apply Kd.N_drewN|apply Kd.N_drew));exact Kd.N_mono HO437.out (fun k_ hk=>by simp only [ne_eq] at hk ⊢;simp only [hk,not_false_eq_true,and_self])) hg hat)
                   have n12_:=Aside0.mk (Kd.N_afterv (ok:=(fun k_=>some k_≠(.slice Ao17 t381.length co17 : Value).ownBlock∧some k_≠(.slice Ao68 y410.length co68 : Value).ownBlock∧some k_≠(.slice Ao82 y421.length co82 : Value).ownBlock∧some k_≠(.slice Ao91 y455.length co91 : Value).ownBlock∧some k_≠(.slice Ao92 y458.length co92 : Value).ownBlock∧some k_≠(.slice Ao94 t461.length co94 : Value).ownBlock∧k_≠gb379∧k_≠gb387)) (by (with_reducible repeat (first|apply Kd.N_alloc|apply Kd.N_drewN|apply Kd.N_drew));exact Kd.N_mono HO448.out (fun k_ hk=>by simp only [ne_eq] at hk ⊢;simp only [hk,not_false_eq_true,and_self])) hg hat)
                   have n13_:=Aside0.mk (Kd.N_afterv (ok:=(fun k_=>some k_≠(.slice Ao28 t391.length co28 : Value).ownBlock∧some k_≠(.slice Ao17 t381.length co17 : Value).ownBlock∧some k_≠(.slice Ao68 y410.length co68 : Value).ownBlock∧some k_≠(.slice Ao82 y421.length co82 : Value).ownBlock∧some k_≠(.slice Ao80 y435.length co80 : Value).ownBlock∧some k_≠(v447 : Value).ownBlock∧some k_≠(.slice Ao92 y458.length co92 : Value).ownBlock∧some k_≠(.slice Ao94 t461.length co94 : Value).ownBlock∧k_≠gb379∧k_≠gb387)) (by (with_reducible repeat (first|apply Kd.N_alloc|apply Kd.N_drewN|apply Kd.N_drew));exact Kd.N_mono HO457.out (fun k_ hk=>by simp only [ne_eq] at hk ⊢;simp only [hk,not_false_eq_true,and_self])) hg hat)
                   have n14_:=Aside0.mk (Kd.N_afterv (ok:=(fun k_=>some k_≠(.slice Ao17 t381.length co17 : Value).ownBlock∧some k_≠(.slice Ao68 y410.length co68 : Value).ownBlock∧some k_≠(.slice Ao82 y421.length co82 : Value).ownBlock∧some k_≠(.slice Ao80 y435.length co80 : Value).ownBlock∧some k_≠(v447 : Value).ownBlock∧some k_≠(.slice Ao94 t461.length co94 : Value).ownBlock∧k_≠gb379∧k_≠gb387)) (by (with_reducible repeat (first|apply Kd.N_alloc|apply Kd.N_drewN|apply Kd.N_drew));exact Kd.N_mono HO460.out (fun k_ hk=>by simp only [ne_eq] at hk ⊢;simp only [hk,not_false_eq_true,and_self])) hg hat)
                   have n15_:=Aside0.mk (Kd.N_afterv (ok:=(fun k_=>some k_≠(.slice Ao17 t381.length co17 : Value).ownBlock∧some k_≠(.slice Ao68 y410.length co68 : Value).ownBlock∧some k_≠(.slice Ao82 y421.length co82 : Value).ownBlock∧some k_≠(.slice Ao80 y435.length co80 : Value).ownBlock∧some k_≠(v447 : Value).ownBlock∧k_≠gb379∧k_≠gb387)) (Kd.N_mono (N_up HO463.out) (fun k_ hk=>by simp only [ne_eq] at hk ⊢;simp only [hk,not_false_eq_true,and_self])) hg hat)
                   have n16_:=Aside0.mk (hb)
                   have n17_:=Aside0.mk (ho)
                   clear HO_9
                   clear HO_10
                   clear HO_388000
                   clear BK379
                   clear BK387
                   clear HO406
                   clear HO420
                   clear HO412
                   clear HO423
                   clear HO431
                   clear HO445
                   clear HO437
                   clear HO448
                   clear HO457
                   clear HO460
                   clear HO463
                   clear HB
                   clear HO467
                   have HO_9:=n0_
                   have HO_10:=n1_
                   have HO_388000:=n2_
                   have BK379:=n3_
                   have BK387:=n4_
                   have HO406:=n5_
                   have HO420:=n6_
                   have HO412:=n7_
                   have HO423:=n8_
                   have HO431:=n9_
                   have HO445:=n10_
                   have HO437:=n11_
                   have HO448:=n12_
                   have HO457:=n13_
                   have HO460:=n14_
                   have HO463:=n15_
                   have HB:=n16_
                   have HO470:=n17_
                   clear n0_ n1_ n2_ n3_ n4_ n5_ n6_ n7_ n8_ n9_ n10_ n11_ n12_ n13_ n14_ n15_ n16_ n17_
                   clear ho hb hg hat
                   obtain ⟨Ao99,co99,eo99⟩:=Kd.N_slice HO470.out
                   (first|subst eo99|(injection eo99 with f1_ f2_ f3_;have f4_:=f1_.symm;have f5_:=f3_.symm;clear f1_ f2_ f3_;subst f4_;subst f5_))
                   refine hK.out _ _ ⟨(blk_cell BK387.out 0).trans rfl,(blk_cell BK387.out 1).trans rfl,(blk_cell BK387.out 2).trans rfl,(blk_cell BK387.out 3).trans rfl⟩ (fun hHeld=>?_)
                   clear hK K
                   refine norm_ (a':=?_) ?_ ?_
                   rotate_left
                   ·show Act.put _ (some 87) _=_
                    simp only [Act.put,List.setIfInBounds_toArray,List.set_cons_zero,List.set_cons_succ,i64_w,i32_w]
                    rfl
                   refine one_ (i:=5) (N:=some 88) #[true,true,true,true,true,true,true,false,false] rfl rfl (one_of HT_.out (by kernel_rfl)) (by decide) (fun K hK=>?_)
                   refine goes_ Try.func10 (by kernel_rfl) rfl #[.agg #[.slice Ao17 t381.length co17,.int .i64 t384,.int .i64 t385,.int .i64 t386],.slice Ao99 y468.length co99] (by rfl) rfl rfl (by (try simp only [List.map_toArray,List.map_cons,List.map_nil]);first|done|rfl|(simp only [List.length_drop,List.length_take];rfl)) ?_
                   with_reducible refine (order_Sort.calls kj10 _ _ t381 t384 t385 t386 (fun k_=>(some k_≠(.slice Ao17 t381.length co17 : Value).ownBlock∧(some k_≠(.slice Ao68 y410.length co68 : Value).ownBlock∧(some k_≠(.slice Ao82 y421.length co82 : Value).ownBlock∧(some k_≠(.slice Ao80 y435.length co80 : Value).ownBlock∧(some k_≠(v447 : Value).ownBlock∧(some k_≠(.slice Ao91 y455.length co91 : Value).ownBlock∧(some k_≠(.slice Ao92 y458.length co92 : Value).ownBlock∧(some k_≠(.slice Ao94 t461.length co94 : Value).ownBlock∧(k_≠gb379∧k_≠gb387)))))))))) _ _ y468 t471 _ ?side1 ?side2 ?side3 A55.out).mono ?_
                   (case side1=>repeat (first|exact (Kd.R_reads' HO_388000.out).2.2|(with_reducible refine Kd.C_alloc ?_ _)|(with_reducible refine Kd.C_drewN ?_ _)|(with_reducible refine Kd.C_drew ?_)))
                   (case side2=>exact (Kd.R_reads' HO_388000.out).2.1)
                   (case side3=>exact Kd.N_V (HO470.out))
                   rintro e w100 ⟨v472,rfl,ho0,hb⟩
                   refine ⟨_,rfl,?_⟩
                   have n0_:=Aside0.mk (Kd.N_elder' (N_up HO_9.out) (by first | exact Kd.N_base ho0 | exact Kd.S_base ho0) hb)
                   have n1_:=Aside0.mk (Kd.R_below (R_up HO_10.out) hb)
                   have n2_:=Aside0.mk (Kd.R_below (R_up HO_388000.out) hb)
                   have n3_:=Aside0.mk (Kd.V_elder' (V_up HO406.out) (by first | exact Kd.N_base ho0 | exact Kd.S_base ho0) hb)
                   have n4_:=Aside0.mk (Kd.V_elder' (V_up HO420.out) (by first | exact Kd.N_base ho0 | exact Kd.S_base ho0) hb)
                   have n5_:=Aside0.mk (Kd.N_elder' (N_up HO412.out) (by first | exact Kd.N_base ho0 | exact Kd.S_base ho0) hb)
                   have n6_:=Aside0.mk (Kd.N_elder' (N_up HO423.out) (by first | exact Kd.N_base ho0 | exact Kd.S_base ho0) hb)
                   have n7_:=Aside0.mk (Kd.V_elder' (V_up HO431.out) (by first | exact Kd.N_base ho0 | exact Kd.S_base ho0) hb)
                   have n8_:=Aside0.mk (Kd.V_elder' (V_up HO445.out) (by first | exact Kd.N_base ho0 | exact Kd.S_base ho0) hb)
                   have n9_:=Aside0.mk (Kd.N_elder' (N_up HO437.out) (by first | exact Kd.N_base ho0 | exact Kd.S_base ho0) hb)
                   have n10_:=Aside0.mk (Kd.N_elder' (N_up HO448.out) (by first | exact Kd.N_base ho0 | exact Kd.S_base ho0) hb)
                   have n11_:=Aside0.mk (Kd.N_elder' (N_up HO457.out) (by first | exact Kd.N_base ho0 | exact Kd.S_base ho0) hb)
                   have n12_:=Aside0.mk (Kd.N_elder' (N_up HO460.out) (by first | exact Kd.N_base ho0 | exact Kd.S_base ho0) hb)
                   have n13_:=Aside0.mk (Kd.N_elder' (N_up HO463.out) (by first | exact Kd.N_base ho0 | exact Kd.S_base ho0) hb)
                   have n14_:=Aside0.mk (Kd.N_elder' (N_up HO470.out) (by first | exact Kd.N_base ho0 | exact Kd.S_base ho0) hb)
                   have n15_:=Aside0.mk (Kd.N_lower (Kd.N_mono (ok':=fun k_=>some k_≠(.slice Ao17 t381.length co17 : Value).ownBlock∧some k_≠(.slice Ao68 y410.length co68 : Value).ownBlock∧some k_≠(.slice Ao82 y421.length co82 : Value).ownBlock∧some k_≠(.slice Ao80 y435.length co80 : Value).ownBlock∧some k_≠(v447 : Value).ownBlock∧some k_≠(.slice Ao91 y455.length co91 : Value).ownBlock∧some k_≠(.slice Ao92 y458.length co92 : Value).ownBlock∧some k_≠(.slice Ao94 t461.length co94 : Value).ownBlock∧k_≠gb379∧k_≠gb387) ho0 (fun k_ hk_=>⟨Or.elim hk_ (fun hs_=>hs_.1) (fun hn_=>(Kd.fresh' (Kd.R_lt (R_up HO_388000.out)) k_ hn_)),Or.elim hk_ (fun hs_=>hs_.2.1) (fun hn_=>(Kd.fresh' (Kd.N_lt (N_up HO412.out)) k_ hn_)),Or.elim hk_ (fun hs_=>hs_.2.2.1) (fun hn_=>(Kd.fresh' (Kd.N_lt (N_up HO423.out)) k_ hn_)),Or.elim hk_ (fun hs_=>hs_.2.2.2.1) (fun hn_=>(Kd.fresh' (Kd.N_lt (N_up HO437.out)) k_ hn_)),Or.elim hk_ (fun hs_=>hs_.2.2.2.2.1) (fun hn_=>(Kd.fresh' (Kd.N_lt (N_up HO448.out)) k_ hn_)),Or.elim hk_ (fun hs_=>hs_.2.2.2.2.2.1) (fun hn_=>(Kd.fresh' (Kd.N_lt (N_up HO457.out)) k_ hn_)),Or.elim hk_ (fun hs_=>hs_.2.2.2.2.2.2.1) (fun hn_=>(Kd.fresh' (Kd.N_lt (N_up HO460.out)) k_ hn_)),Or.elim hk_ (fun hs_=>hs_.2.2.2.2.2.2.2.1) (fun hn_=>(Kd.fresh' (Kd.N_lt (N_up HO463.out)) k_ hn_)),Or.elim hk_ (fun hs_=>hs_.2.2.2.2.2.2.2.2.1) (fun hn_=>(Kd.freshB (blk_up BK379.out) k_ hn_)),Or.elim hk_ (fun hs_=>hs_.2.2.2.2.2.2.2.2.2) (fun hn_=>(Kd.freshB (blk_up BK387.out) k_ hn_))⟩)) (below_size (below_go HB.out)))
                   have n16_:=Aside0.mk (blk_below (blk_up BK379.out) hb)
                   have n17_:=Aside0.mk (blk_below (blk_up BK387.out) hb)
                   have n18_:=Aside0.mk (below_step (below_go HB.out) hb)
                   clear HO_9
                   clear HO_10
                   clear HO_388000
                   clear HO406
                   clear HO420
                   clear HO412
                   clear HO423
                   clear HO431
                   clear HO445
                   clear HO437
                   clear HO448
                   clear HO457
                   clear HO460
                   clear HO463
                   clear HO470
                   clear BK379
                   clear BK387
                   clear HB
                   have HO_9:=n0_
                   have HO_10:=n1_
                   have HO_388000:=n2_
                   have HO406:=n3_
                   have HO420:=n4_
                   have HO412:=n5_
                   have HO423:=n6_
                   have HO431:=n7_
                   have HO445:=n8_
                   have HO437:=n9_
                   have HO448:=n10_
                   have HO457:=n11_
                   have HO460:=n12_
                   have HO463:=n13_
                   have HO470:=n14_
                   have HO473:=n15_
                   have BK379:=n16_
                   have BK387:=n17_
                   have HB:=n18_
                   clear n0_ n1_ n2_ n3_ n4_ n5_ n6_ n7_ n8_ n9_ n10_ n11_ n12_ n13_ n14_ n15_ n16_ n17_ n18_
                   (try clear hb)
                   (try clear hb2)
                   (try clear hk)
                   (try clear hi)
                   (try clear ho0)
                   obtain ⟨Ao101,co101,eo101⟩:=Kd.N_slice HO473.out
                   (first|subst eo101|(injection eo101 with f1_ f2_ f3_;have f4_:=f1_.symm;have f5_:=f3_.symm;clear f1_ f2_ f3_;subst f4_;subst f5_))
                   obtain ⟨Ao102,co102,eo102⟩:=Kd.N_slice HO448.out
                   (first|subst eo102|(injection eo102 with f1_ f2_ f3_;have f4_:=f1_.symm;have f5_:=f3_.symm;clear f1_ f2_ f3_;subst f4_;subst f5_))
                   refine hK.out _ _ ⟨(blk_cell BK387.out 0).trans rfl,(blk_cell BK387.out 1).trans rfl,(blk_cell BK387.out 2).trans rfl,(blk_cell BK387.out 3).trans rfl⟩ (fun hHeld=>?_)
                   clear hK K
                   refine norm_ (a':=?_) ?_ ?_
                   rotate_left
                   ·show Act.put _ (some 88) _=_
                    simp only [Act.put,List.setIfInBounds_toArray,List.set_cons_zero,List.set_cons_succ,i64_w,i32_w]
                    rfl
                   refine one_ (i:=7) (N:=some 90) #[true,true,true,true,true,true,true,true,false] rfl rfl (one_of HT_.out (by kernel_rfl)) (by decide) (fun K hK=>?_)
                   refine goes_ Try.func16 (by kernel_rfl) rfl #[.slice Ao101 t471.length co101,.slice Ao102 y446.length co102] (by rfl) rfl rfl (by (try simp only [List.map_toArray,List.map_cons,List.map_nil]);first|done|rfl|(simp only [List.length_drop,List.length_take];rfl)) ?_
                   with_reducible refine (thresherref04_Rows.calls kj10 _ _ t471 _ _ y446 t474 _ ?side1 ?side2 ?side3 ?side4 A56.out).mono ?_
                   (case side1=>repeat (first|exact (Kd.N_reads' HO473.out).2.2|(with_reducible refine Kd.C_alloc ?_ _)|(with_reducible refine Kd.C_drewN ?_ _)|(with_reducible refine Kd.C_drew ?_)))
                   (case side2=>exact (Kd.N_reads' HO473.out).2.1)
                   (case side3=>repeat (first|exact (Kd.N_reads' HO448.out).2.2|(with_reducible refine Kd.C_alloc ?_ _)|(with_reducible refine Kd.C_drewN ?_ _)|(with_reducible refine Kd.C_drew ?_)))
                   (case side4=>exact (Kd.N_reads' HO448.out).2.1)
                   rintro e w' ⟨rfl,⟨nd,rfl⟩⟩
                   refine ⟨_,rfl,?_⟩
                   refine hK.out _ _ ⟨(blk_cell BK387.out 0).trans rfl,(blk_cell BK387.out 1).trans rfl,(blk_cell BK387.out 2).trans rfl,(blk_cell BK387.out 3).trans rfl⟩ (fun hHeld=>?_)
                   clear hK K
                   refine norm_ (a':=?_) ?_ ?_
                   rotate_left
                   ·show Act.put _ (some 90) _=_
                    simp only [Act.put,List.setIfInBounds_toArray,List.set_cons_zero,List.set_cons_succ,i64_w,i32_w]
                    rfl
                   refine pure_ (i:=8) (N:=some 16) (v:=?_) (a':=?_) #[true,true,true,true,true,true,true,true,true] rfl rfl (any_of HT_.out (by kernel_rfl)) (fun _ _ _ h=>h) (Or.inl ⟨by rfl,?_⟩) ?_ ?_
                   rotate_left;(intro w';go_simp;with_reducible rfl);rotate_left;(simp only [Act.put,List.setIfInBounds_toArray,List.set_cons_zero,List.set_cons_succ,i64_w,i32_w];rfl)
                   refine done_ (done_of HT_.out (by kernel_rfl)) ?_
                   (try clear hHeld)
                   go_upto_region 13 with (fail)
                   go_cut [6] (fun v6 wc=>∃ (kq : Nat) (x6_56 : Bool),v6=.bool x6_56∧Aside0 (thresherlaw09_OrderPlaces.j1 kq x6_56=some r)∧Aside0 (kq≤kj10)∧Aside0 (Kd.R (Kd.int .i64) 3 wc w.heap.size (fun _=>True) (.slice Ao17 t381.length co17) t381)∧Aside0 (wc.heap[gb379]?=some (.cells #[.int .u8 a0_0,.int .u8 a0_1,.int .u8 a0_2,.int .u8 a0_3,.int .u8 a0_4,.int .u8 a0_5,.int .u8 a0_6,.int .u8 a0_7,.int .u8 a0_8,.int .u8 a0_9,.int .u8 a0_10,.int .u8 a0_11] 24 (0,0)))∧Aside0 (wc.heap[gb387]?=some (.cells #[(.slice Ao17 t381.length co17),.int .i64 t384,.int .i64 t385,.int .i64 t386] 31 (0,0)))∧Aside0 (Below w.heap.size w wc))
                   case first =>
                    have H:=HC57.out
                    clear HC57
                    by_cases c103 : t380=true
                    ·subst c103
                     have H1 : (if t464=true then (if t474=true then ((order_Sorted.f kj10 t381 t384 t385 t386 y421).bind fun t475=>(if t475=true then ((order_Sorted.f kj10 t381 t384 t385 t386 y446).bind fun t476=>(thresherlaw09_OrderPlaces.j1 kj10 t476)) else (thresherlaw09_OrderPlaces.j1 kj10 false))) else (thresherlaw09_OrderPlaces.j1 kj10 false)) else (thresherlaw09_OrderPlaces.j1 kj10 false))=some r:=by rw [if_pos rfl] at H;exact H
                     clear H
                     have H:=H1
                     clear H1
                     by_cases c104 : t464=true
                     ·subst c104
                      have H1 : (if t474=true then ((order_Sorted.f kj10 t381 t384 t385 t386 y421).bind fun t475=>(if t475=true then ((order_Sorted.f kj10 t381 t384 t385 t386 y446).bind fun t476=>(thresherlaw09_OrderPlaces.j1 kj10 t476)) else (thresherlaw09_OrderPlaces.j1 kj10 false))) else (thresherlaw09_OrderPlaces.j1 kj10 false))=some r:=by rw [if_pos rfl] at H;exact H
                      clear H
                      have H:=H1
                      clear H1
                      by_cases c105 : t474=true
                      ·subst c105
                       have H1 : ((order_Sorted.f kj10 t381 t384 t385 t386 y421).bind fun t475=>(if t475=true then ((order_Sorted.f kj10 t381 t384 t385 t386 y446).bind fun t476=>(thresherlaw09_OrderPlaces.j1 kj10 t476)) else (thresherlaw09_OrderPlaces.j1 kj10 false)))=some r:=by rw [if_pos rfl] at H;exact H
                       clear H
                       have H:=H1
                       clear H1
                       replace H:=Option.bind_eq_some_iff.mp H
                       obtain ⟨t475,A1060,H⟩:=H
                       replace H : (if t475=true then ((order_Sorted.f kj10 t381 t384 t385 t386 y446).bind fun t476=>(thresherlaw09_OrderPlaces.j1 kj10 t476)) else (thresherlaw09_OrderPlaces.j1 kj10 false))=some r:=H
                       have A106:=Aside0.mk A1060
                       clear A1060
                       by_cases c107 : t475=true
                       ·subst c107
                        have H1 : ((order_Sorted.f kj10 t381 t384 t385 t386 y446).bind fun t476=>(thresherlaw09_OrderPlaces.j1 kj10 t476))=some r:=by rw [if_pos rfl] at H;exact H
                        clear H
                        have H:=H1
                        clear H1
                        replace H:=Option.bind_eq_some_iff.mp H
                        obtain ⟨t476,A1080,H⟩:=H
                        replace H : (thresherlaw09_OrderPlaces.j1 kj10 t476)=some r:=H
                        have A108:=Aside0.mk A1080
                        clear A1080
                        have H':=Aside0.mk H
                        clear H
                        have hnb109:=NB387_379.out
                        have hnc109:=NB379_387.out
                        have hcz110_0 : w100.cell? ⟨gb387,0,none⟩=some (.slice Ao17 t381.length co17):=(blk_cell BK387.out 0).trans rfl
                        have hcz110_1 : w100.cell? ⟨gb387,1,none⟩=some (.int .i64 t384):=(blk_cell BK387.out 1).trans rfl
                        have hcz110_2 : w100.cell? ⟨gb387,2,none⟩=some (.int .i64 t385):=(blk_cell BK387.out 2).trans rfl
                        have hcz110_3 : w100.cell? ⟨gb387,3,none⟩=some (.int .i64 t386):=(blk_cell BK387.out 3).trans rfl
                        have hfz110_0:=blk_frozen BK387.out 0
                        have hfz110_1:=blk_frozen BK387.out 1
                        have hfz110_2:=blk_frozen BK387.out 2
                        have hfz110_3:=blk_frozen BK387.out 3
                        go_wp2_with (first|(go_at_call 18;(with_reducible refine (order_Sorted.calls kj10 _ _ t381 t384 t385 t386 _ _ y421 true _ ?side1 ?side2 ?side3 ?side4 A106.out).mono ?_);(case side1=>repeat (first|exact (Kd.R_reads' HO_388000.out).2.2|(with_reducible refine Kd.C_alloc ?_ _)|(with_reducible refine Kd.C_drewN ?_ _)|(with_reducible refine Kd.C_drew ?_)));(case side2=>exact (Kd.R_reads' HO_388000.out).2.1);(case side3=>repeat (first|exact (Kd.N_reads' HO423.out).2.2|(with_reducible refine Kd.C_alloc ?_ _)|(with_reducible refine Kd.C_drewN ?_ _)|(with_reducible refine Kd.C_drew ?_)));(case side4=>exact (Kd.N_reads' HO423.out).2.1);rintro e w111 ⟨rfl,hb⟩;have n0_:=Aside0.mk (Kd.N_below (N_up HO_9.out) hb);have n1_:=Aside0.mk (Kd.R_below (R_up HO_10.out) hb);have n2_:=Aside0.mk (Kd.R_below (R_up HO_388000.out) hb);have n3_:=Aside0.mk (Kd.V_below (V_up HO406.out) hb);have n4_:=Aside0.mk (Kd.V_below (V_up HO420.out) hb);have n5_:=Aside0.mk (Kd.N_below (N_up HO412.out) hb);have n6_:=Aside0.mk (Kd.N_below (N_up HO423.out) hb);have n7_:=Aside0.mk (Kd.V_below (V_up HO431.out) hb);have n8_:=Aside0.mk (Kd.V_below (V_up HO445.out) hb);have n9_:=Aside0.mk (Kd.N_below (N_up HO437.out) hb);have n10_:=Aside0.mk (Kd.N_below (N_up HO448.out) hb);have n11_:=Aside0.mk (Kd.N_below (N_up HO457.out) hb);have n12_:=Aside0.mk (Kd.N_below (N_up HO460.out) hb);have n13_:=Aside0.mk (Kd.N_below (N_up HO463.out) hb);have n14_:=Aside0.mk (Kd.N_below (N_up HO470.out) hb);have n15_:=Aside0.mk (Kd.N_below (N_up HO473.out) hb);have n16_:=Aside0.mk (blk_below (blk_up BK379.out) hb);have n17_:=Aside0.mk (blk_below (blk_up BK387.out) hb);have n18_:=Aside0.mk (below_step (below_go HB.out) hb);clear HO_9;clear HO_10;clear HO_388000;clear HO406;clear HO420;clear HO412;clear HO423;clear HO431;clear HO445;clear HO437;clear HO448;clear HO457;clear HO460;clear HO463;clear HO470;clear HO473;clear BK379;clear BK387;clear HB;have HO_9:=n0_;have HO_10:=n1_;have HO_388000:=n2_;have HO406:=n3_;have HO420:=n4_;have HO412:=n5_;have HO423:=n6_;have HO431:=n7_;have HO445:=n8_;have HO437:=n9_;have HO448:=n10_;have HO457:=n11_;have HO460:=n12_;have HO463:=n13_;have HO470:=n14_;have HO473:=n15_;have BK379:=n16_;have BK387:=n17_;have HB:=n18_;clear n0_ n1_ n2_ n3_ n4_ n5_ n6_ n7_ n8_ n9_ n10_ n11_ n12_ n13_ n14_ n15_ n16_ n17_ n18_;(try clear hb);(try clear hb2);(try clear hk);(try clear hi);have hcz112_0 : w111.cell? ⟨gb387,0,none⟩=some (.slice Ao17 t381.length co17):=(blk_cell BK387.out 0).trans rfl;have hcz112_1 : w111.cell? ⟨gb387,1,none⟩=some (.int .i64 t384):=(blk_cell BK387.out 1).trans rfl;have hcz112_2 : w111.cell? ⟨gb387,2,none⟩=some (.int .i64 t385):=(blk_cell BK387.out 2).trans rfl;have hcz112_3 : w111.cell? ⟨gb387,3,none⟩=some (.int .i64 t386):=(blk_cell BK387.out 3).trans rfl;have hfz112_0:=blk_frozen BK387.out 0;have hfz112_1:=blk_frozen BK387.out 1;have hfz112_2:=blk_frozen BK387.out 2;have hfz112_3:=blk_frozen BK387.out 3)|(go_at_call 18;(with_reducible refine (order_Sorted.calls kj10 _ _ t381 t384 t385 t386 _ _ y446 t476 _ ?side1 ?side2 ?side3 ?side4 A108.out).mono ?_);(case side1=>repeat (first|exact (Kd.R_reads' HO_388000.out).2.2|(with_reducible refine Kd.C_alloc ?_ _)|(with_reducible refine Kd.C_drewN ?_ _)|(with_reducible refine Kd.C_drew ?_)));(case side2=>exact (Kd.R_reads' HO_388000.out).2.1);(case side3=>repeat (first|exact (Kd.N_reads' HO448.out).2.2|(with_reducible refine Kd.C_alloc ?_ _)|(with_reducible refine Kd.C_drewN ?_ _)|(with_reducible refine Kd.C_drew ?_)));(case side4=>exact (Kd.N_reads' HO448.out).2.1);rintro e w113 ⟨rfl,hb⟩;have n0_:=Aside0.mk (Kd.N_below (N_up HO_9.out) hb);have n1_:=Aside0.mk (Kd.R_below (R_up HO_10.out) hb);have n2_:=Aside0.mk (Kd.R_below (R_up HO_388000.out) hb);have n3_:=Aside0.mk (Kd.V_below (V_up HO406.out) hb);have n4_:=Aside0.mk (Kd.V_below (V_up HO420.out) hb);have n5_:=Aside0.mk (Kd.N_below (N_up HO412.out) hb);have n6_:=Aside0.mk (Kd.N_below (N_up HO423.out) hb);have n7_:=Aside0.mk (Kd.V_below (V_up HO431.out) hb);have n8_:=Aside0.mk (Kd.V_below (V_up HO445.out) hb);have n9_:=Aside0.mk (Kd.N_below (N_up HO437.out) hb);have n10_:=Aside0.mk (Kd.N_below (N_up HO448.out) hb);have n11_:=Aside0.mk (Kd.N_below (N_up HO457.out) hb);have n12_:=Aside0.mk (Kd.N_below (N_up HO460.out) hb);have n13_:=Aside0.mk (Kd.N_below (N_up HO463.out) hb);have n14_:=Aside0.mk (Kd.N_below (N_up HO470.out) hb);have n15_:=Aside0.mk (Kd.N_below (N_up HO473.out) hb);have n16_:=Aside0.mk (blk_below (blk_up BK379.out) hb);have n17_:=Aside0.mk (blk_below (blk_up BK387.out) hb);have n18_:=Aside0.mk (below_step (below_go HB.out) hb);clear HO_9;clear HO_10;clear HO_388000;clear HO406;clear HO420;clear HO412;clear HO423;clear HO431;clear HO445;clear HO437;clear HO448;clear HO457;clear HO460;clear HO463;clear HO470;clear HO473;clear BK379;clear BK387;clear HB;have HO_9:=n0_;have HO_10:=n1_;have HO_388000:=n2_;have HO406:=n3_;have HO420:=n4_;have HO412:=n5_;have HO423:=n6_;have HO431:=n7_;have HO445:=n8_;have HO437:=n9_;have HO448:=n10_;have HO457:=n11_;have HO460:=n12_;have HO463:=n13_;have HO470:=n14_;have HO473:=n15_;have BK379:=n16_;have BK387:=n17_;have HB:=n18_;clear n0_ n1_ n2_ n3_ n4_ n5_ n6_ n7_ n8_ n9_ n10_ n11_ n12_ n13_ n14_ n15_ n16_ n17_ n18_;(try clear hb);(try clear hb2);(try clear hk);(try clear hi)))
                        go_meet
                        case rel=>exact ⟨_,(t476),(by first|rfl|(simp;done)|(simp [*];done)),(by first|exact H'|(subst_vars;exact H')),⟨by have:=HJ10.out;first|omega|exact Nat.le_refl _⟩,⟨by (with_reducible repeat (first|apply Kd.R_alloc|apply Kd.R_drewN|apply Kd.R_drew));exact HO_388000.out⟩,⟨by (with_reducible repeat (first|refine blk_drewN ?_ _|refine blk_drew ?_|refine blk_alloc ?_ _));exact BK379.out⟩,⟨by (with_reducible repeat (first|refine blk_drewN ?_ _|refine blk_drew ?_|refine blk_alloc ?_ _));exact BK387.out⟩,⟨by repeat (first|(with_reducible first|exact HB.out|apply below_alloc|apply pw_below_drewN|apply below_drew1|refine below_set ?_ GE379.out|refine below_set ?_ GE387.out)|exact HB.out)⟩⟩
                       ·replace c107:=Bool.eq_false_iff.mpr c107
                        subst c107
                        have H1 : (thresherlaw09_OrderPlaces.j1 kj10 false)=some r:=by rw [if_neg (show ¬ (false=true) by decide)] at H;exact H
                        clear H
                        have H:=H1
                        clear H1
                        have H':=Aside0.mk H
                        clear H
                        have hnb114:=NB387_379.out
                        have hnc114:=NB379_387.out
                        have hcz115_0 : w100.cell? ⟨gb387,0,none⟩=some (.slice Ao17 t381.length co17):=(blk_cell BK387.out 0).trans rfl
                        have hcz115_1 : w100.cell? ⟨gb387,1,none⟩=some (.int .i64 t384):=(blk_cell BK387.out 1).trans rfl
                        have hcz115_2 : w100.cell? ⟨gb387,2,none⟩=some (.int .i64 t385):=(blk_cell BK387.out 2).trans rfl
                        have hcz115_3 : w100.cell? ⟨gb387,3,none⟩=some (.int .i64 t386):=(blk_cell BK387.out 3).trans rfl
                        have hfz115_0:=blk_frozen BK387.out 0
                        have hfz115_1:=blk_frozen BK387.out 1
                        have hfz115_2:=blk_frozen BK387.out 2
                        have hfz115_3:=blk_frozen BK387.out 3
                        go_wp2_with (first|(go_at_call 18;(with_reducible refine (order_Sorted.calls kj10 _ _ t381 t384 t385 t386 _ _ y421 false _ ?side1 ?side2 ?side3 ?side4 A106.out).mono ?_);(case side1=>repeat (first|exact (Kd.R_reads' HO_388000.out).2.2|(with_reducible refine Kd.C_alloc ?_ _)|(with_reducible refine Kd.C_drewN ?_ _)|(with_reducible refine Kd.C_drew ?_)));(case side2=>exact (Kd.R_reads' HO_388000.out).2.1);(case side3=>repeat (first|exact (Kd.N_reads' HO423.out).2.2|(with_reducible refine Kd.C_alloc ?_ _)|(with_reducible refine Kd.C_drewN ?_ _)|(with_reducible refine Kd.C_drew ?_)));(case side4=>exact (Kd.N_reads' HO423.out).2.1);rintro e w116 ⟨rfl,hb⟩;have n0_:=Aside0.mk (Kd.N_below (N_up HO_9.out) hb);have n1_:=Aside0.mk (Kd.R_below (R_up HO_10.out) hb);have n2_:=Aside0.mk (Kd.R_below (R_up HO_388000.out) hb);have n3_:=Aside0.mk (Kd.V_below (V_up HO406.out) hb);have n4_:=Aside0.mk (Kd.V_below (V_up HO420.out) hb);have n5_:=Aside0.mk (Kd.N_below (N_up HO412.out) hb);have n6_:=Aside0.mk (Kd.N_below (N_up HO423.out) hb);have n7_:=Aside0.mk (Kd.V_below (V_up HO431.out) hb);have n8_:=Aside0.mk (Kd.V_below (V_up HO445.out) hb);have n9_:=Aside0.mk (Kd.N_below (N_up HO437.out) hb);have n10_:=Aside0.mk (Kd.N_below (N_up HO448.out) hb);have n11_:=Aside0.mk (Kd.N_below (N_up HO457.out) hb);have n12_:=Aside0.mk (Kd.N_below (N_up HO460.out) hb);have n13_:=Aside0.mk (Kd.N_below (N_up HO463.out) hb);have n14_:=Aside0.mk (Kd.N_below (N_up HO470.out) hb);have n15_:=Aside0.mk (Kd.N_below (N_up HO473.out) hb);have n16_:=Aside0.mk (blk_below (blk_up BK379.out) hb);have n17_:=Aside0.mk (blk_below (blk_up BK387.out) hb);have n18_:=Aside0.mk (below_step (below_go HB.out) hb);clear HO_9;clear HO_10;clear HO_388000;clear HO406;clear HO420;clear HO412;clear HO423;clear HO431;clear HO445;clear HO437;clear HO448;clear HO457;clear HO460;clear HO463;clear HO470;clear HO473;clear BK379;clear BK387;clear HB;have HO_9:=n0_;have HO_10:=n1_;have HO_388000:=n2_;have HO406:=n3_;have HO420:=n4_;have HO412:=n5_;have HO423:=n6_;have HO431:=n7_;have HO445:=n8_;have HO437:=n9_;have HO448:=n10_;have HO457:=n11_;have HO460:=n12_;have HO463:=n13_;have HO470:=n14_;have HO473:=n15_;have BK379:=n16_;have BK387:=n17_;have HB:=n18_;clear n0_ n1_ n2_ n3_ n4_ n5_ n6_ n7_ n8_ n9_ n10_ n11_ n12_ n13_ n14_ n15_ n16_ n17_ n18_;(try clear hb);(try clear hb2);(try clear hk);(try clear hi)))
                        go_meet
                        case rel=>exact ⟨_,(false),(by first|rfl|(simp;done)|(simp [*];done)),(by first|exact H'|(subst_vars;exact H')),⟨by have:=HJ10.out;first|omega|exact Nat.le_refl _⟩,⟨by (with_reducible repeat (first|apply Kd.R_alloc|apply Kd.R_drewN|apply Kd.R_drew));exact HO_388000.out⟩,⟨by (with_reducible repeat (first|refine blk_drewN ?_ _|refine blk_drew ?_|refine blk_alloc ?_ _));exact BK379.out⟩,⟨by (with_reducible repeat (first|refine blk_drewN ?_ _|refine blk_drew ?_|refine blk_alloc ?_ _));exact BK387.out⟩,⟨by repeat (first|(with_reducible first|exact HB.out|apply below_alloc|apply pw_below_drewN|apply below_drew1|refine below_set ?_ GE379.out|refine below_set ?_ GE387.out)|exact HB.out)⟩⟩
                      ·replace c105:=Bool.eq_false_iff.mpr c105
                       subst c105
                       have H1 : (thresherlaw09_OrderPlaces.j1 kj10 false)=some r:=by rw [if_neg (show ¬ (false=true) by decide)] at H;exact H
                       clear H
                       have H:=H1
                       clear H1
                       have H':=Aside0.mk H
                       clear H
                       go_wp2
                       go_meet
                       case rel=>exact ⟨_,(false),(by first|rfl|(simp;done)|(simp [*];done)),(by first|exact H'|(subst_vars;exact H')),⟨by have:=HJ10.out;first|omega|exact Nat.le_refl _⟩,⟨by (with_reducible repeat (first|apply Kd.R_alloc|apply Kd.R_drewN|apply Kd.R_drew));exact HO_388000.out⟩,⟨by (with_reducible repeat (first|refine blk_drewN ?_ _|refine blk_drew ?_|refine blk_alloc ?_ _));exact BK379.out⟩,⟨by (with_reducible repeat (first|refine blk_drewN ?_ _|refine blk_drew ?_|refine blk_alloc ?_ _));exact BK387.out⟩,⟨by repeat (first|(with_reducible first|exact HB.out|apply below_alloc|apply pw_below_drewN|apply below_drew1|refine below_set ?_ GE379.out|refine below_set ?_ GE387.out)|exact HB.out)⟩⟩
                     ·replace c104:=Bool.eq_false_iff.mpr c104
                      subst c104
                      have H1 : (thresherlaw09_OrderPlaces.j1 kj10 false)=some r:=by rw [if_neg (show ¬ (false=true) by decide)] at H;exact H
                      clear H
                      have H:=H1
                      clear H1
                      have H':=Aside0.mk H
                      clear H
                      go_wp2
                      go_meet
                      case rel=>exact ⟨_,(false),(by first|rfl|(simp;done)|(simp [*];done)),(by first|exact H'|(subst_vars;exact H')),⟨by have:=HJ10.out;first|omega|exact Nat.le_refl _⟩,⟨by (with_reducible repeat (first|apply Kd.R_alloc|apply Kd.R_drewN|apply Kd.R_drew));exact HO_388000.out⟩,⟨by (with_reducible repeat (first|refine blk_drewN ?_ _|refine blk_drew ?_|refine blk_alloc ?_ _));exact BK379.out⟩,⟨by (with_reducible repeat (first|refine blk_drewN ?_ _|refine blk_drew ?_|refine blk_alloc ?_ _));exact BK387.out⟩,⟨by repeat (first|(with_reducible first|exact HB.out|apply below_alloc|apply pw_below_drewN|apply below_drew1|refine below_set ?_ GE379.out|refine below_set ?_ GE387.out)|exact HB.out)⟩⟩
                    ·replace c103:=Bool.eq_false_iff.mpr c103
                     subst c103
                     have H1 : (thresherlaw09_OrderPlaces.j1 kj10 false)=some r:=by rw [if_neg (show ¬ (false=true) by decide)] at H;exact H
                     clear H
                     have H:=H1
                     clear H1
                     have H':=Aside0.mk H
                     clear H
                     go_wp2
                     go_meet
                     case rel=>exact ⟨_,(false),(by first|rfl|(simp;done)|(simp [*];done)),(by first|exact H'|(subst_vars;exact H')),⟨by have:=HJ10.out;first|omega|exact Nat.le_refl _⟩,⟨by (with_reducible repeat (first|apply Kd.R_alloc|apply Kd.R_drewN|apply Kd.R_drew));exact HO_388000.out⟩,⟨by (with_reducible repeat (first|refine blk_drewN ?_ _|refine blk_drew ?_|refine blk_alloc ?_ _));exact BK379.out⟩,⟨by (with_reducible repeat (first|refine blk_drewN ?_ _|refine blk_drew ?_|refine blk_alloc ?_ _));exact BK387.out⟩,⟨by repeat (first|(with_reducible first|exact HB.out|apply below_alloc|apply pw_below_drewN|apply below_drew1|refine below_set ?_ GE379.out|refine below_set ?_ GE387.out)|exact HB.out)⟩⟩
                   case rest =>
                    clear HC57
                    try clear c1
                    try clear p2
                    try clear c5
                    try clear c6
                    try clear c7
                    try clear c10
                    try clear c11
                    try clear c16
                    try clear c54
                    try clear c60
                    try clear c72
                    try clear c103
                    try clear c104
                    try clear c105
                    try clear c107
                    try clear c109
                    try clear c114
                    try clear hcz110_0
                    try clear hcz110_1
                    try clear hcz110_2
                    try clear hcz110_3
                    try clear hcz112_0
                    try clear hcz112_1
                    try clear hcz112_2
                    try clear hcz112_3
                    try clear hcz115_0
                    try clear hcz115_1
                    try clear hcz115_2
                    try clear hcz115_3
                    try clear hfz110_0
                    try clear hfz110_1
                    try clear hfz110_2
                    try clear hfz110_3
                    try clear hfz112_0
                    try clear hfz112_1
                    try clear hfz112_2
                    try clear hfz112_3
                    try clear hfz115_0
                    try clear hfz115_1
                    try clear hfz115_2
                    try clear hfz115_3
                    obtain ⟨kq,x6_56,rfl,HA,HJ56,HO_388000,BK379,BK387,HB⟩:=hcut
                    cases kq with
                    | zero=>exact absurd HA.out (by simp [thresherlaw09_OrderPlaces.j1])
                    | succ kj56 =>
                     have H:=HA.out
                     clear HA
                     simp only [thresherlaw09_OrderPlaces.j1] at H
                     obtain rfl:=Option.some.inj H
                     go_wp2
                     go_ret
                     exact ⟨by first|rfl|(simp [errW_none,errW_some] <;> rfl)|(simp [*,errW_none,errW_some] <;> rfl),by repeat (first|(with_reducible first|exact HB.out|apply below_alloc|apply pw_below_drewN|apply below_drew1|refine below_set ?_ GE379.out|refine below_set ?_ GE387.out)|exact HB.out)⟩
                  ·rw [if_neg c54] at H
                   exact absurd H (by simp)
                 ·rw [if_neg c51] at H
                  exact absurd H (by simp)
                ·rw [if_neg c50] at H
                 exact absurd H (by simp)
               ·rw [if_neg c49] at H
                exact absurd H (by simp)
              ·rw [if_neg c46] at H
               exact absurd H (by simp)
             ·rw [if_neg c45] at H
              exact absurd H (by simp)
            ·rw [if_neg c44] at H
             exact absurd H (by simp)
           ·rw [if_neg c43] at H
            exact absurd H (by simp)
          ·rw [if_neg c42] at H
           exact absurd H (by simp)
         ·rw [if_neg c39] at H
          exact absurd H (by simp)
        ·rw [if_neg c38] at H
         exact absurd H (by simp)
       ·rw [if_neg c37] at H
        exact absurd H (by simp)
      ·rw [if_neg c36] at H
       exact absurd H (by simp)
end Go.Proofs.Ytojbeofipedolaa.P

