/- Texts of ValueAll. Merged: Px18. -/
import Derived.Test.YtifpjhghbafcjaaDoorQValueAllPx0
import Derived.Test.YtifpjhghbafcjaaDoorQValueAllPx1
import Derived.Test.YtifpjhghbafcjaaDoorQValueAllPx2
import Derived.Test.YtifpjhghbafcjaaDoorQValueAllPx3
import Derived.Test.YtifpjhghbafcjaaDoorQValueAllPx4
import Derived.Test.YtifpjhghbafcjaaDoorQValueAllPx8
import Derived.Test.YtifpjhghbafcjaaDoorQValueAllPx12
import Derived.Test.YtifpjhghbafcjaaDoorQValueAllPx14
import Derived.Test.YtifpjhghbafcjaaDoorQValueAllPx16
import Derived.Test.YtifpjhghbafcjaaDoorQValueAllPx17
import Derived.Test.YtifpjhghbafcjaaDoorQValueAllHRead
import Derived.Test.YtifpjhghbafcjaaDoorQValueAllHText
namespace Go.Proofs.YtifpjhghbafcjaaDoor.P
open Go.RowKit Go.Proofs.YtifpjhghbafcjaaDoorW.PrintWords Go.Proofs.YtifpjhghbafcjaaDoorW.PrintLast Go.Proofs.YtifpjhghbafcjaaDoorW.PrintMore
attribute [local go_sem] max2_int min2_int max_two min_two max_three min_three max_four min_four   -- for this text's walks alone
set_option linter.unusedVariables false
set_option linter.unusedSimpArgs false
attribute [local go_sem high] eqA23
mutual
def thresherlaw03_ValueAll.j0 : Nat→Int→Bool→Bool→Bool→Bool→Int→ByteArray→Int→ByteArray→Int→ByteArray→Option (Bool)
 | 0,_,_,_,_,_,_,_,_,_,_,_=>none
 | k + 1,x0,x7,x11,x13,x14,x303000,x303001,x311000,x311001,x315000,x315001=>if x7=true then (if x14=true then ((value_Text.f x0 x303000 x303001).bind fun t323=>((thresherref03_Text.f k x0 x303000 x303001).bind fun t324=>(if t323.toList=t324.toList then (if (x311000 == x315000 && (x311001.toList == x315001.toList))=true then (thresherlaw03_ValueAll.j1 k (x11 == x13)) else (thresherlaw03_ValueAll.j1 k false)) else (thresherlaw03_ValueAll.j1 k false)))) else (thresherlaw03_ValueAll.j1 k false)) else (thresherlaw03_ValueAll.j1 k false)
def thresherlaw03_ValueAll.j1 : Nat→Bool→Option (Bool)
 | 0,_=>none
 | k + 1,x6=>some x6
end
def thresherlaw03_ValueAll.f (k : Nat) (a0 : Int) (a1_0 : Int) (a1_1 : ByteArray) (a1_2 : Int) (a1_3 : ByteArray) (a2 : ByteArray) : Option (Bool):=(thresherlaw03_shown.f k).bind fun t299=>((thresherlaw03_some.f a1_0 a1_1).bind fun bt300=>((thresherlaw03_some.f a1_2 a1_3).bind fun bt303=>((thresherlaw03_short.f a2).bind fun t306=>((value_Read.f a0 t306).bind fun bt307=>((thresherref03_Read.f k a0 t306).bind fun bt311=>((value_Fits.f k a0 bt300.1 bt300.2).bind fun t315=>((thresherref03_Fits.f k a0 bt300.1 bt300.2).bind fun t316=>(if (t315 == t316)=true then ((value_Compare.f k a0 bt300.1 bt300.2 bt303.1 bt303.2).bind fun t317=>((thresherref03_Compare.f k a0 bt300.1 bt300.2 bt303.1 bt303.2).bind fun t318=>(if t317=t318 then ((value_Add.f k a0 bt300.1 bt300.2 bt303.1 bt303.2).bind fun bt319=>((thresherref03_Add.f k a0 bt300.1 bt300.2 bt303.1 bt303.2).bind fun bt321=>(thresherlaw03_ValueAll.j0 k a0 t299 bt307.2.2 bt311.2.2 (bt319.1 == bt321.1 && (bt319.2.toList == bt321.2.toList)) bt300.1 bt300.2 bt307.1 bt307.2.1 bt311.1 bt311.2.1))) else (thresherlaw03_ValueAll.j0 k a0 t299 bt307.2.2 bt311.2.2 false bt300.1 bt300.2 bt307.1 bt307.2.1 bt311.1 bt311.2.1)))) else (thresherlaw03_ValueAll.j0 k a0 t299 bt307.2.2 bt311.2.2 false bt300.1 bt300.2 bt307.1 bt307.2.1 bt311.1 bt311.2.1)))))))))
theorem thresherlaw03_ValueAll.mono_l : ∀ k,(∀ y0 y1 y2 y3 y4 y5 y6 y7 y8 y9 y10,LeO (thresherlaw03_ValueAll.j0 k y0 y1 y2 y3 y4 y5 y6 y7 y8 y9 y10) (thresherlaw03_ValueAll.j0 (k + 1) y0 y1 y2 y3 y4 y5 y6 y7 y8 y9 y10))∧(∀ y0,LeO (thresherlaw03_ValueAll.j1 k y0) (thresherlaw03_ValueAll.j1 (k + 1) y0))
 | 0=>⟨fun _ _ _ _ _ _ _ _ _ _ _ r h=>by simp [thresherlaw03_ValueAll.j0] at h,fun _ r h=>by simp [thresherlaw03_ValueAll.j1] at h⟩
 | k + 1=>by
  obtain ⟨ih0,ih1⟩:=thresherlaw03_ValueAll.mono_l k
  refine ⟨?_,?_⟩
  ·intro y0 y1 y2 y3 y4 y5 y6 y7 y8 y9 y10
   unfold thresherlaw03_ValueAll.j0
   repeat' first
   | (with_reducible exact ih0 _ _ _ _ _ _ _ _ _ _ _)
   | (with_reducible exact ih1 _)
   | (with_reducible exact thresherlaw03_shown.mono _)
   | (with_reducible exact thresherref03_Add.mono _ _ _ _ _ _)
   | (with_reducible exact thresherref03_Compare.mono _ _ _ _ _ _)
   | (with_reducible exact thresherref03_Fits.mono _ _ _ _)
   | (with_reducible exact thresherref03_Read.mono _ _ _)
   | (with_reducible exact thresherref03_Text.mono _ _ _ _)
   | (with_reducible exact value_Add.mono _ _ _ _ _ _)
   | (with_reducible exact value_Compare.mono _ _ _ _ _ _)
   | (with_reducible exact value_Fits.mono _ _ _ _)
   | (with_reducible exact LeO.refl _)
   | (with_reducible exact LeO.none _)
   | (with_reducible refine LeO.ite ?_ ?_)
   | (with_reducible refine LeO.bind ?_ (fun _=>?_))
   | exact ih0 _ _ _ _ _ _ _ _ _ _ _
   | exact ih1 _
   | exact thresherlaw03_shown.mono _
   | exact thresherref03_Add.mono _ _ _ _ _ _
   | exact thresherref03_Compare.mono _ _ _ _ _ _
   | exact thresherref03_Fits.mono _ _ _ _
   | exact thresherref03_Read.mono _ _ _
   | exact thresherref03_Text.mono _ _ _ _
   | exact value_Add.mono _ _ _ _ _ _
   | exact value_Compare.mono _ _ _ _ _ _
   | exact value_Fits.mono _ _ _ _
   | exact LeO.none _
   | refine LeO.ite ?_ ?_
   | refine LeO.bind ?_ (fun _=>?_)
  ·intro y0
   unfold thresherlaw03_ValueAll.j1
   repeat' first
   | (with_reducible exact ih0 _ _ _ _ _ _ _ _ _ _ _)
   | (with_reducible exact ih1 _)
   | (with_reducible exact thresherlaw03_shown.mono _)
   | (with_reducible exact thresherref03_Add.mono _ _ _ _ _ _)
   | (with_reducible exact thresherref03_Compare.mono _ _ _ _ _ _)
   | (with_reducible exact thresherref03_Fits.mono _ _ _ _)
   | (with_reducible exact thresherref03_Read.mono _ _ _)
   | (with_reducible exact thresherref03_Text.mono _ _ _ _)
   | (with_reducible exact value_Add.mono _ _ _ _ _ _)
   | (with_reducible exact value_Compare.mono _ _ _ _ _ _)
   | (with_reducible exact value_Fits.mono _ _ _ _)
   | (with_reducible exact LeO.refl _)
   | (with_reducible exact LeO.none _)
   | (with_reducible refine LeO.ite ?_ ?_)
   | (with_reducible refine LeO.bind ?_ (fun _=>?_))
   | exact ih0 _ _ _ _ _ _ _ _ _ _ _
   | exact ih1 _
   | exact thresherlaw03_shown.mono _
   | exact thresherref03_Add.mono _ _ _ _ _ _
   | exact thresherref03_Compare.mono _ _ _ _ _ _
   | exact thresherref03_Fits.mono _ _ _ _
   | exact thresherref03_Read.mono _ _ _
   | exact thresherref03_Text.mono _ _ _ _
   | exact value_Add.mono _ _ _ _ _ _
   | exact value_Compare.mono _ _ _ _ _ _
   | exact value_Fits.mono _ _ _ _
   | exact LeO.none _
   | refine LeO.ite ?_ ?_
   | refine LeO.bind ?_ (fun _=>?_)
theorem thresherlaw03_ValueAll.mono : ∀ a0 a1 a2 a3 a4 a5 k,LeO (thresherlaw03_ValueAll.f k a0 a1 a2 a3 a4 a5) (thresherlaw03_ValueAll.f (k + 1) a0 a1 a2 a3 a4 a5):=by
 intro a0 a1 a2 a3 a4 a5 k
 obtain ⟨ih0,ih1⟩:=thresherlaw03_ValueAll.mono_l k
 unfold thresherlaw03_ValueAll.f
 repeat' first
   | (with_reducible exact ih0 _ _ _ _ _ _ _ _ _ _ _)
   | (with_reducible exact ih1 _)
   | (with_reducible exact thresherlaw03_shown.mono _)
   | (with_reducible exact thresherref03_Add.mono _ _ _ _ _ _)
   | (with_reducible exact thresherref03_Compare.mono _ _ _ _ _ _)
   | (with_reducible exact thresherref03_Fits.mono _ _ _ _)
   | (with_reducible exact thresherref03_Read.mono _ _ _)
   | (with_reducible exact thresherref03_Text.mono _ _ _ _)
   | (with_reducible exact value_Add.mono _ _ _ _ _ _)
   | (with_reducible exact value_Compare.mono _ _ _ _ _ _)
   | (with_reducible exact value_Fits.mono _ _ _ _)
   | (with_reducible exact LeO.refl _)
   | (with_reducible exact LeO.none _)
   | (with_reducible refine LeO.ite ?_ ?_)
   | (with_reducible refine LeO.bind ?_ (fun _=>?_))
   | exact ih0 _ _ _ _ _ _ _ _ _ _ _
   | exact ih1 _
   | exact thresherlaw03_shown.mono _
   | exact thresherref03_Add.mono _ _ _ _ _ _
   | exact thresherref03_Compare.mono _ _ _ _ _ _
   | exact thresherref03_Fits.mono _ _ _ _
   | exact thresherref03_Read.mono _ _ _
   | exact thresherref03_Text.mono _ _ _ _
   | exact value_Add.mono _ _ _ _ _ _
   | exact value_Compare.mono _ _ _ _ _ _
   | exact value_Fits.mono _ _ _ _
   | exact LeO.none _
   | refine LeO.ite ?_ ?_
   | refine LeO.bind ?_ (fun _=>?_)
def thresherlaw03_ValueAll.T7 : Bool × List (List Nat × List Nat):=(true,[([],[]),([],[]),([0,1],[0,1]),([],[]),([],[]),([3,4,2],[3,4]),([2,5],[2,5]),([6,5],[6]),([7],[7]),([7],[7]),([7],[7]),([8,9,10,7,7],[7,8,9,10]),([7],[7]),([7],[7]),([7],[7]),([12,13,14,11,7],[7,12,13,14]),([11,15,7],[7,11,15]),([7,16],[7,16]),([17,15],[17]),([18],[18]),([18],[18]),([18],[18]),([19,20,21,18,18],[18,19,20,21]),([18],[18]),([18],[18]),([18],[18]),([23,24,25,22,18],[18,23,24,25]),([22,26,18],[18,22,26]),([18,27],[18,27]),([28,26,0,1,2,3,4,5,6,7,8,9,10,11,12,13,14,15,16,17,18,19,20,21,22,23,24,25,26,27,28],[28])])
def thresherlaw03_ValueAll.B7 : List Nat:=[0,0,3,0,0,31,63,127,255,255,255,2047,255,255,255,32767,65535,131071,262143,524287,524287,524287,4194303,524287,524287,524287,67108863,134217727,268435455,536870911]
theorem thresherlaw03_ValueAll.tab7 : rtab .any (opsOf Tryd.f8 7)=thresherlaw03_ValueAll.T7:=by kernel_rfl
theorem thresherlaw03_ValueAll.bits7 : waitsOk thresherlaw03_ValueAll.T7.2 thresherlaw03_ValueAll.B7=true:=by kernel_rfl
def thresherlaw03_ValueAll.T8 : Bool × List (List Nat × List Nat):=(true,[([],[]),([0],[0]),([1],[1]),([1,2],[1,2]),([3,1],[3]),([4],[4]),([4],[4]),([5,6,4,4],[4,5,6]),([4],[4]),([4],[4]),([8,9,7,4],[4,8,9]),([7,10,4],[4,7,10]),([4,11],[4,11]),([12,10],[12]),([13],[13]),([13],[13]),([14,15,13],[13,14,15]),([13,16],[13,16]),([17,13],[17]),([18],[18]),([18],[18]),([19,20,18],[18,19,20]),([18,21],[18,21]),([22,18,0,1,2,3,4,5,6,7,8,9,10,11,12,13,14,15,16,17,18,19,20,21,22],[22])])
def thresherlaw03_ValueAll.B8 : List Nat:=[0,1,3,7,15,31,31,127,31,31,1023,2047,4095,8191,16383,16383,65535,131071,262143,524287,524287,2097151,4194303,8388607]
theorem thresherlaw03_ValueAll.tab8 : rtab .any (opsOf Tryd.f8 8)=thresherlaw03_ValueAll.T8:=by kernel_rfl
theorem thresherlaw03_ValueAll.bits8 : waitsOk thresherlaw03_ValueAll.T8.2 thresherlaw03_ValueAll.B8=true:=by kernel_rfl
set_option maxHeartbeats 8000000 in
set_option maxRecDepth 100000 in
theorem thresherlaw03_ValueAll.calls (k : Nat) (a0 : Int) (a1_0 : Int) (a1_1 : ByteArray) (a1_2 : Int) (a1_3 : ByteArray) (a2 : ByteArray) (r : Bool) (w : World) (h : thresherlaw03_ValueAll.f k a0 a1_0 a1_1 a1_2 a1_3 a2=some r) (htab_ : TabsE w) :
  Calls Tryd.prog 8 #[.int .i64 a0,.agg #[.int .i64 a1_0,.string a1_1,.int .i64 a1_2,.string a1_3],.string a2] w fun e w'=>e=.returned (.bool r)∧Below w.heap.size w w':=by
 have HTAB_:=Aside0.mk htab_
 clear htab_
 have hu35:=Tryd.underlying35
 have hu23:=Tryd.underlying23
 have HB:=Aside0.mk (Below.refl w.heap.size w)
 have H : ((thresherlaw03_shown.f k).bind fun t299=>((thresherlaw03_some.f a1_0 a1_1).bind fun bt300=>((thresherlaw03_some.f a1_2 a1_3).bind fun bt303=>((thresherlaw03_short.f a2).bind fun t306=>((value_Read.f a0 t306).bind fun bt307=>((thresherref03_Read.f k a0 t306).bind fun bt311=>((value_Fits.f k a0 bt300.1 bt300.2).bind fun t315=>((thresherref03_Fits.f k a0 bt300.1 bt300.2).bind fun t316=>(if (t315 == t316)=true then ((value_Compare.f k a0 bt300.1 bt300.2 bt303.1 bt303.2).bind fun t317=>((thresherref03_Compare.f k a0 bt300.1 bt300.2 bt303.1 bt303.2).bind fun t318=>(if t317=t318 then ((value_Add.f k a0 bt300.1 bt300.2 bt303.1 bt303.2).bind fun bt319=>((thresherref03_Add.f k a0 bt300.1 bt300.2 bt303.1 bt303.2).bind fun bt321=>(thresherlaw03_ValueAll.j0 k a0 t299 bt307.2.2 bt311.2.2 (bt319.1 == bt321.1 && (bt319.2.toList == bt321.2.toList)) bt300.1 bt300.2 bt307.1 bt307.2.1 bt311.1 bt311.2.1))) else (thresherlaw03_ValueAll.j0 k a0 t299 bt307.2.2 bt311.2.2 false bt300.1 bt300.2 bt307.1 bt307.2.1 bt311.1 bt311.2.1)))) else (thresherlaw03_ValueAll.j0 k a0 t299 bt307.2.2 bt311.2.2 false bt300.1 bt300.2 bt307.1 bt307.2.1 bt311.1 bt311.2.1))))))))))=some r:=h
 clear h
 replace H:=Option.bind_eq_some_iff.mp H
 obtain ⟨t299,A40,H⟩:=H
 replace H : ((thresherlaw03_some.f a1_0 a1_1).bind fun bt300=>((thresherlaw03_some.f a1_2 a1_3).bind fun bt303=>((thresherlaw03_short.f a2).bind fun t306=>((value_Read.f a0 t306).bind fun bt307=>((thresherref03_Read.f k a0 t306).bind fun bt311=>((value_Fits.f k a0 bt300.1 bt300.2).bind fun t315=>((thresherref03_Fits.f k a0 bt300.1 bt300.2).bind fun t316=>(if (t315 == t316)=true then ((value_Compare.f k a0 bt300.1 bt300.2 bt303.1 bt303.2).bind fun t317=>((thresherref03_Compare.f k a0 bt300.1 bt300.2 bt303.1 bt303.2).bind fun t318=>(if t317=t318 then ((value_Add.f k a0 bt300.1 bt300.2 bt303.1 bt303.2).bind fun bt319=>((thresherref03_Add.f k a0 bt300.1 bt300.2 bt303.1 bt303.2).bind fun bt321=>(thresherlaw03_ValueAll.j0 k a0 t299 bt307.2.2 bt311.2.2 (bt319.1 == bt321.1 && (bt319.2.toList == bt321.2.toList)) bt300.1 bt300.2 bt307.1 bt307.2.1 bt311.1 bt311.2.1))) else (thresherlaw03_ValueAll.j0 k a0 t299 bt307.2.2 bt311.2.2 false bt300.1 bt300.2 bt307.1 bt307.2.1 bt311.1 bt311.2.1)))) else (thresherlaw03_ValueAll.j0 k a0 t299 bt307.2.2 bt311.2.2 false bt300.1 bt300.2 bt307.1 bt307.2.1 bt311.1 bt311.2.1)))))))))=some r:=H
 have A4:=Aside0.mk A40
 clear A40
 replace H:=Option.bind_eq_some_iff.mp H
 obtain ⟨⟨t300,t301⟩,A50,H⟩:=H
 replace H : ((thresherlaw03_some.f a1_2 a1_3).bind fun bt303=>((thresherlaw03_short.f a2).bind fun t306=>((value_Read.f a0 t306).bind fun bt307=>((thresherref03_Read.f k a0 t306).bind fun bt311=>((value_Fits.f k a0 t300 t301).bind fun t315=>((thresherref03_Fits.f k a0 t300 t301).bind fun t316=>(if (t315 == t316)=true then ((value_Compare.f k a0 t300 t301 bt303.1 bt303.2).bind fun t317=>((thresherref03_Compare.f k a0 t300 t301 bt303.1 bt303.2).bind fun t318=>(if t317=t318 then ((value_Add.f k a0 t300 t301 bt303.1 bt303.2).bind fun bt319=>((thresherref03_Add.f k a0 t300 t301 bt303.1 bt303.2).bind fun bt321=>(thresherlaw03_ValueAll.j0 k a0 t299 bt307.2.2 bt311.2.2 (bt319.1 == bt321.1 && (bt319.2.toList == bt321.2.toList)) t300 t301 bt307.1 bt307.2.1 bt311.1 bt311.2.1))) else (thresherlaw03_ValueAll.j0 k a0 t299 bt307.2.2 bt311.2.2 false t300 t301 bt307.1 bt307.2.1 bt311.1 bt311.2.1)))) else (thresherlaw03_ValueAll.j0 k a0 t299 bt307.2.2 bt311.2.2 false t300 t301 bt307.1 bt307.2.1 bt311.1 bt311.2.1))))))))=some r:=H
 have A5:=Aside0.mk A50
 clear A50
 replace H:=Option.bind_eq_some_iff.mp H
 obtain ⟨⟨t303,t304⟩,A60,H⟩:=H
 replace H : ((thresherlaw03_short.f a2).bind fun t306=>((value_Read.f a0 t306).bind fun bt307=>((thresherref03_Read.f k a0 t306).bind fun bt311=>((value_Fits.f k a0 t300 t301).bind fun t315=>((thresherref03_Fits.f k a0 t300 t301).bind fun t316=>(if (t315 == t316)=true then ((value_Compare.f k a0 t300 t301 t303 t304).bind fun t317=>((thresherref03_Compare.f k a0 t300 t301 t303 t304).bind fun t318=>(if t317=t318 then ((value_Add.f k a0 t300 t301 t303 t304).bind fun bt319=>((thresherref03_Add.f k a0 t300 t301 t303 t304).bind fun bt321=>(thresherlaw03_ValueAll.j0 k a0 t299 bt307.2.2 bt311.2.2 (bt319.1 == bt321.1 && (bt319.2.toList == bt321.2.toList)) t300 t301 bt307.1 bt307.2.1 bt311.1 bt311.2.1))) else (thresherlaw03_ValueAll.j0 k a0 t299 bt307.2.2 bt311.2.2 false t300 t301 bt307.1 bt307.2.1 bt311.1 bt311.2.1)))) else (thresherlaw03_ValueAll.j0 k a0 t299 bt307.2.2 bt311.2.2 false t300 t301 bt307.1 bt307.2.1 bt311.1 bt311.2.1)))))))=some r:=H
 have A6:=Aside0.mk A60
 clear A60
 replace H:=Option.bind_eq_some_iff.mp H
 obtain ⟨t306,A70,H⟩:=H
 replace H : ((value_Read.f a0 t306).bind fun bt307=>((thresherref03_Read.f k a0 t306).bind fun bt311=>((value_Fits.f k a0 t300 t301).bind fun t315=>((thresherref03_Fits.f k a0 t300 t301).bind fun t316=>(if (t315 == t316)=true then ((value_Compare.f k a0 t300 t301 t303 t304).bind fun t317=>((thresherref03_Compare.f k a0 t300 t301 t303 t304).bind fun t318=>(if t317=t318 then ((value_Add.f k a0 t300 t301 t303 t304).bind fun bt319=>((thresherref03_Add.f k a0 t300 t301 t303 t304).bind fun bt321=>(thresherlaw03_ValueAll.j0 k a0 t299 bt307.2.2 bt311.2.2 (bt319.1 == bt321.1 && (bt319.2.toList == bt321.2.toList)) t300 t301 bt307.1 bt307.2.1 bt311.1 bt311.2.1))) else (thresherlaw03_ValueAll.j0 k a0 t299 bt307.2.2 bt311.2.2 false t300 t301 bt307.1 bt307.2.1 bt311.1 bt311.2.1)))) else (thresherlaw03_ValueAll.j0 k a0 t299 bt307.2.2 bt311.2.2 false t300 t301 bt307.1 bt307.2.1 bt311.1 bt311.2.1))))))=some r:=H
 have A7:=Aside0.mk A70
 clear A70
 replace H:=Option.bind_eq_some_iff.mp H
 obtain ⟨⟨t307,t308,t309⟩,A80,H⟩:=H
 replace H : ((thresherref03_Read.f k a0 t306).bind fun bt311=>((value_Fits.f k a0 t300 t301).bind fun t315=>((thresherref03_Fits.f k a0 t300 t301).bind fun t316=>(if (t315 == t316)=true then ((value_Compare.f k a0 t300 t301 t303 t304).bind fun t317=>((thresherref03_Compare.f k a0 t300 t301 t303 t304).bind fun t318=>(if t317=t318 then ((value_Add.f k a0 t300 t301 t303 t304).bind fun bt319=>((thresherref03_Add.f k a0 t300 t301 t303 t304).bind fun bt321=>(thresherlaw03_ValueAll.j0 k a0 t299 t309 bt311.2.2 (bt319.1 == bt321.1 && (bt319.2.toList == bt321.2.toList)) t300 t301 t307 t308 bt311.1 bt311.2.1))) else (thresherlaw03_ValueAll.j0 k a0 t299 t309 bt311.2.2 false t300 t301 t307 t308 bt311.1 bt311.2.1)))) else (thresherlaw03_ValueAll.j0 k a0 t299 t309 bt311.2.2 false t300 t301 t307 t308 bt311.1 bt311.2.1)))))=some r:=H
 have A8:=Aside0.mk A80
 clear A80
 replace H:=Option.bind_eq_some_iff.mp H
 obtain ⟨⟨t311,t312,t313⟩,A90,H⟩:=H
 replace H : ((value_Fits.f k a0 t300 t301).bind fun t315=>((thresherref03_Fits.f k a0 t300 t301).bind fun t316=>(if (t315 == t316)=true then ((value_Compare.f k a0 t300 t301 t303 t304).bind fun t317=>((thresherref03_Compare.f k a0 t300 t301 t303 t304).bind fun t318=>(if t317=t318 then ((value_Add.f k a0 t300 t301 t303 t304).bind fun bt319=>((thresherref03_Add.f k a0 t300 t301 t303 t304).bind fun bt321=>(thresherlaw03_ValueAll.j0 k a0 t299 t309 t313 (bt319.1 == bt321.1 && (bt319.2.toList == bt321.2.toList)) t300 t301 t307 t308 t311 t312))) else (thresherlaw03_ValueAll.j0 k a0 t299 t309 t313 false t300 t301 t307 t308 t311 t312)))) else (thresherlaw03_ValueAll.j0 k a0 t299 t309 t313 false t300 t301 t307 t308 t311 t312))))=some r:=H
 have A9:=Aside0.mk A90
 clear A90
 have HC10:=Aside0.mk H
 clear H
 go_enter Tryd.func8,Tryd.ntmps8
 go_upto_region 7 with (first|((with_reducible refine gate_dst (N:=4) rfl ?_);refine box_event ?hg (N:=4) ?hd (cs:=#[.int .i64 a1_0,.string a1_1,.int .i64 a1_2,.string a1_3]) (t:=35) ?hr ?_;(case hd=>rfl);(case hg=>rfl);(case hr=>first|(go_simp;done)|(go_simp;rfl));intro gb298 hg w11 hbox hb;have n0_:=Aside0.mk (below_step (below_up HB.out) hb);have n1_:=Aside0.mk (hbox);have n2_:=Aside0.mk ((by rw [hg];exact (below_size (below_up HB.out)) : w.heap.size≤gb298));have n3_:=Aside0.mk ((by rw [hg];exact (below_size (below_up HB.out)) : w.heap.size≤gb298));clear HB;have HB:=n0_;have BK298:=n1_;have GW298:=n2_;have GE298:=n3_;clear n0_ n1_ n2_ n3_;clear hb hbox hg)|((with_reducible refine gate_callee (f:=9) rfl ?_);refine goesL_ (some 15) rfl rfl Tryd.func9 (by kernel_rfl) rfl #[] rfl (by (try simp only [List.map_toArray,List.map_cons,List.map_nil]);first|done|rfl|(simp only [List.length_drop,List.length_take];rfl)) ?_;(with_reducible refine (thresherlaw03_shown.calls k  t299 _ A4.out ((HTAB_.out.on (below_go HB.out)).t)).mono ?_);rintro e w12 ⟨rfl,hb⟩;refine ⟨_,rfl,?_⟩;have n0_:=Aside0.mk (blk_below (blk_up BK298.out) hb);have n1_:=Aside0.mk (below_step (below_go HB.out) hb);clear BK298;clear HB;have BK298:=n0_;have HB:=n1_;clear n0_ n1_;(try clear hb);(try clear hb2);(try clear hk);(try clear hi);have hcz13_0 : w12.cell? ⟨gb298,0,none⟩=some (.int .i64 a1_0):=(blk_cell BK298.out 0).trans rfl;have hcz13_1 : w12.cell? ⟨gb298,1,none⟩=some (.string a1_1):=(blk_cell BK298.out 1).trans rfl;have hcz13_2 : w12.cell? ⟨gb298,2,none⟩=some (.int .i64 a1_2):=(blk_cell BK298.out 2).trans rfl;have hcz13_3 : w12.cell? ⟨gb298,3,none⟩=some (.string a1_3):=(blk_cell BK298.out 3).trans rfl;have hfz13_0:=blk_frozen BK298.out 0;have hfz13_1:=blk_frozen BK298.out 1;have hfz13_2:=blk_frozen BK298.out 2;have hfz13_3:=blk_frozen BK298.out 3)|((with_reducible refine gate_callee (f:=16) rfl ?_);refine goesL_ (some 18) rfl rfl Tryd.func16 (by kernel_rfl) rfl #[.agg #[.int .i64 a1_0,.string a1_1]] rfl (by (try simp only [List.map_toArray,List.map_cons,List.map_nil]);first|done|rfl|(simp only [List.length_drop,List.length_take];rfl)) ?_;(with_reducible refine (thresherlaw03_some.calls a1_0 a1_1 t300 t301 _ A5.out).mono ?_);rintro e w14 ⟨rfl,hb⟩;refine ⟨_,rfl,?_⟩;have n0_:=Aside0.mk (blk_below (blk_up BK298.out) hb);have n1_:=Aside0.mk (below_step (below_go HB.out) hb);clear BK298;clear HB;have BK298:=n0_;have HB:=n1_;clear n0_ n1_;(try clear hb);(try clear hb2);(try clear hk);(try clear hi))|((with_reducible refine gate_dst (N:=8) rfl ?_);refine box_event ?hg (N:=8) ?hd (cs:=#[.int .i64 0,.string (⟨#[]⟩ : ByteArray)]) (t:=23) ?hr ?_;(case hd=>rfl);(case hg=>rfl);(case hr=>first|(go_simp;done)|(go_simp;rfl));intro gb302 hg w15 hbox hb;have n0_:=Aside0.mk (blk_below (blk_up BK298.out) hb);have n1_:=Aside0.mk (below_step (below_go HB.out) hb);have n2_:=Aside0.mk (hbox);have n3_:=Aside0.mk ((by rw [hg];exact (below_size (below_go HB.out)) : w.heap.size≤gb302));have n4_:=Aside0.mk ((by rw [hg];exact (below_size (below_go HB.out)) : w.heap.size≤gb302));have n5_:=Aside0.mk ((by rw [hg];exact Nat.ne_of_lt (blk_lt (blk_up BK298.out)) : gb298≠gb302));have n6_:=Aside0.mk ((by rw [hg];exact Nat.ne_of_gt (blk_lt (blk_up BK298.out)) : gb302≠gb298));clear BK298;clear HB;have BK298:=n0_;have HB:=n1_;have BK302:=n2_;have GW302:=n3_;have GE302:=n4_;have NB298_302:=n5_;have NB302_298:=n6_;clear n0_ n1_ n2_ n3_ n4_ n5_ n6_;clear hb hbox hg;have hnb16:=NB302_298.out;have hnc16:=NB298_302.out;have hcz17_0 : w15.cell? ⟨gb302,0,none⟩=some (.int .i64 0):=(blk_cell BK302.out 0).trans rfl;have hcz17_1 : w15.cell? ⟨gb302,1,none⟩=some (.string (⟨#[]⟩ : ByteArray)):=(blk_cell BK302.out 1).trans rfl;have hfz17_0:=blk_frozen BK302.out 0;have hfz17_1:=blk_frozen BK302.out 1;have hcz18_0 : w15.cell? ⟨gb298,0,none⟩=some (.int .i64 a1_0):=(blk_cell BK298.out 0).trans rfl;have hcz18_1 : w15.cell? ⟨gb298,1,none⟩=some (.string a1_1):=(blk_cell BK298.out 1).trans rfl;have hcz18_2 : w15.cell? ⟨gb298,2,none⟩=some (.int .i64 a1_2):=(blk_cell BK298.out 2).trans rfl;have hcz18_3 : w15.cell? ⟨gb298,3,none⟩=some (.string a1_3):=(blk_cell BK298.out 3).trans rfl;have hfz18_0:=blk_frozen BK298.out 0;have hfz18_1:=blk_frozen BK298.out 1;have hfz18_2:=blk_frozen BK298.out 2;have hfz18_3:=blk_frozen BK298.out 3)|((with_reducible refine gate_callee (f:=16) rfl ?_);refine goesL_ (some 21) rfl rfl Tryd.func16 (by kernel_rfl) rfl #[.agg #[.int .i64 a1_2,.string a1_3]] rfl (by (try simp only [List.map_toArray,List.map_cons,List.map_nil]);first|done|rfl|(simp only [List.length_drop,List.length_take];rfl)) ?_;(with_reducible refine (thresherlaw03_some.calls a1_2 a1_3 t303 t304 _ A6.out).mono ?_);rintro e w19 ⟨rfl,hb⟩;refine ⟨_,rfl,?_⟩;have n0_:=Aside0.mk (blk_below (g:=gb298) (o:=.cells #[.int .i64 a1_0,.string a1_1,.int .i64 a1_2,.string a1_3] 35 (0,0)) (by (with_reducible repeat (first|refine blk_drewN ?_ _|refine blk_drew ?_|refine blk_alloc ?_ _));refine blk_far ?_ NB298_302.out _;(with_reducible repeat (first|refine blk_drewN ?_ _|refine blk_drew ?_|refine blk_alloc ?_ _));refine blk_far ?_ NB298_302.out _;(with_reducible repeat (first|refine blk_drewN ?_ _|refine blk_drew ?_|refine blk_alloc ?_ _));exact BK298.out) hb);have n1_:=Aside0.mk (blk_below (g:=gb302) (o:=.cells #[.int .i64 t300,.string t301] 23 (0,0)) (by (with_reducible repeat (first|refine blk_drewN ?_ _|refine blk_drew ?_|refine blk_alloc ?_ _));refine blk_put (cs:=#[.int .i64 t300,.string (⟨#[]⟩ : ByteArray)]) ?_ 1 _ rfl;(with_reducible repeat (first|refine blk_drewN ?_ _|refine blk_drew ?_|refine blk_alloc ?_ _));refine blk_put (cs:=#[.int .i64 0,.string (⟨#[]⟩ : ByteArray)]) ?_ 0 _ rfl;(with_reducible repeat (first|refine blk_drewN ?_ _|refine blk_drew ?_|refine blk_alloc ?_ _));exact BK302.out) hb);have n2_:=Aside0.mk (below_step (below_go HB.out) hb);clear BK298;clear BK302;clear HB;have BK298:=n0_;have BK302:=n1_;have HB:=n2_;clear n0_ n1_ n2_;(try clear hb);(try clear hb2);(try clear hk);(try clear hi))|((with_reducible refine gate_dst (N:=9) rfl ?_);refine box_event ?hg (N:=9) ?hd (cs:=#[.int .i64 0,.string (⟨#[]⟩ : ByteArray)]) (t:=23) ?hr ?_;(case hd=>rfl);(case hg=>rfl);(case hr=>first|(go_simp;done)|(go_simp;rfl));intro gb305 hg w20 hbox hb;have n0_:=Aside0.mk (blk_below (blk_up BK298.out) hb);have n1_:=Aside0.mk (blk_below (blk_up BK302.out) hb);have n2_:=Aside0.mk (below_step (below_go HB.out) hb);have n3_:=Aside0.mk (hbox);have n4_:=Aside0.mk ((by rw [hg];exact (below_size (below_go HB.out)) : w.heap.size≤gb305));have n5_:=Aside0.mk ((by rw [hg];exact (below_size (below_go HB.out)) : w.heap.size≤gb305));have n6_:=Aside0.mk ((by rw [hg];exact Nat.ne_of_lt (blk_lt (blk_up BK298.out)) : gb298≠gb305));have n7_:=Aside0.mk ((by rw [hg];exact Nat.ne_of_gt (blk_lt (blk_up BK298.out)) : gb305≠gb298));have n8_:=Aside0.mk ((by rw [hg];exact Nat.ne_of_lt (blk_lt (blk_up BK302.out)) : gb302≠gb305));have n9_:=Aside0.mk ((by rw [hg];exact Nat.ne_of_gt (blk_lt (blk_up BK302.out)) : gb305≠gb302));clear BK298;clear BK302;clear HB;have BK298:=n0_;have BK302:=n1_;have HB:=n2_;have BK305:=n3_;have GW305:=n4_;have GE305:=n5_;have NB298_305:=n6_;have NB305_298:=n7_;have NB302_305:=n8_;have NB305_302:=n9_;clear n0_ n1_ n2_ n3_ n4_ n5_ n6_ n7_ n8_ n9_;clear hb hbox hg;have hnb21:=NB305_298.out;have hnc21:=NB298_305.out;have hnb22:=NB305_302.out;have hnc22:=NB302_305.out;have hcz23_0 : w20.cell? ⟨gb305,0,none⟩=some (.int .i64 0):=(blk_cell BK305.out 0).trans rfl;have hcz23_1 : w20.cell? ⟨gb305,1,none⟩=some (.string (⟨#[]⟩ : ByteArray)):=(blk_cell BK305.out 1).trans rfl;have hfz23_0:=blk_frozen BK305.out 0;have hfz23_1:=blk_frozen BK305.out 1)|((with_reducible refine gate_callee (f:=18) rfl ?_);refine goesL_ (some 23) rfl rfl Tryd.func18 (by kernel_rfl) rfl #[.string a2] rfl (by (try simp only [List.map_toArray,List.map_cons,List.map_nil]);first|done|rfl|(simp only [List.length_drop,List.length_take];rfl)) ?_;(with_reducible refine (thresherlaw03_short.calls a2 t306 _ A7.out).mono ?_);rintro e w' ⟨rfl,⟨nd,rfl⟩⟩;refine ⟨_,rfl,?_⟩)|((with_reducible refine gate_callee (f:=15) rfl ?_);refine goesL_ (some 27) rfl rfl Tryd.func15 (by kernel_rfl) rfl #[.int .i64 a0,.string t306] rfl (by (try simp only [List.map_toArray,List.map_cons,List.map_nil]);first|done|rfl|(simp only [List.length_drop,List.length_take];rfl)) ?_;(with_reducible refine (value_Read.calls a0 t306 t307 t308 t309 _ A8.out (HTAB_.out.on (below_go HB.out))).mono ?_);rintro e w24 ⟨rfl,hb⟩;refine ⟨_,rfl,?_⟩;have n0_:=Aside0.mk (blk_below (g:=gb298) (o:=.cells #[.int .i64 a1_0,.string a1_1,.int .i64 a1_2,.string a1_3] 35 (0,0)) (by (with_reducible repeat (first|refine blk_drewN ?_ _|refine blk_drew ?_|refine blk_alloc ?_ _));refine blk_far ?_ NB298_305.out _;(with_reducible repeat (first|refine blk_drewN ?_ _|refine blk_drew ?_|refine blk_alloc ?_ _));refine blk_far ?_ NB298_305.out _;(with_reducible repeat (first|refine blk_drewN ?_ _|refine blk_drew ?_|refine blk_alloc ?_ _));exact BK298.out) hb);have n1_:=Aside0.mk (blk_below (g:=gb302) (o:=.cells #[.int .i64 t300,.string t301] 23 (0,0)) (by (with_reducible repeat (first|refine blk_drewN ?_ _|refine blk_drew ?_|refine blk_alloc ?_ _));refine blk_far ?_ NB302_305.out _;(with_reducible repeat (first|refine blk_drewN ?_ _|refine blk_drew ?_|refine blk_alloc ?_ _));refine blk_far ?_ NB302_305.out _;(with_reducible repeat (first|refine blk_drewN ?_ _|refine blk_drew ?_|refine blk_alloc ?_ _));exact BK302.out) hb);have n2_:=Aside0.mk (blk_below (g:=gb305) (o:=.cells #[.int .i64 t303,.string t304] 23 (0,0)) (by (with_reducible repeat (first|refine blk_drewN ?_ _|refine blk_drew ?_|refine blk_alloc ?_ _));refine blk_put (cs:=#[.int .i64 t303,.string (⟨#[]⟩ : ByteArray)]) ?_ 1 _ rfl;(with_reducible repeat (first|refine blk_drewN ?_ _|refine blk_drew ?_|refine blk_alloc ?_ _));refine blk_put (cs:=#[.int .i64 0,.string (⟨#[]⟩ : ByteArray)]) ?_ 0 _ rfl;(with_reducible repeat (first|refine blk_drewN ?_ _|refine blk_drew ?_|refine blk_alloc ?_ _));exact BK305.out) hb);have n3_:=Aside0.mk (below_step (below_go HB.out) hb);clear BK298;clear BK302;clear BK305;clear HB;have BK298:=n0_;have BK302:=n1_;have BK305:=n2_;have HB:=n3_;clear n0_ n1_ n2_ n3_;(try clear hb);(try clear hb2);(try clear hk);(try clear hi))|((with_reducible refine gate_dst (N:=10) rfl ?_);refine box_event ?hg (N:=10) ?hd (cs:=#[.int .i64 0,.string (⟨#[]⟩ : ByteArray)]) (t:=23) ?hr ?_;(case hd=>rfl);(case hg=>rfl);(case hr=>first|(go_simp;done)|(go_simp;rfl));intro gb310 hg w25 hbox hb;have n0_:=Aside0.mk (blk_below (blk_up BK298.out) hb);have n1_:=Aside0.mk (blk_below (blk_up BK302.out) hb);have n2_:=Aside0.mk (blk_below (blk_up BK305.out) hb);have n3_:=Aside0.mk (below_step (below_go HB.out) hb);have n4_:=Aside0.mk (hbox);have n5_:=Aside0.mk ((by rw [hg];exact (below_size (below_go HB.out)) : w.heap.size≤gb310));have n6_:=Aside0.mk ((by rw [hg];exact (below_size (below_go HB.out)) : w.heap.size≤gb310));have n7_:=Aside0.mk ((by rw [hg];exact Nat.ne_of_lt (blk_lt (blk_up BK298.out)) : gb298≠gb310));have n8_:=Aside0.mk ((by rw [hg];exact Nat.ne_of_gt (blk_lt (blk_up BK298.out)) : gb310≠gb298));have n9_:=Aside0.mk ((by rw [hg];exact Nat.ne_of_lt (blk_lt (blk_up BK302.out)) : gb302≠gb310));have n10_:=Aside0.mk ((by rw [hg];exact Nat.ne_of_gt (blk_lt (blk_up BK302.out)) : gb310≠gb302));have n11_:=Aside0.mk ((by rw [hg];exact Nat.ne_of_lt (blk_lt (blk_up BK305.out)) : gb305≠gb310));have n12_:=Aside0.mk ((by rw [hg];exact Nat.ne_of_gt (blk_lt (blk_up BK305.out)) : gb310≠gb305));clear BK298;clear BK302;clear BK305;clear HB;have BK298:=n0_;have BK302:=n1_;have BK305:=n2_;have HB:=n3_;have BK310:=n4_;have GW310:=n5_;have GE310:=n6_;have NB298_310:=n7_;have NB310_298:=n8_;have NB302_310:=n9_;have NB310_302:=n10_;have NB305_310:=n11_;have NB310_305:=n12_;clear n0_ n1_ n2_ n3_ n4_ n5_ n6_ n7_ n8_ n9_ n10_ n11_ n12_;clear hb hbox hg;have hnb26:=NB310_298.out;have hnc26:=NB298_310.out;have hnb27:=NB310_302.out;have hnc27:=NB302_310.out;have hnb28:=NB310_305.out;have hnc28:=NB305_310.out;have hcz29_0 : w25.cell? ⟨gb310,0,none⟩=some (.int .i64 0):=(blk_cell BK310.out 0).trans rfl;have hcz29_1 : w25.cell? ⟨gb310,1,none⟩=some (.string (⟨#[]⟩ : ByteArray)):=(blk_cell BK310.out 1).trans rfl;have hfz29_0:=blk_frozen BK310.out 0;have hfz29_1:=blk_frozen BK310.out 1)|((with_reducible refine gate_callee (f:=19) rfl ?_);refine goesL_ (some 33) rfl rfl Tryd.func19 (by kernel_rfl) rfl #[.int .i64 a0,.string t306] rfl (by (try simp only [List.map_toArray,List.map_cons,List.map_nil]);first|done|rfl|(simp only [List.length_drop,List.length_take];rfl)) ?_;(with_reducible refine (thresherref03_Read.calls k a0 t306 t311 t312 t313 _ A9.out).mono ?_);rintro e w30 ⟨rfl,hb⟩;refine ⟨_,rfl,?_⟩;have n0_:=Aside0.mk (blk_below (g:=gb298) (o:=.cells #[.int .i64 a1_0,.string a1_1,.int .i64 a1_2,.string a1_3] 35 (0,0)) (by (with_reducible repeat (first|refine blk_drewN ?_ _|refine blk_drew ?_|refine blk_alloc ?_ _));refine blk_far ?_ NB298_310.out _;(with_reducible repeat (first|refine blk_drewN ?_ _|refine blk_drew ?_|refine blk_alloc ?_ _));refine blk_far ?_ NB298_310.out _;(with_reducible repeat (first|refine blk_drewN ?_ _|refine blk_drew ?_|refine blk_alloc ?_ _));exact BK298.out) hb);have n1_:=Aside0.mk (blk_below (g:=gb302) (o:=.cells #[.int .i64 t300,.string t301] 23 (0,0)) (by (with_reducible repeat (first|refine blk_drewN ?_ _|refine blk_drew ?_|refine blk_alloc ?_ _));refine blk_far ?_ NB302_310.out _;(with_reducible repeat (first|refine blk_drewN ?_ _|refine blk_drew ?_|refine blk_alloc ?_ _));refine blk_far ?_ NB302_310.out _;(with_reducible repeat (first|refine blk_drewN ?_ _|refine blk_drew ?_|refine blk_alloc ?_ _));exact BK302.out) hb);have n2_:=Aside0.mk (blk_below (g:=gb305) (o:=.cells #[.int .i64 t303,.string t304] 23 (0,0)) (by (with_reducible repeat (first|refine blk_drewN ?_ _|refine blk_drew ?_|refine blk_alloc ?_ _));refine blk_far ?_ NB305_310.out _;(with_reducible repeat (first|refine blk_drewN ?_ _|refine blk_drew ?_|refine blk_alloc ?_ _));refine blk_far ?_ NB305_310.out _;(with_reducible repeat (first|refine blk_drewN ?_ _|refine blk_drew ?_|refine blk_alloc ?_ _));exact BK305.out) hb);have n3_:=Aside0.mk (blk_below (g:=gb310) (o:=.cells #[.int .i64 t307,.string t308] 23 (0,0)) (by (with_reducible repeat (first|refine blk_drewN ?_ _|refine blk_drew ?_|refine blk_alloc ?_ _));refine blk_put (cs:=#[.int .i64 t307,.string (⟨#[]⟩ : ByteArray)]) ?_ 1 _ rfl;(with_reducible repeat (first|refine blk_drewN ?_ _|refine blk_drew ?_|refine blk_alloc ?_ _));refine blk_put (cs:=#[.int .i64 0,.string (⟨#[]⟩ : ByteArray)]) ?_ 0 _ rfl;(with_reducible repeat (first|refine blk_drewN ?_ _|refine blk_drew ?_|refine blk_alloc ?_ _));exact BK310.out) hb);have n4_:=Aside0.mk (below_step (below_go HB.out) hb);clear BK298;clear BK302;clear BK305;clear BK310;clear HB;have BK298:=n0_;have BK302:=n1_;have BK305:=n2_;have BK310:=n3_;have HB:=n4_;clear n0_ n1_ n2_ n3_ n4_;(try clear hb);(try clear hb2);(try clear hk);(try clear hi))|((with_reducible refine gate_dst (N:=12) rfl ?_);refine box_event ?hg (N:=12) ?hd (cs:=#[.int .i64 0,.string (⟨#[]⟩ : ByteArray)]) (t:=23) ?hr ?_;(case hd=>rfl);(case hg=>rfl);(case hr=>first|(go_simp;done)|(go_simp;rfl));intro gb314 hg w31 hbox hb;have n0_:=Aside0.mk (blk_below (blk_up BK298.out) hb);have n1_:=Aside0.mk (blk_below (blk_up BK302.out) hb);have n2_:=Aside0.mk (blk_below (blk_up BK305.out) hb);have n3_:=Aside0.mk (blk_below (blk_up BK310.out) hb);have n4_:=Aside0.mk (below_step (below_go HB.out) hb);have n5_:=Aside0.mk (hbox);have n6_:=Aside0.mk ((by rw [hg];exact (below_size (below_go HB.out)) : w.heap.size≤gb314));have n7_:=Aside0.mk ((by rw [hg];exact (below_size (below_go HB.out)) : w.heap.size≤gb314));have n8_:=Aside0.mk ((by rw [hg];exact Nat.ne_of_lt (blk_lt (blk_up BK298.out)) : gb298≠gb314));have n9_:=Aside0.mk ((by rw [hg];exact Nat.ne_of_gt (blk_lt (blk_up BK298.out)) : gb314≠gb298));have n10_:=Aside0.mk ((by rw [hg];exact Nat.ne_of_lt (blk_lt (blk_up BK302.out)) : gb302≠gb314));have n11_:=Aside0.mk ((by rw [hg];exact Nat.ne_of_gt (blk_lt (blk_up BK302.out)) : gb314≠gb302));have n12_:=Aside0.mk ((by rw [hg];exact Nat.ne_of_lt (blk_lt (blk_up BK305.out)) : gb305≠gb314));have n13_:=Aside0.mk ((by rw [hg];exact Nat.ne_of_gt (blk_lt (blk_up BK305.out)) : gb314≠gb305));have n14_:=Aside0.mk ((by rw [hg];exact Nat.ne_of_lt (blk_lt (blk_up BK310.out)) : gb310≠gb314));have n15_:=Aside0.mk ((by rw [hg];exact Nat.ne_of_gt (blk_lt (blk_up BK310.out)) : gb314≠gb310));clear BK298;clear BK302;clear BK305;clear BK310;clear HB;have BK298:=n0_;have BK302:=n1_;have BK305:=n2_;have BK310:=n3_;have HB:=n4_;have BK314:=n5_;have GW314:=n6_;have GE314:=n7_;have NB298_314:=n8_;have NB314_298:=n9_;have NB302_314:=n10_;have NB314_302:=n11_;have NB305_314:=n12_;have NB314_305:=n13_;have NB310_314:=n14_;have NB314_310:=n15_;clear n0_ n1_ n2_ n3_ n4_ n5_ n6_ n7_ n8_ n9_ n10_ n11_ n12_ n13_ n14_ n15_;clear hb hbox hg;have hnb32:=NB314_298.out;have hnc32:=NB298_314.out;have hnb33:=NB314_302.out;have hnc33:=NB302_314.out;have hnb34:=NB314_305.out;have hnc34:=NB305_314.out;have hnb35:=NB314_310.out;have hnc35:=NB310_314.out;have hcz36_0 : w31.cell? ⟨gb314,0,none⟩=some (.int .i64 0):=(blk_cell BK314.out 0).trans rfl;have hcz36_1 : w31.cell? ⟨gb314,1,none⟩=some (.string (⟨#[]⟩ : ByteArray)):=(blk_cell BK314.out 1).trans rfl;have hfz36_0:=blk_frozen BK314.out 0;have hfz36_1:=blk_frozen BK314.out 1))
 (try simp only [Act.put,List.setIfInBounds_toArray,List.set_cons_zero,List.set_cons_succ])
 go_cut [14] (fun v14 wc=>∃ (kq : Nat) (x14_9 : Bool),v14=.bool x14_9∧Aside0 (thresherlaw03_ValueAll.j0 kq a0 t299 t309 t313 x14_9 t300 t301 t307 t308 t311 t312=some r)∧Aside0 (kq≤k)∧Aside0 (wc.heap[gb298]?=some (.cells #[.int .i64 a1_0,.string a1_1,.int .i64 a1_2,.string a1_3] 35 (0,0)))∧Aside0 (wc.heap[gb302]?=some (.cells #[.int .i64 t300,.string t301] 23 (0,0)))∧Aside0 (wc.heap[gb305]?=some (.cells #[.int .i64 t303,.string t304] 23 (0,0)))∧Aside0 (wc.heap[gb310]?=some (.cells #[.int .i64 t307,.string t308] 23 (0,0)))∧Aside0 (wc.heap[gb314]?=some (.cells #[.int .i64 t311,.string t312] 23 (0,0)))∧Aside0 (Below w.heap.size w wc))
 case first =>
  have H:=HC10.out
  clear HC10
  replace H:=Option.bind_eq_some_iff.mp H
  obtain ⟨t315,A370,H⟩:=H
  replace H : ((thresherref03_Fits.f k a0 t300 t301).bind fun t316=>(if (t315 == t316)=true then ((value_Compare.f k a0 t300 t301 t303 t304).bind fun t317=>((thresherref03_Compare.f k a0 t300 t301 t303 t304).bind fun t318=>(if t317=t318 then ((value_Add.f k a0 t300 t301 t303 t304).bind fun bt319=>((thresherref03_Add.f k a0 t300 t301 t303 t304).bind fun bt321=>(thresherlaw03_ValueAll.j0 k a0 t299 t309 t313 (bt319.1 == bt321.1 && (bt319.2.toList == bt321.2.toList)) t300 t301 t307 t308 t311 t312))) else (thresherlaw03_ValueAll.j0 k a0 t299 t309 t313 false t300 t301 t307 t308 t311 t312)))) else (thresherlaw03_ValueAll.j0 k a0 t299 t309 t313 false t300 t301 t307 t308 t311 t312)))=some r:=H
  have A37:=Aside0.mk A370
  clear A370
  replace H:=Option.bind_eq_some_iff.mp H
  obtain ⟨t316,A380,H⟩:=H
  replace H : (if (t315 == t316)=true then ((value_Compare.f k a0 t300 t301 t303 t304).bind fun t317=>((thresherref03_Compare.f k a0 t300 t301 t303 t304).bind fun t318=>(if t317=t318 then ((value_Add.f k a0 t300 t301 t303 t304).bind fun bt319=>((thresherref03_Add.f k a0 t300 t301 t303 t304).bind fun bt321=>(thresherlaw03_ValueAll.j0 k a0 t299 t309 t313 (bt319.1 == bt321.1 && (bt319.2.toList == bt321.2.toList)) t300 t301 t307 t308 t311 t312))) else (thresherlaw03_ValueAll.j0 k a0 t299 t309 t313 false t300 t301 t307 t308 t311 t312)))) else (thresherlaw03_ValueAll.j0 k a0 t299 t309 t313 false t300 t301 t307 t308 t311 t312))=some r:=H
  have A38:=Aside0.mk A380
  clear A380
  by_cases c39 : (t315 == t316)=true
  ·rw [if_pos c39] at H
   have c39b0 : (t315 == t316)=true:=c39
   (try (have c39b1 : decide (t315=t316)=true:=by simpa using c39))
   (try (have c39b2 : (t315 == t316)=true:=by simpa using c39))
   clear c39
   (first|rw [c39b0]|(simp only [i64_w,i32_w];rw [c39b0])|skip)
   replace H:=Option.bind_eq_some_iff.mp H
   obtain ⟨t317,A400,H⟩:=H
   replace H : ((thresherref03_Compare.f k a0 t300 t301 t303 t304).bind fun t318=>(if t317=t318 then ((value_Add.f k a0 t300 t301 t303 t304).bind fun bt319=>((thresherref03_Add.f k a0 t300 t301 t303 t304).bind fun bt321=>(thresherlaw03_ValueAll.j0 k a0 t299 t309 t313 (bt319.1 == bt321.1 && (bt319.2.toList == bt321.2.toList)) t300 t301 t307 t308 t311 t312))) else (thresherlaw03_ValueAll.j0 k a0 t299 t309 t313 false t300 t301 t307 t308 t311 t312)))=some r:=H
   have A40:=Aside0.mk A400
   clear A400
   replace H:=Option.bind_eq_some_iff.mp H
   obtain ⟨t318,A410,H⟩:=H
   replace H : (if t317=t318 then ((value_Add.f k a0 t300 t301 t303 t304).bind fun bt319=>((thresherref03_Add.f k a0 t300 t301 t303 t304).bind fun bt321=>(thresherlaw03_ValueAll.j0 k a0 t299 t309 t313 (bt319.1 == bt321.1 && (bt319.2.toList == bt321.2.toList)) t300 t301 t307 t308 t311 t312))) else (thresherlaw03_ValueAll.j0 k a0 t299 t309 t313 false t300 t301 t307 t308 t311 t312))=some r:=H
   have A41:=Aside0.mk A410
   clear A410
   by_cases c42 : t317=t318
   ·rw [if_pos c42] at H
    have c42b0 : (t317 == t318)=true:=beq_iff_eq.mpr c42
    have c42b1 : (t317 != t318)=false:=bne_eq_false_iff_eq.mpr c42
    clear c42
    replace H:=Option.bind_eq_some_iff.mp H
    obtain ⟨⟨t319,t320⟩,A430,H⟩:=H
    replace H : ((thresherref03_Add.f k a0 t300 t301 t303 t304).bind fun bt321=>(thresherlaw03_ValueAll.j0 k a0 t299 t309 t313 (t319 == bt321.1 && (t320.toList == bt321.2.toList)) t300 t301 t307 t308 t311 t312))=some r:=H
    have A43:=Aside0.mk A430
    clear A430
    replace H:=Option.bind_eq_some_iff.mp H
    obtain ⟨⟨t321,t322⟩,A440,H⟩:=H
    replace H : (thresherlaw03_ValueAll.j0 k a0 t299 t309 t313 (t319 == t321 && (t320.toList == t322.toList)) t300 t301 t307 t308 t311 t312)=some r:=H
    have A44:=Aside0.mk A440
    clear A440
    have H':=Aside0.mk H
    clear H
    try go_wp2
    have n0_ : Aside0 (((w31.setCell ⟨gb314,0,none⟩ (.int .i64 t311)).setCell ⟨gb314,1,none⟩ (.string t312)).heap[gb298]?=some (.cells #[.int .i64 a1_0,.string a1_1,.int .i64 a1_2,.string a1_3] 35 (0,0))):=⟨by (with_reducible repeat (first|refine blk_drewN ?_ _|refine blk_drew ?_|refine blk_alloc ?_ _));refine blk_far ?_ NB298_314.out _;(with_reducible repeat (first|refine blk_drewN ?_ _|refine blk_drew ?_|refine blk_alloc ?_ _));refine blk_far ?_ NB298_314.out _;(with_reducible repeat (first|refine blk_drewN ?_ _|refine blk_drew ?_|refine blk_alloc ?_ _));exact BK298.out⟩
    have n1_ : Aside0 (((w31.setCell ⟨gb314,0,none⟩ (.int .i64 t311)).setCell ⟨gb314,1,none⟩ (.string t312)).heap[gb302]?=some (.cells #[.int .i64 t300,.string t301] 23 (0,0))):=⟨by (with_reducible repeat (first|refine blk_drewN ?_ _|refine blk_drew ?_|refine blk_alloc ?_ _));refine blk_far ?_ NB302_314.out _;(with_reducible repeat (first|refine blk_drewN ?_ _|refine blk_drew ?_|refine blk_alloc ?_ _));refine blk_far ?_ NB302_314.out _;(with_reducible repeat (first|refine blk_drewN ?_ _|refine blk_drew ?_|refine blk_alloc ?_ _));exact BK302.out⟩
    have n2_ : Aside0 (((w31.setCell ⟨gb314,0,none⟩ (.int .i64 t311)).setCell ⟨gb314,1,none⟩ (.string t312)).heap[gb305]?=some (.cells #[.int .i64 t303,.string t304] 23 (0,0))):=⟨by (with_reducible repeat (first|refine blk_drewN ?_ _|refine blk_drew ?_|refine blk_alloc ?_ _));refine blk_far ?_ NB305_314.out _;(with_reducible repeat (first|refine blk_drewN ?_ _|refine blk_drew ?_|refine blk_alloc ?_ _));refine blk_far ?_ NB305_314.out _;(with_reducible repeat (first|refine blk_drewN ?_ _|refine blk_drew ?_|refine blk_alloc ?_ _));exact BK305.out⟩
    have n3_ : Aside0 (((w31.setCell ⟨gb314,0,none⟩ (.int .i64 t311)).setCell ⟨gb314,1,none⟩ (.string t312)).heap[gb310]?=some (.cells #[.int .i64 t307,.string t308] 23 (0,0))):=⟨by (with_reducible repeat (first|refine blk_drewN ?_ _|refine blk_drew ?_|refine blk_alloc ?_ _));refine blk_far ?_ NB310_314.out _;(with_reducible repeat (first|refine blk_drewN ?_ _|refine blk_drew ?_|refine blk_alloc ?_ _));refine blk_far ?_ NB310_314.out _;(with_reducible repeat (first|refine blk_drewN ?_ _|refine blk_drew ?_|refine blk_alloc ?_ _));exact BK310.out⟩
    have n4_ : Aside0 (((w31.setCell ⟨gb314,0,none⟩ (.int .i64 t311)).setCell ⟨gb314,1,none⟩ (.string t312)).heap[gb314]?=some (.cells #[.int .i64 t311,.string t312] 23 (0,0))):=⟨by (with_reducible repeat (first|refine blk_drewN ?_ _|refine blk_drew ?_|refine blk_alloc ?_ _));refine blk_put (cs:=#[.int .i64 t311,.string (⟨#[]⟩ : ByteArray)]) ?_ 1 _ rfl;(with_reducible repeat (first|refine blk_drewN ?_ _|refine blk_drew ?_|refine blk_alloc ?_ _));refine blk_put (cs:=#[.int .i64 0,.string (⟨#[]⟩ : ByteArray)]) ?_ 0 _ rfl;(with_reducible repeat (first|refine blk_drewN ?_ _|refine blk_drew ?_|refine blk_alloc ?_ _));exact BK314.out⟩
    have n5_ : Aside0 (Below w.heap.size w ((w31.setCell ⟨gb314,0,none⟩ (.int .i64 t311)).setCell ⟨gb314,1,none⟩ (.string t312))):=⟨by repeat (first|(with_reducible first|exact HB.out|apply below_alloc|apply pw_below_drewN|apply below_drew1|refine below_set ?_ GE298.out|refine below_set ?_ GE302.out|refine below_set ?_ GE305.out|refine below_set ?_ GE310.out|refine below_set ?_ GE314.out)|exact HB.out)⟩
    (try clear BK298)
    (try clear BK302)
    (try clear BK305)
    (try clear BK310)
    (try clear BK314)
    (try clear HB)
    generalize ((w31.setCell ⟨gb314,0,none⟩ (.int .i64 t311)).setCell ⟨gb314,1,none⟩ (.string t312))=w45 at n0_ n1_ n2_ n3_ n4_ n5_ ⊢
    have BK298:=n0_
    have BK302:=n1_
    have BK305:=n2_
    have BK310:=n3_
    have BK314:=n4_
    have HB:=n5_
    clear n0_ n1_ n2_ n3_ n4_ n5_
    have n0_:=Aside0.mk (blk_drew BK298.out)
    have n1_:=Aside0.mk (blk_drew BK302.out)
    have n2_:=Aside0.mk (blk_drew BK305.out)
    have n3_:=Aside0.mk (blk_drew BK310.out)
    have n4_:=Aside0.mk (blk_drew BK314.out)
    have n5_:=Aside0.mk (below_drew1 HB.out)
    clear BK298
    clear BK302
    clear BK305
    clear BK310
    clear BK314
    clear HB
    have BK298:=n0_
    have BK302:=n1_
    have BK305:=n2_
    have BK310:=n3_
    have BK314:=n4_
    have HB:=n5_
    clear n0_ n1_ n2_ n3_ n4_ n5_
    refine start_ (n:=30) (S:=fun w'=>w'.cell? ⟨gb302,0,none⟩=some (.int .i64 t300)∧w'.cell? ⟨gb302,1,none⟩=some (.string t301)∧w'.cell? ⟨gb305,0,none⟩=some (.int .i64 t303)∧w'.cell? ⟨gb305,1,none⟩=some (.string t304)) (ds:=[]) #[false,false,false,false,false,false,false,false,false,false,false,false,false,false,false,false,false,false,false,false,false,false,false,false,false,false,false,false,false,false] (by kernel_rfl) rfl rfl ⟨(blk_cell BK302.out 0).trans rfl,(blk_cell BK302.out 1).trans rfl,(blk_cell BK305.out 0).trans rfl,(blk_cell BK305.out 1).trans rfl⟩ (fun hHeld=>?_);refine with_tabW thresherlaw03_ValueAll.tab7 thresherlaw03_ValueAll.bits7 (fun HT_ HW_=>?_)
    generalize w45.drew=w46 at BK298 BK302 BK305 BK310 BK314 HB hHeld ⊢
    refine pure_ (i:=0) (N:=some 36) (v:=?_) (a':=?_) #[true,false,false,false,false,false,false,false,false,false,false,false,false,false,false,false,false,false,false,false,false,false,false,false,false,false,false,false,false,false] rfl rfl (any_of HT_.out (by kernel_rfl)) (fun _ _ _ h=>h) (Or.inl ⟨by rfl,?_⟩) ?_ ?_
    rotate_left;(intro w';go_simp;with_reducible rfl);rotate_left;(simp only [Act.put,List.setIfInBounds_toArray,List.set_cons_zero,List.set_cons_succ,i64_w,i32_w];rfl)
    refine pure_ (i:=3) (N:=some 39) (v:=?_) (a':=?_) #[true,false,false,true,false,false,false,false,false,false,false,false,false,false,false,false,false,false,false,false,false,false,false,false,false,false,false,false,false,false] rfl rfl (any_of HT_.out (by kernel_rfl)) (fun _ _ _ h=>h) (Or.inl ⟨by rfl,?_⟩) ?_ ?_
    rotate_left;(intro w';go_simp;with_reducible rfl);rotate_left;(simp only [Act.put,List.setIfInBounds_toArray,List.set_cons_zero,List.set_cons_succ,i64_w,i32_w];rfl)
    refine take_ (i:=1) (N:=some 37) (v:=?_) (a':=?_) #[true,true,false,true,false,false,false,false,false,false,false,false,false,false,false,false,false,false,false,false,false,false,false,false,false,false,false,false,false,false] rfl rfl (take_ofW HT_.out HW_.out (by kernel_rfl)) (fun _ _ _ h=>h) (Or.inl ⟨by rfl,?_⟩) hHeld ?_ ?_
    rotate_left;(rintro w' ⟨s0,s1,s2,s3⟩;go_simp;with_reducible rfl);rotate_left;(simp only [Act.put,List.setIfInBounds_toArray,List.set_cons_zero,List.set_cons_succ,i64_w,i32_w];rfl)
    refine take_ (i:=4) (N:=some 40) (v:=?_) (a':=?_) #[true,true,false,true,true,false,false,false,false,false,false,false,false,false,false,false,false,false,false,false,false,false,false,false,false,false,false,false,false,false] rfl rfl (take_ofW HT_.out HW_.out (by kernel_rfl)) (fun _ _ _ h=>h) (Or.inl ⟨by rfl,?_⟩) hHeld ?_ ?_
    rotate_left;(rintro w' ⟨s0,s1,s2,s3⟩;go_simp;with_reducible rfl);rotate_left;(simp only [Act.put,List.setIfInBounds_toArray,List.set_cons_zero,List.set_cons_succ,i64_w,i32_w];rfl)
    refine one_ (i:=2) (N:=some 38) #[true,true,true,true,true,false,false,false,false,false,false,false,false,false,false,false,false,false,false,false,false,false,false,false,false,false,false,false,false,false] rfl rfl (one_of HT_.out (by kernel_rfl)) (by decide) (fun K hK=>?_)
    refine goes_ Tryd.func17 (by kernel_rfl) rfl #[.int .i64 a0,.agg #[.int .i64 t300,.string t301]] (by rfl) rfl rfl (by (try simp only [List.map_toArray,List.map_cons,List.map_nil]);first|done|rfl|(simp only [List.length_drop,List.length_take];rfl)) ?_
    with_reducible refine (value_Fits.calls k a0 t300 t301 t315 _ A37.out).mono ?_
    rintro e w47 ⟨rfl,hb⟩
    refine ⟨_,rfl,?_⟩
    have n0_:=Aside0.mk (blk_below (blk_up BK298.out) hb)
    have n1_:=Aside0.mk (blk_below (blk_up BK302.out) hb)
    have n2_:=Aside0.mk (blk_below (blk_up BK305.out) hb)
    have n3_:=Aside0.mk (blk_below (blk_up BK310.out) hb)
    have n4_:=Aside0.mk (blk_below (blk_up BK314.out) hb)
    have n5_:=Aside0.mk (below_step (below_go HB.out) hb)
    clear BK298
    clear BK302
    clear BK305
    clear BK310
    clear BK314
    clear HB
    have BK298:=n0_
    have BK302:=n1_
    have BK305:=n2_
    have BK310:=n3_
    have BK314:=n4_
    have HB:=n5_
    clear n0_ n1_ n2_ n3_ n4_ n5_
    (try clear hb)
    (try clear hb2)
    (try clear hk)
    (try clear hi)
    refine hK.out _ _ ⟨(blk_cell BK302.out 0).trans rfl,(blk_cell BK302.out 1).trans rfl,(blk_cell BK305.out 0).trans rfl,(blk_cell BK305.out 1).trans rfl⟩ (fun hHeld=>?_)
    clear hK K
    refine norm_ (a':=?_) ?_ ?_
    rotate_left
    ·show Act.put _ (some 38) _=_
     simp only [Act.put,List.setIfInBounds_toArray,List.set_cons_zero,List.set_cons_succ,i64_w,i32_w]
     rfl
    refine one_ (i:=5) (N:=some 41) #[true,true,true,true,true,true,false,false,false,false,false,false,false,false,false,false,false,false,false,false,false,false,false,false,false,false,false,false,false,false] rfl rfl (one_of HT_.out (by kernel_rfl)) (by decide) (fun K hK=>?_)
    refine goes_ Tryd.func20 (by kernel_rfl) rfl #[.int .i64 a0,.agg #[.int .i64 t300,.string t301]] (by rfl) rfl rfl (by (try simp only [List.map_toArray,List.map_cons,List.map_nil]);first|done|rfl|(simp only [List.length_drop,List.length_take];rfl)) ?_
    with_reducible refine (thresherref03_Fits.calls k a0 t300 t301 t316 _ A38.out).mono ?_
    rintro e w48 ⟨rfl,hb⟩
    refine ⟨_,rfl,?_⟩
    have n0_:=Aside0.mk (blk_below (blk_up BK298.out) hb)
    have n1_:=Aside0.mk (blk_below (blk_up BK302.out) hb)
    have n2_:=Aside0.mk (blk_below (blk_up BK305.out) hb)
    have n3_:=Aside0.mk (blk_below (blk_up BK310.out) hb)
    have n4_:=Aside0.mk (blk_below (blk_up BK314.out) hb)
    have n5_:=Aside0.mk (below_step (below_go HB.out) hb)
    clear BK298
    clear BK302
    clear BK305
    clear BK310
    clear BK314
    clear HB
    have BK298:=n0_
    have BK302:=n1_
    have BK305:=n2_
    have BK310:=n3_
    have BK314:=n4_
    have HB:=n5_
    clear n0_ n1_ n2_ n3_ n4_ n5_
    (try clear hb)
    (try clear hb2)
    (try clear hk)
    (try clear hi)
    refine hK.out _ _ ⟨(blk_cell BK302.out 0).trans rfl,(blk_cell BK302.out 1).trans rfl,(blk_cell BK305.out 0).trans rfl,(blk_cell BK305.out 1).trans rfl⟩ (fun hHeld=>?_)
    clear hK K
    refine norm_ (a':=?_) ?_ ?_
    rotate_left
    ·show Act.put _ (some 41) _=_
     simp only [Act.put,List.setIfInBounds_toArray,List.set_cons_zero,List.set_cons_succ,i64_w,i32_w]
     rfl
    refine pure_ (i:=6) (N:=some 42) (v:=?_) (a':=?_) #[true,true,true,true,true,true,true,false,false,false,false,false,false,false,false,false,false,false,false,false,false,false,false,false,false,false,false,false,false,false] rfl rfl (any_of HT_.out (by kernel_rfl)) (fun _ _ _ h=>h) (Or.inl ⟨by rfl,?_⟩) ?_ ?_
    rotate_left;(intro w';go_simp;with_reducible rfl);rotate_left;(simp only [Act.put,List.setIfInBounds_toArray,List.set_cons_zero,List.set_cons_succ,i64_w,i32_w];rfl)
    refine pure_ (i:=7) (N:=some 43) (v:=?_) (a':=?_) #[true,true,true,true,true,true,true,true,false,false,false,false,false,false,false,false,false,false,false,false,false,false,false,false,false,false,false,false,false,false] rfl rfl (any_of HT_.out (by kernel_rfl)) (fun _ _ _ h=>h) (Or.inl ⟨by rfl,?_⟩) ?_ ?_
    rotate_left;(intro w';go_simp;with_reducible rfl);rotate_left;(simp only [Act.put,List.setIfInBounds_toArray,List.set_cons_zero,List.set_cons_succ,i64_w,i32_w];rfl)
    refine pure_ (i:=8) (N:=some 44) (v:=?_) (a':=?_) #[true,true,true,true,true,true,true,true,true,false,false,false,false,false,false,false,false,false,false,false,false,false,false,false,false,false,false,false,false,false] rfl rfl (any_of HT_.out (by kernel_rfl)) (fun _ _ _ h=>h) (Or.inl ⟨by rfl,?_⟩) ?_ ?_
    rotate_left;(intro w';go_simp;with_reducible rfl);rotate_left;(simp only [Act.put,List.setIfInBounds_toArray,List.set_cons_zero,List.set_cons_succ,i64_w,i32_w];rfl)
    refine pure_ (i:=12) (N:=some 48) (v:=?_) (a':=?_) #[true,true,true,true,true,true,true,true,true,false,false,false,true,false,false,false,false,false,false,false,false,false,false,false,false,false,false,false,false,false] rfl rfl (any_of HT_.out (by kernel_rfl)) (fun _ _ _ h=>h) (Or.inl ⟨by rfl,?_⟩) ?_ ?_
    rotate_left;(intro w';go_simp;with_reducible rfl);rotate_left;(simp only [Act.put,List.setIfInBounds_toArray,List.set_cons_zero,List.set_cons_succ,i64_w,i32_w];rfl)
    refine take_ (i:=9) (N:=some 45) (v:=?_) (a':=?_) #[true,true,true,true,true,true,true,true,true,true,false,false,true,false,false,false,false,false,false,false,false,false,false,false,false,false,false,false,false,false] rfl rfl (take_ofW HT_.out HW_.out (by kernel_rfl)) (fun _ _ _ h=>h) (Or.inl ⟨by rfl,?_⟩) hHeld ?_ ?_
    rotate_left;(rintro w' ⟨s0,s1,s2,s3⟩;go_simp;with_reducible rfl);rotate_left;(simp only [Act.put,List.setIfInBounds_toArray,List.set_cons_zero,List.set_cons_succ,i64_w,i32_w];rfl)
    refine take_ (i:=10) (N:=some 46) (v:=?_) (a':=?_) #[true,true,true,true,true,true,true,true,true,true,true,false,true,false,false,false,false,false,false,false,false,false,false,false,false,false,false,false,false,false] rfl rfl (take_ofW HT_.out HW_.out (by kernel_rfl)) (fun _ _ _ h=>h) (Or.inl ⟨by rfl,?_⟩) hHeld ?_ ?_
    rotate_left;(rintro w' ⟨s0,s1,s2,s3⟩;go_simp;with_reducible rfl);rotate_left;(simp only [Act.put,List.setIfInBounds_toArray,List.set_cons_zero,List.set_cons_succ,i64_w,i32_w];rfl)
    refine take_ (i:=13) (N:=some 49) (v:=?_) (a':=?_) #[true,true,true,true,true,true,true,true,true,true,true,false,true,true,false,false,false,false,false,false,false,false,false,false,false,false,false,false,false,false] rfl rfl (take_ofW HT_.out HW_.out (by kernel_rfl)) (fun _ _ _ h=>h) (Or.inl ⟨by rfl,?_⟩) hHeld ?_ ?_
    rotate_left;(rintro w' ⟨s0,s1,s2,s3⟩;go_simp;with_reducible rfl);rotate_left;(simp only [Act.put,List.setIfInBounds_toArray,List.set_cons_zero,List.set_cons_succ,i64_w,i32_w];rfl)
    refine take_ (i:=14) (N:=some 50) (v:=?_) (a':=?_) #[true,true,true,true,true,true,true,true,true,true,true,false,true,true,true,false,false,false,false,false,false,false,false,false,false,false,false,false,false,false] rfl rfl (take_ofW HT_.out HW_.out (by kernel_rfl)) (fun _ _ _ h=>h) (Or.inl ⟨by rfl,?_⟩) hHeld ?_ ?_
    rotate_left;(rintro w' ⟨s0,s1,s2,s3⟩;go_simp;with_reducible rfl);rotate_left;(simp only [Act.put,List.setIfInBounds_toArray,List.set_cons_zero,List.set_cons_succ,i64_w,i32_w];rfl)
    refine one_ (i:=11) (N:=some 47) #[true,true,true,true,true,true,true,true,true,true,true,true,true,true,true,false,false,false,false,false,false,false,false,false,false,false,false,false,false,false] rfl rfl (one_of HT_.out (by kernel_rfl)) (by decide) (fun K hK=>?_)
    refine goes_ Tryd.func12 (by kernel_rfl) rfl #[.int .i64 a0,.agg #[.int .i64 t300,.string t301],.agg #[.int .i64 t303,.string t304]] (by rfl) rfl rfl (by (try simp only [List.map_toArray,List.map_cons,List.map_nil]);first|done|rfl|(simp only [List.length_drop,List.length_take];rfl)) ?_
    with_reducible refine (value_Compare.calls k a0 t300 t301 t303 t304 t317 _ A40.out).mono ?_
    rintro e w49 ⟨rfl,hb⟩
    refine ⟨_,rfl,?_⟩
    have n0_:=Aside0.mk (blk_below (blk_up BK298.out) hb)
    have n1_:=Aside0.mk (blk_below (blk_up BK302.out) hb)
    have n2_:=Aside0.mk (blk_below (blk_up BK305.out) hb)
    have n3_:=Aside0.mk (blk_below (blk_up BK310.out) hb)
    have n4_:=Aside0.mk (blk_below (blk_up BK314.out) hb)
    have n5_:=Aside0.mk (below_step (below_go HB.out) hb)
    clear BK298
    clear BK302
    clear BK305
    clear BK310
    clear BK314
    clear HB
    have BK298:=n0_
    have BK302:=n1_
    have BK305:=n2_
    have BK310:=n3_
    have BK314:=n4_
    have HB:=n5_
    clear n0_ n1_ n2_ n3_ n4_ n5_
    (try clear hb)
    (try clear hb2)
    (try clear hk)
    (try clear hi)
    refine hK.out _ _ ⟨(blk_cell BK302.out 0).trans rfl,(blk_cell BK302.out 1).trans rfl,(blk_cell BK305.out 0).trans rfl,(blk_cell BK305.out 1).trans rfl⟩ (fun hHeld=>?_)
    clear hK K
    refine norm_ (a':=?_) ?_ ?_
    rotate_left
    ·show Act.put _ (some 47) _=_
     simp only [Act.put,List.setIfInBounds_toArray,List.set_cons_zero,List.set_cons_succ,i64_w,i32_w]
     rfl
    refine one_ (i:=15) (N:=some 51) #[true,true,true,true,true,true,true,true,true,true,true,true,true,true,true,true,false,false,false,false,false,false,false,false,false,false,false,false,false,false] rfl rfl (one_of HT_.out (by kernel_rfl)) (by decide) (fun K hK=>?_)
    refine goes_ Tryd.func21 (by kernel_rfl) rfl #[.int .i64 a0,.agg #[.int .i64 t300,.string t301],.agg #[.int .i64 t303,.string t304]] (by rfl) rfl rfl (by (try simp only [List.map_toArray,List.map_cons,List.map_nil]);first|done|rfl|(simp only [List.length_drop,List.length_take];rfl)) ?_
    with_reducible refine (thresherref03_Compare.calls k a0 t300 t301 t303 t304 t318 _ A41.out).mono ?_
    rintro e w50 ⟨rfl,hb⟩
    refine ⟨_,rfl,?_⟩
    have n0_:=Aside0.mk (blk_below (blk_up BK298.out) hb)
    have n1_:=Aside0.mk (blk_below (blk_up BK302.out) hb)
    have n2_:=Aside0.mk (blk_below (blk_up BK305.out) hb)
    have n3_:=Aside0.mk (blk_below (blk_up BK310.out) hb)
    have n4_:=Aside0.mk (blk_below (blk_up BK314.out) hb)
    have n5_:=Aside0.mk (below_step (below_go HB.out) hb)
    clear BK298
    clear BK302
    clear BK305
    clear BK310
    clear BK314
    clear HB
    have BK298:=n0_
    have BK302:=n1_
    have BK305:=n2_
    have BK310:=n3_
    have BK314:=n4_
    have HB:=n5_
    clear n0_ n1_ n2_ n3_ n4_ n5_
    (try clear hb)
    (try clear hb2)
    (try clear hk)
    (try clear hi)
    refine hK.out _ _ ⟨(blk_cell BK302.out 0).trans rfl,(blk_cell BK302.out 1).trans rfl,(blk_cell BK305.out 0).trans rfl,(blk_cell BK305.out 1).trans rfl⟩ (fun hHeld=>?_)
    clear hK K
    refine norm_ (a':=?_) ?_ ?_
    rotate_left
    ·show Act.put _ (some 51) _=_
     simp only [Act.put,List.setIfInBounds_toArray,List.set_cons_zero,List.set_cons_succ,i64_w,i32_w]
     rfl
    refine pure_ (i:=16) (N:=some 52) (v:=?_) (a':=?_) #[true,true,true,true,true,true,true,true,true,true,true,true,true,true,true,true,true,false,false,false,false,false,false,false,false,false,false,false,false,false] rfl rfl (any_of HT_.out (by kernel_rfl)) (fun _ _ _ h=>h) (Or.inl ⟨by rfl,?_⟩) ?_ ?_
    rotate_left;(intro w';go_simp;with_reducible rfl);rotate_left;(simp only [Act.put,List.setIfInBounds_toArray,List.set_cons_zero,List.set_cons_succ,i64_w,i32_w];rfl)
    refine pure_ (i:=17) (N:=some 53) (v:=?_) (a':=?_) #[true,true,true,true,true,true,true,true,true,true,true,true,true,true,true,true,true,true,false,false,false,false,false,false,false,false,false,false,false,false] rfl rfl (any_of HT_.out (by kernel_rfl)) (fun _ _ _ h=>h) (Or.inl ⟨by rfl,?_⟩) ?_ ?_
    rotate_left;(intro w';go_simp;with_reducible rfl);rotate_left;(simp only [Act.put,List.setIfInBounds_toArray,List.set_cons_zero,List.set_cons_succ,i64_w,i32_w];rfl)
    refine pure_ (i:=18) (N:=some 54) (v:=?_) (a':=?_) #[true,true,true,true,true,true,true,true,true,true,true,true,true,true,true,true,true,true,true,false,false,false,false,false,false,false,false,false,false,false] rfl rfl (any_of HT_.out (by kernel_rfl)) (fun _ _ _ h=>h) (Or.inl ⟨by rfl,?_⟩) ?_ ?_
    rotate_left;(intro w';go_simp;with_reducible rfl);rotate_left;(simp only [Act.put,List.setIfInBounds_toArray,List.set_cons_zero,List.set_cons_succ,i64_w,i32_w];rfl)
    refine pure_ (i:=19) (N:=some 55) (v:=?_) (a':=?_) #[true,true,true,true,true,true,true,true,true,true,true,true,true,true,true,true,true,true,true,true,false,false,false,false,false,false,false,false,false,false] rfl rfl (any_of HT_.out (by kernel_rfl)) (fun _ _ _ h=>h) (Or.inl ⟨by rfl,?_⟩) ?_ ?_
    rotate_left;(intro w';go_simp;with_reducible rfl);rotate_left;(simp only [Act.put,List.setIfInBounds_toArray,List.set_cons_zero,List.set_cons_succ,i64_w,i32_w];rfl)
    refine pure_ (i:=23) (N:=some 59) (v:=?_) (a':=?_) #[true,true,true,true,true,true,true,true,true,true,true,true,true,true,true,true,true,true,true,true,false,false,false,true,false,false,false,false,false,false] rfl rfl (any_of HT_.out (by kernel_rfl)) (fun _ _ _ h=>h) (Or.inl ⟨by rfl,?_⟩) ?_ ?_
    rotate_left;(intro w';go_simp;with_reducible rfl);rotate_left;(simp only [Act.put,List.setIfInBounds_toArray,List.set_cons_zero,List.set_cons_succ,i64_w,i32_w];rfl)
    refine take_ (i:=20) (N:=some 56) (v:=?_) (a':=?_) #[true,true,true,true,true,true,true,true,true,true,true,true,true,true,true,true,true,true,true,true,true,false,false,true,false,false,false,false,false,false] rfl rfl (take_ofW HT_.out HW_.out (by kernel_rfl)) (fun _ _ _ h=>h) (Or.inl ⟨by rfl,?_⟩) hHeld ?_ ?_
    rotate_left;(rintro w' ⟨s0,s1,s2,s3⟩;go_simp;with_reducible rfl);rotate_left;(simp only [Act.put,List.setIfInBounds_toArray,List.set_cons_zero,List.set_cons_succ,i64_w,i32_w];rfl)
    refine take_ (i:=21) (N:=some 57) (v:=?_) (a':=?_) #[true,true,true,true,true,true,true,true,true,true,true,true,true,true,true,true,true,true,true,true,true,true,false,true,false,false,false,false,false,false] rfl rfl (take_ofW HT_.out HW_.out (by kernel_rfl)) (fun _ _ _ h=>h) (Or.inl ⟨by rfl,?_⟩) hHeld ?_ ?_
    rotate_left;(rintro w' ⟨s0,s1,s2,s3⟩;go_simp;with_reducible rfl);rotate_left;(simp only [Act.put,List.setIfInBounds_toArray,List.set_cons_zero,List.set_cons_succ,i64_w,i32_w];rfl)
    refine take_ (i:=24) (N:=some 60) (v:=?_) (a':=?_) #[true,true,true,true,true,true,true,true,true,true,true,true,true,true,true,true,true,true,true,true,true,true,false,true,true,false,false,false,false,false] rfl rfl (take_ofW HT_.out HW_.out (by kernel_rfl)) (fun _ _ _ h=>h) (Or.inl ⟨by rfl,?_⟩) hHeld ?_ ?_
    rotate_left;(rintro w' ⟨s0,s1,s2,s3⟩;go_simp;with_reducible rfl);rotate_left;(simp only [Act.put,List.setIfInBounds_toArray,List.set_cons_zero,List.set_cons_succ,i64_w,i32_w];rfl)
    refine take_ (i:=25) (N:=some 61) (v:=?_) (a':=?_) #[true,true,true,true,true,true,true,true,true,true,true,true,true,true,true,true,true,true,true,true,true,true,false,true,true,true,false,false,false,false] rfl rfl (take_ofW HT_.out HW_.out (by kernel_rfl)) (fun _ _ _ h=>h) (Or.inl ⟨by rfl,?_⟩) hHeld ?_ ?_
    rotate_left;(rintro w' ⟨s0,s1,s2,s3⟩;go_simp;with_reducible rfl);rotate_left;(simp only [Act.put,List.setIfInBounds_toArray,List.set_cons_zero,List.set_cons_succ,i64_w,i32_w];rfl)
    refine one_ (i:=22) (N:=some 58) #[true,true,true,true,true,true,true,true,true,true,true,true,true,true,true,true,true,true,true,true,true,true,true,true,true,true,false,false,false,false] rfl rfl (one_of HT_.out (by kernel_rfl)) (by decide) (fun K hK=>?_)
    refine goes_ Tryd.func14 (by kernel_rfl) rfl #[.int .i64 a0,.agg #[.int .i64 t300,.string t301],.agg #[.int .i64 t303,.string t304]] (by rfl) rfl rfl (by (try simp only [List.map_toArray,List.map_cons,List.map_nil]);first|done|rfl|(simp only [List.length_drop,List.length_take];rfl)) ?_
    with_reducible refine (value_Add.calls k a0 t300 t301 t303 t304 t319 t320 _ A43.out).mono ?_
    rintro e w51 ⟨rfl,hb⟩
    refine ⟨_,rfl,?_⟩
    have n0_:=Aside0.mk (blk_below (blk_up BK298.out) hb)
    have n1_:=Aside0.mk (blk_below (blk_up BK302.out) hb)
    have n2_:=Aside0.mk (blk_below (blk_up BK305.out) hb)
    have n3_:=Aside0.mk (blk_below (blk_up BK310.out) hb)
    have n4_:=Aside0.mk (blk_below (blk_up BK314.out) hb)
    have n5_:=Aside0.mk (below_step (below_go HB.out) hb)
    clear BK298
    clear BK302
    clear BK305
    clear BK310
    clear BK314
    clear HB
    have BK298:=n0_
    have BK302:=n1_
    have BK305:=n2_
    have BK310:=n3_
    have BK314:=n4_
    have HB:=n5_
    clear n0_ n1_ n2_ n3_ n4_ n5_
    (try clear hb)
    (try clear hb2)
    (try clear hk)
    (try clear hi)
    refine hK.out _ _ ⟨(blk_cell BK302.out 0).trans rfl,(blk_cell BK302.out 1).trans rfl,(blk_cell BK305.out 0).trans rfl,(blk_cell BK305.out 1).trans rfl⟩ (fun hHeld=>?_)
    clear hK K
    refine norm_ (a':=?_) ?_ ?_
    rotate_left
    ·show Act.put _ (some 58) _=_
     simp only [Act.put,List.setIfInBounds_toArray,List.set_cons_zero,List.set_cons_succ,i64_w,i32_w]
     rfl
    refine one_ (i:=26) (N:=some 62) #[true,true,true,true,true,true,true,true,true,true,true,true,true,true,true,true,true,true,true,true,true,true,true,true,true,true,true,false,false,false] rfl rfl (one_of HT_.out (by kernel_rfl)) (by decide) (fun K hK=>?_)
    refine goes_ Tryd.func22 (by kernel_rfl) rfl #[.int .i64 a0,.agg #[.int .i64 t300,.string t301],.agg #[.int .i64 t303,.string t304]] (by rfl) rfl rfl (by (try simp only [List.map_toArray,List.map_cons,List.map_nil]);first|done|rfl|(simp only [List.length_drop,List.length_take];rfl)) ?_
    with_reducible refine (thresherref03_Add.calls k a0 t300 t301 t303 t304 t321 t322 _ A44.out).mono ?_
    rintro e w52 ⟨rfl,hb⟩
    refine ⟨_,rfl,?_⟩
    have n0_:=Aside0.mk (blk_below (blk_up BK298.out) hb)
    have n1_:=Aside0.mk (blk_below (blk_up BK302.out) hb)
    have n2_:=Aside0.mk (blk_below (blk_up BK305.out) hb)
    have n3_:=Aside0.mk (blk_below (blk_up BK310.out) hb)
    have n4_:=Aside0.mk (blk_below (blk_up BK314.out) hb)
    have n5_:=Aside0.mk (below_step (below_go HB.out) hb)
    clear BK298
    clear BK302
    clear BK305
    clear BK310
    clear BK314
    clear HB
    have BK298:=n0_
    have BK302:=n1_
    have BK305:=n2_
    have BK310:=n3_
    have BK314:=n4_
    have HB:=n5_
    clear n0_ n1_ n2_ n3_ n4_ n5_
    (try clear hb)
    (try clear hb2)
    (try clear hk)
    (try clear hi)
    refine hK.out _ _ ⟨(blk_cell BK302.out 0).trans rfl,(blk_cell BK302.out 1).trans rfl,(blk_cell BK305.out 0).trans rfl,(blk_cell BK305.out 1).trans rfl⟩ (fun hHeld=>?_)
    clear hK K
    refine norm_ (a':=?_) ?_ ?_
    rotate_left
    ·show Act.put _ (some 62) _=_
     simp only [Act.put,List.setIfInBounds_toArray,List.set_cons_zero,List.set_cons_succ,i64_w,i32_w]
     rfl
    refine pure_ (i:=27) (N:=some 63) (v:=?_) (a':=?_) #[true,true,true,true,true,true,true,true,true,true,true,true,true,true,true,true,true,true,true,true,true,true,true,true,true,true,true,true,false,false] rfl rfl (any_of HT_.out (by kernel_rfl)) (fun _ _ _ h=>h) (Or.inl ⟨by rfl,?_⟩) ?_ ?_
    rotate_left;(intro w';go_simp;with_reducible rfl);rotate_left;(simp only [Act.put,List.setIfInBounds_toArray,List.set_cons_zero,List.set_cons_succ,i64_w,i32_w];rfl)
    refine pure_ (i:=28) (N:=some 64) (v:=?_) (a':=?_) #[true,true,true,true,true,true,true,true,true,true,true,true,true,true,true,true,true,true,true,true,true,true,true,true,true,true,true,true,true,false] rfl rfl (any_of HT_.out (by kernel_rfl)) (fun _ _ _ h=>h) (Or.inl ⟨by rfl,?_⟩) ?_ ?_
    rotate_left;(intro w';go_simp;with_reducible rfl);rotate_left;(simp only [Act.put,List.setIfInBounds_toArray,List.set_cons_zero,List.set_cons_succ,i64_w,i32_w];rfl)
    refine pure_ (i:=29) (N:=some 14) (v:=?_) (a':=?_) #[true,true,true,true,true,true,true,true,true,true,true,true,true,true,true,true,true,true,true,true,true,true,true,true,true,true,true,true,true,true] rfl rfl (any_of HT_.out (by kernel_rfl)) (fun _ _ _ h=>h) (Or.inl ⟨by rfl,?_⟩) ?_ ?_
    rotate_left;(intro w';go_simp;with_reducible rfl);rotate_left;(simp only [Act.put,List.setIfInBounds_toArray,List.set_cons_zero,List.set_cons_succ,i64_w,i32_w];rfl)
    refine done_ (done_of HT_.out (by kernel_rfl)) ?_
    (try clear hHeld)
    try go_wp2
    go_meet
    case rel=>exact ⟨_,((t319 == t321 && (t320.toList == t322.toList))),(by first|rfl|(simp;done)|(simp [*];done)),(by first|exact H'|(subst_vars;exact H')),⟨by first|omega|exact Nat.le_refl _⟩,⟨by (with_reducible repeat (first|refine blk_drewN ?_ _|refine blk_drew ?_|refine blk_alloc ?_ _));exact BK298.out⟩,⟨by (with_reducible repeat (first|refine blk_drewN ?_ _|refine blk_drew ?_|refine blk_alloc ?_ _));exact BK302.out⟩,⟨by (with_reducible repeat (first|refine blk_drewN ?_ _|refine blk_drew ?_|refine blk_alloc ?_ _));exact BK305.out⟩,⟨by (with_reducible repeat (first|refine blk_drewN ?_ _|refine blk_drew ?_|refine blk_alloc ?_ _));exact BK310.out⟩,⟨by (with_reducible repeat (first|refine blk_drewN ?_ _|refine blk_drew ?_|refine blk_alloc ?_ _));exact BK314.out⟩,⟨by repeat (first|(with_reducible first|exact HB.out|apply below_alloc|apply pw_below_drewN|apply below_drew1|refine below_set ?_ GE298.out|refine below_set ?_ GE302.out|refine below_set ?_ GE305.out|refine below_set ?_ GE310.out|refine below_set ?_ GE314.out)|exact HB.out)⟩⟩
   ·rw [if_neg c42] at H
    have c42b0 : (t317 == t318)=false:=beq_eq_false_iff_ne.mpr c42
    have c42b1 : (t317 != t318)=true:=bne_iff_ne.mpr c42
    have H':=Aside0.mk H
    clear H
    try go_wp2
    have n0_ : Aside0 (((w31.setCell ⟨gb314,0,none⟩ (.int .i64 t311)).setCell ⟨gb314,1,none⟩ (.string t312)).heap[gb298]?=some (.cells #[.int .i64 a1_0,.string a1_1,.int .i64 a1_2,.string a1_3] 35 (0,0))):=⟨by (with_reducible repeat (first|refine blk_drewN ?_ _|refine blk_drew ?_|refine blk_alloc ?_ _));refine blk_far ?_ NB298_314.out _;(with_reducible repeat (first|refine blk_drewN ?_ _|refine blk_drew ?_|refine blk_alloc ?_ _));refine blk_far ?_ NB298_314.out _;(with_reducible repeat (first|refine blk_drewN ?_ _|refine blk_drew ?_|refine blk_alloc ?_ _));exact BK298.out⟩
    have n1_ : Aside0 (((w31.setCell ⟨gb314,0,none⟩ (.int .i64 t311)).setCell ⟨gb314,1,none⟩ (.string t312)).heap[gb302]?=some (.cells #[.int .i64 t300,.string t301] 23 (0,0))):=⟨by (with_reducible repeat (first|refine blk_drewN ?_ _|refine blk_drew ?_|refine blk_alloc ?_ _));refine blk_far ?_ NB302_314.out _;(with_reducible repeat (first|refine blk_drewN ?_ _|refine blk_drew ?_|refine blk_alloc ?_ _));refine blk_far ?_ NB302_314.out _;(with_reducible repeat (first|refine blk_drewN ?_ _|refine blk_drew ?_|refine blk_alloc ?_ _));exact BK302.out⟩
    have n2_ : Aside0 (((w31.setCell ⟨gb314,0,none⟩ (.int .i64 t311)).setCell ⟨gb314,1,none⟩ (.string t312)).heap[gb305]?=some (.cells #[.int .i64 t303,.string t304] 23 (0,0))):=⟨by (with_reducible repeat (first|refine blk_drewN ?_ _|refine blk_drew ?_|refine blk_alloc ?_ _));refine blk_far ?_ NB305_314.out _;(with_reducible repeat (first|refine blk_drewN ?_ _|refine blk_drew ?_|refine blk_alloc ?_ _));refine blk_far ?_ NB305_314.out _;(with_reducible repeat (first|refine blk_drewN ?_ _|refine blk_drew ?_|refine blk_alloc ?_ _));exact BK305.out⟩
    have n3_ : Aside0 (((w31.setCell ⟨gb314,0,none⟩ (.int .i64 t311)).setCell ⟨gb314,1,none⟩ (.string t312)).heap[gb310]?=some (.cells #[.int .i64 t307,.string t308] 23 (0,0))):=⟨by (with_reducible repeat (first|refine blk_drewN ?_ _|refine blk_drew ?_|refine blk_alloc ?_ _));refine blk_far ?_ NB310_314.out _;(with_reducible repeat (first|refine blk_drewN ?_ _|refine blk_drew ?_|refine blk_alloc ?_ _));refine blk_far ?_ NB310_314.out _;(with_reducible repeat (first|refine blk_drewN ?_ _|refine blk_drew ?_|refine blk_alloc ?_ _));exact BK310.out⟩
    have n4_ : Aside0 (((w31.setCell ⟨gb314,0,none⟩ (.int .i64 t311)).setCell ⟨gb314,1,none⟩ (.string t312)).heap[gb314]?=some (.cells #[.int .i64 t311,.string t312] 23 (0,0))):=⟨by (with_reducible repeat (first|refine blk_drewN ?_ _|refine blk_drew ?_|refine blk_alloc ?_ _));refine blk_put (cs:=#[.int .i64 t311,.string (⟨#[]⟩ : ByteArray)]) ?_ 1 _ rfl;(with_reducible repeat (first|refine blk_drewN ?_ _|refine blk_drew ?_|refine blk_alloc ?_ _));refine blk_put (cs:=#[.int .i64 0,.string (⟨#[]⟩ : ByteArray)]) ?_ 0 _ rfl;(with_reducible repeat (first|refine blk_drewN ?_ _|refine blk_drew ?_|refine blk_alloc ?_ _));exact BK314.out⟩
    have n5_ : Aside0 (Below w.heap.size w ((w31.setCell ⟨gb314,0,none⟩ (.int .i64 t311)).setCell ⟨gb314,1,none⟩ (.string t312))):=⟨by repeat (first|(with_reducible first|exact HB.out|apply below_alloc|apply pw_below_drewN|apply below_drew1|refine below_set ?_ GE298.out|refine below_set ?_ GE302.out|refine below_set ?_ GE305.out|refine below_set ?_ GE310.out|refine below_set ?_ GE314.out)|exact HB.out)⟩
    (try clear BK298)
    (try clear BK302)
    (try clear BK305)
    (try clear BK310)
    (try clear BK314)
    (try clear HB)
    generalize ((w31.setCell ⟨gb314,0,none⟩ (.int .i64 t311)).setCell ⟨gb314,1,none⟩ (.string t312))=w53 at n0_ n1_ n2_ n3_ n4_ n5_ ⊢
    have BK298:=n0_
    have BK302:=n1_
    have BK305:=n2_
    have BK310:=n3_
    have BK314:=n4_
    have HB:=n5_
    clear n0_ n1_ n2_ n3_ n4_ n5_
    have n0_:=Aside0.mk (blk_drew BK298.out)
    have n1_:=Aside0.mk (blk_drew BK302.out)
    have n2_:=Aside0.mk (blk_drew BK305.out)
    have n3_:=Aside0.mk (blk_drew BK310.out)
    have n4_:=Aside0.mk (blk_drew BK314.out)
    have n5_:=Aside0.mk (below_drew1 HB.out)
    clear BK298
    clear BK302
    clear BK305
    clear BK310
    clear BK314
    clear HB
    have BK298:=n0_
    have BK302:=n1_
    have BK305:=n2_
    have BK310:=n3_
    have BK314:=n4_
    have HB:=n5_
    clear n0_ n1_ n2_ n3_ n4_ n5_
    refine start_ (n:=30) (S:=fun w'=>w'.cell? ⟨gb302,0,none⟩=some (.int .i64 t300)∧w'.cell? ⟨gb302,1,none⟩=some (.string t301)∧w'.cell? ⟨gb305,0,none⟩=some (.int .i64 t303)∧w'.cell? ⟨gb305,1,none⟩=some (.string t304)) (ds:=[]) #[false,false,false,false,false,false,false,false,false,false,false,false,false,false,false,false,false,false,false,false,false,false,false,false,false,false,false,false,false,false] (by kernel_rfl) rfl rfl ⟨(blk_cell BK302.out 0).trans rfl,(blk_cell BK302.out 1).trans rfl,(blk_cell BK305.out 0).trans rfl,(blk_cell BK305.out 1).trans rfl⟩ (fun hHeld=>?_);refine with_tabW thresherlaw03_ValueAll.tab7 thresherlaw03_ValueAll.bits7 (fun HT_ HW_=>?_)
    generalize w53.drew=w54 at BK298 BK302 BK305 BK310 BK314 HB hHeld ⊢
    refine pure_ (i:=0) (N:=some 36) (v:=?_) (a':=?_) #[true,false,false,false,false,false,false,false,false,false,false,false,false,false,false,false,false,false,false,false,false,false,false,false,false,false,false,false,false,false] rfl rfl (any_of HT_.out (by kernel_rfl)) (fun _ _ _ h=>h) (Or.inl ⟨by rfl,?_⟩) ?_ ?_
    rotate_left;(intro w';go_simp;with_reducible rfl);rotate_left;(simp only [Act.put,List.setIfInBounds_toArray,List.set_cons_zero,List.set_cons_succ,i64_w,i32_w];rfl)
    refine pure_ (i:=3) (N:=some 39) (v:=?_) (a':=?_) #[true,false,false,true,false,false,false,false,false,false,false,false,false,false,false,false,false,false,false,false,false,false,false,false,false,false,false,false,false,false] rfl rfl (any_of HT_.out (by kernel_rfl)) (fun _ _ _ h=>h) (Or.inl ⟨by rfl,?_⟩) ?_ ?_
    rotate_left;(intro w';go_simp;with_reducible rfl);rotate_left;(simp only [Act.put,List.setIfInBounds_toArray,List.set_cons_zero,List.set_cons_succ,i64_w,i32_w];rfl)
    refine take_ (i:=1) (N:=some 37) (v:=?_) (a':=?_) #[true,true,false,true,false,false,false,false,false,false,false,false,false,false,false,false,false,false,false,false,false,false,false,false,false,false,false,false,false,false] rfl rfl (take_ofW HT_.out HW_.out (by kernel_rfl)) (fun _ _ _ h=>h) (Or.inl ⟨by rfl,?_⟩) hHeld ?_ ?_
    rotate_left;(rintro w' ⟨s0,s1,s2,s3⟩;go_simp;with_reducible rfl);rotate_left;(simp only [Act.put,List.setIfInBounds_toArray,List.set_cons_zero,List.set_cons_succ,i64_w,i32_w];rfl)
    refine take_ (i:=4) (N:=some 40) (v:=?_) (a':=?_) #[true,true,false,true,true,false,false,false,false,false,false,false,false,false,false,false,false,false,false,false,false,false,false,false,false,false,false,false,false,false] rfl rfl (take_ofW HT_.out HW_.out (by kernel_rfl)) (fun _ _ _ h=>h) (Or.inl ⟨by rfl,?_⟩) hHeld ?_ ?_
    rotate_left;(rintro w' ⟨s0,s1,s2,s3⟩;go_simp;with_reducible rfl);rotate_left;(simp only [Act.put,List.setIfInBounds_toArray,List.set_cons_zero,List.set_cons_succ,i64_w,i32_w];rfl)
    refine one_ (i:=2) (N:=some 38) #[true,true,true,true,true,false,false,false,false,false,false,false,false,false,false,false,false,false,false,false,false,false,false,false,false,false,false,false,false,false] rfl rfl (one_of HT_.out (by kernel_rfl)) (by decide) (fun K hK=>?_)
    refine goes_ Tryd.func17 (by kernel_rfl) rfl #[.int .i64 a0,.agg #[.int .i64 t300,.string t301]] (by rfl) rfl rfl (by (try simp only [List.map_toArray,List.map_cons,List.map_nil]);first|done|rfl|(simp only [List.length_drop,List.length_take];rfl)) ?_
    with_reducible refine (value_Fits.calls k a0 t300 t301 t315 _ A37.out).mono ?_
    rintro e w55 ⟨rfl,hb⟩
    refine ⟨_,rfl,?_⟩
    have n0_:=Aside0.mk (blk_below (blk_up BK298.out) hb)
    have n1_:=Aside0.mk (blk_below (blk_up BK302.out) hb)
    have n2_:=Aside0.mk (blk_below (blk_up BK305.out) hb)
    have n3_:=Aside0.mk (blk_below (blk_up BK310.out) hb)
    have n4_:=Aside0.mk (blk_below (blk_up BK314.out) hb)
    have n5_:=Aside0.mk (below_step (below_go HB.out) hb)
    clear BK298
    clear BK302
    clear BK305
    clear BK310
    clear BK314
    clear HB
    have BK298:=n0_
    have BK302:=n1_
    have BK305:=n2_
    have BK310:=n3_
    have BK314:=n4_
    have HB:=n5_
    clear n0_ n1_ n2_ n3_ n4_ n5_
    (try clear hb)
    (try clear hb2)
    (try clear hk)
    (try clear hi)
    refine hK.out _ _ ⟨(blk_cell BK302.out 0).trans rfl,(blk_cell BK302.out 1).trans rfl,(blk_cell BK305.out 0).trans rfl,(blk_cell BK305.out 1).trans rfl⟩ (fun hHeld=>?_)
    clear hK K
    refine norm_ (a':=?_) ?_ ?_
    rotate_left
    ·show Act.put _ (some 38) _=_
     simp only [Act.put,List.setIfInBounds_toArray,List.set_cons_zero,List.set_cons_succ,i64_w,i32_w]
     rfl
    refine one_ (i:=5) (N:=some 41) #[true,true,true,true,true,true,false,false,false,false,false,false,false,false,false,false,false,false,false,false,false,false,false,false,false,false,false,false,false,false] rfl rfl (one_of HT_.out (by kernel_rfl)) (by decide) (fun K hK=>?_)
    refine goes_ Tryd.func20 (by kernel_rfl) rfl #[.int .i64 a0,.agg #[.int .i64 t300,.string t301]] (by rfl) rfl rfl (by (try simp only [List.map_toArray,List.map_cons,List.map_nil]);first|done|rfl|(simp only [List.length_drop,List.length_take];rfl)) ?_
    with_reducible refine (thresherref03_Fits.calls k a0 t300 t301 t316 _ A38.out).mono ?_
    rintro e w56 ⟨rfl,hb⟩
    refine ⟨_,rfl,?_⟩
    have n0_:=Aside0.mk (blk_below (blk_up BK298.out) hb)
    have n1_:=Aside0.mk (blk_below (blk_up BK302.out) hb)
    have n2_:=Aside0.mk (blk_below (blk_up BK305.out) hb)
    have n3_:=Aside0.mk (blk_below (blk_up BK310.out) hb)
    have n4_:=Aside0.mk (blk_below (blk_up BK314.out) hb)
    have n5_:=Aside0.mk (below_step (below_go HB.out) hb)
    clear BK298
    clear BK302
    clear BK305
    clear BK310
    clear BK314
    clear HB
    have BK298:=n0_
    have BK302:=n1_
    have BK305:=n2_
    have BK310:=n3_
    have BK314:=n4_
    have HB:=n5_
    clear n0_ n1_ n2_ n3_ n4_ n5_
    (try clear hb)
    (try clear hb2)
    (try clear hk)
    (try clear hi)
    refine hK.out _ _ ⟨(blk_cell BK302.out 0).trans rfl,(blk_cell BK302.out 1).trans rfl,(blk_cell BK305.out 0).trans rfl,(blk_cell BK305.out 1).trans rfl⟩ (fun hHeld=>?_)
    clear hK K
    refine norm_ (a':=?_) ?_ ?_
    rotate_left
    ·show Act.put _ (some 41) _=_
     simp only [Act.put,List.setIfInBounds_toArray,List.set_cons_zero,List.set_cons_succ,i64_w,i32_w]
     rfl
    refine pure_ (i:=6) (N:=some 42) (v:=?_) (a':=?_) #[true,true,true,true,true,true,true,false,false,false,false,false,false,false,false,false,false,false,false,false,false,false,false,false,false,false,false,false,false,false] rfl rfl (any_of HT_.out (by kernel_rfl)) (fun _ _ _ h=>h) (Or.inl ⟨by rfl,?_⟩) ?_ ?_
    rotate_left;(intro w';go_simp;with_reducible rfl);rotate_left;(simp only [Act.put,List.setIfInBounds_toArray,List.set_cons_zero,List.set_cons_succ,i64_w,i32_w];rfl)
    refine pure_ (i:=7) (N:=some 43) (v:=?_) (a':=?_) #[true,true,true,true,true,true,true,true,false,false,false,false,false,false,false,false,false,false,false,false,false,false,false,false,false,false,false,false,false,false] rfl rfl (any_of HT_.out (by kernel_rfl)) (fun _ _ _ h=>h) (Or.inl ⟨by rfl,?_⟩) ?_ ?_
    rotate_left;(intro w';go_simp;with_reducible rfl);rotate_left;(simp only [Act.put,List.setIfInBounds_toArray,List.set_cons_zero,List.set_cons_succ,i64_w,i32_w];rfl)
    refine pure_ (i:=8) (N:=some 44) (v:=?_) (a':=?_) #[true,true,true,true,true,true,true,true,true,false,false,false,false,false,false,false,false,false,false,false,false,false,false,false,false,false,false,false,false,false] rfl rfl (any_of HT_.out (by kernel_rfl)) (fun _ _ _ h=>h) (Or.inl ⟨by rfl,?_⟩) ?_ ?_
    rotate_left;(intro w';go_simp;with_reducible rfl);rotate_left;(simp only [Act.put,List.setIfInBounds_toArray,List.set_cons_zero,List.set_cons_succ,i64_w,i32_w];rfl)
    refine pure_ (i:=12) (N:=some 48) (v:=?_) (a':=?_) #[true,true,true,true,true,true,true,true,true,false,false,false,true,false,false,false,false,false,false,false,false,false,false,false,false,false,false,false,false,false] rfl rfl (any_of HT_.out (by kernel_rfl)) (fun _ _ _ h=>h) (Or.inl ⟨by rfl,?_⟩) ?_ ?_
    rotate_left;(intro w';go_simp;with_reducible rfl);rotate_left;(simp only [Act.put,List.setIfInBounds_toArray,List.set_cons_zero,List.set_cons_succ,i64_w,i32_w];rfl)
    refine take_ (i:=9) (N:=some 45) (v:=?_) (a':=?_) #[true,true,true,true,true,true,true,true,true,true,false,false,true,false,false,false,false,false,false,false,false,false,false,false,false,false,false,false,false,false] rfl rfl (take_ofW HT_.out HW_.out (by kernel_rfl)) (fun _ _ _ h=>h) (Or.inl ⟨by rfl,?_⟩) hHeld ?_ ?_
    rotate_left;(rintro w' ⟨s0,s1,s2,s3⟩;go_simp;with_reducible rfl);rotate_left;(simp only [Act.put,List.setIfInBounds_toArray,List.set_cons_zero,List.set_cons_succ,i64_w,i32_w];rfl)
    refine take_ (i:=10) (N:=some 46) (v:=?_) (a':=?_) #[true,true,true,true,true,true,true,true,true,true,true,false,true,false,false,false,false,false,false,false,false,false,false,false,false,false,false,false,false,false] rfl rfl (take_ofW HT_.out HW_.out (by kernel_rfl)) (fun _ _ _ h=>h) (Or.inl ⟨by rfl,?_⟩) hHeld ?_ ?_
    rotate_left;(rintro w' ⟨s0,s1,s2,s3⟩;go_simp;with_reducible rfl);rotate_left;(simp only [Act.put,List.setIfInBounds_toArray,List.set_cons_zero,List.set_cons_succ,i64_w,i32_w];rfl)
    refine take_ (i:=13) (N:=some 49) (v:=?_) (a':=?_) #[true,true,true,true,true,true,true,true,true,true,true,false,true,true,false,false,false,false,false,false,false,false,false,false,false,false,false,false,false,false] rfl rfl (take_ofW HT_.out HW_.out (by kernel_rfl)) (fun _ _ _ h=>h) (Or.inl ⟨by rfl,?_⟩) hHeld ?_ ?_
    rotate_left;(rintro w' ⟨s0,s1,s2,s3⟩;go_simp;with_reducible rfl);rotate_left;(simp only [Act.put,List.setIfInBounds_toArray,List.set_cons_zero,List.set_cons_succ,i64_w,i32_w];rfl)
    refine take_ (i:=14) (N:=some 50) (v:=?_) (a':=?_) #[true,true,true,true,true,true,true,true,true,true,true,false,true,true,true,false,false,false,false,false,false,false,false,false,false,false,false,false,false,false] rfl rfl (take_ofW HT_.out HW_.out (by kernel_rfl)) (fun _ _ _ h=>h) (Or.inl ⟨by rfl,?_⟩) hHeld ?_ ?_
    rotate_left;(rintro w' ⟨s0,s1,s2,s3⟩;go_simp;with_reducible rfl);rotate_left;(simp only [Act.put,List.setIfInBounds_toArray,List.set_cons_zero,List.set_cons_succ,i64_w,i32_w];rfl)
    refine one_ (i:=11) (N:=some 47) #[true,true,true,true,true,true,true,true,true,true,true,true,true,true,true,false,false,false,false,false,false,false,false,false,false,false,false,false,false,false] rfl rfl (one_of HT_.out (by kernel_rfl)) (by decide) (fun K hK=>?_)
    refine goes_ Tryd.func12 (by kernel_rfl) rfl #[.int .i64 a0,.agg #[.int .i64 t300,.string t301],.agg #[.int .i64 t303,.string t304]] (by rfl) rfl rfl (by (try simp only [List.map_toArray,List.map_cons,List.map_nil]);first|done|rfl|(simp only [List.length_drop,List.length_take];rfl)) ?_
    with_reducible refine (value_Compare.calls k a0 t300 t301 t303 t304 t317 _ A40.out).mono ?_
    rintro e w57 ⟨rfl,hb⟩
    refine ⟨_,rfl,?_⟩
    have n0_:=Aside0.mk (blk_below (blk_up BK298.out) hb)
    have n1_:=Aside0.mk (blk_below (blk_up BK302.out) hb)
    have n2_:=Aside0.mk (blk_below (blk_up BK305.out) hb)
    have n3_:=Aside0.mk (blk_below (blk_up BK310.out) hb)
    have n4_:=Aside0.mk (blk_below (blk_up BK314.out) hb)
    have n5_:=Aside0.mk (below_step (below_go HB.out) hb)
    clear BK298
    clear BK302
    clear BK305
    clear BK310
    clear BK314
    clear HB
    have BK298:=n0_
    have BK302:=n1_
    have BK305:=n2_
    have BK310:=n3_
    have BK314:=n4_
    have HB:=n5_
    clear n0_ n1_ n2_ n3_ n4_ n5_
    (try clear hb)
    (try clear hb2)
    (try clear hk)
    (try clear hi)
    refine hK.out _ _ ⟨(blk_cell BK302.out 0).trans rfl,(blk_cell BK302.out 1).trans rfl,(blk_cell BK305.out 0).trans rfl,(blk_cell BK305.out 1).trans rfl⟩ (fun hHeld=>?_)
    clear hK K
    refine norm_ (a':=?_) ?_ ?_
    rotate_left
    ·show Act.put _ (some 47) _=_
     simp only [Act.put,List.setIfInBounds_toArray,List.set_cons_zero,List.set_cons_succ,i64_w,i32_w]
     rfl
    refine one_ (i:=15) (N:=some 51) #[true,true,true,true,true,true,true,true,true,true,true,true,true,true,true,true,false,false,false,false,false,false,false,false,false,false,false,false,false,false] rfl rfl (one_of HT_.out (by kernel_rfl)) (by decide) (fun K hK=>?_)
    refine goes_ Tryd.func21 (by kernel_rfl) rfl #[.int .i64 a0,.agg #[.int .i64 t300,.string t301],.agg #[.int .i64 t303,.string t304]] (by rfl) rfl rfl (by (try simp only [List.map_toArray,List.map_cons,List.map_nil]);first|done|rfl|(simp only [List.length_drop,List.length_take];rfl)) ?_
    with_reducible refine (thresherref03_Compare.calls k a0 t300 t301 t303 t304 t318 _ A41.out).mono ?_
    rintro e w58 ⟨rfl,hb⟩
    refine ⟨_,rfl,?_⟩
    have n0_:=Aside0.mk (blk_below (blk_up BK298.out) hb)
    have n1_:=Aside0.mk (blk_below (blk_up BK302.out) hb)
    have n2_:=Aside0.mk (blk_below (blk_up BK305.out) hb)
    have n3_:=Aside0.mk (blk_below (blk_up BK310.out) hb)
    have n4_:=Aside0.mk (blk_below (blk_up BK314.out) hb)
    have n5_:=Aside0.mk (below_step (below_go HB.out) hb)
    clear BK298
    clear BK302
    clear BK305
    clear BK310
    clear BK314
    clear HB
    have BK298:=n0_
    have BK302:=n1_
    have BK305:=n2_
    have BK310:=n3_
    have BK314:=n4_
    have HB:=n5_
    clear n0_ n1_ n2_ n3_ n4_ n5_
    (try clear hb)
    (try clear hb2)
    (try clear hk)
    (try clear hi)
    refine hK.out _ _ ⟨(blk_cell BK302.out 0).trans rfl,(blk_cell BK302.out 1).trans rfl,(blk_cell BK305.out 0).trans rfl,(blk_cell BK305.out 1).trans rfl⟩ (fun hHeld=>?_)
    clear hK K
    refine norm_ (a':=?_) ?_ ?_
    rotate_left
    ·show Act.put _ (some 51) _=_
     simp only [Act.put,List.setIfInBounds_toArray,List.set_cons_zero,List.set_cons_succ,i64_w,i32_w]
     rfl
    refine pure_ (i:=16) (N:=some 52) (v:=?_) (a':=?_) #[true,true,true,true,true,true,true,true,true,true,true,true,true,true,true,true,true,false,false,false,false,false,false,false,false,false,false,false,false,false] rfl rfl (any_of HT_.out (by kernel_rfl)) (fun _ _ _ h=>h) (Or.inl ⟨by rfl,?_⟩) ?_ ?_
    rotate_left;(intro w';go_simp;with_reducible rfl);rotate_left;(simp only [Act.put,List.setIfInBounds_toArray,List.set_cons_zero,List.set_cons_succ,i64_w,i32_w];rfl)
    refine pure_ (i:=17) (N:=some 53) (v:=?_) (a':=?_) #[true,true,true,true,true,true,true,true,true,true,true,true,true,true,true,true,true,true,false,false,false,false,false,false,false,false,false,false,false,false] rfl rfl (any_of HT_.out (by kernel_rfl)) (fun _ _ _ h=>h) (Or.inl ⟨by rfl,?_⟩) ?_ ?_
    rotate_left;(intro w';go_simp;with_reducible rfl);rotate_left;(simp only [Act.put,List.setIfInBounds_toArray,List.set_cons_zero,List.set_cons_succ,i64_w,i32_w];rfl)
    refine pure_ (i:=18) (N:=some 54) (v:=?_) (a':=?_) #[true,true,true,true,true,true,true,true,true,true,true,true,true,true,true,true,true,true,true,false,false,false,false,false,false,false,false,false,false,false] rfl rfl (any_of HT_.out (by kernel_rfl)) (fun _ _ _ h=>h) (Or.inl ⟨by rfl,?_⟩) ?_ ?_
    rotate_left;(intro w';go_simp;with_reducible rfl);rotate_left;(simp only [Act.put,List.setIfInBounds_toArray,List.set_cons_zero,List.set_cons_succ,i64_w,i32_w];rfl)
    refine pure_ (i:=19) (N:=some 55) (v:=undef) (a':=?_) #[true,true,true,true,true,true,true,true,true,true,true,true,true,true,true,true,true,true,true,true,false,false,false,false,false,false,false,false,false,false] rfl rfl (any_of HT_.out (by kernel_rfl)) (fun _ _ _ h=>h) (Or.inr ⟨by rfl,rfl⟩) ?_ ?_
    rotate_left
    ·simp only [Act.put,List.setIfInBounds_toArray,List.set_cons_zero,List.set_cons_succ,i64_w,i32_w]
     rfl
    refine pure_ (i:=20) (N:=some 56) (v:=undef) (a':=?_) #[true,true,true,true,true,true,true,true,true,true,true,true,true,true,true,true,true,true,true,true,true,false,false,false,false,false,false,false,false,false] rfl rfl (any_of HT_.out (by kernel_rfl)) (fun _ _ _ h=>h) (Or.inr ⟨by rfl,rfl⟩) ?_ ?_
    rotate_left
    ·simp only [Act.put,List.setIfInBounds_toArray,List.set_cons_zero,List.set_cons_succ,i64_w,i32_w]
     rfl
    refine pure_ (i:=21) (N:=some 57) (v:=undef) (a':=?_) #[true,true,true,true,true,true,true,true,true,true,true,true,true,true,true,true,true,true,true,true,true,true,false,false,false,false,false,false,false,false] rfl rfl (any_of HT_.out (by kernel_rfl)) (fun _ _ _ h=>h) (Or.inr ⟨by rfl,rfl⟩) ?_ ?_
    rotate_left
    ·simp only [Act.put,List.setIfInBounds_toArray,List.set_cons_zero,List.set_cons_succ,i64_w,i32_w]
     rfl
    refine pure_ (i:=22) (N:=some 58) (v:=undef) (a':=?_) #[true,true,true,true,true,true,true,true,true,true,true,true,true,true,true,true,true,true,true,true,true,true,true,false,false,false,false,false,false,false] rfl rfl (any_of HT_.out (by kernel_rfl)) (fun _ _ _ h=>h) (Or.inr ⟨by rfl,rfl⟩) ?_ ?_
    rotate_left
    ·simp only [Act.put,List.setIfInBounds_toArray,List.set_cons_zero,List.set_cons_succ,i64_w,i32_w]
     rfl
    refine pure_ (i:=23) (N:=some 59) (v:=undef) (a':=?_) #[true,true,true,true,true,true,true,true,true,true,true,true,true,true,true,true,true,true,true,true,true,true,true,true,false,false,false,false,false,false] rfl rfl (any_of HT_.out (by kernel_rfl)) (fun _ _ _ h=>h) (Or.inr ⟨by rfl,rfl⟩) ?_ ?_
    rotate_left
    ·simp only [Act.put,List.setIfInBounds_toArray,List.set_cons_zero,List.set_cons_succ,i64_w,i32_w]
     rfl
    refine pure_ (i:=24) (N:=some 60) (v:=undef) (a':=?_) #[true,true,true,true,true,true,true,true,true,true,true,true,true,true,true,true,true,true,true,true,true,true,true,true,true,false,false,false,false,false] rfl rfl (any_of HT_.out (by kernel_rfl)) (fun _ _ _ h=>h) (Or.inr ⟨by rfl,rfl⟩) ?_ ?_
    rotate_left
    ·simp only [Act.put,List.setIfInBounds_toArray,List.set_cons_zero,List.set_cons_succ,i64_w,i32_w]
     rfl
    refine pure_ (i:=25) (N:=some 61) (v:=undef) (a':=?_) #[true,true,true,true,true,true,true,true,true,true,true,true,true,true,true,true,true,true,true,true,true,true,true,true,true,true,false,false,false,false] rfl rfl (any_of HT_.out (by kernel_rfl)) (fun _ _ _ h=>h) (Or.inr ⟨by rfl,rfl⟩) ?_ ?_
    rotate_left
    ·simp only [Act.put,List.setIfInBounds_toArray,List.set_cons_zero,List.set_cons_succ,i64_w,i32_w]
     rfl
    refine pure_ (i:=26) (N:=some 62) (v:=undef) (a':=?_) #[true,true,true,true,true,true,true,true,true,true,true,true,true,true,true,true,true,true,true,true,true,true,true,true,true,true,true,false,false,false] rfl rfl (any_of HT_.out (by kernel_rfl)) (fun _ _ _ h=>h) (Or.inr ⟨by rfl,rfl⟩) ?_ ?_
    rotate_left
    ·simp only [Act.put,List.setIfInBounds_toArray,List.set_cons_zero,List.set_cons_succ,i64_w,i32_w]
     rfl
    refine pure_ (i:=27) (N:=some 63) (v:=undef) (a':=?_) #[true,true,true,true,true,true,true,true,true,true,true,true,true,true,true,true,true,true,true,true,true,true,true,true,true,true,true,true,false,false] rfl rfl (any_of HT_.out (by kernel_rfl)) (fun _ _ _ h=>h) (Or.inr ⟨by rfl,rfl⟩) ?_ ?_
    rotate_left
    ·simp only [Act.put,List.setIfInBounds_toArray,List.set_cons_zero,List.set_cons_succ,i64_w,i32_w]
     rfl
    refine pure_ (i:=28) (N:=some 64) (v:=?_) (a':=?_) #[true,true,true,true,true,true,true,true,true,true,true,true,true,true,true,true,true,true,true,true,true,true,true,true,true,true,true,true,true,false] rfl rfl (any_of HT_.out (by kernel_rfl)) (fun _ _ _ h=>h) (Or.inl ⟨by rfl,?_⟩) ?_ ?_
    rotate_left;(intro w';go_simp;with_reducible rfl);rotate_left;(simp only [Act.put,List.setIfInBounds_toArray,List.set_cons_zero,List.set_cons_succ,i64_w,i32_w];rfl)
    refine pure_ (i:=29) (N:=some 14) (v:=?_) (a':=?_) #[true,true,true,true,true,true,true,true,true,true,true,true,true,true,true,true,true,true,true,true,true,true,true,true,true,true,true,true,true,true] rfl rfl (any_of HT_.out (by kernel_rfl)) (fun _ _ _ h=>h) (Or.inl ⟨by rfl,?_⟩) ?_ ?_
    rotate_left;(intro w';go_simp;with_reducible rfl);rotate_left;(simp only [Act.put,List.setIfInBounds_toArray,List.set_cons_zero,List.set_cons_succ,i64_w,i32_w];rfl)
    refine done_ (done_of HT_.out (by kernel_rfl)) ?_
    (try clear hHeld)
    try go_wp2
    go_meet
    case rel=>exact ⟨_,(false),(by first|rfl|(simp;done)|(simp [*];done)),(by first|exact H'|(subst_vars;exact H')),⟨by first|omega|exact Nat.le_refl _⟩,⟨by (with_reducible repeat (first|refine blk_drewN ?_ _|refine blk_drew ?_|refine blk_alloc ?_ _));exact BK298.out⟩,⟨by (with_reducible repeat (first|refine blk_drewN ?_ _|refine blk_drew ?_|refine blk_alloc ?_ _));exact BK302.out⟩,⟨by (with_reducible repeat (first|refine blk_drewN ?_ _|refine blk_drew ?_|refine blk_alloc ?_ _));exact BK305.out⟩,⟨by (with_reducible repeat (first|refine blk_drewN ?_ _|refine blk_drew ?_|refine blk_alloc ?_ _));exact BK310.out⟩,⟨by (with_reducible repeat (first|refine blk_drewN ?_ _|refine blk_drew ?_|refine blk_alloc ?_ _));exact BK314.out⟩,⟨by repeat (first|(with_reducible first|exact HB.out|apply below_alloc|apply pw_below_drewN|apply below_drew1|refine below_set ?_ GE298.out|refine below_set ?_ GE302.out|refine below_set ?_ GE305.out|refine below_set ?_ GE310.out|refine below_set ?_ GE314.out)|exact HB.out)⟩⟩
  ·rw [if_neg c39] at H
   have c39b0 : (t315 == t316)=false:=by simpa using c39
   (try (have c39b1 : decide (t315=t316)=false:=by simpa using c39))
   (try (have c39b2 : (t315 == t316)=false:=by simpa using c39))
   (try (have c39b3 : ¬ (t315=t316):=by simpa using c39))
   clear c39
   (first|rw [c39b0]|(simp only [i64_w,i32_w];rw [c39b0])|skip)
   have H':=Aside0.mk H
   clear H
   try go_wp2
   have n0_ : Aside0 (((w31.setCell ⟨gb314,0,none⟩ (.int .i64 t311)).setCell ⟨gb314,1,none⟩ (.string t312)).heap[gb298]?=some (.cells #[.int .i64 a1_0,.string a1_1,.int .i64 a1_2,.string a1_3] 35 (0,0))):=⟨by (with_reducible repeat (first|refine blk_drewN ?_ _|refine blk_drew ?_|refine blk_alloc ?_ _));refine blk_far ?_ NB298_314.out _;(with_reducible repeat (first|refine blk_drewN ?_ _|refine blk_drew ?_|refine blk_alloc ?_ _));refine blk_far ?_ NB298_314.out _;(with_reducible repeat (first|refine blk_drewN ?_ _|refine blk_drew ?_|refine blk_alloc ?_ _));exact BK298.out⟩
   have n1_ : Aside0 (((w31.setCell ⟨gb314,0,none⟩ (.int .i64 t311)).setCell ⟨gb314,1,none⟩ (.string t312)).heap[gb302]?=some (.cells #[.int .i64 t300,.string t301] 23 (0,0))):=⟨by (with_reducible repeat (first|refine blk_drewN ?_ _|refine blk_drew ?_|refine blk_alloc ?_ _));refine blk_far ?_ NB302_314.out _;(with_reducible repeat (first|refine blk_drewN ?_ _|refine blk_drew ?_|refine blk_alloc ?_ _));refine blk_far ?_ NB302_314.out _;(with_reducible repeat (first|refine blk_drewN ?_ _|refine blk_drew ?_|refine blk_alloc ?_ _));exact BK302.out⟩
   have n2_ : Aside0 (((w31.setCell ⟨gb314,0,none⟩ (.int .i64 t311)).setCell ⟨gb314,1,none⟩ (.string t312)).heap[gb305]?=some (.cells #[.int .i64 t303,.string t304] 23 (0,0))):=⟨by (with_reducible repeat (first|refine blk_drewN ?_ _|refine blk_drew ?_|refine blk_alloc ?_ _));refine blk_far ?_ NB305_314.out _;(with_reducible repeat (first|refine blk_drewN ?_ _|refine blk_drew ?_|refine blk_alloc ?_ _));refine blk_far ?_ NB305_314.out _;(with_reducible repeat (first|refine blk_drewN ?_ _|refine blk_drew ?_|refine blk_alloc ?_ _));exact BK305.out⟩
   have n3_ : Aside0 (((w31.setCell ⟨gb314,0,none⟩ (.int .i64 t311)).setCell ⟨gb314,1,none⟩ (.string t312)).heap[gb310]?=some (.cells #[.int .i64 t307,.string t308] 23 (0,0))):=⟨by (with_reducible repeat (first|refine blk_drewN ?_ _|refine blk_drew ?_|refine blk_alloc ?_ _));refine blk_far ?_ NB310_314.out _;(with_reducible repeat (first|refine blk_drewN ?_ _|refine blk_drew ?_|refine blk_alloc ?_ _));refine blk_far ?_ NB310_314.out _;(with_reducible repeat (first|refine blk_drewN ?_ _|refine blk_drew ?_|refine blk_alloc ?_ _));exact BK310.out⟩
   have n4_ : Aside0 (((w31.setCell ⟨gb314,0,none⟩ (.int .i64 t311)).setCell ⟨gb314,1,none⟩ (.string t312)).heap[gb314]?=some (.cells #[.int .i64 t311,.string t312] 23 (0,0))):=⟨by (with_reducible repeat (first|refine blk_drewN ?_ _|refine blk_drew ?_|refine blk_alloc ?_ _));refine blk_put (cs:=#[.int .i64 t311,.string (⟨#[]⟩ : ByteArray)]) ?_ 1 _ rfl;(with_reducible repeat (first|refine blk_drewN ?_ _|refine blk_drew ?_|refine blk_alloc ?_ _));refine blk_put (cs:=#[.int .i64 0,.string (⟨#[]⟩ : ByteArray)]) ?_ 0 _ rfl;(with_reducible repeat (first|refine blk_drewN ?_ _|refine blk_drew ?_|refine blk_alloc ?_ _));exact BK314.out⟩
   have n5_ : Aside0 (Below w.heap.size w ((w31.setCell ⟨gb314,0,none⟩ (.int .i64 t311)).setCell ⟨gb314,1,none⟩ (.string t312))):=⟨by repeat (first|(with_reducible first|exact HB.out|apply below_alloc|apply pw_below_drewN|apply below_drew1|refine below_set ?_ GE298.out|refine below_set ?_ GE302.out|refine below_set ?_ GE305.out|refine below_set ?_ GE310.out|refine below_set ?_ GE314.out)|exact HB.out)⟩
   (try clear BK298)
   (try clear BK302)
   (try clear BK305)
   (try clear BK310)
   (try clear BK314)
   (try clear HB)
   generalize ((w31.setCell ⟨gb314,0,none⟩ (.int .i64 t311)).setCell ⟨gb314,1,none⟩ (.string t312))=w59 at n0_ n1_ n2_ n3_ n4_ n5_ ⊢
   have BK298:=n0_
   have BK302:=n1_
   have BK305:=n2_
   have BK310:=n3_
   have BK314:=n4_
   have HB:=n5_
   clear n0_ n1_ n2_ n3_ n4_ n5_
   have n0_:=Aside0.mk (blk_drew BK298.out)
   have n1_:=Aside0.mk (blk_drew BK302.out)
   have n2_:=Aside0.mk (blk_drew BK305.out)
   have n3_:=Aside0.mk (blk_drew BK310.out)
   have n4_:=Aside0.mk (blk_drew BK314.out)
   have n5_:=Aside0.mk (below_drew1 HB.out)
   clear BK298
   clear BK302
   clear BK305
   clear BK310
   clear BK314
   clear HB
   have BK298:=n0_
   have BK302:=n1_
   have BK305:=n2_
   have BK310:=n3_
   have BK314:=n4_
   have HB:=n5_
   clear n0_ n1_ n2_ n3_ n4_ n5_
   refine start_ (n:=30) (S:=fun w'=>w'.cell? ⟨gb302,0,none⟩=some (.int .i64 t300)∧w'.cell? ⟨gb302,1,none⟩=some (.string t301)) (ds:=[]) #[false,false,false,false,false,false,false,false,false,false,false,false,false,false,false,false,false,false,false,false,false,false,false,false,false,false,false,false,false,false] (by kernel_rfl) rfl rfl ⟨(blk_cell BK302.out 0).trans rfl,(blk_cell BK302.out 1).trans rfl⟩ (fun hHeld=>?_);refine with_tabW thresherlaw03_ValueAll.tab7 thresherlaw03_ValueAll.bits7 (fun HT_ HW_=>?_)
   generalize w59.drew=w60 at BK298 BK302 BK305 BK310 BK314 HB hHeld ⊢
   refine pure_ (i:=0) (N:=some 36) (v:=?_) (a':=?_) #[true,false,false,false,false,false,false,false,false,false,false,false,false,false,false,false,false,false,false,false,false,false,false,false,false,false,false,false,false,false] rfl rfl (any_of HT_.out (by kernel_rfl)) (fun _ _ _ h=>h) (Or.inl ⟨by rfl,?_⟩) ?_ ?_
   rotate_left;(intro w';go_simp;with_reducible rfl);rotate_left;(simp only [Act.put,List.setIfInBounds_toArray,List.set_cons_zero,List.set_cons_succ,i64_w,i32_w];rfl)
   refine pure_ (i:=3) (N:=some 39) (v:=?_) (a':=?_) #[true,false,false,true,false,false,false,false,false,false,false,false,false,false,false,false,false,false,false,false,false,false,false,false,false,false,false,false,false,false] rfl rfl (any_of HT_.out (by kernel_rfl)) (fun _ _ _ h=>h) (Or.inl ⟨by rfl,?_⟩) ?_ ?_
   rotate_left;(intro w';go_simp;with_reducible rfl);rotate_left;(simp only [Act.put,List.setIfInBounds_toArray,List.set_cons_zero,List.set_cons_succ,i64_w,i32_w];rfl)
   refine take_ (i:=1) (N:=some 37) (v:=?_) (a':=?_) #[true,true,false,true,false,false,false,false,false,false,false,false,false,false,false,false,false,false,false,false,false,false,false,false,false,false,false,false,false,false] rfl rfl (take_ofW HT_.out HW_.out (by kernel_rfl)) (fun _ _ _ h=>h) (Or.inl ⟨by rfl,?_⟩) hHeld ?_ ?_
   rotate_left;(rintro w' ⟨s0,s1⟩;go_simp;with_reducible rfl);rotate_left;(simp only [Act.put,List.setIfInBounds_toArray,List.set_cons_zero,List.set_cons_succ,i64_w,i32_w];rfl)
   refine take_ (i:=4) (N:=some 40) (v:=?_) (a':=?_) #[true,true,false,true,true,false,false,false,false,false,false,false,false,false,false,false,false,false,false,false,false,false,false,false,false,false,false,false,false,false] rfl rfl (take_ofW HT_.out HW_.out (by kernel_rfl)) (fun _ _ _ h=>h) (Or.inl ⟨by rfl,?_⟩) hHeld ?_ ?_
   rotate_left;(rintro w' ⟨s0,s1⟩;go_simp;with_reducible rfl);rotate_left;(simp only [Act.put,List.setIfInBounds_toArray,List.set_cons_zero,List.set_cons_succ,i64_w,i32_w];rfl)
   refine one_ (i:=2) (N:=some 38) #[true,true,true,true,true,false,false,false,false,false,false,false,false,false,false,false,false,false,false,false,false,false,false,false,false,false,false,false,false,false] rfl rfl (one_of HT_.out (by kernel_rfl)) (by decide) (fun K hK=>?_)
   refine goes_ Tryd.func17 (by kernel_rfl) rfl #[.int .i64 a0,.agg #[.int .i64 t300,.string t301]] (by rfl) rfl rfl (by (try simp only [List.map_toArray,List.map_cons,List.map_nil]);first|done|rfl|(simp only [List.length_drop,List.length_take];rfl)) ?_
   with_reducible refine (value_Fits.calls k a0 t300 t301 t315 _ A37.out).mono ?_
   rintro e w61 ⟨rfl,hb⟩
   refine ⟨_,rfl,?_⟩
   have n0_:=Aside0.mk (blk_below (blk_up BK298.out) hb)
   have n1_:=Aside0.mk (blk_below (blk_up BK302.out) hb)
   have n2_:=Aside0.mk (blk_below (blk_up BK305.out) hb)
   have n3_:=Aside0.mk (blk_below (blk_up BK310.out) hb)
   have n4_:=Aside0.mk (blk_below (blk_up BK314.out) hb)
   have n5_:=Aside0.mk (below_step (below_go HB.out) hb)
   clear BK298
   clear BK302
   clear BK305
   clear BK310
   clear BK314
   clear HB
   have BK298:=n0_
   have BK302:=n1_
   have BK305:=n2_
   have BK310:=n3_
   have BK314:=n4_
   have HB:=n5_
   clear n0_ n1_ n2_ n3_ n4_ n5_
   (try clear hb)
   (try clear hb2)
   (try clear hk)
   (try clear hi)
   refine hK.out _ _ ⟨(blk_cell BK302.out 0).trans rfl,(blk_cell BK302.out 1).trans rfl⟩ (fun hHeld=>?_)
   clear hK K
   refine norm_ (a':=?_) ?_ ?_
   rotate_left
   ·show Act.put _ (some 38) _=_
    simp only [Act.put,List.setIfInBounds_toArray,List.set_cons_zero,List.set_cons_succ,i64_w,i32_w]
    rfl
   refine one_ (i:=5) (N:=some 41) #[true,true,true,true,true,true,false,false,false,false,false,false,false,false,false,false,false,false,false,false,false,false,false,false,false,false,false,false,false,false] rfl rfl (one_of HT_.out (by kernel_rfl)) (by decide) (fun K hK=>?_)
   refine goes_ Tryd.func20 (by kernel_rfl) rfl #[.int .i64 a0,.agg #[.int .i64 t300,.string t301]] (by rfl) rfl rfl (by (try simp only [List.map_toArray,List.map_cons,List.map_nil]);first|done|rfl|(simp only [List.length_drop,List.length_take];rfl)) ?_
   with_reducible refine (thresherref03_Fits.calls k a0 t300 t301 t316 _ A38.out).mono ?_
   rintro e w62 ⟨rfl,hb⟩
   refine ⟨_,rfl,?_⟩
   have n0_:=Aside0.mk (blk_below (blk_up BK298.out) hb)
   have n1_:=Aside0.mk (blk_below (blk_up BK302.out) hb)
   have n2_:=Aside0.mk (blk_below (blk_up BK305.out) hb)
   have n3_:=Aside0.mk (blk_below (blk_up BK310.out) hb)
   have n4_:=Aside0.mk (blk_below (blk_up BK314.out) hb)
   have n5_:=Aside0.mk (below_step (below_go HB.out) hb)
   clear BK298
   clear BK302
   clear BK305
   clear BK310
   clear BK314
   clear HB
   have BK298:=n0_
   have BK302:=n1_
   have BK305:=n2_
   have BK310:=n3_
   have BK314:=n4_
   have HB:=n5_
   clear n0_ n1_ n2_ n3_ n4_ n5_
   (try clear hb)
   (try clear hb2)
   (try clear hk)
   (try clear hi)
   refine hK.out _ _ ⟨(blk_cell BK302.out 0).trans rfl,(blk_cell BK302.out 1).trans rfl⟩ (fun hHeld=>?_)
   clear hK K
   refine norm_ (a':=?_) ?_ ?_
   rotate_left
   ·show Act.put _ (some 41) _=_
    simp only [Act.put,List.setIfInBounds_toArray,List.set_cons_zero,List.set_cons_succ,i64_w,i32_w]
    rfl
   refine pure_ (i:=6) (N:=some 42) (v:=?_) (a':=?_) #[true,true,true,true,true,true,true,false,false,false,false,false,false,false,false,false,false,false,false,false,false,false,false,false,false,false,false,false,false,false] rfl rfl (any_of HT_.out (by kernel_rfl)) (fun _ _ _ h=>h) (Or.inl ⟨by rfl,?_⟩) ?_ ?_
   rotate_left;(intro w';go_simp;with_reducible rfl);rotate_left;(simp only [Act.put,List.setIfInBounds_toArray,List.set_cons_zero,List.set_cons_succ,i64_w,i32_w];rfl)
   refine pure_ (i:=7) (N:=some 43) (v:=?_) (a':=?_) #[true,true,true,true,true,true,true,true,false,false,false,false,false,false,false,false,false,false,false,false,false,false,false,false,false,false,false,false,false,false] rfl rfl (any_of HT_.out (by kernel_rfl)) (fun _ _ _ h=>h) (Or.inl ⟨by rfl,?_⟩) ?_ ?_
   rotate_left;(intro w';go_simp;with_reducible rfl);rotate_left;(simp only [Act.put,List.setIfInBounds_toArray,List.set_cons_zero,List.set_cons_succ,i64_w,i32_w];rfl)
   refine pure_ (i:=8) (N:=some 44) (v:=undef) (a':=?_) #[true,true,true,true,true,true,true,true,true,false,false,false,false,false,false,false,false,false,false,false,false,false,false,false,false,false,false,false,false,false] rfl rfl (any_of HT_.out (by kernel_rfl)) (fun _ _ _ h=>h) (Or.inr ⟨by rfl,rfl⟩) ?_ ?_
   rotate_left
   ·simp only [Act.put,List.setIfInBounds_toArray,List.set_cons_zero,List.set_cons_succ,i64_w,i32_w]
    rfl
   refine pure_ (i:=9) (N:=some 45) (v:=undef) (a':=?_) #[true,true,true,true,true,true,true,true,true,true,false,false,false,false,false,false,false,false,false,false,false,false,false,false,false,false,false,false,false,false] rfl rfl (any_of HT_.out (by kernel_rfl)) (fun _ _ _ h=>h) (Or.inr ⟨by rfl,rfl⟩) ?_ ?_
   rotate_left
   ·simp only [Act.put,List.setIfInBounds_toArray,List.set_cons_zero,List.set_cons_succ,i64_w,i32_w]
    rfl
   refine pure_ (i:=10) (N:=some 46) (v:=undef) (a':=?_) #[true,true,true,true,true,true,true,true,true,true,true,false,false,false,false,false,false,false,false,false,false,false,false,false,false,false,false,false,false,false] rfl rfl (any_of HT_.out (by kernel_rfl)) (fun _ _ _ h=>h) (Or.inr ⟨by rfl,rfl⟩) ?_ ?_
   rotate_left
   ·simp only [Act.put,List.setIfInBounds_toArray,List.set_cons_zero,List.set_cons_succ,i64_w,i32_w]
    rfl
   refine pure_ (i:=11) (N:=some 47) (v:=undef) (a':=?_) #[true,true,true,true,true,true,true,true,true,true,true,true,false,false,false,false,false,false,false,false,false,false,false,false,false,false,false,false,false,false] rfl rfl (any_of HT_.out (by kernel_rfl)) (fun _ _ _ h=>h) (Or.inr ⟨by rfl,rfl⟩) ?_ ?_
   rotate_left
   ·simp only [Act.put,List.setIfInBounds_toArray,List.set_cons_zero,List.set_cons_succ,i64_w,i32_w]
    rfl
   refine pure_ (i:=12) (N:=some 48) (v:=undef) (a':=?_) #[true,true,true,true,true,true,true,true,true,true,true,true,true,false,false,false,false,false,false,false,false,false,false,false,false,false,false,false,false,false] rfl rfl (any_of HT_.out (by kernel_rfl)) (fun _ _ _ h=>h) (Or.inr ⟨by rfl,rfl⟩) ?_ ?_
   rotate_left
   ·simp only [Act.put,List.setIfInBounds_toArray,List.set_cons_zero,List.set_cons_succ,i64_w,i32_w]
    rfl
   refine pure_ (i:=13) (N:=some 49) (v:=undef) (a':=?_) #[true,true,true,true,true,true,true,true,true,true,true,true,true,true,false,false,false,false,false,false,false,false,false,false,false,false,false,false,false,false] rfl rfl (any_of HT_.out (by kernel_rfl)) (fun _ _ _ h=>h) (Or.inr ⟨by rfl,rfl⟩) ?_ ?_
   rotate_left
   ·simp only [Act.put,List.setIfInBounds_toArray,List.set_cons_zero,List.set_cons_succ,i64_w,i32_w]
    rfl
   refine pure_ (i:=14) (N:=some 50) (v:=undef) (a':=?_) #[true,true,true,true,true,true,true,true,true,true,true,true,true,true,true,false,false,false,false,false,false,false,false,false,false,false,false,false,false,false] rfl rfl (any_of HT_.out (by kernel_rfl)) (fun _ _ _ h=>h) (Or.inr ⟨by rfl,rfl⟩) ?_ ?_
   rotate_left
   ·simp only [Act.put,List.setIfInBounds_toArray,List.set_cons_zero,List.set_cons_succ,i64_w,i32_w]
    rfl
   refine pure_ (i:=15) (N:=some 51) (v:=undef) (a':=?_) #[true,true,true,true,true,true,true,true,true,true,true,true,true,true,true,true,false,false,false,false,false,false,false,false,false,false,false,false,false,false] rfl rfl (any_of HT_.out (by kernel_rfl)) (fun _ _ _ h=>h) (Or.inr ⟨by rfl,rfl⟩) ?_ ?_
   rotate_left
   ·simp only [Act.put,List.setIfInBounds_toArray,List.set_cons_zero,List.set_cons_succ,i64_w,i32_w]
    rfl
   refine pure_ (i:=16) (N:=some 52) (v:=undef) (a':=?_) #[true,true,true,true,true,true,true,true,true,true,true,true,true,true,true,true,true,false,false,false,false,false,false,false,false,false,false,false,false,false] rfl rfl (any_of HT_.out (by kernel_rfl)) (fun _ _ _ h=>h) (Or.inr ⟨by rfl,rfl⟩) ?_ ?_
   rotate_left
   ·simp only [Act.put,List.setIfInBounds_toArray,List.set_cons_zero,List.set_cons_succ,i64_w,i32_w]
    rfl
   refine pure_ (i:=17) (N:=some 53) (v:=?_) (a':=?_) #[true,true,true,true,true,true,true,true,true,true,true,true,true,true,true,true,true,true,false,false,false,false,false,false,false,false,false,false,false,false] rfl rfl (any_of HT_.out (by kernel_rfl)) (fun _ _ _ h=>h) (Or.inl ⟨by rfl,?_⟩) ?_ ?_
   rotate_left;(intro w';go_simp;with_reducible rfl);rotate_left;(simp only [Act.put,List.setIfInBounds_toArray,List.set_cons_zero,List.set_cons_succ,i64_w,i32_w];rfl)
   refine pure_ (i:=18) (N:=some 54) (v:=?_) (a':=?_) #[true,true,true,true,true,true,true,true,true,true,true,true,true,true,true,true,true,true,true,false,false,false,false,false,false,false,false,false,false,false] rfl rfl (any_of HT_.out (by kernel_rfl)) (fun _ _ _ h=>h) (Or.inl ⟨by rfl,?_⟩) ?_ ?_
   rotate_left;(intro w';go_simp;with_reducible rfl);rotate_left;(simp only [Act.put,List.setIfInBounds_toArray,List.set_cons_zero,List.set_cons_succ,i64_w,i32_w];rfl)
   refine pure_ (i:=19) (N:=some 55) (v:=undef) (a':=?_) #[true,true,true,true,true,true,true,true,true,true,true,true,true,true,true,true,true,true,true,true,false,false,false,false,false,false,false,false,false,false] rfl rfl (any_of HT_.out (by kernel_rfl)) (fun _ _ _ h=>h) (Or.inr ⟨by rfl,rfl⟩) ?_ ?_
   rotate_left
   ·simp only [Act.put,List.setIfInBounds_toArray,List.set_cons_zero,List.set_cons_succ,i64_w,i32_w]
    rfl
   refine pure_ (i:=20) (N:=some 56) (v:=undef) (a':=?_) #[true,true,true,true,true,true,true,true,true,true,true,true,true,true,true,true,true,true,true,true,true,false,false,false,false,false,false,false,false,false] rfl rfl (any_of HT_.out (by kernel_rfl)) (fun _ _ _ h=>h) (Or.inr ⟨by rfl,rfl⟩) ?_ ?_
   rotate_left
   ·simp only [Act.put,List.setIfInBounds_toArray,List.set_cons_zero,List.set_cons_succ,i64_w,i32_w]
    rfl
   refine pure_ (i:=21) (N:=some 57) (v:=undef) (a':=?_) #[true,true,true,true,true,true,true,true,true,true,true,true,true,true,true,true,true,true,true,true,true,true,false,false,false,false,false,false,false,false] rfl rfl (any_of HT_.out (by kernel_rfl)) (fun _ _ _ h=>h) (Or.inr ⟨by rfl,rfl⟩) ?_ ?_
   rotate_left
   ·simp only [Act.put,List.setIfInBounds_toArray,List.set_cons_zero,List.set_cons_succ,i64_w,i32_w]
    rfl
   refine pure_ (i:=22) (N:=some 58) (v:=undef) (a':=?_) #[true,true,true,true,true,true,true,true,true,true,true,true,true,true,true,true,true,true,true,true,true,true,true,false,false,false,false,false,false,false] rfl rfl (any_of HT_.out (by kernel_rfl)) (fun _ _ _ h=>h) (Or.inr ⟨by rfl,rfl⟩) ?_ ?_
   rotate_left
   ·simp only [Act.put,List.setIfInBounds_toArray,List.set_cons_zero,List.set_cons_succ,i64_w,i32_w]
    rfl
   refine pure_ (i:=23) (N:=some 59) (v:=undef) (a':=?_) #[true,true,true,true,true,true,true,true,true,true,true,true,true,true,true,true,true,true,true,true,true,true,true,true,false,false,false,false,false,false] rfl rfl (any_of HT_.out (by kernel_rfl)) (fun _ _ _ h=>h) (Or.inr ⟨by rfl,rfl⟩) ?_ ?_
   rotate_left
   ·simp only [Act.put,List.setIfInBounds_toArray,List.set_cons_zero,List.set_cons_succ,i64_w,i32_w]
    rfl
   refine pure_ (i:=24) (N:=some 60) (v:=undef) (a':=?_) #[true,true,true,true,true,true,true,true,true,true,true,true,true,true,true,true,true,true,true,true,true,true,true,true,true,false,false,false,false,false] rfl rfl (any_of HT_.out (by kernel_rfl)) (fun _ _ _ h=>h) (Or.inr ⟨by rfl,rfl⟩) ?_ ?_
   rotate_left
   ·simp only [Act.put,List.setIfInBounds_toArray,List.set_cons_zero,List.set_cons_succ,i64_w,i32_w]
    rfl
   refine pure_ (i:=25) (N:=some 61) (v:=undef) (a':=?_) #[true,true,true,true,true,true,true,true,true,true,true,true,true,true,true,true,true,true,true,true,true,true,true,true,true,true,false,false,false,false] rfl rfl (any_of HT_.out (by kernel_rfl)) (fun _ _ _ h=>h) (Or.inr ⟨by rfl,rfl⟩) ?_ ?_
   rotate_left
   ·simp only [Act.put,List.setIfInBounds_toArray,List.set_cons_zero,List.set_cons_succ,i64_w,i32_w]
    rfl
   refine pure_ (i:=26) (N:=some 62) (v:=undef) (a':=?_) #[true,true,true,true,true,true,true,true,true,true,true,true,true,true,true,true,true,true,true,true,true,true,true,true,true,true,true,false,false,false] rfl rfl (any_of HT_.out (by kernel_rfl)) (fun _ _ _ h=>h) (Or.inr ⟨by rfl,rfl⟩) ?_ ?_
   rotate_left
   ·simp only [Act.put,List.setIfInBounds_toArray,List.set_cons_zero,List.set_cons_succ,i64_w,i32_w]
    rfl
   refine pure_ (i:=27) (N:=some 63) (v:=undef) (a':=?_) #[true,true,true,true,true,true,true,true,true,true,true,true,true,true,true,true,true,true,true,true,true,true,true,true,true,true,true,true,false,false] rfl rfl (any_of HT_.out (by kernel_rfl)) (fun _ _ _ h=>h) (Or.inr ⟨by rfl,rfl⟩) ?_ ?_
   rotate_left
   ·simp only [Act.put,List.setIfInBounds_toArray,List.set_cons_zero,List.set_cons_succ,i64_w,i32_w]
    rfl
   refine pure_ (i:=28) (N:=some 64) (v:=?_) (a':=?_) #[true,true,true,true,true,true,true,true,true,true,true,true,true,true,true,true,true,true,true,true,true,true,true,true,true,true,true,true,true,false] rfl rfl (any_of HT_.out (by kernel_rfl)) (fun _ _ _ h=>h) (Or.inl ⟨by rfl,?_⟩) ?_ ?_
   rotate_left;(intro w';go_simp;with_reducible rfl);rotate_left;(simp only [Act.put,List.setIfInBounds_toArray,List.set_cons_zero,List.set_cons_succ,i64_w,i32_w];rfl)
   refine pure_ (i:=29) (N:=some 14) (v:=?_) (a':=?_) #[true,true,true,true,true,true,true,true,true,true,true,true,true,true,true,true,true,true,true,true,true,true,true,true,true,true,true,true,true,true] rfl rfl (any_of HT_.out (by kernel_rfl)) (fun _ _ _ h=>h) (Or.inl ⟨by rfl,?_⟩) ?_ ?_
   rotate_left;(intro w';go_simp;with_reducible rfl);rotate_left;(simp only [Act.put,List.setIfInBounds_toArray,List.set_cons_zero,List.set_cons_succ,i64_w,i32_w];rfl)
   refine done_ (done_of HT_.out (by kernel_rfl)) ?_
   (try clear hHeld)
   try go_wp2
   go_meet
   case rel=>exact ⟨_,(false),(by first|rfl|(simp;done)|(simp [*];done)),(by first|exact H'|(subst_vars;exact H')),⟨by first|omega|exact Nat.le_refl _⟩,⟨by (with_reducible repeat (first|refine blk_drewN ?_ _|refine blk_drew ?_|refine blk_alloc ?_ _));exact BK298.out⟩,⟨by (with_reducible repeat (first|refine blk_drewN ?_ _|refine blk_drew ?_|refine blk_alloc ?_ _));exact BK302.out⟩,⟨by (with_reducible repeat (first|refine blk_drewN ?_ _|refine blk_drew ?_|refine blk_alloc ?_ _));exact BK305.out⟩,⟨by (with_reducible repeat (first|refine blk_drewN ?_ _|refine blk_drew ?_|refine blk_alloc ?_ _));exact BK310.out⟩,⟨by (with_reducible repeat (first|refine blk_drewN ?_ _|refine blk_drew ?_|refine blk_alloc ?_ _));exact BK314.out⟩,⟨by repeat (first|(with_reducible first|exact HB.out|apply below_alloc|apply pw_below_drewN|apply below_drew1|refine below_set ?_ GE298.out|refine below_set ?_ GE302.out|refine below_set ?_ GE305.out|refine below_set ?_ GE310.out|refine below_set ?_ GE314.out)|exact HB.out)⟩⟩
 case rest =>
  clear HC10
  try clear c1
  try clear c2
  try clear p2
  try clear c3
  try clear c12
  try clear c17
  try clear c20
  try clear c21
  try clear c39
  try clear c39b0
  try clear c39b1
  try clear c39b2
  obtain ⟨kq,x14_9,rfl,HA,HJ9,BK298,BK302,BK305,BK310,BK314,HB⟩:=hcut
  cases kq with
  | zero=>exact absurd HA.out (by simp [thresherlaw03_ValueAll.j0])
  | succ kj9 =>
   have H:=HA.out
   clear HA
   simp only [thresherlaw03_ValueAll.j0] at H
   have HC63:=Aside0.mk H
   clear H
   go_upto_region 8 with (fail)
   go_cut [6] (fun v6 wc=>∃ (kq : Nat) (x6_62 : Bool),v6=.bool x6_62∧Aside0 (thresherlaw03_ValueAll.j1 kq x6_62=some r)∧Aside0 (kq≤kj9)∧Aside0 (wc.heap[gb298]?=some (.cells #[.int .i64 a1_0,.string a1_1,.int .i64 a1_2,.string a1_3] 35 (0,0)))∧Aside0 (wc.heap[gb302]?=some (.cells #[.int .i64 t300,.string t301] 23 (0,0)))∧Aside0 (wc.heap[gb305]?=some (.cells #[.int .i64 t303,.string t304] 23 (0,0)))∧Aside0 (wc.heap[gb310]?=some (.cells #[.int .i64 t307,.string t308] 23 (0,0)))∧Aside0 (wc.heap[gb314]?=some (.cells #[.int .i64 t311,.string t312] 23 (0,0)))∧Aside0 (Below w.heap.size w wc))
   case first =>
    have H:=HC63.out
    clear HC63
    by_cases c64 : t299=true
    ·subst c64
     have H1 : (if x14_9=true then ((value_Text.f a0 t300 t301).bind fun t323=>((thresherref03_Text.f kj9 a0 t300 t301).bind fun t324=>(if t323.toList=t324.toList then (if (t307 == t311 && (t308.toList == t312.toList))=true then (thresherlaw03_ValueAll.j1 kj9 (t309 == t313)) else (thresherlaw03_ValueAll.j1 kj9 false)) else (thresherlaw03_ValueAll.j1 kj9 false)))) else (thresherlaw03_ValueAll.j1 kj9 false))=some r:=by rw [if_pos rfl] at H;exact H
     clear H
     have H:=H1
     clear H1
     by_cases c65 : x14_9=true
     ·subst c65
      have H1 : ((value_Text.f a0 t300 t301).bind fun t323=>((thresherref03_Text.f kj9 a0 t300 t301).bind fun t324=>(if t323.toList=t324.toList then (if (t307 == t311 && (t308.toList == t312.toList))=true then (thresherlaw03_ValueAll.j1 kj9 (t309 == t313)) else (thresherlaw03_ValueAll.j1 kj9 false)) else (thresherlaw03_ValueAll.j1 kj9 false))))=some r:=by rw [if_pos rfl] at H;exact H
      clear H
      have H:=H1
      clear H1
      replace H:=Option.bind_eq_some_iff.mp H
      obtain ⟨t323,A660,H⟩:=H
      replace H : ((thresherref03_Text.f kj9 a0 t300 t301).bind fun t324=>(if t323.toList=t324.toList then (if (t307 == t311 && (t308.toList == t312.toList))=true then (thresherlaw03_ValueAll.j1 kj9 (t309 == t313)) else (thresherlaw03_ValueAll.j1 kj9 false)) else (thresherlaw03_ValueAll.j1 kj9 false)))=some r:=H
      have A66:=Aside0.mk A660
      clear A660
      replace H:=Option.bind_eq_some_iff.mp H
      obtain ⟨t324,A670,H⟩:=H
      replace H : (if t323.toList=t324.toList then (if (t307 == t311 && (t308.toList == t312.toList))=true then (thresherlaw03_ValueAll.j1 kj9 (t309 == t313)) else (thresherlaw03_ValueAll.j1 kj9 false)) else (thresherlaw03_ValueAll.j1 kj9 false))=some r:=H
      have A67:=Aside0.mk A670
      clear A670
      by_cases c68 : t323.toList=t324.toList
      ·rw [if_pos c68] at H
       have c68b0 : (t323.toList == t324.toList)=true:=beq_iff_eq.mpr c68
       have c68b1 : (t323.toList != t324.toList)=false:=bne_eq_false_iff_eq.mpr c68
       clear c68
       (first|rw [c68b0]|(simp only [i64_w,i32_w];rw [c68b0])|skip)
       by_cases c69 : (t307 == t311 && (t308.toList == t312.toList))=true
       ·rw [if_pos c69] at H
        have c69b0 : (t307 == t311 && (t308.toList == t312.toList))=true:=c69
        (try (have c69b1 : decide (t307=t311 && (t308.toList == t312.toList))=true:=by simpa using c69))
        (try (have c69b2 : (t307 == t311 && (t308.toList == t312.toList))=true:=by simpa using c69))
        clear c69
        have H':=Aside0.mk H
        clear H
        try go_wp2
        have n0_:=Aside0.mk (blk_drew BK298.out)
        have n1_:=Aside0.mk (blk_drew BK302.out)
        have n2_:=Aside0.mk (blk_drew BK305.out)
        have n3_:=Aside0.mk (blk_drew BK310.out)
        have n4_:=Aside0.mk (blk_drew BK314.out)
        have n5_:=Aside0.mk (below_drew1 HB.out)
        clear BK298
        clear BK302
        clear BK305
        clear BK310
        clear BK314
        clear HB
        have BK298:=n0_
        have BK302:=n1_
        have BK305:=n2_
        have BK310:=n3_
        have BK314:=n4_
        have HB:=n5_
        clear n0_ n1_ n2_ n3_ n4_ n5_
        refine start_ (n:=24) (S:=fun w'=>w'.cell? ⟨gb302,0,none⟩=some (.int .i64 t300)∧w'.cell? ⟨gb302,1,none⟩=some (.string t301)∧w'.cell? ⟨gb310,0,none⟩=some (.int .i64 t307)∧w'.cell? ⟨gb310,1,none⟩=some (.string t308)∧w'.cell? ⟨gb314,0,none⟩=some (.int .i64 t311)∧w'.cell? ⟨gb314,1,none⟩=some (.string t312)) (ds:=[]) #[false,false,false,false,false,false,false,false,false,false,false,false,false,false,false,false,false,false,false,false,false,false,false,false] (by kernel_rfl) rfl rfl ⟨(blk_cell BK302.out 0).trans rfl,(blk_cell BK302.out 1).trans rfl,(blk_cell BK310.out 0).trans rfl,(blk_cell BK310.out 1).trans rfl,(blk_cell BK314.out 0).trans rfl,(blk_cell BK314.out 1).trans rfl⟩ (fun hHeld=>?_);refine with_tabW thresherlaw03_ValueAll.tab8 thresherlaw03_ValueAll.bits8 (fun HT_ HW_=>?_)
        generalize wc.drew=w70 at BK298 BK302 BK305 BK310 BK314 HB hHeld ⊢
        refine pure_ (i:=0) (N:=some 65) (v:=?_) (a':=?_) #[true,false,false,false,false,false,false,false,false,false,false,false,false,false,false,false,false,false,false,false,false,false,false,false] rfl rfl (any_of HT_.out (by kernel_rfl)) (fun _ _ _ h=>h) (Or.inl ⟨by rfl,?_⟩) ?_ ?_
        rotate_left;(intro w';go_simp;with_reducible rfl);rotate_left;(simp only [Act.put,List.setIfInBounds_toArray,List.set_cons_zero,List.set_cons_succ,i64_w,i32_w];rfl)
        refine pure_ (i:=1) (N:=some 66) (v:=?_) (a':=?_) #[true,true,false,false,false,false,false,false,false,false,false,false,false,false,false,false,false,false,false,false,false,false,false,false] rfl rfl (any_of HT_.out (by kernel_rfl)) (fun _ _ _ h=>h) (Or.inl ⟨by rfl,?_⟩) ?_ ?_
        rotate_left;(intro w';go_simp;with_reducible rfl);rotate_left;(simp only [Act.put,List.setIfInBounds_toArray,List.set_cons_zero,List.set_cons_succ,i64_w,i32_w];rfl)
        refine pure_ (i:=2) (N:=some 67) (v:=?_) (a':=?_) #[true,true,true,false,false,false,false,false,false,false,false,false,false,false,false,false,false,false,false,false,false,false,false,false] rfl rfl (any_of HT_.out (by kernel_rfl)) (fun _ _ _ h=>h) (Or.inl ⟨by rfl,?_⟩) ?_ ?_
        rotate_left;(intro w';go_simp;with_reducible rfl);rotate_left;(simp only [Act.put,List.setIfInBounds_toArray,List.set_cons_zero,List.set_cons_succ,i64_w,i32_w];rfl)
        refine pure_ (i:=3) (N:=some 68) (v:=?_) (a':=?_) #[true,true,true,true,false,false,false,false,false,false,false,false,false,false,false,false,false,false,false,false,false,false,false,false] rfl rfl (any_of HT_.out (by kernel_rfl)) (fun _ _ _ h=>h) (Or.inl ⟨by rfl,?_⟩) ?_ ?_
        rotate_left;(intro w';go_simp;with_reducible rfl);rotate_left;(simp only [Act.put,List.setIfInBounds_toArray,List.set_cons_zero,List.set_cons_succ,i64_w,i32_w];rfl)
        refine pure_ (i:=4) (N:=some 69) (v:=?_) (a':=?_) #[true,true,true,true,true,false,false,false,false,false,false,false,false,false,false,false,false,false,false,false,false,false,false,false] rfl rfl (any_of HT_.out (by kernel_rfl)) (fun _ _ _ h=>h) (Or.inl ⟨by rfl,?_⟩) ?_ ?_
        rotate_left;(intro w';go_simp;with_reducible rfl);rotate_left;(simp only [Act.put,List.setIfInBounds_toArray,List.set_cons_zero,List.set_cons_succ,i64_w,i32_w];rfl)
        refine pure_ (i:=5) (N:=some 70) (v:=?_) (a':=?_) #[true,true,true,true,true,true,false,false,false,false,false,false,false,false,false,false,false,false,false,false,false,false,false,false] rfl rfl (any_of HT_.out (by kernel_rfl)) (fun _ _ _ h=>h) (Or.inl ⟨by rfl,?_⟩) ?_ ?_
        rotate_left;(intro w';go_simp;with_reducible rfl);rotate_left;(simp only [Act.put,List.setIfInBounds_toArray,List.set_cons_zero,List.set_cons_succ,i64_w,i32_w];rfl)
        refine pure_ (i:=8) (N:=some 73) (v:=?_) (a':=?_) #[true,true,true,true,true,true,false,false,true,false,false,false,false,false,false,false,false,false,false,false,false,false,false,false] rfl rfl (any_of HT_.out (by kernel_rfl)) (fun _ _ _ h=>h) (Or.inl ⟨by rfl,?_⟩) ?_ ?_
        rotate_left;(intro w';go_simp;with_reducible rfl);rotate_left;(simp only [Act.put,List.setIfInBounds_toArray,List.set_cons_zero,List.set_cons_succ,i64_w,i32_w];rfl)
        refine take_ (i:=6) (N:=some 71) (v:=?_) (a':=?_) #[true,true,true,true,true,true,true,false,true,false,false,false,false,false,false,false,false,false,false,false,false,false,false,false] rfl rfl (take_ofW HT_.out HW_.out (by kernel_rfl)) (fun _ _ _ h=>h) (Or.inl ⟨by rfl,?_⟩) hHeld ?_ ?_
        rotate_left;(rintro w' ⟨s0,s1,s2,s3,s4,s5⟩;go_simp;with_reducible rfl);rotate_left;(simp only [Act.put,List.setIfInBounds_toArray,List.set_cons_zero,List.set_cons_succ,i64_w,i32_w];rfl)
        refine take_ (i:=9) (N:=some 74) (v:=?_) (a':=?_) #[true,true,true,true,true,true,true,false,true,true,false,false,false,false,false,false,false,false,false,false,false,false,false,false] rfl rfl (take_ofW HT_.out HW_.out (by kernel_rfl)) (fun _ _ _ h=>h) (Or.inl ⟨by rfl,?_⟩) hHeld ?_ ?_
        rotate_left;(rintro w' ⟨s0,s1,s2,s3,s4,s5⟩;go_simp;with_reducible rfl);rotate_left;(simp only [Act.put,List.setIfInBounds_toArray,List.set_cons_zero,List.set_cons_succ,i64_w,i32_w];rfl)
        refine one_ (i:=7) (N:=some 72) #[true,true,true,true,true,true,true,true,true,true,false,false,false,false,false,false,false,false,false,false,false,false,false,false] rfl rfl (one_of HT_.out (by kernel_rfl)) (by decide) (fun K hK=>?_)
        refine goes_ Tryd.func13 (by kernel_rfl) rfl #[.int .i64 a0,.agg #[.int .i64 t300,.string t301]] (by rfl) rfl rfl (by (try simp only [List.map_toArray,List.map_cons,List.map_nil]);first|done|rfl|(simp only [List.length_drop,List.length_take];rfl)) ?_
        with_reducible refine (value_Text.calls a0 t300 t301 t323 _ A66.out ((HTAB_.out.on (below_go HB.out)).t)).mono ?_
        rintro e w71 ⟨rfl,hb⟩
        refine ⟨_,rfl,?_⟩
        have n0_:=Aside0.mk (blk_below (blk_up BK298.out) hb)
        have n1_:=Aside0.mk (blk_below (blk_up BK302.out) hb)
        have n2_:=Aside0.mk (blk_below (blk_up BK305.out) hb)
        have n3_:=Aside0.mk (blk_below (blk_up BK310.out) hb)
        have n4_:=Aside0.mk (blk_below (blk_up BK314.out) hb)
        have n5_:=Aside0.mk (below_step (below_go HB.out) hb)
        clear BK298
        clear BK302
        clear BK305
        clear BK310
        clear BK314
        clear HB
        have BK298:=n0_
        have BK302:=n1_
        have BK305:=n2_
        have BK310:=n3_
        have BK314:=n4_
        have HB:=n5_
        clear n0_ n1_ n2_ n3_ n4_ n5_
        (try clear hb)
        (try clear hb2)
        (try clear hk)
        (try clear hi)
        refine hK.out _ _ ⟨(blk_cell BK302.out 0).trans rfl,(blk_cell BK302.out 1).trans rfl,(blk_cell BK310.out 0).trans rfl,(blk_cell BK310.out 1).trans rfl,(blk_cell BK314.out 0).trans rfl,(blk_cell BK314.out 1).trans rfl⟩ (fun hHeld=>?_)
        clear hK K
        refine norm_ (a':=?_) ?_ ?_
        rotate_left
        ·show Act.put _ (some 72) _=_
         simp only [Act.put,List.setIfInBounds_toArray,List.set_cons_zero,List.set_cons_succ,i64_w,i32_w]
         rfl
        refine one_ (i:=10) (N:=some 75) #[true,true,true,true,true,true,true,true,true,true,true,false,false,false,false,false,false,false,false,false,false,false,false,false] rfl rfl (one_of HT_.out (by kernel_rfl)) (by decide) (fun K hK=>?_)
        refine goes_ Tryd.func23 (by kernel_rfl) rfl #[.int .i64 a0,.agg #[.int .i64 t300,.string t301]] (by rfl) rfl rfl (by (try simp only [List.map_toArray,List.map_cons,List.map_nil]);first|done|rfl|(simp only [List.length_drop,List.length_take];rfl)) ?_
        with_reducible refine (thresherref03_Text.calls kj9 a0 t300 t301 t324 _ A67.out).mono ?_
        rintro e w72 ⟨rfl,hb⟩
        refine ⟨_,rfl,?_⟩
        have n0_:=Aside0.mk (blk_below (blk_up BK298.out) hb)
        have n1_:=Aside0.mk (blk_below (blk_up BK302.out) hb)
        have n2_:=Aside0.mk (blk_below (blk_up BK305.out) hb)
        have n3_:=Aside0.mk (blk_below (blk_up BK310.out) hb)
        have n4_:=Aside0.mk (blk_below (blk_up BK314.out) hb)
        have n5_:=Aside0.mk (below_step (below_go HB.out) hb)
        clear BK298
        clear BK302
        clear BK305
        clear BK310
        clear BK314
        clear HB
        have BK298:=n0_
        have BK302:=n1_
        have BK305:=n2_
        have BK310:=n3_
        have BK314:=n4_
        have HB:=n5_
        clear n0_ n1_ n2_ n3_ n4_ n5_
        (try clear hb)
        (try clear hb2)
        (try clear hk)
        (try clear hi)
        refine hK.out _ _ ⟨(blk_cell BK302.out 0).trans rfl,(blk_cell BK302.out 1).trans rfl,(blk_cell BK310.out 0).trans rfl,(blk_cell BK310.out 1).trans rfl,(blk_cell BK314.out 0).trans rfl,(blk_cell BK314.out 1).trans rfl⟩ (fun hHeld=>?_)
        clear hK K
        refine norm_ (a':=?_) ?_ ?_
        rotate_left
        ·show Act.put _ (some 75) _=_
         simp only [Act.put,List.setIfInBounds_toArray,List.set_cons_zero,List.set_cons_succ,i64_w,i32_w]
         rfl
        refine pure_ (i:=11) (N:=some 76) (v:=?_) (a':=?_) #[true,true,true,true,true,true,true,true,true,true,true,true,false,false,false,false,false,false,false,false,false,false,false,false] rfl rfl (any_of HT_.out (by kernel_rfl)) (fun _ _ _ h=>h) (Or.inl ⟨by rfl,?_⟩) ?_ ?_
        rotate_left;(intro w';go_simp;with_reducible rfl);rotate_left;(simp only [Act.put,List.setIfInBounds_toArray,List.set_cons_zero,List.set_cons_succ,i64_w,i32_w];rfl)
        refine pure_ (i:=12) (N:=some 77) (v:=?_) (a':=?_) #[true,true,true,true,true,true,true,true,true,true,true,true,true,false,false,false,false,false,false,false,false,false,false,false] rfl rfl (any_of HT_.out (by kernel_rfl)) (fun _ _ _ h=>h) (Or.inl ⟨by rfl,?_⟩) ?_ ?_
        rotate_left;(intro w';go_simp;with_reducible rfl);rotate_left;(simp only [Act.put,List.setIfInBounds_toArray,List.set_cons_zero,List.set_cons_succ,i64_w,i32_w];rfl)
        refine pure_ (i:=13) (N:=some 78) (v:=?_) (a':=?_) #[true,true,true,true,true,true,true,true,true,true,true,true,true,true,false,false,false,false,false,false,false,false,false,false] rfl rfl (any_of HT_.out (by kernel_rfl)) (fun _ _ _ h=>h) (Or.inl ⟨by rfl,?_⟩) ?_ ?_
        rotate_left;(intro w';go_simp;with_reducible rfl);rotate_left;(simp only [Act.put,List.setIfInBounds_toArray,List.set_cons_zero,List.set_cons_succ,i64_w,i32_w];rfl)
        refine take_ (i:=14) (N:=some 79) (v:=?_) (a':=?_) #[true,true,true,true,true,true,true,true,true,true,true,true,true,true,true,false,false,false,false,false,false,false,false,false] rfl rfl (take_ofW HT_.out HW_.out (by kernel_rfl)) (fun _ _ _ h=>h) (Or.inl ⟨by rfl,?_⟩) hHeld ?_ ?_
        rotate_left;(rintro w' ⟨s0,s1,s2,s3,s4,s5⟩;go_simp;with_reducible rfl);rotate_left;(simp only [Act.put,List.setIfInBounds_toArray,List.set_cons_zero,List.set_cons_succ,i64_w,i32_w];rfl)
        refine take_ (i:=15) (N:=some 80) (v:=?_) (a':=?_) #[true,true,true,true,true,true,true,true,true,true,true,true,true,true,true,true,false,false,false,false,false,false,false,false] rfl rfl (take_ofW HT_.out HW_.out (by kernel_rfl)) (fun _ _ _ h=>h) (Or.inl ⟨by rfl,?_⟩) hHeld ?_ ?_
        rotate_left;(rintro w' ⟨s0,s1,s2,s3,s4,s5⟩;go_simp;with_reducible rfl);rotate_left;(simp only [Act.put,List.setIfInBounds_toArray,List.set_cons_zero,List.set_cons_succ,i64_w,i32_w];rfl)
        refine pure_ (i:=16) (N:=some 81) (v:=?_) (a':=?_) #[true,true,true,true,true,true,true,true,true,true,true,true,true,true,true,true,true,false,false,false,false,false,false,false] rfl rfl (any_of HT_.out (by kernel_rfl)) (fun _ _ _ h=>h) (Or.inl ⟨by rfl,?_⟩) ?_ ?_
        rotate_left;(intro w';go_simp;with_reducible rfl);rotate_left;(simp only [Act.put,List.setIfInBounds_toArray,List.set_cons_zero,List.set_cons_succ,i64_w,i32_w];rfl)
        refine pure_ (i:=17) (N:=some 82) (v:=?_) (a':=?_) #[true,true,true,true,true,true,true,true,true,true,true,true,true,true,true,true,true,true,false,false,false,false,false,false] rfl rfl (any_of HT_.out (by kernel_rfl)) (fun _ _ _ h=>h) (Or.inl ⟨by rfl,?_⟩) ?_ ?_
        rotate_left;(intro w';go_simp;with_reducible rfl);rotate_left;(simp only [Act.put,List.setIfInBounds_toArray,List.set_cons_zero,List.set_cons_succ,i64_w,i32_w];rfl)
        refine pure_ (i:=18) (N:=some 83) (v:=?_) (a':=?_) #[true,true,true,true,true,true,true,true,true,true,true,true,true,true,true,true,true,true,true,false,false,false,false,false] rfl rfl (any_of HT_.out (by kernel_rfl)) (fun _ _ _ h=>h) (Or.inl ⟨by rfl,?_⟩) ?_ ?_
        rotate_left;(intro w';go_simp;with_reducible rfl);rotate_left;(simp only [Act.put,List.setIfInBounds_toArray,List.set_cons_zero,List.set_cons_succ,i64_w,i32_w];rfl)
        refine pure_ (i:=19) (N:=some 84) (v:=?_) (a':=?_) #[true,true,true,true,true,true,true,true,true,true,true,true,true,true,true,true,true,true,true,true,false,false,false,false] rfl rfl (any_of HT_.out (by kernel_rfl)) (fun _ _ _ h=>h) (Or.inl ⟨by rfl,?_⟩) ?_ ?_
        rotate_left;(intro w';go_simp;with_reducible rfl);rotate_left;(simp only [Act.put,List.setIfInBounds_toArray,List.set_cons_zero,List.set_cons_succ,i64_w,i32_w];rfl)
        refine pure_ (i:=20) (N:=some 85) (v:=?_) (a':=?_) #[true,true,true,true,true,true,true,true,true,true,true,true,true,true,true,true,true,true,true,true,true,false,false,false] rfl rfl (any_of HT_.out (by kernel_rfl)) (fun _ _ _ h=>h) (Or.inl ⟨by rfl,?_⟩) ?_ ?_
        rotate_left;(intro w';go_simp;with_reducible rfl);rotate_left;(simp only [Act.put,List.setIfInBounds_toArray,List.set_cons_zero,List.set_cons_succ,i64_w,i32_w];rfl)
        refine pure_ (i:=21) (N:=some 86) (v:=?_) (a':=?_) #[true,true,true,true,true,true,true,true,true,true,true,true,true,true,true,true,true,true,true,true,true,true,false,false] rfl rfl (any_of HT_.out (by kernel_rfl)) (fun _ _ _ h=>h) (Or.inl ⟨by rfl,?_⟩) ?_ ?_
        rotate_left;(intro w';go_simp;with_reducible rfl);rotate_left;(simp only [Act.put,List.setIfInBounds_toArray,List.set_cons_zero,List.set_cons_succ,i64_w,i32_w];rfl)
        refine pure_ (i:=22) (N:=some 87) (v:=?_) (a':=?_) #[true,true,true,true,true,true,true,true,true,true,true,true,true,true,true,true,true,true,true,true,true,true,true,false] rfl rfl (any_of HT_.out (by kernel_rfl)) (fun _ _ _ h=>h) (Or.inl ⟨by rfl,?_⟩) ?_ ?_
        rotate_left;(intro w';go_simp;with_reducible rfl);rotate_left;(simp only [Act.put,List.setIfInBounds_toArray,List.set_cons_zero,List.set_cons_succ,i64_w,i32_w];rfl)
        refine pure_ (i:=23) (N:=some 6) (v:=?_) (a':=?_) #[true,true,true,true,true,true,true,true,true,true,true,true,true,true,true,true,true,true,true,true,true,true,true,true] rfl rfl (any_of HT_.out (by kernel_rfl)) (fun _ _ _ h=>h) (Or.inl ⟨by rfl,?_⟩) ?_ ?_
        rotate_left;(intro w';go_simp;with_reducible rfl);rotate_left;(simp only [Act.put,List.setIfInBounds_toArray,List.set_cons_zero,List.set_cons_succ,i64_w,i32_w];rfl)
        refine done_ (done_of HT_.out (by kernel_rfl)) ?_
        (try clear hHeld)
        try go_wp2
        go_meet
        case rel=>exact ⟨_,((t309 == t313)),(by first|rfl|(simp;done)|(simp [*];done)),(by first|exact H'|(subst_vars;exact H')),⟨by have:=HJ9.out;first|omega|exact Nat.le_refl _⟩,⟨by (with_reducible repeat (first|refine blk_drewN ?_ _|refine blk_drew ?_|refine blk_alloc ?_ _));exact BK298.out⟩,⟨by (with_reducible repeat (first|refine blk_drewN ?_ _|refine blk_drew ?_|refine blk_alloc ?_ _));exact BK302.out⟩,⟨by (with_reducible repeat (first|refine blk_drewN ?_ _|refine blk_drew ?_|refine blk_alloc ?_ _));exact BK305.out⟩,⟨by (with_reducible repeat (first|refine blk_drewN ?_ _|refine blk_drew ?_|refine blk_alloc ?_ _));exact BK310.out⟩,⟨by (with_reducible repeat (first|refine blk_drewN ?_ _|refine blk_drew ?_|refine blk_alloc ?_ _));exact BK314.out⟩,⟨by repeat (first|(with_reducible first|exact HB.out|apply below_alloc|apply pw_below_drewN|apply below_drew1|refine below_set ?_ GE298.out|refine below_set ?_ GE302.out|refine below_set ?_ GE305.out|refine below_set ?_ GE310.out|refine below_set ?_ GE314.out)|exact HB.out)⟩⟩
       ·rw [if_neg c69] at H
        have c69b0 : (t307 == t311 && (t308.toList == t312.toList))=false:=by simpa using c69
        (try (have c69b1 : decide (t307=t311 && (t308.toList == t312.toList))=false:=by simpa using c69))
        (try (have c69b2 : (t307 == t311 && (t308.toList == t312.toList))=false:=by simpa using c69))
        (try (have c69b3 : ¬ (t307=t311 && (t308.toList == t312.toList)):=by simpa using c69))
        clear c69
        have H':=Aside0.mk H
        clear H
        try go_wp2
        have n0_:=Aside0.mk (blk_drew BK298.out)
        have n1_:=Aside0.mk (blk_drew BK302.out)
        have n2_:=Aside0.mk (blk_drew BK305.out)
        have n3_:=Aside0.mk (blk_drew BK310.out)
        have n4_:=Aside0.mk (blk_drew BK314.out)
        have n5_:=Aside0.mk (below_drew1 HB.out)
        clear BK298
        clear BK302
        clear BK305
        clear BK310
        clear BK314
        clear HB
        have BK298:=n0_
        have BK302:=n1_
        have BK305:=n2_
        have BK310:=n3_
        have BK314:=n4_
        have HB:=n5_
        clear n0_ n1_ n2_ n3_ n4_ n5_
        refine start_ (n:=24) (S:=fun w'=>w'.cell? ⟨gb302,0,none⟩=some (.int .i64 t300)∧w'.cell? ⟨gb302,1,none⟩=some (.string t301)∧w'.cell? ⟨gb310,0,none⟩=some (.int .i64 t307)∧w'.cell? ⟨gb310,1,none⟩=some (.string t308)∧w'.cell? ⟨gb314,0,none⟩=some (.int .i64 t311)∧w'.cell? ⟨gb314,1,none⟩=some (.string t312)) (ds:=[]) #[false,false,false,false,false,false,false,false,false,false,false,false,false,false,false,false,false,false,false,false,false,false,false,false] (by kernel_rfl) rfl rfl ⟨(blk_cell BK302.out 0).trans rfl,(blk_cell BK302.out 1).trans rfl,(blk_cell BK310.out 0).trans rfl,(blk_cell BK310.out 1).trans rfl,(blk_cell BK314.out 0).trans rfl,(blk_cell BK314.out 1).trans rfl⟩ (fun hHeld=>?_);refine with_tabW thresherlaw03_ValueAll.tab8 thresherlaw03_ValueAll.bits8 (fun HT_ HW_=>?_)
        generalize wc.drew=w73 at BK298 BK302 BK305 BK310 BK314 HB hHeld ⊢
        refine pure_ (i:=0) (N:=some 65) (v:=?_) (a':=?_) #[true,false,false,false,false,false,false,false,false,false,false,false,false,false,false,false,false,false,false,false,false,false,false,false] rfl rfl (any_of HT_.out (by kernel_rfl)) (fun _ _ _ h=>h) (Or.inl ⟨by rfl,?_⟩) ?_ ?_
        rotate_left;(intro w';go_simp;with_reducible rfl);rotate_left;(simp only [Act.put,List.setIfInBounds_toArray,List.set_cons_zero,List.set_cons_succ,i64_w,i32_w];rfl)
        refine pure_ (i:=1) (N:=some 66) (v:=?_) (a':=?_) #[true,true,false,false,false,false,false,false,false,false,false,false,false,false,false,false,false,false,false,false,false,false,false,false] rfl rfl (any_of HT_.out (by kernel_rfl)) (fun _ _ _ h=>h) (Or.inl ⟨by rfl,?_⟩) ?_ ?_
        rotate_left;(intro w';go_simp;with_reducible rfl);rotate_left;(simp only [Act.put,List.setIfInBounds_toArray,List.set_cons_zero,List.set_cons_succ,i64_w,i32_w];rfl)
        refine pure_ (i:=2) (N:=some 67) (v:=?_) (a':=?_) #[true,true,true,false,false,false,false,false,false,false,false,false,false,false,false,false,false,false,false,false,false,false,false,false] rfl rfl (any_of HT_.out (by kernel_rfl)) (fun _ _ _ h=>h) (Or.inl ⟨by rfl,?_⟩) ?_ ?_
        rotate_left;(intro w';go_simp;with_reducible rfl);rotate_left;(simp only [Act.put,List.setIfInBounds_toArray,List.set_cons_zero,List.set_cons_succ,i64_w,i32_w];rfl)
        refine pure_ (i:=3) (N:=some 68) (v:=?_) (a':=?_) #[true,true,true,true,false,false,false,false,false,false,false,false,false,false,false,false,false,false,false,false,false,false,false,false] rfl rfl (any_of HT_.out (by kernel_rfl)) (fun _ _ _ h=>h) (Or.inl ⟨by rfl,?_⟩) ?_ ?_
        rotate_left;(intro w';go_simp;with_reducible rfl);rotate_left;(simp only [Act.put,List.setIfInBounds_toArray,List.set_cons_zero,List.set_cons_succ,i64_w,i32_w];rfl)
        refine pure_ (i:=4) (N:=some 69) (v:=?_) (a':=?_) #[true,true,true,true,true,false,false,false,false,false,false,false,false,false,false,false,false,false,false,false,false,false,false,false] rfl rfl (any_of HT_.out (by kernel_rfl)) (fun _ _ _ h=>h) (Or.inl ⟨by rfl,?_⟩) ?_ ?_
        rotate_left;(intro w';go_simp;with_reducible rfl);rotate_left;(simp only [Act.put,List.setIfInBounds_toArray,List.set_cons_zero,List.set_cons_succ,i64_w,i32_w];rfl)
        refine pure_ (i:=5) (N:=some 70) (v:=?_) (a':=?_) #[true,true,true,true,true,true,false,false,false,false,false,false,false,false,false,false,false,false,false,false,false,false,false,false] rfl rfl (any_of HT_.out (by kernel_rfl)) (fun _ _ _ h=>h) (Or.inl ⟨by rfl,?_⟩) ?_ ?_
        rotate_left;(intro w';go_simp;with_reducible rfl);rotate_left;(simp only [Act.put,List.setIfInBounds_toArray,List.set_cons_zero,List.set_cons_succ,i64_w,i32_w];rfl)
        refine pure_ (i:=8) (N:=some 73) (v:=?_) (a':=?_) #[true,true,true,true,true,true,false,false,true,false,false,false,false,false,false,false,false,false,false,false,false,false,false,false] rfl rfl (any_of HT_.out (by kernel_rfl)) (fun _ _ _ h=>h) (Or.inl ⟨by rfl,?_⟩) ?_ ?_
        rotate_left;(intro w';go_simp;with_reducible rfl);rotate_left;(simp only [Act.put,List.setIfInBounds_toArray,List.set_cons_zero,List.set_cons_succ,i64_w,i32_w];rfl)
        refine take_ (i:=6) (N:=some 71) (v:=?_) (a':=?_) #[true,true,true,true,true,true,true,false,true,false,false,false,false,false,false,false,false,false,false,false,false,false,false,false] rfl rfl (take_ofW HT_.out HW_.out (by kernel_rfl)) (fun _ _ _ h=>h) (Or.inl ⟨by rfl,?_⟩) hHeld ?_ ?_
        rotate_left;(rintro w' ⟨s0,s1,s2,s3,s4,s5⟩;go_simp;with_reducible rfl);rotate_left;(simp only [Act.put,List.setIfInBounds_toArray,List.set_cons_zero,List.set_cons_succ,i64_w,i32_w];rfl)
        refine take_ (i:=9) (N:=some 74) (v:=?_) (a':=?_) #[true,true,true,true,true,true,true,false,true,true,false,false,false,false,false,false,false,false,false,false,false,false,false,false] rfl rfl (take_ofW HT_.out HW_.out (by kernel_rfl)) (fun _ _ _ h=>h) (Or.inl ⟨by rfl,?_⟩) hHeld ?_ ?_
        rotate_left;(rintro w' ⟨s0,s1,s2,s3,s4,s5⟩;go_simp;with_reducible rfl);rotate_left;(simp only [Act.put,List.setIfInBounds_toArray,List.set_cons_zero,List.set_cons_succ,i64_w,i32_w];rfl)
        refine one_ (i:=7) (N:=some 72) #[true,true,true,true,true,true,true,true,true,true,false,false,false,false,false,false,false,false,false,false,false,false,false,false] rfl rfl (one_of HT_.out (by kernel_rfl)) (by decide) (fun K hK=>?_)
        refine goes_ Tryd.func13 (by kernel_rfl) rfl #[.int .i64 a0,.agg #[.int .i64 t300,.string t301]] (by rfl) rfl rfl (by (try simp only [List.map_toArray,List.map_cons,List.map_nil]);first|done|rfl|(simp only [List.length_drop,List.length_take];rfl)) ?_
        with_reducible refine (value_Text.calls a0 t300 t301 t323 _ A66.out ((HTAB_.out.on (below_go HB.out)).t)).mono ?_
        rintro e w74 ⟨rfl,hb⟩
        refine ⟨_,rfl,?_⟩
        have n0_:=Aside0.mk (blk_below (blk_up BK298.out) hb)
        have n1_:=Aside0.mk (blk_below (blk_up BK302.out) hb)
        have n2_:=Aside0.mk (blk_below (blk_up BK305.out) hb)
        have n3_:=Aside0.mk (blk_below (blk_up BK310.out) hb)
        have n4_:=Aside0.mk (blk_below (blk_up BK314.out) hb)
        have n5_:=Aside0.mk (below_step (below_go HB.out) hb)
        clear BK298
        clear BK302
        clear BK305
        clear BK310
        clear BK314
        clear HB
        have BK298:=n0_
        have BK302:=n1_
        have BK305:=n2_
        have BK310:=n3_
        have BK314:=n4_
        have HB:=n5_
        clear n0_ n1_ n2_ n3_ n4_ n5_
        (try clear hb)
        (try clear hb2)
        (try clear hk)
        (try clear hi)
        refine hK.out _ _ ⟨(blk_cell BK302.out 0).trans rfl,(blk_cell BK302.out 1).trans rfl,(blk_cell BK310.out 0).trans rfl,(blk_cell BK310.out 1).trans rfl,(blk_cell BK314.out 0).trans rfl,(blk_cell BK314.out 1).trans rfl⟩ (fun hHeld=>?_)
        clear hK K
        refine norm_ (a':=?_) ?_ ?_
        rotate_left
        ·show Act.put _ (some 72) _=_
         simp only [Act.put,List.setIfInBounds_toArray,List.set_cons_zero,List.set_cons_succ,i64_w,i32_w]
         rfl
        refine one_ (i:=10) (N:=some 75) #[true,true,true,true,true,true,true,true,true,true,true,false,false,false,false,false,false,false,false,false,false,false,false,false] rfl rfl (one_of HT_.out (by kernel_rfl)) (by decide) (fun K hK=>?_)
        refine goes_ Tryd.func23 (by kernel_rfl) rfl #[.int .i64 a0,.agg #[.int .i64 t300,.string t301]] (by rfl) rfl rfl (by (try simp only [List.map_toArray,List.map_cons,List.map_nil]);first|done|rfl|(simp only [List.length_drop,List.length_take];rfl)) ?_
        with_reducible refine (thresherref03_Text.calls kj9 a0 t300 t301 t324 _ A67.out).mono ?_
        rintro e w75 ⟨rfl,hb⟩
        refine ⟨_,rfl,?_⟩
        have n0_:=Aside0.mk (blk_below (blk_up BK298.out) hb)
        have n1_:=Aside0.mk (blk_below (blk_up BK302.out) hb)
        have n2_:=Aside0.mk (blk_below (blk_up BK305.out) hb)
        have n3_:=Aside0.mk (blk_below (blk_up BK310.out) hb)
        have n4_:=Aside0.mk (blk_below (blk_up BK314.out) hb)
        have n5_:=Aside0.mk (below_step (below_go HB.out) hb)
        clear BK298
        clear BK302
        clear BK305
        clear BK310
        clear BK314
        clear HB
        have BK298:=n0_
        have BK302:=n1_
        have BK305:=n2_
        have BK310:=n3_
        have BK314:=n4_
        have HB:=n5_
        clear n0_ n1_ n2_ n3_ n4_ n5_
        (try clear hb)
        (try clear hb2)
        (try clear hk)
        (try clear hi)
        refine hK.out _ _ ⟨(blk_cell BK302.out 0).trans rfl,(blk_cell BK302.out 1).trans rfl,(blk_cell BK310.out 0).trans rfl,(blk_cell BK310.out 1).trans rfl,(blk_cell BK314.out 0).trans rfl,(blk_cell BK314.out 1).trans rfl⟩ (fun hHeld=>?_)
        clear hK K
        refine norm_ (a':=?_) ?_ ?_
        rotate_left
        ·show Act.put _ (some 75) _=_
         simp only [Act.put,List.setIfInBounds_toArray,List.set_cons_zero,List.set_cons_succ,i64_w,i32_w]
         rfl
        refine pure_ (i:=11) (N:=some 76) (v:=?_) (a':=?_) #[true,true,true,true,true,true,true,true,true,true,true,true,false,false,false,false,false,false,false,false,false,false,false,false] rfl rfl (any_of HT_.out (by kernel_rfl)) (fun _ _ _ h=>h) (Or.inl ⟨by rfl,?_⟩) ?_ ?_
        rotate_left;(intro w';go_simp;with_reducible rfl);rotate_left;(simp only [Act.put,List.setIfInBounds_toArray,List.set_cons_zero,List.set_cons_succ,i64_w,i32_w];rfl)
        refine pure_ (i:=12) (N:=some 77) (v:=?_) (a':=?_) #[true,true,true,true,true,true,true,true,true,true,true,true,true,false,false,false,false,false,false,false,false,false,false,false] rfl rfl (any_of HT_.out (by kernel_rfl)) (fun _ _ _ h=>h) (Or.inl ⟨by rfl,?_⟩) ?_ ?_
        rotate_left;(intro w';go_simp;with_reducible rfl);rotate_left;(simp only [Act.put,List.setIfInBounds_toArray,List.set_cons_zero,List.set_cons_succ,i64_w,i32_w];rfl)
        refine pure_ (i:=13) (N:=some 78) (v:=?_) (a':=?_) #[true,true,true,true,true,true,true,true,true,true,true,true,true,true,false,false,false,false,false,false,false,false,false,false] rfl rfl (any_of HT_.out (by kernel_rfl)) (fun _ _ _ h=>h) (Or.inl ⟨by rfl,?_⟩) ?_ ?_
        rotate_left;(intro w';go_simp;with_reducible rfl);rotate_left;(simp only [Act.put,List.setIfInBounds_toArray,List.set_cons_zero,List.set_cons_succ,i64_w,i32_w];rfl)
        refine take_ (i:=14) (N:=some 79) (v:=?_) (a':=?_) #[true,true,true,true,true,true,true,true,true,true,true,true,true,true,true,false,false,false,false,false,false,false,false,false] rfl rfl (take_ofW HT_.out HW_.out (by kernel_rfl)) (fun _ _ _ h=>h) (Or.inl ⟨by rfl,?_⟩) hHeld ?_ ?_
        rotate_left;(rintro w' ⟨s0,s1,s2,s3,s4,s5⟩;go_simp;with_reducible rfl);rotate_left;(simp only [Act.put,List.setIfInBounds_toArray,List.set_cons_zero,List.set_cons_succ,i64_w,i32_w];rfl)
        refine take_ (i:=15) (N:=some 80) (v:=?_) (a':=?_) #[true,true,true,true,true,true,true,true,true,true,true,true,true,true,true,true,false,false,false,false,false,false,false,false] rfl rfl (take_ofW HT_.out HW_.out (by kernel_rfl)) (fun _ _ _ h=>h) (Or.inl ⟨by rfl,?_⟩) hHeld ?_ ?_
        rotate_left;(rintro w' ⟨s0,s1,s2,s3,s4,s5⟩;go_simp;with_reducible rfl);rotate_left;(simp only [Act.put,List.setIfInBounds_toArray,List.set_cons_zero,List.set_cons_succ,i64_w,i32_w];rfl)
        refine pure_ (i:=16) (N:=some 81) (v:=?_) (a':=?_) #[true,true,true,true,true,true,true,true,true,true,true,true,true,true,true,true,true,false,false,false,false,false,false,false] rfl rfl (any_of HT_.out (by kernel_rfl)) (fun _ _ _ h=>h) (Or.inl ⟨by rfl,?_⟩) ?_ ?_
        rotate_left;(intro w';go_simp;with_reducible rfl);rotate_left;(simp only [Act.put,List.setIfInBounds_toArray,List.set_cons_zero,List.set_cons_succ,i64_w,i32_w];rfl)
        refine pure_ (i:=17) (N:=some 82) (v:=?_) (a':=?_) #[true,true,true,true,true,true,true,true,true,true,true,true,true,true,true,true,true,true,false,false,false,false,false,false] rfl rfl (any_of HT_.out (by kernel_rfl)) (fun _ _ _ h=>h) (Or.inl ⟨by rfl,?_⟩) ?_ ?_
        rotate_left;(intro w';go_simp;with_reducible rfl);rotate_left;(simp only [Act.put,List.setIfInBounds_toArray,List.set_cons_zero,List.set_cons_succ,i64_w,i32_w];rfl)
        refine pure_ (i:=18) (N:=some 83) (v:=?_) (a':=?_) #[true,true,true,true,true,true,true,true,true,true,true,true,true,true,true,true,true,true,true,false,false,false,false,false] rfl rfl (any_of HT_.out (by kernel_rfl)) (fun _ _ _ h=>h) (Or.inl ⟨by rfl,?_⟩) ?_ ?_
        rotate_left;(intro w';go_simp;with_reducible rfl);rotate_left;(simp only [Act.put,List.setIfInBounds_toArray,List.set_cons_zero,List.set_cons_succ,i64_w,i32_w];rfl)
        refine pure_ (i:=19) (N:=some 84) (v:=undef) (a':=?_) #[true,true,true,true,true,true,true,true,true,true,true,true,true,true,true,true,true,true,true,true,false,false,false,false] rfl rfl (any_of HT_.out (by kernel_rfl)) (fun _ _ _ h=>h) (Or.inr ⟨by rfl,rfl⟩) ?_ ?_
        rotate_left
        ·simp only [Act.put,List.setIfInBounds_toArray,List.set_cons_zero,List.set_cons_succ,i64_w,i32_w]
         rfl
        refine pure_ (i:=20) (N:=some 85) (v:=undef) (a':=?_) #[true,true,true,true,true,true,true,true,true,true,true,true,true,true,true,true,true,true,true,true,true,false,false,false] rfl rfl (any_of HT_.out (by kernel_rfl)) (fun _ _ _ h=>h) (Or.inr ⟨by rfl,rfl⟩) ?_ ?_
        rotate_left
        ·simp only [Act.put,List.setIfInBounds_toArray,List.set_cons_zero,List.set_cons_succ,i64_w,i32_w]
         rfl
        refine pure_ (i:=21) (N:=some 86) (v:=undef) (a':=?_) #[true,true,true,true,true,true,true,true,true,true,true,true,true,true,true,true,true,true,true,true,true,true,false,false] rfl rfl (any_of HT_.out (by kernel_rfl)) (fun _ _ _ h=>h) (Or.inr ⟨by rfl,rfl⟩) ?_ ?_
        rotate_left
        ·simp only [Act.put,List.setIfInBounds_toArray,List.set_cons_zero,List.set_cons_succ,i64_w,i32_w]
         rfl
        refine pure_ (i:=22) (N:=some 87) (v:=?_) (a':=?_) #[true,true,true,true,true,true,true,true,true,true,true,true,true,true,true,true,true,true,true,true,true,true,true,false] rfl rfl (any_of HT_.out (by kernel_rfl)) (fun _ _ _ h=>h) (Or.inl ⟨by rfl,?_⟩) ?_ ?_
        rotate_left;(intro w';go_simp;with_reducible rfl);rotate_left;(simp only [Act.put,List.setIfInBounds_toArray,List.set_cons_zero,List.set_cons_succ,i64_w,i32_w];rfl)
        refine pure_ (i:=23) (N:=some 6) (v:=?_) (a':=?_) #[true,true,true,true,true,true,true,true,true,true,true,true,true,true,true,true,true,true,true,true,true,true,true,true] rfl rfl (any_of HT_.out (by kernel_rfl)) (fun _ _ _ h=>h) (Or.inl ⟨by rfl,?_⟩) ?_ ?_
        rotate_left;(intro w';go_simp;with_reducible rfl);rotate_left;(simp only [Act.put,List.setIfInBounds_toArray,List.set_cons_zero,List.set_cons_succ,i64_w,i32_w];rfl)
        refine done_ (done_of HT_.out (by kernel_rfl)) ?_
        (try clear hHeld)
        try go_wp2
        go_meet
        case rel=>exact ⟨_,(false),(by first|rfl|(simp;done)|(simp [*];done)),(by first|exact H'|(subst_vars;exact H')),⟨by have:=HJ9.out;first|omega|exact Nat.le_refl _⟩,⟨by (with_reducible repeat (first|refine blk_drewN ?_ _|refine blk_drew ?_|refine blk_alloc ?_ _));exact BK298.out⟩,⟨by (with_reducible repeat (first|refine blk_drewN ?_ _|refine blk_drew ?_|refine blk_alloc ?_ _));exact BK302.out⟩,⟨by (with_reducible repeat (first|refine blk_drewN ?_ _|refine blk_drew ?_|refine blk_alloc ?_ _));exact BK305.out⟩,⟨by (with_reducible repeat (first|refine blk_drewN ?_ _|refine blk_drew ?_|refine blk_alloc ?_ _));exact BK310.out⟩,⟨by (with_reducible repeat (first|refine blk_drewN ?_ _|refine blk_drew ?_|refine blk_alloc ?_ _));exact BK314.out⟩,⟨by repeat (first|(with_reducible first|exact HB.out|apply below_alloc|apply pw_below_drewN|apply below_drew1|refine below_set ?_ GE298.out|refine below_set ?_ GE302.out|refine below_set ?_ GE305.out|refine below_set ?_ GE310.out|refine below_set ?_ GE314.out)|exact HB.out)⟩⟩
      ·rw [if_neg c68] at H
       have c68b0 : (t323.toList == t324.toList)=false:=beq_eq_false_iff_ne.mpr c68
       have c68b1 : (t323.toList != t324.toList)=true:=bne_iff_ne.mpr c68
       (first|rw [c68b0]|(simp only [i64_w,i32_w];rw [c68b0])|skip)
       have H':=Aside0.mk H
       clear H
       try go_wp2
       have n0_:=Aside0.mk (blk_drew BK298.out)
       have n1_:=Aside0.mk (blk_drew BK302.out)
       have n2_:=Aside0.mk (blk_drew BK305.out)
       have n3_:=Aside0.mk (blk_drew BK310.out)
       have n4_:=Aside0.mk (blk_drew BK314.out)
       have n5_:=Aside0.mk (below_drew1 HB.out)
       clear BK298
       clear BK302
       clear BK305
       clear BK310
       clear BK314
       clear HB
       have BK298:=n0_
       have BK302:=n1_
       have BK305:=n2_
       have BK310:=n3_
       have BK314:=n4_
       have HB:=n5_
       clear n0_ n1_ n2_ n3_ n4_ n5_
       refine start_ (n:=24) (S:=fun w'=>w'.cell? ⟨gb302,0,none⟩=some (.int .i64 t300)∧w'.cell? ⟨gb302,1,none⟩=some (.string t301)) (ds:=[]) #[false,false,false,false,false,false,false,false,false,false,false,false,false,false,false,false,false,false,false,false,false,false,false,false] (by kernel_rfl) rfl rfl ⟨(blk_cell BK302.out 0).trans rfl,(blk_cell BK302.out 1).trans rfl⟩ (fun hHeld=>?_);refine with_tabW thresherlaw03_ValueAll.tab8 thresherlaw03_ValueAll.bits8 (fun HT_ HW_=>?_)
       generalize wc.drew=w76 at BK298 BK302 BK305 BK310 BK314 HB hHeld ⊢
       refine pure_ (i:=0) (N:=some 65) (v:=?_) (a':=?_) #[true,false,false,false,false,false,false,false,false,false,false,false,false,false,false,false,false,false,false,false,false,false,false,false] rfl rfl (any_of HT_.out (by kernel_rfl)) (fun _ _ _ h=>h) (Or.inl ⟨by rfl,?_⟩) ?_ ?_
       rotate_left;(intro w';go_simp;with_reducible rfl);rotate_left;(simp only [Act.put,List.setIfInBounds_toArray,List.set_cons_zero,List.set_cons_succ,i64_w,i32_w];rfl)
       refine pure_ (i:=1) (N:=some 66) (v:=?_) (a':=?_) #[true,true,false,false,false,false,false,false,false,false,false,false,false,false,false,false,false,false,false,false,false,false,false,false] rfl rfl (any_of HT_.out (by kernel_rfl)) (fun _ _ _ h=>h) (Or.inl ⟨by rfl,?_⟩) ?_ ?_
       rotate_left;(intro w';go_simp;with_reducible rfl);rotate_left;(simp only [Act.put,List.setIfInBounds_toArray,List.set_cons_zero,List.set_cons_succ,i64_w,i32_w];rfl)
       refine pure_ (i:=2) (N:=some 67) (v:=?_) (a':=?_) #[true,true,true,false,false,false,false,false,false,false,false,false,false,false,false,false,false,false,false,false,false,false,false,false] rfl rfl (any_of HT_.out (by kernel_rfl)) (fun _ _ _ h=>h) (Or.inl ⟨by rfl,?_⟩) ?_ ?_
       rotate_left;(intro w';go_simp;with_reducible rfl);rotate_left;(simp only [Act.put,List.setIfInBounds_toArray,List.set_cons_zero,List.set_cons_succ,i64_w,i32_w];rfl)
       refine pure_ (i:=3) (N:=some 68) (v:=?_) (a':=?_) #[true,true,true,true,false,false,false,false,false,false,false,false,false,false,false,false,false,false,false,false,false,false,false,false] rfl rfl (any_of HT_.out (by kernel_rfl)) (fun _ _ _ h=>h) (Or.inl ⟨by rfl,?_⟩) ?_ ?_
       rotate_left;(intro w';go_simp;with_reducible rfl);rotate_left;(simp only [Act.put,List.setIfInBounds_toArray,List.set_cons_zero,List.set_cons_succ,i64_w,i32_w];rfl)
       refine pure_ (i:=4) (N:=some 69) (v:=?_) (a':=?_) #[true,true,true,true,true,false,false,false,false,false,false,false,false,false,false,false,false,false,false,false,false,false,false,false] rfl rfl (any_of HT_.out (by kernel_rfl)) (fun _ _ _ h=>h) (Or.inl ⟨by rfl,?_⟩) ?_ ?_
       rotate_left;(intro w';go_simp;with_reducible rfl);rotate_left;(simp only [Act.put,List.setIfInBounds_toArray,List.set_cons_zero,List.set_cons_succ,i64_w,i32_w];rfl)
       refine pure_ (i:=5) (N:=some 70) (v:=?_) (a':=?_) #[true,true,true,true,true,true,false,false,false,false,false,false,false,false,false,false,false,false,false,false,false,false,false,false] rfl rfl (any_of HT_.out (by kernel_rfl)) (fun _ _ _ h=>h) (Or.inl ⟨by rfl,?_⟩) ?_ ?_
       rotate_left;(intro w';go_simp;with_reducible rfl);rotate_left;(simp only [Act.put,List.setIfInBounds_toArray,List.set_cons_zero,List.set_cons_succ,i64_w,i32_w];rfl)
       refine pure_ (i:=8) (N:=some 73) (v:=?_) (a':=?_) #[true,true,true,true,true,true,false,false,true,false,false,false,false,false,false,false,false,false,false,false,false,false,false,false] rfl rfl (any_of HT_.out (by kernel_rfl)) (fun _ _ _ h=>h) (Or.inl ⟨by rfl,?_⟩) ?_ ?_
       rotate_left;(intro w';go_simp;with_reducible rfl);rotate_left;(simp only [Act.put,List.setIfInBounds_toArray,List.set_cons_zero,List.set_cons_succ,i64_w,i32_w];rfl)
       refine take_ (i:=6) (N:=some 71) (v:=?_) (a':=?_) #[true,true,true,true,true,true,true,false,true,false,false,false,false,false,false,false,false,false,false,false,false,false,false,false] rfl rfl (take_ofW HT_.out HW_.out (by kernel_rfl)) (fun _ _ _ h=>h) (Or.inl ⟨by rfl,?_⟩) hHeld ?_ ?_
       rotate_left;(rintro w' ⟨s0,s1⟩;go_simp;with_reducible rfl);rotate_left;(simp only [Act.put,List.setIfInBounds_toArray,List.set_cons_zero,List.set_cons_succ,i64_w,i32_w];rfl)
       refine take_ (i:=9) (N:=some 74) (v:=?_) (a':=?_) #[true,true,true,true,true,true,true,false,true,true,false,false,false,false,false,false,false,false,false,false,false,false,false,false] rfl rfl (take_ofW HT_.out HW_.out (by kernel_rfl)) (fun _ _ _ h=>h) (Or.inl ⟨by rfl,?_⟩) hHeld ?_ ?_
       rotate_left;(rintro w' ⟨s0,s1⟩;go_simp;with_reducible rfl);rotate_left;(simp only [Act.put,List.setIfInBounds_toArray,List.set_cons_zero,List.set_cons_succ,i64_w,i32_w];rfl)
       refine one_ (i:=7) (N:=some 72) #[true,true,true,true,true,true,true,true,true,true,false,false,false,false,false,false,false,false,false,false,false,false,false,false] rfl rfl (one_of HT_.out (by kernel_rfl)) (by decide) (fun K hK=>?_)
       refine goes_ Tryd.func13 (by kernel_rfl) rfl #[.int .i64 a0,.agg #[.int .i64 t300,.string t301]] (by rfl) rfl rfl (by (try simp only [List.map_toArray,List.map_cons,List.map_nil]);first|done|rfl|(simp only [List.length_drop,List.length_take];rfl)) ?_
       with_reducible refine (value_Text.calls a0 t300 t301 t323 _ A66.out ((HTAB_.out.on (below_go HB.out)).t)).mono ?_
       rintro e w77 ⟨rfl,hb⟩
       refine ⟨_,rfl,?_⟩
       have n0_:=Aside0.mk (blk_below (blk_up BK298.out) hb)
       have n1_:=Aside0.mk (blk_below (blk_up BK302.out) hb)
       have n2_:=Aside0.mk (blk_below (blk_up BK305.out) hb)
       have n3_:=Aside0.mk (blk_below (blk_up BK310.out) hb)
       have n4_:=Aside0.mk (blk_below (blk_up BK314.out) hb)
       have n5_:=Aside0.mk (below_step (below_go HB.out) hb)
       clear BK298
       clear BK302
       clear BK305
       clear BK310
       clear BK314
       clear HB
       have BK298:=n0_
       have BK302:=n1_
       have BK305:=n2_
       have BK310:=n3_
       have BK314:=n4_
       have HB:=n5_
       clear n0_ n1_ n2_ n3_ n4_ n5_
       (try clear hb)
       (try clear hb2)
       (try clear hk)
       (try clear hi)
       refine hK.out _ _ ⟨(blk_cell BK302.out 0).trans rfl,(blk_cell BK302.out 1).trans rfl⟩ (fun hHeld=>?_)
       clear hK K
       refine norm_ (a':=?_) ?_ ?_
       rotate_left
       ·show Act.put _ (some 72) _=_
        simp only [Act.put,List.setIfInBounds_toArray,List.set_cons_zero,List.set_cons_succ,i64_w,i32_w]
        rfl
       refine one_ (i:=10) (N:=some 75) #[true,true,true,true,true,true,true,true,true,true,true,false,false,false,false,false,false,false,false,false,false,false,false,false] rfl rfl (one_of HT_.out (by kernel_rfl)) (by decide) (fun K hK=>?_)
       refine goes_ Tryd.func23 (by kernel_rfl) rfl #[.int .i64 a0,.agg #[.int .i64 t300,.string t301]] (by rfl) rfl rfl (by (try simp only [List.map_toArray,List.map_cons,List.map_nil]);first|done|rfl|(simp only [List.length_drop,List.length_take];rfl)) ?_
       with_reducible refine (thresherref03_Text.calls kj9 a0 t300 t301 t324 _ A67.out).mono ?_
       rintro e w78 ⟨rfl,hb⟩
       refine ⟨_,rfl,?_⟩
       have n0_:=Aside0.mk (blk_below (blk_up BK298.out) hb)
       have n1_:=Aside0.mk (blk_below (blk_up BK302.out) hb)
       have n2_:=Aside0.mk (blk_below (blk_up BK305.out) hb)
       have n3_:=Aside0.mk (blk_below (blk_up BK310.out) hb)
       have n4_:=Aside0.mk (blk_below (blk_up BK314.out) hb)
       have n5_:=Aside0.mk (below_step (below_go HB.out) hb)
       clear BK298
       clear BK302
       clear BK305
       clear BK310
       clear BK314
       clear HB
       have BK298:=n0_
       have BK302:=n1_
       have BK305:=n2_
       have BK310:=n3_
       have BK314:=n4_
       have HB:=n5_
       clear n0_ n1_ n2_ n3_ n4_ n5_
       (try clear hb)
       (try clear hb2)
       (try clear hk)
       (try clear hi)
       refine hK.out _ _ ⟨(blk_cell BK302.out 0).trans rfl,(blk_cell BK302.out 1).trans rfl⟩ (fun hHeld=>?_)
       clear hK K
       refine norm_ (a':=?_) ?_ ?_
       rotate_left
       ·show Act.put _ (some 75) _=_
        simp only [Act.put,List.setIfInBounds_toArray,List.set_cons_zero,List.set_cons_succ,i64_w,i32_w]
        rfl
       refine pure_ (i:=11) (N:=some 76) (v:=?_) (a':=?_) #[true,true,true,true,true,true,true,true,true,true,true,true,false,false,false,false,false,false,false,false,false,false,false,false] rfl rfl (any_of HT_.out (by kernel_rfl)) (fun _ _ _ h=>h) (Or.inl ⟨by rfl,?_⟩) ?_ ?_
       rotate_left;(intro w';go_simp;with_reducible rfl);rotate_left;(simp only [Act.put,List.setIfInBounds_toArray,List.set_cons_zero,List.set_cons_succ,i64_w,i32_w];rfl)
       refine pure_ (i:=12) (N:=some 77) (v:=?_) (a':=?_) #[true,true,true,true,true,true,true,true,true,true,true,true,true,false,false,false,false,false,false,false,false,false,false,false] rfl rfl (any_of HT_.out (by kernel_rfl)) (fun _ _ _ h=>h) (Or.inl ⟨by rfl,?_⟩) ?_ ?_
       rotate_left;(intro w';go_simp;with_reducible rfl);rotate_left;(simp only [Act.put,List.setIfInBounds_toArray,List.set_cons_zero,List.set_cons_succ,i64_w,i32_w];rfl)
       refine pure_ (i:=13) (N:=some 78) (v:=?_) (a':=?_) #[true,true,true,true,true,true,true,true,true,true,true,true,true,true,false,false,false,false,false,false,false,false,false,false] rfl rfl (any_of HT_.out (by kernel_rfl)) (fun _ _ _ h=>h) (Or.inl ⟨by rfl,?_⟩) ?_ ?_
       rotate_left;(intro w';go_simp;with_reducible rfl);rotate_left;(simp only [Act.put,List.setIfInBounds_toArray,List.set_cons_zero,List.set_cons_succ,i64_w,i32_w];rfl)
       refine pure_ (i:=14) (N:=some 79) (v:=undef) (a':=?_) #[true,true,true,true,true,true,true,true,true,true,true,true,true,true,true,false,false,false,false,false,false,false,false,false] rfl rfl (any_of HT_.out (by kernel_rfl)) (fun _ _ _ h=>h) (Or.inr ⟨by rfl,rfl⟩) ?_ ?_
       rotate_left
       ·simp only [Act.put,List.setIfInBounds_toArray,List.set_cons_zero,List.set_cons_succ,i64_w,i32_w]
        rfl
       refine pure_ (i:=15) (N:=some 80) (v:=undef) (a':=?_) #[true,true,true,true,true,true,true,true,true,true,true,true,true,true,true,true,false,false,false,false,false,false,false,false] rfl rfl (any_of HT_.out (by kernel_rfl)) (fun _ _ _ h=>h) (Or.inr ⟨by rfl,rfl⟩) ?_ ?_
       rotate_left
       ·simp only [Act.put,List.setIfInBounds_toArray,List.set_cons_zero,List.set_cons_succ,i64_w,i32_w]
        rfl
       refine pure_ (i:=16) (N:=some 81) (v:=undef) (a':=?_) #[true,true,true,true,true,true,true,true,true,true,true,true,true,true,true,true,true,false,false,false,false,false,false,false] rfl rfl (any_of HT_.out (by kernel_rfl)) (fun _ _ _ h=>h) (Or.inr ⟨by rfl,rfl⟩) ?_ ?_
       rotate_left
       ·simp only [Act.put,List.setIfInBounds_toArray,List.set_cons_zero,List.set_cons_succ,i64_w,i32_w]
        rfl
       refine pure_ (i:=17) (N:=some 82) (v:=?_) (a':=?_) #[true,true,true,true,true,true,true,true,true,true,true,true,true,true,true,true,true,true,false,false,false,false,false,false] rfl rfl (any_of HT_.out (by kernel_rfl)) (fun _ _ _ h=>h) (Or.inl ⟨by rfl,?_⟩) ?_ ?_
       rotate_left;(intro w';go_simp;with_reducible rfl);rotate_left;(simp only [Act.put,List.setIfInBounds_toArray,List.set_cons_zero,List.set_cons_succ,i64_w,i32_w];rfl)
       refine pure_ (i:=18) (N:=some 83) (v:=?_) (a':=?_) #[true,true,true,true,true,true,true,true,true,true,true,true,true,true,true,true,true,true,true,false,false,false,false,false] rfl rfl (any_of HT_.out (by kernel_rfl)) (fun _ _ _ h=>h) (Or.inl ⟨by rfl,?_⟩) ?_ ?_
       rotate_left;(intro w';go_simp;with_reducible rfl);rotate_left;(simp only [Act.put,List.setIfInBounds_toArray,List.set_cons_zero,List.set_cons_succ,i64_w,i32_w];rfl)
       refine pure_ (i:=19) (N:=some 84) (v:=undef) (a':=?_) #[true,true,true,true,true,true,true,true,true,true,true,true,true,true,true,true,true,true,true,true,false,false,false,false] rfl rfl (any_of HT_.out (by kernel_rfl)) (fun _ _ _ h=>h) (Or.inr ⟨by rfl,rfl⟩) ?_ ?_
       rotate_left
       ·simp only [Act.put,List.setIfInBounds_toArray,List.set_cons_zero,List.set_cons_succ,i64_w,i32_w]
        rfl
       refine pure_ (i:=20) (N:=some 85) (v:=undef) (a':=?_) #[true,true,true,true,true,true,true,true,true,true,true,true,true,true,true,true,true,true,true,true,true,false,false,false] rfl rfl (any_of HT_.out (by kernel_rfl)) (fun _ _ _ h=>h) (Or.inr ⟨by rfl,rfl⟩) ?_ ?_
       rotate_left
       ·simp only [Act.put,List.setIfInBounds_toArray,List.set_cons_zero,List.set_cons_succ,i64_w,i32_w]
        rfl
       refine pure_ (i:=21) (N:=some 86) (v:=undef) (a':=?_) #[true,true,true,true,true,true,true,true,true,true,true,true,true,true,true,true,true,true,true,true,true,true,false,false] rfl rfl (any_of HT_.out (by kernel_rfl)) (fun _ _ _ h=>h) (Or.inr ⟨by rfl,rfl⟩) ?_ ?_
       rotate_left
       ·simp only [Act.put,List.setIfInBounds_toArray,List.set_cons_zero,List.set_cons_succ,i64_w,i32_w]
        rfl
       refine pure_ (i:=22) (N:=some 87) (v:=?_) (a':=?_) #[true,true,true,true,true,true,true,true,true,true,true,true,true,true,true,true,true,true,true,true,true,true,true,false] rfl rfl (any_of HT_.out (by kernel_rfl)) (fun _ _ _ h=>h) (Or.inl ⟨by rfl,?_⟩) ?_ ?_
       rotate_left;(intro w';go_simp;with_reducible rfl);rotate_left;(simp only [Act.put,List.setIfInBounds_toArray,List.set_cons_zero,List.set_cons_succ,i64_w,i32_w];rfl)
       refine pure_ (i:=23) (N:=some 6) (v:=?_) (a':=?_) #[true,true,true,true,true,true,true,true,true,true,true,true,true,true,true,true,true,true,true,true,true,true,true,true] rfl rfl (any_of HT_.out (by kernel_rfl)) (fun _ _ _ h=>h) (Or.inl ⟨by rfl,?_⟩) ?_ ?_
       rotate_left;(intro w';go_simp;with_reducible rfl);rotate_left;(simp only [Act.put,List.setIfInBounds_toArray,List.set_cons_zero,List.set_cons_succ,i64_w,i32_w];rfl)
       refine done_ (done_of HT_.out (by kernel_rfl)) ?_
       (try clear hHeld)
       try go_wp2
       go_meet
       case rel=>exact ⟨_,(false),(by first|rfl|(simp;done)|(simp [*];done)),(by first|exact H'|(subst_vars;exact H')),⟨by have:=HJ9.out;first|omega|exact Nat.le_refl _⟩,⟨by (with_reducible repeat (first|refine blk_drewN ?_ _|refine blk_drew ?_|refine blk_alloc ?_ _));exact BK298.out⟩,⟨by (with_reducible repeat (first|refine blk_drewN ?_ _|refine blk_drew ?_|refine blk_alloc ?_ _));exact BK302.out⟩,⟨by (with_reducible repeat (first|refine blk_drewN ?_ _|refine blk_drew ?_|refine blk_alloc ?_ _));exact BK305.out⟩,⟨by (with_reducible repeat (first|refine blk_drewN ?_ _|refine blk_drew ?_|refine blk_alloc ?_ _));exact BK310.out⟩,⟨by (with_reducible repeat (first|refine blk_drewN ?_ _|refine blk_drew ?_|refine blk_alloc ?_ _));exact BK314.out⟩,⟨by repeat (first|(with_reducible first|exact HB.out|apply below_alloc|apply pw_below_drewN|apply below_drew1|refine below_set ?_ GE298.out|refine below_set ?_ GE302.out|refine below_set ?_ GE305.out|refine below_set ?_ GE310.out|refine below_set ?_ GE314.out)|exact HB.out)⟩⟩
     ·replace c65:=Bool.eq_false_iff.mpr c65
      subst c65
      have H1 : (thresherlaw03_ValueAll.j1 kj9 false)=some r:=by rw [if_neg (show ¬ (false=true) by decide)] at H;exact H
      clear H
      have H:=H1
      clear H1
      have H':=Aside0.mk H
      clear H
      try go_wp2
      have n0_:=Aside0.mk (blk_drew BK298.out)
      have n1_:=Aside0.mk (blk_drew BK302.out)
      have n2_:=Aside0.mk (blk_drew BK305.out)
      have n3_:=Aside0.mk (blk_drew BK310.out)
      have n4_:=Aside0.mk (blk_drew BK314.out)
      have n5_:=Aside0.mk (below_drew1 HB.out)
      clear BK298
      clear BK302
      clear BK305
      clear BK310
      clear BK314
      clear HB
      have BK298:=n0_
      have BK302:=n1_
      have BK305:=n2_
      have BK310:=n3_
      have BK314:=n4_
      have HB:=n5_
      clear n0_ n1_ n2_ n3_ n4_ n5_
      refine start_ (n:=24) (S:=fun w'=>True) (ds:=[]) #[false,false,false,false,false,false,false,false,false,false,false,false,false,false,false,false,false,false,false,false,false,false,false,false] (by kernel_rfl) rfl rfl trivial (fun hHeld=>?_);refine with_tabW thresherlaw03_ValueAll.tab8 thresherlaw03_ValueAll.bits8 (fun HT_ HW_=>?_)
      generalize wc.drew=w79 at BK298 BK302 BK305 BK310 BK314 HB hHeld ⊢
      refine pure_ (i:=0) (N:=some 65) (v:=?_) (a':=?_) #[true,false,false,false,false,false,false,false,false,false,false,false,false,false,false,false,false,false,false,false,false,false,false,false] rfl rfl (any_of HT_.out (by kernel_rfl)) (fun _ _ _ h=>h) (Or.inl ⟨by rfl,?_⟩) ?_ ?_
      rotate_left;(intro w';go_simp;with_reducible rfl);rotate_left;(simp only [Act.put,List.setIfInBounds_toArray,List.set_cons_zero,List.set_cons_succ,i64_w,i32_w];rfl)
      refine pure_ (i:=1) (N:=some 66) (v:=?_) (a':=?_) #[true,true,false,false,false,false,false,false,false,false,false,false,false,false,false,false,false,false,false,false,false,false,false,false] rfl rfl (any_of HT_.out (by kernel_rfl)) (fun _ _ _ h=>h) (Or.inl ⟨by rfl,?_⟩) ?_ ?_
      rotate_left;(intro w';go_simp;with_reducible rfl);rotate_left;(simp only [Act.put,List.setIfInBounds_toArray,List.set_cons_zero,List.set_cons_succ,i64_w,i32_w];rfl)
      refine pure_ (i:=2) (N:=some 67) (v:=?_) (a':=?_) #[true,true,true,false,false,false,false,false,false,false,false,false,false,false,false,false,false,false,false,false,false,false,false,false] rfl rfl (any_of HT_.out (by kernel_rfl)) (fun _ _ _ h=>h) (Or.inl ⟨by rfl,?_⟩) ?_ ?_
      rotate_left;(intro w';go_simp;with_reducible rfl);rotate_left;(simp only [Act.put,List.setIfInBounds_toArray,List.set_cons_zero,List.set_cons_succ,i64_w,i32_w];rfl)
      refine pure_ (i:=3) (N:=some 68) (v:=?_) (a':=?_) #[true,true,true,true,false,false,false,false,false,false,false,false,false,false,false,false,false,false,false,false,false,false,false,false] rfl rfl (any_of HT_.out (by kernel_rfl)) (fun _ _ _ h=>h) (Or.inl ⟨by rfl,?_⟩) ?_ ?_
      rotate_left;(intro w';go_simp;with_reducible rfl);rotate_left;(simp only [Act.put,List.setIfInBounds_toArray,List.set_cons_zero,List.set_cons_succ,i64_w,i32_w];rfl)
      refine pure_ (i:=4) (N:=some 69) (v:=?_) (a':=?_) #[true,true,true,true,true,false,false,false,false,false,false,false,false,false,false,false,false,false,false,false,false,false,false,false] rfl rfl (any_of HT_.out (by kernel_rfl)) (fun _ _ _ h=>h) (Or.inl ⟨by rfl,?_⟩) ?_ ?_
      rotate_left;(intro w';go_simp;with_reducible rfl);rotate_left;(simp only [Act.put,List.setIfInBounds_toArray,List.set_cons_zero,List.set_cons_succ,i64_w,i32_w];rfl)
      refine pure_ (i:=5) (N:=some 70) (v:=undef) (a':=?_) #[true,true,true,true,true,true,false,false,false,false,false,false,false,false,false,false,false,false,false,false,false,false,false,false] rfl rfl (any_of HT_.out (by kernel_rfl)) (fun _ _ _ h=>h) (Or.inr ⟨by rfl,rfl⟩) ?_ ?_
      rotate_left
      ·simp only [Act.put,List.setIfInBounds_toArray,List.set_cons_zero,List.set_cons_succ,i64_w,i32_w]
       rfl
      refine pure_ (i:=6) (N:=some 71) (v:=undef) (a':=?_) #[true,true,true,true,true,true,true,false,false,false,false,false,false,false,false,false,false,false,false,false,false,false,false,false] rfl rfl (any_of HT_.out (by kernel_rfl)) (fun _ _ _ h=>h) (Or.inr ⟨by rfl,rfl⟩) ?_ ?_
      rotate_left
      ·simp only [Act.put,List.setIfInBounds_toArray,List.set_cons_zero,List.set_cons_succ,i64_w,i32_w]
       rfl
      refine pure_ (i:=7) (N:=some 72) (v:=undef) (a':=?_) #[true,true,true,true,true,true,true,true,false,false,false,false,false,false,false,false,false,false,false,false,false,false,false,false] rfl rfl (any_of HT_.out (by kernel_rfl)) (fun _ _ _ h=>h) (Or.inr ⟨by rfl,rfl⟩) ?_ ?_
      rotate_left
      ·simp only [Act.put,List.setIfInBounds_toArray,List.set_cons_zero,List.set_cons_succ,i64_w,i32_w]
       rfl
      refine pure_ (i:=8) (N:=some 73) (v:=undef) (a':=?_) #[true,true,true,true,true,true,true,true,true,false,false,false,false,false,false,false,false,false,false,false,false,false,false,false] rfl rfl (any_of HT_.out (by kernel_rfl)) (fun _ _ _ h=>h) (Or.inr ⟨by rfl,rfl⟩) ?_ ?_
      rotate_left
      ·simp only [Act.put,List.setIfInBounds_toArray,List.set_cons_zero,List.set_cons_succ,i64_w,i32_w]
       rfl
      refine pure_ (i:=9) (N:=some 74) (v:=undef) (a':=?_) #[true,true,true,true,true,true,true,true,true,true,false,false,false,false,false,false,false,false,false,false,false,false,false,false] rfl rfl (any_of HT_.out (by kernel_rfl)) (fun _ _ _ h=>h) (Or.inr ⟨by rfl,rfl⟩) ?_ ?_
      rotate_left
      ·simp only [Act.put,List.setIfInBounds_toArray,List.set_cons_zero,List.set_cons_succ,i64_w,i32_w]
       rfl
      refine pure_ (i:=10) (N:=some 75) (v:=undef) (a':=?_) #[true,true,true,true,true,true,true,true,true,true,true,false,false,false,false,false,false,false,false,false,false,false,false,false] rfl rfl (any_of HT_.out (by kernel_rfl)) (fun _ _ _ h=>h) (Or.inr ⟨by rfl,rfl⟩) ?_ ?_
      rotate_left
      ·simp only [Act.put,List.setIfInBounds_toArray,List.set_cons_zero,List.set_cons_succ,i64_w,i32_w]
       rfl
      refine pure_ (i:=11) (N:=some 76) (v:=undef) (a':=?_) #[true,true,true,true,true,true,true,true,true,true,true,true,false,false,false,false,false,false,false,false,false,false,false,false] rfl rfl (any_of HT_.out (by kernel_rfl)) (fun _ _ _ h=>h) (Or.inr ⟨by rfl,rfl⟩) ?_ ?_
      rotate_left
      ·simp only [Act.put,List.setIfInBounds_toArray,List.set_cons_zero,List.set_cons_succ,i64_w,i32_w]
       rfl
      refine pure_ (i:=12) (N:=some 77) (v:=?_) (a':=?_) #[true,true,true,true,true,true,true,true,true,true,true,true,true,false,false,false,false,false,false,false,false,false,false,false] rfl rfl (any_of HT_.out (by kernel_rfl)) (fun _ _ _ h=>h) (Or.inl ⟨by rfl,?_⟩) ?_ ?_
      rotate_left;(intro w';go_simp;with_reducible rfl);rotate_left;(simp only [Act.put,List.setIfInBounds_toArray,List.set_cons_zero,List.set_cons_succ,i64_w,i32_w];rfl)
      refine pure_ (i:=13) (N:=some 78) (v:=?_) (a':=?_) #[true,true,true,true,true,true,true,true,true,true,true,true,true,true,false,false,false,false,false,false,false,false,false,false] rfl rfl (any_of HT_.out (by kernel_rfl)) (fun _ _ _ h=>h) (Or.inl ⟨by rfl,?_⟩) ?_ ?_
      rotate_left;(intro w';go_simp;with_reducible rfl);rotate_left;(simp only [Act.put,List.setIfInBounds_toArray,List.set_cons_zero,List.set_cons_succ,i64_w,i32_w];rfl)
      refine pure_ (i:=14) (N:=some 79) (v:=undef) (a':=?_) #[true,true,true,true,true,true,true,true,true,true,true,true,true,true,true,false,false,false,false,false,false,false,false,false] rfl rfl (any_of HT_.out (by kernel_rfl)) (fun _ _ _ h=>h) (Or.inr ⟨by rfl,rfl⟩) ?_ ?_
      rotate_left
      ·simp only [Act.put,List.setIfInBounds_toArray,List.set_cons_zero,List.set_cons_succ,i64_w,i32_w]
       rfl
      refine pure_ (i:=15) (N:=some 80) (v:=undef) (a':=?_) #[true,true,true,true,true,true,true,true,true,true,true,true,true,true,true,true,false,false,false,false,false,false,false,false] rfl rfl (any_of HT_.out (by kernel_rfl)) (fun _ _ _ h=>h) (Or.inr ⟨by rfl,rfl⟩) ?_ ?_
      rotate_left
      ·simp only [Act.put,List.setIfInBounds_toArray,List.set_cons_zero,List.set_cons_succ,i64_w,i32_w]
       rfl
      refine pure_ (i:=16) (N:=some 81) (v:=undef) (a':=?_) #[true,true,true,true,true,true,true,true,true,true,true,true,true,true,true,true,true,false,false,false,false,false,false,false] rfl rfl (any_of HT_.out (by kernel_rfl)) (fun _ _ _ h=>h) (Or.inr ⟨by rfl,rfl⟩) ?_ ?_
      rotate_left
      ·simp only [Act.put,List.setIfInBounds_toArray,List.set_cons_zero,List.set_cons_succ,i64_w,i32_w]
       rfl
      refine pure_ (i:=17) (N:=some 82) (v:=?_) (a':=?_) #[true,true,true,true,true,true,true,true,true,true,true,true,true,true,true,true,true,true,false,false,false,false,false,false] rfl rfl (any_of HT_.out (by kernel_rfl)) (fun _ _ _ h=>h) (Or.inl ⟨by rfl,?_⟩) ?_ ?_
      rotate_left;(intro w';go_simp;with_reducible rfl);rotate_left;(simp only [Act.put,List.setIfInBounds_toArray,List.set_cons_zero,List.set_cons_succ,i64_w,i32_w];rfl)
      refine pure_ (i:=18) (N:=some 83) (v:=?_) (a':=?_) #[true,true,true,true,true,true,true,true,true,true,true,true,true,true,true,true,true,true,true,false,false,false,false,false] rfl rfl (any_of HT_.out (by kernel_rfl)) (fun _ _ _ h=>h) (Or.inl ⟨by rfl,?_⟩) ?_ ?_
      rotate_left;(intro w';go_simp;with_reducible rfl);rotate_left;(simp only [Act.put,List.setIfInBounds_toArray,List.set_cons_zero,List.set_cons_succ,i64_w,i32_w];rfl)
      refine pure_ (i:=19) (N:=some 84) (v:=undef) (a':=?_) #[true,true,true,true,true,true,true,true,true,true,true,true,true,true,true,true,true,true,true,true,false,false,false,false] rfl rfl (any_of HT_.out (by kernel_rfl)) (fun _ _ _ h=>h) (Or.inr ⟨by rfl,rfl⟩) ?_ ?_
      rotate_left
      ·simp only [Act.put,List.setIfInBounds_toArray,List.set_cons_zero,List.set_cons_succ,i64_w,i32_w]
       rfl
      refine pure_ (i:=20) (N:=some 85) (v:=undef) (a':=?_) #[true,true,true,true,true,true,true,true,true,true,true,true,true,true,true,true,true,true,true,true,true,false,false,false] rfl rfl (any_of HT_.out (by kernel_rfl)) (fun _ _ _ h=>h) (Or.inr ⟨by rfl,rfl⟩) ?_ ?_
      rotate_left
      ·simp only [Act.put,List.setIfInBounds_toArray,List.set_cons_zero,List.set_cons_succ,i64_w,i32_w]
       rfl
      refine pure_ (i:=21) (N:=some 86) (v:=undef) (a':=?_) #[true,true,true,true,true,true,true,true,true,true,true,true,true,true,true,true,true,true,true,true,true,true,false,false] rfl rfl (any_of HT_.out (by kernel_rfl)) (fun _ _ _ h=>h) (Or.inr ⟨by rfl,rfl⟩) ?_ ?_
      rotate_left
      ·simp only [Act.put,List.setIfInBounds_toArray,List.set_cons_zero,List.set_cons_succ,i64_w,i32_w]
       rfl
      refine pure_ (i:=22) (N:=some 87) (v:=?_) (a':=?_) #[true,true,true,true,true,true,true,true,true,true,true,true,true,true,true,true,true,true,true,true,true,true,true,false] rfl rfl (any_of HT_.out (by kernel_rfl)) (fun _ _ _ h=>h) (Or.inl ⟨by rfl,?_⟩) ?_ ?_
      rotate_left;(intro w';go_simp;with_reducible rfl);rotate_left;(simp only [Act.put,List.setIfInBounds_toArray,List.set_cons_zero,List.set_cons_succ,i64_w,i32_w];rfl)
      refine pure_ (i:=23) (N:=some 6) (v:=?_) (a':=?_) #[true,true,true,true,true,true,true,true,true,true,true,true,true,true,true,true,true,true,true,true,true,true,true,true] rfl rfl (any_of HT_.out (by kernel_rfl)) (fun _ _ _ h=>h) (Or.inl ⟨by rfl,?_⟩) ?_ ?_
      rotate_left;(intro w';go_simp;with_reducible rfl);rotate_left;(simp only [Act.put,List.setIfInBounds_toArray,List.set_cons_zero,List.set_cons_succ,i64_w,i32_w];rfl)
      refine done_ (done_of HT_.out (by kernel_rfl)) ?_
      (try clear hHeld)
      try go_wp2
      go_meet
      case rel=>exact ⟨_,(false),(by first|rfl|(simp;done)|(simp [*];done)),(by first|exact H'|(subst_vars;exact H')),⟨by have:=HJ9.out;first|omega|exact Nat.le_refl _⟩,⟨by (with_reducible repeat (first|refine blk_drewN ?_ _|refine blk_drew ?_|refine blk_alloc ?_ _));exact BK298.out⟩,⟨by (with_reducible repeat (first|refine blk_drewN ?_ _|refine blk_drew ?_|refine blk_alloc ?_ _));exact BK302.out⟩,⟨by (with_reducible repeat (first|refine blk_drewN ?_ _|refine blk_drew ?_|refine blk_alloc ?_ _));exact BK305.out⟩,⟨by (with_reducible repeat (first|refine blk_drewN ?_ _|refine blk_drew ?_|refine blk_alloc ?_ _));exact BK310.out⟩,⟨by (with_reducible repeat (first|refine blk_drewN ?_ _|refine blk_drew ?_|refine blk_alloc ?_ _));exact BK314.out⟩,⟨by repeat (first|(with_reducible first|exact HB.out|apply below_alloc|apply pw_below_drewN|apply below_drew1|refine below_set ?_ GE298.out|refine below_set ?_ GE302.out|refine below_set ?_ GE305.out|refine below_set ?_ GE310.out|refine below_set ?_ GE314.out)|exact HB.out)⟩⟩
    ·replace c64:=Bool.eq_false_iff.mpr c64
     subst c64
     have H1 : (thresherlaw03_ValueAll.j1 kj9 false)=some r:=by rw [if_neg (show ¬ (false=true) by decide)] at H;exact H
     clear H
     have H:=H1
     clear H1
     have H':=Aside0.mk H
     clear H
     try go_wp2
     have n0_:=Aside0.mk (blk_drew BK298.out)
     have n1_:=Aside0.mk (blk_drew BK302.out)
     have n2_:=Aside0.mk (blk_drew BK305.out)
     have n3_:=Aside0.mk (blk_drew BK310.out)
     have n4_:=Aside0.mk (blk_drew BK314.out)
     have n5_:=Aside0.mk (below_drew1 HB.out)
     clear BK298
     clear BK302
     clear BK305
     clear BK310
     clear BK314
     clear HB
     have BK298:=n0_
     have BK302:=n1_
     have BK305:=n2_
     have BK310:=n3_
     have BK314:=n4_
     have HB:=n5_
     clear n0_ n1_ n2_ n3_ n4_ n5_
     refine start_ (n:=24) (S:=fun w'=>True) (ds:=[]) #[false,false,false,false,false,false,false,false,false,false,false,false,false,false,false,false,false,false,false,false,false,false,false,false] (by kernel_rfl) rfl rfl trivial (fun hHeld=>?_);refine with_tabW thresherlaw03_ValueAll.tab8 thresherlaw03_ValueAll.bits8 (fun HT_ HW_=>?_)
     generalize wc.drew=w80 at BK298 BK302 BK305 BK310 BK314 HB hHeld ⊢
     refine pure_ (i:=0) (N:=some 65) (v:=?_) (a':=?_) #[true,false,false,false,false,false,false,false,false,false,false,false,false,false,false,false,false,false,false,false,false,false,false,false] rfl rfl (any_of HT_.out (by kernel_rfl)) (fun _ _ _ h=>h) (Or.inl ⟨by rfl,?_⟩) ?_ ?_
     rotate_left;(intro w';go_simp;with_reducible rfl);rotate_left;(simp only [Act.put,List.setIfInBounds_toArray,List.set_cons_zero,List.set_cons_succ,i64_w,i32_w];rfl)
     refine pure_ (i:=1) (N:=some 66) (v:=?_) (a':=?_) #[true,true,false,false,false,false,false,false,false,false,false,false,false,false,false,false,false,false,false,false,false,false,false,false] rfl rfl (any_of HT_.out (by kernel_rfl)) (fun _ _ _ h=>h) (Or.inl ⟨by rfl,?_⟩) ?_ ?_
     rotate_left;(intro w';go_simp;with_reducible rfl);rotate_left;(simp only [Act.put,List.setIfInBounds_toArray,List.set_cons_zero,List.set_cons_succ,i64_w,i32_w];rfl)
     refine pure_ (i:=2) (N:=some 67) (v:=undef) (a':=?_) #[true,true,true,false,false,false,false,false,false,false,false,false,false,false,false,false,false,false,false,false,false,false,false,false] rfl rfl (any_of HT_.out (by kernel_rfl)) (fun _ _ _ h=>h) (Or.inr ⟨by rfl,rfl⟩) ?_ ?_
     rotate_left
     ·simp only [Act.put,List.setIfInBounds_toArray,List.set_cons_zero,List.set_cons_succ,i64_w,i32_w]
      rfl
     refine pure_ (i:=3) (N:=some 68) (v:=?_) (a':=?_) #[true,true,true,true,false,false,false,false,false,false,false,false,false,false,false,false,false,false,false,false,false,false,false,false] rfl rfl (any_of HT_.out (by kernel_rfl)) (fun _ _ _ h=>h) (Or.inl ⟨by rfl,?_⟩) ?_ ?_
     rotate_left;(intro w';go_simp;with_reducible rfl);rotate_left;(simp only [Act.put,List.setIfInBounds_toArray,List.set_cons_zero,List.set_cons_succ,i64_w,i32_w];rfl)
     refine pure_ (i:=4) (N:=some 69) (v:=?_) (a':=?_) #[true,true,true,true,true,false,false,false,false,false,false,false,false,false,false,false,false,false,false,false,false,false,false,false] rfl rfl (any_of HT_.out (by kernel_rfl)) (fun _ _ _ h=>h) (Or.inl ⟨by rfl,?_⟩) ?_ ?_
     rotate_left;(intro w';go_simp;with_reducible rfl);rotate_left;(simp only [Act.put,List.setIfInBounds_toArray,List.set_cons_zero,List.set_cons_succ,i64_w,i32_w];rfl)
     refine pure_ (i:=5) (N:=some 70) (v:=undef) (a':=?_) #[true,true,true,true,true,true,false,false,false,false,false,false,false,false,false,false,false,false,false,false,false,false,false,false] rfl rfl (any_of HT_.out (by kernel_rfl)) (fun _ _ _ h=>h) (Or.inr ⟨by rfl,rfl⟩) ?_ ?_
     rotate_left
     ·simp only [Act.put,List.setIfInBounds_toArray,List.set_cons_zero,List.set_cons_succ,i64_w,i32_w]
      rfl
     refine pure_ (i:=6) (N:=some 71) (v:=undef) (a':=?_) #[true,true,true,true,true,true,true,false,false,false,false,false,false,false,false,false,false,false,false,false,false,false,false,false] rfl rfl (any_of HT_.out (by kernel_rfl)) (fun _ _ _ h=>h) (Or.inr ⟨by rfl,rfl⟩) ?_ ?_
     rotate_left
     ·simp only [Act.put,List.setIfInBounds_toArray,List.set_cons_zero,List.set_cons_succ,i64_w,i32_w]
      rfl
     refine pure_ (i:=7) (N:=some 72) (v:=undef) (a':=?_) #[true,true,true,true,true,true,true,true,false,false,false,false,false,false,false,false,false,false,false,false,false,false,false,false] rfl rfl (any_of HT_.out (by kernel_rfl)) (fun _ _ _ h=>h) (Or.inr ⟨by rfl,rfl⟩) ?_ ?_
     rotate_left
     ·simp only [Act.put,List.setIfInBounds_toArray,List.set_cons_zero,List.set_cons_succ,i64_w,i32_w]
      rfl
     refine pure_ (i:=8) (N:=some 73) (v:=undef) (a':=?_) #[true,true,true,true,true,true,true,true,true,false,false,false,false,false,false,false,false,false,false,false,false,false,false,false] rfl rfl (any_of HT_.out (by kernel_rfl)) (fun _ _ _ h=>h) (Or.inr ⟨by rfl,rfl⟩) ?_ ?_
     rotate_left
     ·simp only [Act.put,List.setIfInBounds_toArray,List.set_cons_zero,List.set_cons_succ,i64_w,i32_w]
      rfl
     refine pure_ (i:=9) (N:=some 74) (v:=undef) (a':=?_) #[true,true,true,true,true,true,true,true,true,true,false,false,false,false,false,false,false,false,false,false,false,false,false,false] rfl rfl (any_of HT_.out (by kernel_rfl)) (fun _ _ _ h=>h) (Or.inr ⟨by rfl,rfl⟩) ?_ ?_
     rotate_left
     ·simp only [Act.put,List.setIfInBounds_toArray,List.set_cons_zero,List.set_cons_succ,i64_w,i32_w]
      rfl
     refine pure_ (i:=10) (N:=some 75) (v:=undef) (a':=?_) #[true,true,true,true,true,true,true,true,true,true,true,false,false,false,false,false,false,false,false,false,false,false,false,false] rfl rfl (any_of HT_.out (by kernel_rfl)) (fun _ _ _ h=>h) (Or.inr ⟨by rfl,rfl⟩) ?_ ?_
     rotate_left
     ·simp only [Act.put,List.setIfInBounds_toArray,List.set_cons_zero,List.set_cons_succ,i64_w,i32_w]
      rfl
     refine pure_ (i:=11) (N:=some 76) (v:=undef) (a':=?_) #[true,true,true,true,true,true,true,true,true,true,true,true,false,false,false,false,false,false,false,false,false,false,false,false] rfl rfl (any_of HT_.out (by kernel_rfl)) (fun _ _ _ h=>h) (Or.inr ⟨by rfl,rfl⟩) ?_ ?_
     rotate_left
     ·simp only [Act.put,List.setIfInBounds_toArray,List.set_cons_zero,List.set_cons_succ,i64_w,i32_w]
      rfl
     refine pure_ (i:=12) (N:=some 77) (v:=?_) (a':=?_) #[true,true,true,true,true,true,true,true,true,true,true,true,true,false,false,false,false,false,false,false,false,false,false,false] rfl rfl (any_of HT_.out (by kernel_rfl)) (fun _ _ _ h=>h) (Or.inl ⟨by rfl,?_⟩) ?_ ?_
     rotate_left;(intro w';go_simp;with_reducible rfl);rotate_left;(simp only [Act.put,List.setIfInBounds_toArray,List.set_cons_zero,List.set_cons_succ,i64_w,i32_w];rfl)
     refine pure_ (i:=13) (N:=some 78) (v:=?_) (a':=?_) #[true,true,true,true,true,true,true,true,true,true,true,true,true,true,false,false,false,false,false,false,false,false,false,false] rfl rfl (any_of HT_.out (by kernel_rfl)) (fun _ _ _ h=>h) (Or.inl ⟨by rfl,?_⟩) ?_ ?_
     rotate_left;(intro w';go_simp;with_reducible rfl);rotate_left;(simp only [Act.put,List.setIfInBounds_toArray,List.set_cons_zero,List.set_cons_succ,i64_w,i32_w];rfl)
     refine pure_ (i:=14) (N:=some 79) (v:=undef) (a':=?_) #[true,true,true,true,true,true,true,true,true,true,true,true,true,true,true,false,false,false,false,false,false,false,false,false] rfl rfl (any_of HT_.out (by kernel_rfl)) (fun _ _ _ h=>h) (Or.inr ⟨by rfl,rfl⟩) ?_ ?_
     rotate_left
     ·simp only [Act.put,List.setIfInBounds_toArray,List.set_cons_zero,List.set_cons_succ,i64_w,i32_w]
      rfl
     refine pure_ (i:=15) (N:=some 80) (v:=undef) (a':=?_) #[true,true,true,true,true,true,true,true,true,true,true,true,true,true,true,true,false,false,false,false,false,false,false,false] rfl rfl (any_of HT_.out (by kernel_rfl)) (fun _ _ _ h=>h) (Or.inr ⟨by rfl,rfl⟩) ?_ ?_
     rotate_left
     ·simp only [Act.put,List.setIfInBounds_toArray,List.set_cons_zero,List.set_cons_succ,i64_w,i32_w]
      rfl
     refine pure_ (i:=16) (N:=some 81) (v:=undef) (a':=?_) #[true,true,true,true,true,true,true,true,true,true,true,true,true,true,true,true,true,false,false,false,false,false,false,false] rfl rfl (any_of HT_.out (by kernel_rfl)) (fun _ _ _ h=>h) (Or.inr ⟨by rfl,rfl⟩) ?_ ?_
     rotate_left
     ·simp only [Act.put,List.setIfInBounds_toArray,List.set_cons_zero,List.set_cons_succ,i64_w,i32_w]
      rfl
     refine pure_ (i:=17) (N:=some 82) (v:=?_) (a':=?_) #[true,true,true,true,true,true,true,true,true,true,true,true,true,true,true,true,true,true,false,false,false,false,false,false] rfl rfl (any_of HT_.out (by kernel_rfl)) (fun _ _ _ h=>h) (Or.inl ⟨by rfl,?_⟩) ?_ ?_
     rotate_left;(intro w';go_simp;with_reducible rfl);rotate_left;(simp only [Act.put,List.setIfInBounds_toArray,List.set_cons_zero,List.set_cons_succ,i64_w,i32_w];rfl)
     refine pure_ (i:=18) (N:=some 83) (v:=?_) (a':=?_) #[true,true,true,true,true,true,true,true,true,true,true,true,true,true,true,true,true,true,true,false,false,false,false,false] rfl rfl (any_of HT_.out (by kernel_rfl)) (fun _ _ _ h=>h) (Or.inl ⟨by rfl,?_⟩) ?_ ?_
     rotate_left;(intro w';go_simp;with_reducible rfl);rotate_left;(simp only [Act.put,List.setIfInBounds_toArray,List.set_cons_zero,List.set_cons_succ,i64_w,i32_w];rfl)
     refine pure_ (i:=19) (N:=some 84) (v:=undef) (a':=?_) #[true,true,true,true,true,true,true,true,true,true,true,true,true,true,true,true,true,true,true,true,false,false,false,false] rfl rfl (any_of HT_.out (by kernel_rfl)) (fun _ _ _ h=>h) (Or.inr ⟨by rfl,rfl⟩) ?_ ?_
     rotate_left
     ·simp only [Act.put,List.setIfInBounds_toArray,List.set_cons_zero,List.set_cons_succ,i64_w,i32_w]
      rfl
     refine pure_ (i:=20) (N:=some 85) (v:=undef) (a':=?_) #[true,true,true,true,true,true,true,true,true,true,true,true,true,true,true,true,true,true,true,true,true,false,false,false] rfl rfl (any_of HT_.out (by kernel_rfl)) (fun _ _ _ h=>h) (Or.inr ⟨by rfl,rfl⟩) ?_ ?_
     rotate_left
     ·simp only [Act.put,List.setIfInBounds_toArray,List.set_cons_zero,List.set_cons_succ,i64_w,i32_w]
      rfl
     refine pure_ (i:=21) (N:=some 86) (v:=undef) (a':=?_) #[true,true,true,true,true,true,true,true,true,true,true,true,true,true,true,true,true,true,true,true,true,true,false,false] rfl rfl (any_of HT_.out (by kernel_rfl)) (fun _ _ _ h=>h) (Or.inr ⟨by rfl,rfl⟩) ?_ ?_
     rotate_left
     ·simp only [Act.put,List.setIfInBounds_toArray,List.set_cons_zero,List.set_cons_succ,i64_w,i32_w]
      rfl
     refine pure_ (i:=22) (N:=some 87) (v:=?_) (a':=?_) #[true,true,true,true,true,true,true,true,true,true,true,true,true,true,true,true,true,true,true,true,true,true,true,false] rfl rfl (any_of HT_.out (by kernel_rfl)) (fun _ _ _ h=>h) (Or.inl ⟨by rfl,?_⟩) ?_ ?_
     rotate_left;(intro w';go_simp;with_reducible rfl);rotate_left;(simp only [Act.put,List.setIfInBounds_toArray,List.set_cons_zero,List.set_cons_succ,i64_w,i32_w];rfl)
     refine pure_ (i:=23) (N:=some 6) (v:=?_) (a':=?_) #[true,true,true,true,true,true,true,true,true,true,true,true,true,true,true,true,true,true,true,true,true,true,true,true] rfl rfl (any_of HT_.out (by kernel_rfl)) (fun _ _ _ h=>h) (Or.inl ⟨by rfl,?_⟩) ?_ ?_
     rotate_left;(intro w';go_simp;with_reducible rfl);rotate_left;(simp only [Act.put,List.setIfInBounds_toArray,List.set_cons_zero,List.set_cons_succ,i64_w,i32_w];rfl)
     refine done_ (done_of HT_.out (by kernel_rfl)) ?_
     (try clear hHeld)
     try go_wp2
     go_meet
     case rel=>exact ⟨_,(false),(by first|rfl|(simp;done)|(simp [*];done)),(by first|exact H'|(subst_vars;exact H')),⟨by have:=HJ9.out;first|omega|exact Nat.le_refl _⟩,⟨by (with_reducible repeat (first|refine blk_drewN ?_ _|refine blk_drew ?_|refine blk_alloc ?_ _));exact BK298.out⟩,⟨by (with_reducible repeat (first|refine blk_drewN ?_ _|refine blk_drew ?_|refine blk_alloc ?_ _));exact BK302.out⟩,⟨by (with_reducible repeat (first|refine blk_drewN ?_ _|refine blk_drew ?_|refine blk_alloc ?_ _));exact BK305.out⟩,⟨by (with_reducible repeat (first|refine blk_drewN ?_ _|refine blk_drew ?_|refine blk_alloc ?_ _));exact BK310.out⟩,⟨by (with_reducible repeat (first|refine blk_drewN ?_ _|refine blk_drew ?_|refine blk_alloc ?_ _));exact BK314.out⟩,⟨by repeat (first|(with_reducible first|exact HB.out|apply below_alloc|apply pw_below_drewN|apply below_drew1|refine below_set ?_ GE298.out|refine below_set ?_ GE302.out|refine below_set ?_ GE305.out|refine below_set ?_ GE310.out|refine below_set ?_ GE314.out)|exact HB.out)⟩⟩
   case rest =>
    clear HC63
    try clear c1
    try clear c2
    try clear p2
    try clear c6
    try clear c13
    try clear c23
    try clear c64
    try clear c65
    try clear c68
    try clear c68b0
    try clear c68b1
    obtain ⟨kq,x6_62,rfl,HA,HJ62,BK298,BK302,BK305,BK310,BK314,HB⟩:=hcut
    cases kq with
    | zero=>exact absurd HA.out (by simp [thresherlaw03_ValueAll.j1])
    | succ kj62 =>
     have H:=HA.out
     clear HA
     simp only [thresherlaw03_ValueAll.j1] at H
     obtain rfl:=Option.some.inj H
     go_wp2
     go_ret
     exact ⟨by first|rfl|(simp [errW_none,errW_some] <;> rfl)|(simp [*,errW_none,errW_some] <;> rfl),by repeat (first|(with_reducible first|exact HB.out|apply below_alloc|apply pw_below_drewN|apply below_drew1|refine below_set ?_ GE298.out|refine below_set ?_ GE302.out|refine below_set ?_ GE305.out|refine below_set ?_ GE310.out|refine below_set ?_ GE314.out)|exact HB.out)⟩
end Go.Proofs.YtifpjhghbafcjaaDoor.P

