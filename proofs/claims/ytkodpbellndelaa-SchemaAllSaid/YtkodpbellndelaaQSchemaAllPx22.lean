/- Texts of SchemaAll. Merged: Px22. -/
import Derived.Test.YtkodpbellndelaaQSchemaAllPx0
import Derived.Test.YtkodpbellndelaaQSchemaAllPx2
import Derived.Test.YtkodpbellndelaaQSchemaAllPx3
import Derived.Test.YtkodpbellndelaaQSchemaAllPx7
import Derived.Test.YtkodpbellndelaaQSchemaAllPx8
import Derived.Test.YtkodpbellndelaaQSchemaAllPx10
import Derived.Test.YtkodpbellndelaaQSchemaAllPx17
import Derived.Test.YtkodpbellndelaaQSchemaAllPx18
import Derived.Test.YtkodpbellndelaaQSchemaAllPx20
import Derived.Test.YtkodpbellndelaaQSchemaAllPx21
import Derived.Test.YtkodpbellndelaaQSchemaAllHBatch
import Derived.Test.YtkodpbellndelaaQSchemaAllHCheck
import Derived.Test.YtkodpbellndelaaQSchemaAllHRow
namespace Go.Proofs.Ytkodpbellndelaa.P
open Go.RowKit Go.Proofs.YtkodpbellndelaaW.PrintWords Go.Proofs.YtkodpbellndelaaW.PrintLast Go.Proofs.YtkodpbellndelaaW.PrintMore
attribute [local go_sem] max2_int min2_int max_two min_two max_three min_three max_four min_four   -- for this text's walks alone
set_option linter.unusedVariables false
set_option linter.unusedSimpArgs false
mutual
def thresherlaw04_SchemaAll.l0 : Nat→List (List (S34))→List Int→Bool→List (List (S34))→Int→List Int→Int→Int→Int→Option (Bool)
 | 0,_,_,_,_,_,_,_,_,_=>none
 | k + 1,x1,x2,x7,x8,x9,x535000,x535001,x535002,x535003=>if x9 < (x1.length : Int) then (thresherlaw04_SchemaAll.j1 k x1 x2 x7 x8 x9 (decide (x9 < 70)) x535000 x535001 x535002 x535003) else (thresherlaw04_SchemaAll.j1 k x1 x2 x7 x8 x9 false x535000 x535001 x535002 x535003)
def thresherlaw04_SchemaAll.j1 : Nat→List (List (S34))→List Int→Bool→List (List (S34))→Int→Bool→List Int→Int→Int→Int→Option (Bool)
 | 0,_,_,_,_,_,_,_,_,_,_=>none
 | k + 1,x1,x2,x7,x8,x9,x28,x535000,x535001,x535002,x535003=>if x28=true then (if 0≤x9 then (if x9 < (x1.length : Int) then ((thresherlaw04_short.f k (rd_L6 x1 x9)).bind fun t546=>(if x8.length < 5864062014805 then ((schema_Row.f x535000 x535001 x535002 x535003 t546).bind fun t552=>((thresherref04_Row.f k x535000 x535001 x535002 x535003 t546).bind fun t553=>(if (t552 != t553)=true then (some false) else (thresherlaw04_SchemaAll.l0 k x1 x2 x7 (x8 ++ [t546]) (wrap64 (x9 + 1)) x535000 x535001 x535002 x535003)))) else (none))) else (none)) else (none)) else (if (x2.length : Int) > 300 then (if 300≤(x2.length : Int) then (thresherlaw04_SchemaAll.j2 k (x2.take 300) x7 x8 x535000 x535001 x535002 x535003) else (none)) else (thresherlaw04_SchemaAll.j2 k x2 x7 x8 x535000 x535001 x535002 x535003))
def thresherlaw04_SchemaAll.j2 : Nat→List Int→Bool→List (List (S34))→List Int→Int→Int→Int→Option (Bool)
 | 0,_,_,_,_,_,_,_=>none
 | k + 1,x2,x7,x8,x535000,x535001,x535002,x535003=>(schema_Take.f k x2).bind fun bt559=>((thresherref04_Take.f k x2).bind fun bt567=>((thresherref04_Same.f k bt559.1 bt559.2.1 bt559.2.2.1 bt559.2.2.2.1 bt567.1 bt567.2.1 bt567.2.2.1 bt567.2.2.2.1).bind fun t575=>((schema_Check.f x535000 x535001 x535002 x535003).bind fun t576=>((thresherref04_Check.f k x535000 x535001 x535002 x535003).bind fun t577=>(if t576=t577 then ((schema_Batch.f x535000 x535001 x535002 x535003 x8).bind fun t578=>((thresherref04_Batch.f k x535000 x535001 x535002 x535003 x8).bind fun t579=>(if t578=t579 then (if t575=true then (thresherlaw04_SchemaAll.j3 k x7 t576 (bt559.2.2.2.2 != bt567.2.2.2.2) x535000 x535001 x535002 x535003) else (thresherlaw04_SchemaAll.j3 k x7 t576 true x535000 x535001 x535002 x535003)) else (thresherlaw04_SchemaAll.j3 k x7 t576 true x535000 x535001 x535002 x535003)))) else (thresherlaw04_SchemaAll.j3 k x7 t576 true x535000 x535001 x535002 x535003))))))
def thresherlaw04_SchemaAll.j3 : Nat→Bool→Int→Bool→List Int→Int→Int→Int→Option (Bool)
 | 0,_,_,_,_,_,_,_=>none
 | k + 1,x7,x16,x88,x535000,x535001,x535002,x535003=>if x88=true then (some false) else (if x7=true then (if x16=0 then ((schema_Put.f k x535000 x535001 x535002 x535003).bind fun t580=>((thresherref04_Put.f k x535000 x535001 x535002 x535003).bind fun t583=>(some ((strOfNums t580).toList == (strOfNums t583).toList)))) else (some true)) else (some false))
end
def thresherlaw04_SchemaAll.f (k : Nat) (l0_0 : List Int) (a0_1 : Int) (a0_2 : Int) (a0_3 : Int) (l1 : List (List (S34))) (l2 : List Int) : Option (Bool):=(thresherlaw04_shown.f k).bind fun t535=>((thresherlaw04_few.f l0_0 a0_1 a0_2 a0_3).bind fun bt536=>(thresherlaw04_SchemaAll.l0 k l1 l2 t535 (([] : List (List (S34)))) 0 bt536.1 bt536.2.1 bt536.2.2.1 bt536.2.2.2))
theorem thresherlaw04_SchemaAll.mono_l : ∀ k,(∀ y0 y1 y2 y3 y4 y5 y6 y7 y8,LeO (thresherlaw04_SchemaAll.l0 k y0 y1 y2 y3 y4 y5 y6 y7 y8) (thresherlaw04_SchemaAll.l0 (k + 1) y0 y1 y2 y3 y4 y5 y6 y7 y8))∧(∀ y0 y1 y2 y3 y4 y5 y6 y7 y8 y9,LeO (thresherlaw04_SchemaAll.j1 k y0 y1 y2 y3 y4 y5 y6 y7 y8 y9) (thresherlaw04_SchemaAll.j1 (k + 1) y0 y1 y2 y3 y4 y5 y6 y7 y8 y9))∧(∀ y0 y1 y2 y3 y4 y5 y6,LeO (thresherlaw04_SchemaAll.j2 k y0 y1 y2 y3 y4 y5 y6) (thresherlaw04_SchemaAll.j2 (k + 1) y0 y1 y2 y3 y4 y5 y6))∧(∀ y0 y1 y2 y3 y4 y5 y6,LeO (thresherlaw04_SchemaAll.j3 k y0 y1 y2 y3 y4 y5 y6) (thresherlaw04_SchemaAll.j3 (k + 1) y0 y1 y2 y3 y4 y5 y6))
 | 0=>⟨fun _ _ _ _ _ _ _ _ _ r h=>by simp [thresherlaw04_SchemaAll.l0] at h,fun _ _ _ _ _ _ _ _ _ _ r h=>by simp [thresherlaw04_SchemaAll.j1] at h,fun _ _ _ _ _ _ _ r h=>by simp [thresherlaw04_SchemaAll.j2] at h,fun _ _ _ _ _ _ _ r h=>by simp [thresherlaw04_SchemaAll.j3] at h⟩
 | k + 1=>by
  obtain ⟨ih0,ih1,ih2,ih3⟩:=thresherlaw04_SchemaAll.mono_l k
  refine ⟨?_,?_,?_,?_⟩
  ·intro y0 y1 y2 y3 y4 y5 y6 y7 y8
   unfold thresherlaw04_SchemaAll.l0
   repeat' first
   | (with_reducible exact ih0 _ _ _ _ _ _ _ _ _)
   | (with_reducible exact ih1 _ _ _ _ _ _ _ _ _ _)
   | (with_reducible exact ih2 _ _ _ _ _ _ _)
   | (with_reducible exact ih3 _ _ _ _ _ _ _)
   | (with_reducible exact schema_Put.mono _ _ _ _ _)
   | (with_reducible exact schema_Take.mono _ _)
   | (with_reducible exact thresherlaw04_short.mono _ _)
   | (with_reducible exact thresherlaw04_shown.mono _)
   | (with_reducible exact thresherref04_Batch.mono _ _ _ _ _ _)
   | (with_reducible exact thresherref04_Check.mono _ _ _ _ _)
   | (with_reducible exact thresherref04_Put.mono _ _ _ _ _)
   | (with_reducible exact thresherref04_Row.mono _ _ _ _ _ _)
   | (with_reducible exact thresherref04_Same.mono _ _ _ _ _ _ _ _ _)
   | (with_reducible exact thresherref04_Take.mono _ _)
   | (with_reducible exact LeO.refl _)
   | (with_reducible exact LeO.none _)
   | (with_reducible refine LeO.ite ?_ ?_)
   | (with_reducible refine LeO.bind ?_ (fun _=>?_))
   | exact ih0 _ _ _ _ _ _ _ _ _
   | exact ih1 _ _ _ _ _ _ _ _ _ _
   | exact ih2 _ _ _ _ _ _ _
   | exact ih3 _ _ _ _ _ _ _
   | exact schema_Put.mono _ _ _ _ _
   | exact schema_Take.mono _ _
   | exact thresherlaw04_short.mono _ _
   | exact thresherlaw04_shown.mono _
   | exact thresherref04_Batch.mono _ _ _ _ _ _
   | exact thresherref04_Check.mono _ _ _ _ _
   | exact thresherref04_Put.mono _ _ _ _ _
   | exact thresherref04_Row.mono _ _ _ _ _ _
   | exact thresherref04_Same.mono _ _ _ _ _ _ _ _ _
   | exact thresherref04_Take.mono _ _
   | exact LeO.none _
   | refine LeO.ite ?_ ?_
   | refine LeO.bind ?_ (fun _=>?_)
  ·intro y0 y1 y2 y3 y4 y5 y6 y7 y8 y9
   unfold thresherlaw04_SchemaAll.j1
   repeat' first
   | (with_reducible exact ih0 _ _ _ _ _ _ _ _ _)
   | (with_reducible exact ih1 _ _ _ _ _ _ _ _ _ _)
   | (with_reducible exact ih2 _ _ _ _ _ _ _)
   | (with_reducible exact ih3 _ _ _ _ _ _ _)
   | (with_reducible exact schema_Put.mono _ _ _ _ _)
   | (with_reducible exact schema_Take.mono _ _)
   | (with_reducible exact thresherlaw04_short.mono _ _)
   | (with_reducible exact thresherlaw04_shown.mono _)
   | (with_reducible exact thresherref04_Batch.mono _ _ _ _ _ _)
   | (with_reducible exact thresherref04_Check.mono _ _ _ _ _)
   | (with_reducible exact thresherref04_Put.mono _ _ _ _ _)
   | (with_reducible exact thresherref04_Row.mono _ _ _ _ _ _)
   | (with_reducible exact thresherref04_Same.mono _ _ _ _ _ _ _ _ _)
   | (with_reducible exact thresherref04_Take.mono _ _)
   | (with_reducible exact LeO.refl _)
   | (with_reducible exact LeO.none _)
   | (with_reducible refine LeO.ite ?_ ?_)
   | (with_reducible refine LeO.bind ?_ (fun _=>?_))
   | exact ih0 _ _ _ _ _ _ _ _ _
   | exact ih1 _ _ _ _ _ _ _ _ _ _
   | exact ih2 _ _ _ _ _ _ _
   | exact ih3 _ _ _ _ _ _ _
   | exact schema_Put.mono _ _ _ _ _
   | exact schema_Take.mono _ _
   | exact thresherlaw04_short.mono _ _
   | exact thresherlaw04_shown.mono _
   | exact thresherref04_Batch.mono _ _ _ _ _ _
   | exact thresherref04_Check.mono _ _ _ _ _
   | exact thresherref04_Put.mono _ _ _ _ _
   | exact thresherref04_Row.mono _ _ _ _ _ _
   | exact thresherref04_Same.mono _ _ _ _ _ _ _ _ _
   | exact thresherref04_Take.mono _ _
   | exact LeO.none _
   | refine LeO.ite ?_ ?_
   | refine LeO.bind ?_ (fun _=>?_)
  ·intro y0 y1 y2 y3 y4 y5 y6
   unfold thresherlaw04_SchemaAll.j2
   repeat' first
   | (with_reducible exact ih0 _ _ _ _ _ _ _ _ _)
   | (with_reducible exact ih1 _ _ _ _ _ _ _ _ _ _)
   | (with_reducible exact ih2 _ _ _ _ _ _ _)
   | (with_reducible exact ih3 _ _ _ _ _ _ _)
   | (with_reducible exact schema_Put.mono _ _ _ _ _)
   | (with_reducible exact schema_Take.mono _ _)
   | (with_reducible exact thresherlaw04_short.mono _ _)
   | (with_reducible exact thresherlaw04_shown.mono _)
   | (with_reducible exact thresherref04_Batch.mono _ _ _ _ _ _)
   | (with_reducible exact thresherref04_Check.mono _ _ _ _ _)
   | (with_reducible exact thresherref04_Put.mono _ _ _ _ _)
   | (with_reducible exact thresherref04_Row.mono _ _ _ _ _ _)
   | (with_reducible exact thresherref04_Same.mono _ _ _ _ _ _ _ _ _)
   | (with_reducible exact thresherref04_Take.mono _ _)
   | (with_reducible exact LeO.refl _)
   | (with_reducible exact LeO.none _)
   | (with_reducible refine LeO.ite ?_ ?_)
   | (with_reducible refine LeO.bind ?_ (fun _=>?_))
   | exact ih0 _ _ _ _ _ _ _ _ _
   | exact ih1 _ _ _ _ _ _ _ _ _ _
   | exact ih2 _ _ _ _ _ _ _
   | exact ih3 _ _ _ _ _ _ _
   | exact schema_Put.mono _ _ _ _ _
   | exact schema_Take.mono _ _
   | exact thresherlaw04_short.mono _ _
   | exact thresherlaw04_shown.mono _
   | exact thresherref04_Batch.mono _ _ _ _ _ _
   | exact thresherref04_Check.mono _ _ _ _ _
   | exact thresherref04_Put.mono _ _ _ _ _
   | exact thresherref04_Row.mono _ _ _ _ _ _
   | exact thresherref04_Same.mono _ _ _ _ _ _ _ _ _
   | exact thresherref04_Take.mono _ _
   | exact LeO.none _
   | refine LeO.ite ?_ ?_
   | refine LeO.bind ?_ (fun _=>?_)
  ·intro y0 y1 y2 y3 y4 y5 y6
   unfold thresherlaw04_SchemaAll.j3
   repeat' first
   | (with_reducible exact ih0 _ _ _ _ _ _ _ _ _)
   | (with_reducible exact ih1 _ _ _ _ _ _ _ _ _ _)
   | (with_reducible exact ih2 _ _ _ _ _ _ _)
   | (with_reducible exact ih3 _ _ _ _ _ _ _)
   | (with_reducible exact schema_Put.mono _ _ _ _ _)
   | (with_reducible exact schema_Take.mono _ _)
   | (with_reducible exact thresherlaw04_short.mono _ _)
   | (with_reducible exact thresherlaw04_shown.mono _)
   | (with_reducible exact thresherref04_Batch.mono _ _ _ _ _ _)
   | (with_reducible exact thresherref04_Check.mono _ _ _ _ _)
   | (with_reducible exact thresherref04_Put.mono _ _ _ _ _)
   | (with_reducible exact thresherref04_Row.mono _ _ _ _ _ _)
   | (with_reducible exact thresherref04_Same.mono _ _ _ _ _ _ _ _ _)
   | (with_reducible exact thresherref04_Take.mono _ _)
   | (with_reducible exact LeO.refl _)
   | (with_reducible exact LeO.none _)
   | (with_reducible refine LeO.ite ?_ ?_)
   | (with_reducible refine LeO.bind ?_ (fun _=>?_))
   | exact ih0 _ _ _ _ _ _ _ _ _
   | exact ih1 _ _ _ _ _ _ _ _ _ _
   | exact ih2 _ _ _ _ _ _ _
   | exact ih3 _ _ _ _ _ _ _
   | exact schema_Put.mono _ _ _ _ _
   | exact schema_Take.mono _ _
   | exact thresherlaw04_short.mono _ _
   | exact thresherlaw04_shown.mono _
   | exact thresherref04_Batch.mono _ _ _ _ _ _
   | exact thresherref04_Check.mono _ _ _ _ _
   | exact thresherref04_Put.mono _ _ _ _ _
   | exact thresherref04_Row.mono _ _ _ _ _ _
   | exact thresherref04_Same.mono _ _ _ _ _ _ _ _ _
   | exact thresherref04_Take.mono _ _
   | exact LeO.none _
   | refine LeO.ite ?_ ?_
   | refine LeO.bind ?_ (fun _=>?_)
theorem thresherlaw04_SchemaAll.mono : ∀ a0 a1 a2 a3 a4 a5 k,LeO (thresherlaw04_SchemaAll.f k a0 a1 a2 a3 a4 a5) (thresherlaw04_SchemaAll.f (k + 1) a0 a1 a2 a3 a4 a5):=by
 intro a0 a1 a2 a3 a4 a5 k
 obtain ⟨ih0,ih1,ih2,ih3⟩:=thresherlaw04_SchemaAll.mono_l k
 unfold thresherlaw04_SchemaAll.f
 repeat' first
   | (with_reducible exact ih0 _ _ _ _ _ _ _ _ _)
   | (with_reducible exact ih1 _ _ _ _ _ _ _ _ _ _)
   | (with_reducible exact ih2 _ _ _ _ _ _ _)
   | (with_reducible exact ih3 _ _ _ _ _ _ _)
   | (with_reducible exact schema_Put.mono _ _ _ _ _)
   | (with_reducible exact schema_Take.mono _ _)
   | (with_reducible exact thresherlaw04_short.mono _ _)
   | (with_reducible exact thresherlaw04_shown.mono _)
   | (with_reducible exact thresherref04_Batch.mono _ _ _ _ _ _)
   | (with_reducible exact thresherref04_Check.mono _ _ _ _ _)
   | (with_reducible exact thresherref04_Put.mono _ _ _ _ _)
   | (with_reducible exact thresherref04_Row.mono _ _ _ _ _ _)
   | (with_reducible exact thresherref04_Same.mono _ _ _ _ _ _ _ _ _)
   | (with_reducible exact thresherref04_Take.mono _ _)
   | (with_reducible exact LeO.refl _)
   | (with_reducible exact LeO.none _)
   | (with_reducible refine LeO.ite ?_ ?_)
   | (with_reducible refine LeO.bind ?_ (fun _=>?_))
   | exact ih0 _ _ _ _ _ _ _ _ _
   | exact ih1 _ _ _ _ _ _ _ _ _ _
   | exact ih2 _ _ _ _ _ _ _
   | exact ih3 _ _ _ _ _ _ _
   | exact schema_Put.mono _ _ _ _ _
   | exact schema_Take.mono _ _
   | exact thresherlaw04_short.mono _ _
   | exact thresherlaw04_shown.mono _
   | exact thresherref04_Batch.mono _ _ _ _ _ _
   | exact thresherref04_Check.mono _ _ _ _ _
   | exact thresherref04_Put.mono _ _ _ _ _
   | exact thresherref04_Row.mono _ _ _ _ _ _
   | exact thresherref04_Same.mono _ _ _ _ _ _ _ _ _
   | exact thresherref04_Take.mono _ _
   | exact LeO.none _
   | refine LeO.ite ?_ ?_
   | refine LeO.bind ?_ (fun _=>?_)
def thresherlaw04_SchemaAll.T17 : Bool × List (List Nat × List Nat):=(true,[([],[]),([],[]),([1],[1]),([0,2],[0,2]),([3,2],[3]),([4],[4]),([4],[4]),([5,6,4,4],[4,5,6]),([4],[4]),([4],[4]),([8,9,7,4],[4,8,9]),([7,10,4],[4,7,10]),([4,11],[4,11]),([12,10],[12]),([13],[13]),([14,13],[13,14]),([13,15],[13,15]),([16,13],[16]),([17],[17]),([17],[17]),([18,19,17],[17,18,19]),([17,20],[17,20])])
def thresherlaw04_SchemaAll.B17 : List Nat:=[0,0,2,7,15,31,31,127,31,31,1023,2047,4095,8191,16383,32767,65535,131071,262143,262143,1048575,2097151]
theorem thresherlaw04_SchemaAll.tab17 : rtab .any (opsOf Try.f8 17)=thresherlaw04_SchemaAll.T17:=by kernel_rfl
theorem thresherlaw04_SchemaAll.bits17 : waitsOk thresherlaw04_SchemaAll.T17.2 thresherlaw04_SchemaAll.B17=true:=by kernel_rfl
def thresherlaw04_SchemaAll.T19 : Bool × List (List Nat × List Nat):=(true,[([],[]),([0],[0]),([1],[1]),([2,1],[1,2]),([3,1,1],[1,3]),([4],[4]),([5,4,4],[4,5]),([6,4],[4,6]),([4],[4]),([8,6,4],[4,8]),([9,4],[4,9]),([7,10,4],[4,7,10]),([4,11,1],[1,4,11]),([1,12],[1,12]),([13,9,0,1,2,3,4,5,6,7,8,9,10,11,12,13],[13])])
def thresherlaw04_SchemaAll.B19 : List Nat:=[0,1,3,7,15,31,63,127,31,383,895,2047,4095,8191,16383]
theorem thresherlaw04_SchemaAll.tab19 : rtab .any (opsOf Try.f8 19)=thresherlaw04_SchemaAll.T19:=by kernel_rfl
theorem thresherlaw04_SchemaAll.bits19 : waitsOk thresherlaw04_SchemaAll.T19.2 thresherlaw04_SchemaAll.B19=true:=by kernel_rfl
set_option maxHeartbeats 8000000 in
set_option maxRecDepth 100000 in
theorem thresherlaw04_SchemaAll.calls (k : Nat) (P0_0_ : Nat→Prop) (A0_0 : Option Addr) (c0_0 : Nat) (l0_0 : List Int) (a0_1 : Int) (a0_2 : Int) (a0_3 : Int) (A1 : Option Addr) (c1 : Nat) (l1 : List (List (S34))) (P2_ : Nat→Prop) (A2 : Option Addr) (c2 : Nat) (l2 : List Int) (r : Bool) (w : World) (hs0_0 : Kd.V (Kd.int .i64) 3 w w.heap.size (fun k_=>P0_0_ k_) (.slice A0_0 l0_0.length c0_0) l0_0) (hr1 : Kd.C (Kd.slice 34 k34) w A1 l1.length l1) (hc1 : l1.length≤c1) (hs2 : Kd.V (Kd.int .u8) 5 w w.heap.size (fun k_=>P2_ k_) (.slice A2 l2.length c2) l2) (h : thresherlaw04_SchemaAll.f k l0_0 a0_1 a0_2 a0_3 l1 l2=some r) :
  Calls Try.prog 8 #[.agg #[.slice A0_0 l0_0.length c0_0,.int .i64 a0_1,.int .i64 a0_2,.int .i64 a0_3],.slice A1 l1.length c1,.slice A2 l2.length c2] w fun e w'=>e=.returned (.bool r)∧Below w.heap.size w w':=by
 have hu30:=Try.underlying30
 have HO0_0:=Aside0.mk (show Kd.V (Kd.int .i64) 3 w w.heap.size (fun k_=>((P0_0_ k_ ∨ P2_ k_) ∨ w.heap.size≤k_)) (.slice A0_0 l0_0.length c0_0) l0_0 from Kd.V_mono hs0_0 (fun k_ hk=>.inl (.inl hk)))
 have HR1:=Aside0.mk hr1
 have HC1:=Aside0.mk hc1
 clear hr1 hc1
 have HO2:=Aside0.mk (show Kd.V (Kd.int .u8) 5 w w.heap.size (fun k_=>((P0_0_ k_ ∨ P2_ k_) ∨ w.heap.size≤k_)) (.slice A2 l2.length c2) l2 from Kd.V_mono hs2 (fun k_ hk=>.inl (.inr hk)))
 have HB:=Aside0.mk (Below.refl w.heap.size w)
 have H : ((thresherlaw04_shown.f k).bind fun t535=>((thresherlaw04_few.f l0_0 a0_1 a0_2 a0_3).bind fun bt536=>(thresherlaw04_SchemaAll.l0 k l1 l2 t535 (([] : List (List (S34)))) 0 bt536.1 bt536.2.1 bt536.2.2.1 bt536.2.2.2)))=some r:=h
 clear h
 replace H:=Option.bind_eq_some_iff.mp H
 obtain ⟨t535,A40,H⟩:=H
 replace H : ((thresherlaw04_few.f l0_0 a0_1 a0_2 a0_3).bind fun bt536=>(thresherlaw04_SchemaAll.l0 k l1 l2 t535 (([] : List (List (S34)))) 0 bt536.1 bt536.2.1 bt536.2.2.1 bt536.2.2.2))=some r:=H
 have A4:=Aside0.mk A40
 clear A40
 replace H:=Option.bind_eq_some_iff.mp H
 obtain ⟨⟨t536,t539,t540,t541⟩,A50,H⟩:=H
 replace H : (thresherlaw04_SchemaAll.l0 k l1 l2 t535 (([] : List (List (S34)))) 0 t536 t539 t540 t541)=some r:=H
 have A5:=Aside0.mk A50
 clear A50
 obtain ⟨y542,hy542⟩ : ∃ y_ : List (List (S34)),y_=(([] : List (List (S34)))):=⟨_,rfl⟩
 replace H : (thresherlaw04_SchemaAll.l0 k l1 l2 t535 y542 0 t536 t539 t540 t541)=some r:=by first|(rw [hy542];with_reducible exact H)|(have H2_:=(Option.bind_some _ _).symm.trans H;rw [hy542];with_reducible exact H2_)|(have H2_:=(Option.bind_some _ _).symm.trans H;with_reducible exact H2_)|with_reducible exact H|(rw [hy542];exact H)|exact H
 have Ny542:=Aside0.mk hy542
 clear hy542
 have H':=Aside0.mk H
 clear H
 go_enter Try.func8,Try.ntmps8
 go_wp2_with (first|((with_reducible refine gate_dst (N:=3) rfl ?_);refine box_event ?hg (N:=3) ?hd (cs:=#[.slice A0_0 l0_0.length c0_0,.int .i64 a0_1,.int .i64 a0_2,.int .i64 a0_3]) (t:=30) ?hr ?_;(case hd=>rfl);(case hg=>rfl);(case hr=>first|(go_simp;done)|(go_simp;rfl));intro gb534 hg w6 hbox hb;have n0_:=Aside0.mk (Kd.V_below (Kd.V_elderB (V_up HO0_0.out) gb534 (Nat.le_of_eq hg.symm)) hb);have n1_:=Aside0.mk (Kd.V_below (Kd.V_elderB (V_up HO2.out) gb534 (Nat.le_of_eq hg.symm)) hb);have n2_:=Aside0.mk (below_step (below_up HB.out) hb);have n3_:=Aside0.mk (hbox);have n4_:=Aside0.mk ((by rw [hg];exact (below_size (below_up HB.out)) : w.heap.size≤gb534));have n5_:=Aside0.mk ((by rw [hg];exact (below_size (below_up HB.out)) : w.heap.size≤gb534));clear HO0_0;clear HO2;clear HB;have HO0_0:=n0_;have HO2:=n1_;have HB:=n2_;have BK534:=n3_;have GW534:=n4_;have GE534:=n5_;clear n0_ n1_ n2_ n3_ n4_ n5_;clear hb hbox hg)|((with_reducible refine gate_callee (f:=9) rfl ?_);refine goesL_ (some 17) rfl rfl Try.func9 (by kernel_rfl) rfl #[] rfl (by (try simp only [List.map_toArray,List.map_cons,List.map_nil]);first|done|rfl|(simp only [List.length_drop,List.length_take];rfl)) ?_;(with_reducible refine (thresherlaw04_shown.calls k  t535 _ A4.out).mono ?_);rintro e w7 ⟨rfl,hb⟩;refine ⟨_,rfl,?_⟩;have n0_:=Aside0.mk (Kd.V_below (V_up HO0_0.out) hb);have n1_:=Aside0.mk (Kd.V_below (V_up HO2.out) hb);have n2_:=Aside0.mk (blk_below (blk_up BK534.out) hb);have n3_:=Aside0.mk (below_step (below_go HB.out) hb);clear HO0_0;clear HO2;clear BK534;clear HB;have HO0_0:=n0_;have HO2:=n1_;have BK534:=n2_;have HB:=n3_;clear n0_ n1_ n2_ n3_;(try clear hb);(try clear hb2);(try clear hk);(try clear hi);have hcz8_0 : w7.cell? ⟨gb534,0,none⟩=some (.slice A0_0 l0_0.length c0_0):=(blk_cell BK534.out 0).trans rfl;have hcz8_1 : w7.cell? ⟨gb534,1,none⟩=some (.int .i64 a0_1):=(blk_cell BK534.out 1).trans rfl;have hcz8_2 : w7.cell? ⟨gb534,2,none⟩=some (.int .i64 a0_2):=(blk_cell BK534.out 2).trans rfl;have hcz8_3 : w7.cell? ⟨gb534,3,none⟩=some (.int .i64 a0_3):=(blk_cell BK534.out 3).trans rfl;have hfz8_0:=blk_frozen BK534.out 0;have hfz8_1:=blk_frozen BK534.out 1;have hfz8_2:=blk_frozen BK534.out 2;have hfz8_3:=blk_frozen BK534.out 3)|((with_reducible refine gate_callee (f:=20) rfl ?_);refine goesL_ (some 19) rfl rfl Try.func20 (by kernel_rfl) rfl #[.agg #[.slice A0_0 l0_0.length c0_0,.int .i64 a0_1,.int .i64 a0_2,.int .i64 a0_3]] rfl (by (try simp only [List.map_toArray,List.map_cons,List.map_nil]);first|done|rfl|(simp only [List.length_drop,List.length_take];rfl)) ?_;(with_reducible refine (thresherlaw04_few.calls (fun k_=>(((P0_0_ k_ ∨ P2_ k_) ∨ w.heap.size≤k_)∧k_≠gb534)) _ _ l0_0 a0_1 a0_2 a0_3 t536 t539 t540 t541 _ ?side1 A5.out).mono ?_);(case side1=>exact HO0_0.out);rintro e w9 ⟨v537,rfl,ho0,hb⟩;refine ⟨_,rfl,?_⟩;have n0_:=Aside0.mk (Kd.V_below (V_up HO0_0.out) hb);have n1_:=Aside0.mk (Kd.V_below (V_up HO2.out) hb);have n2_:=Aside0.mk (Kd.V_lower (Kd.V_mono (ok':=fun k_=>((P0_0_ k_ ∨ P2_ k_) ∨ w.heap.size≤k_)∧k_≠gb534) ho0 (fun k_ hk_=>⟨Or.elim hk_ (fun hs_=>hs_.1) (fun hn_=>(.inr (Nat.le_trans (below_size (below_go HB.out)) hn_))),Or.elim hk_ (fun hs_=>hs_.2) (fun hn_=>(Kd.freshB (blk_up BK534.out) k_ hn_))⟩)) (below_size (below_go HB.out)));have n3_:=Aside0.mk (blk_below (blk_up BK534.out) hb);have n4_:=Aside0.mk (below_step (below_go HB.out) hb);clear HO0_0;clear HO2;clear BK534;clear HB;have HO0_0:=n0_;have HO2:=n1_;have HO538:=n2_;have BK534:=n3_;have HB:=n4_;clear n0_ n1_ n2_ n3_ n4_;(try clear hb);(try clear hb2);(try clear hk);(try clear hi);(try clear ho0);obtain ⟨Ao10,co10,eo10⟩:=Kd.V_slice HO538.out;subst eo10;have hcz11_0 : w9.cell? ⟨gb534,0,none⟩=some (.slice A0_0 l0_0.length c0_0):=(blk_cell BK534.out 0).trans rfl;have hcz11_1 : w9.cell? ⟨gb534,1,none⟩=some (.int .i64 a0_1):=(blk_cell BK534.out 1).trans rfl;have hcz11_2 : w9.cell? ⟨gb534,2,none⟩=some (.int .i64 a0_2):=(blk_cell BK534.out 2).trans rfl;have hcz11_3 : w9.cell? ⟨gb534,3,none⟩=some (.int .i64 a0_3):=(blk_cell BK534.out 3).trans rfl;have hfz11_0:=blk_frozen BK534.out 0;have hfz11_1:=blk_frozen BK534.out 1;have hfz11_2:=blk_frozen BK534.out 2;have hfz11_3:=blk_frozen BK534.out 3)|((with_reducible refine gate_dst (N:=20) rfl ?_);refine Kd.S_lit (Kd.slice 34 k34) _ 26 ?hg (N:=20) ?hd (xs:=([] : List (List (S34)))) (inner:=[]) (ok:=fun _=>True) (okp:=fun _=>True) ?hr ?hp (fun _ hk=>hk) trivial (Below.refl _ _) (Nat.le_refl _) (by simp) ?_;(case hd=>rfl);(case hg=>rfl);(case hr=>first|(go_simp;done)|(go_simp;rfl));(case hp=>exact (Reps.none _ _));intro v543 w12 ho13 hb hg_ hnew_;clear hg_ hnew_;(first|rw [← Ny542.out] at ho13|(simp only [Int.reduceToNat] at ho13;rw [← Ny542.out] at ho13));have n0_:=Aside0.mk (Kd.V_elder' (by (with_reducible repeat (first|apply Kd.V_alloc|apply Kd.V_drewN|apply Kd.V_drew));exact (Kd.V_mono (Kd.V_far (p:=⟨gb534,3,none⟩) (Kd.V_far (p:=⟨gb534,2,none⟩) (Kd.V_far (p:=⟨gb534,1,none⟩) (Kd.V_far (p:=⟨gb534,0,none⟩) (Kd.V_mono HO0_0.out (fun k_ hk=>(⟨hk,hk.2⟩ : _∧k_≠gb534))) (fun _ hk=>hk.2) (.slice Ao10 t536.length co10)) (fun _ hk=>hk.2) (.int .i64 t539)) (fun _ hk=>hk.2) (.int .i64 t540)) (fun _ hk=>hk.2) (.int .i64 t541)) (fun _ h_=>h_.1))) (Kd.S_base ho13) hb);have n1_:=Aside0.mk (Kd.V_elder' (by (with_reducible repeat (first|apply Kd.V_alloc|apply Kd.V_drewN|apply Kd.V_drew));exact (Kd.V_mono (Kd.V_far (p:=⟨gb534,3,none⟩) (Kd.V_far (p:=⟨gb534,2,none⟩) (Kd.V_far (p:=⟨gb534,1,none⟩) (Kd.V_far (p:=⟨gb534,0,none⟩) (Kd.V_mono HO2.out (fun k_ hk=>(⟨hk,hk.2⟩ : _∧k_≠gb534))) (fun _ hk=>hk.2) (.slice Ao10 t536.length co10)) (fun _ hk=>hk.2) (.int .i64 t539)) (fun _ hk=>hk.2) (.int .i64 t540)) (fun _ hk=>hk.2) (.int .i64 t541)) (fun _ h_=>h_.1))) (Kd.S_base ho13) hb);have n2_:=Aside0.mk (Kd.V_elder' (by (with_reducible repeat (first|apply Kd.V_alloc|apply Kd.V_drewN|apply Kd.V_drew));exact (Kd.V_mono (Kd.V_far (p:=⟨gb534,3,none⟩) (Kd.V_far (p:=⟨gb534,2,none⟩) (Kd.V_far (p:=⟨gb534,1,none⟩) (Kd.V_far (p:=⟨gb534,0,none⟩) (Kd.V_mono HO538.out (fun k_ hk=>(⟨hk,hk.2⟩ : _∧k_≠gb534))) (fun _ hk=>hk.2) (.slice Ao10 t536.length co10)) (fun _ hk=>hk.2) (.int .i64 t539)) (fun _ hk=>hk.2) (.int .i64 t540)) (fun _ hk=>hk.2) (.int .i64 t541)) (fun _ h_=>h_.1))) (Kd.S_base ho13) hb);have n3_:=Aside0.mk (Kd.S_lower (Kd.S_newM (M:=fun k_=>(w.heap.size≤k_)) ho13 (below_size (below_go HB.out)) (fun k_ h_=>h_)) (below_size (below_go HB.out)));have n4_:=Aside0.mk (blk_below (g:=gb534) (o:=.cells #[.slice Ao10 t536.length co10,.int .i64 t539,.int .i64 t540,.int .i64 t541] 30 (0,0)) (by (with_reducible repeat (first|refine blk_drewN ?_ _|refine blk_drew ?_|refine blk_alloc ?_ _));refine blk_put (cs:=#[.slice Ao10 t536.length co10,.int .i64 t539,.int .i64 t540,.int .i64 a0_3]) ?_ 3 _ rfl;(with_reducible repeat (first|refine blk_drewN ?_ _|refine blk_drew ?_|refine blk_alloc ?_ _));refine blk_put (cs:=#[.slice Ao10 t536.length co10,.int .i64 t539,.int .i64 a0_2,.int .i64 a0_3]) ?_ 2 _ rfl;(with_reducible repeat (first|refine blk_drewN ?_ _|refine blk_drew ?_|refine blk_alloc ?_ _));refine blk_put (cs:=#[.slice Ao10 t536.length co10,.int .i64 a0_1,.int .i64 a0_2,.int .i64 a0_3]) ?_ 1 _ rfl;(with_reducible repeat (first|refine blk_drewN ?_ _|refine blk_drew ?_|refine blk_alloc ?_ _));refine blk_put (cs:=#[.slice A0_0 l0_0.length c0_0,.int .i64 a0_1,.int .i64 a0_2,.int .i64 a0_3]) ?_ 0 _ rfl;(with_reducible repeat (first|refine blk_drewN ?_ _|refine blk_drew ?_|refine blk_alloc ?_ _));exact BK534.out) hb);have n5_:=Aside0.mk (below_step (below_go HB.out) hb);clear HO0_0;clear HO2;clear HO538;clear BK534;clear HB;have HO0_0:=n0_;have HO2:=n1_;have HO538:=n2_;have HO544:=n3_;have BK534:=n4_;have HB:=n5_;clear n0_ n1_ n2_ n3_ n4_ n5_;clear hb ho13))
 go_loopg [8,9] k (fun kq v8 v9 w'=>∃ (x8_1 : List (List (S34))) (x9_1 : Int),v9=.int .i64 x9_1∧Aside0 (thresherlaw04_SchemaAll.l0 kq l1 l2 t535 x8_1 x9_1 t536 t539 t540 t541=some r)∧Aside0 (kq≤k)∧Aside0 (Kd.V (Kd.int .u8) 5 w' w.heap.size (fun k_=>((P0_0_ k_ ∨ P2_ k_) ∨ w.heap.size≤k_)∧some k_≠(v8 : Value).ownBlock∧k_≠gb534) (.slice A2 l2.length c2) l2)∧Aside0 (Kd.S (Kd.slice 34 k34) 26 w' w.heap.size (fun k_=>(w.heap.size≤k_)) v8 x8_1)∧Aside0 (Kd.V (Kd.int .i64) 3 w' w.heap.size (fun k_=>((P0_0_ k_ ∨ P2_ k_) ∨ w.heap.size≤k_)∧some k_≠(v8 : Value).ownBlock∧k_≠gb534) (.slice Ao10 t536.length co10) t536)∧Aside0 (w'.heap[gb534]?=some (.cells #[(.slice Ao10 t536.length co10),.int .i64 t539,.int .i64 t540,.int .i64 t541] 30 (0,0)))∧Aside0 (Below w.heap.size w w'))
 case atStart=>exact ⟨(y542),(0),(by first|rfl|(simp;done)|(simp [*];done)),H',⟨Nat.le_refl _⟩,⟨by (with_reducible repeat (first|apply Kd.V_alloc|apply Kd.V_drewN|apply Kd.V_drew));exact Kd.V_mono HO2.out (fun _ hk=>⟨hk.1.1,⟨hk.2,hk.1.2⟩⟩)⟩,⟨by (with_reducible repeat (first|apply Kd.S_alloc|apply Kd.S_drewN|apply Kd.S_drew));exact Kd.S_mono HO544.out (fun _ hk=>hk.1)⟩,⟨by (with_reducible repeat (first|apply Kd.V_alloc|apply Kd.V_drewN|apply Kd.V_drew));exact Kd.V_mono HO538.out (fun _ hk=>⟨hk.1.1,⟨hk.2,hk.1.2⟩⟩)⟩,⟨by (with_reducible repeat (first|refine blk_drewN ?_ _|refine blk_drew ?_|refine blk_alloc ?_ _));exact BK534.out⟩,⟨by repeat (first|(with_reducible first|exact HB.out|apply below_alloc|apply pw_below_drewN|apply below_drew1|refine below_set ?_ GE534.out)|exact HB.out)⟩⟩
 case round =>
  clear H'
  try clear c1
  try clear c2
  try clear p2
  try clear c8
  try clear c9
  try clear hcz11_0
  try clear hcz11_1
  try clear hcz11_2
  try clear hcz11_3
  try clear hcz8_0
  try clear hcz8_1
  try clear hcz8_2
  try clear hcz8_3
  try clear hfz11_0
  try clear hfz11_1
  try clear hfz11_2
  try clear hfz11_3
  try clear hfz8_0
  try clear hfz8_1
  try clear hfz8_2
  try clear hfz8_3
  obtain ⟨x8_1,x9_1,rfl,HA,HK1,HO_2,HO_8,HO_535000,BK534,HB⟩:=hrel
  cases gk with
  | zero=>exact absurd HA.out (by simp [thresherlaw04_SchemaAll.l0])
  | succ k1 =>
   have H:=HA.out
   clear HA
   simp only [thresherlaw04_SchemaAll.l0] at H
   have HC14:=Aside0.mk H
   clear H
   go_upto_region 5 with (fail)
   go_cut [28] (fun v28 wc=>∃ (kq : Nat) (x28_13 : Bool),v28=.bool x28_13∧Aside0 (thresherlaw04_SchemaAll.j1 kq l1 l2 t535 x8_1 x9_1 x28_13 t536 t539 t540 t541=some r)∧Aside0 (kq≤k1)∧Aside0 (Kd.V (Kd.int .u8) 5 wc w.heap.size (fun k_=>((P0_0_ k_ ∨ P2_ k_) ∨ w.heap.size≤k_)∧some k_≠(u8 : Value).ownBlock∧k_≠gb534) (.slice A2 l2.length c2) l2)∧Aside0 (Kd.S (Kd.slice 34 k34) 26 wc w.heap.size (fun k_=>(w.heap.size≤k_)) u8 x8_1)∧Aside0 (Kd.V (Kd.int .i64) 3 wc w.heap.size (fun k_=>((P0_0_ k_ ∨ P2_ k_) ∨ w.heap.size≤k_)∧some k_≠(u8 : Value).ownBlock∧k_≠gb534) (.slice Ao10 t536.length co10) t536)∧Aside0 (wc.heap[gb534]?=some (.cells #[(.slice Ao10 t536.length co10),.int .i64 t539,.int .i64 t540,.int .i64 t541] 30 (0,0)))∧Aside0 (Below w.heap.size w wc))
   case first =>
    have H:=HC14.out
    clear HC14
    by_cases c15 : x9_1 < (l1.length : Int)
    ·rw [if_pos c15] at H
     have c15b0 : decide (x9_1 < (l1.length : Int))=true:=decide_eq_true c15
     clear c15
     (first|rw [c15b0]|(simp only [i64_w,i32_w];rw [c15b0])|skip)
     have H':=Aside0.mk H
     clear H
     go_wp2
     go_meet
     case rel=>exact ⟨_,(decide (x9_1 < 70)),(by first|rfl|(simp;done)|(simp [*];done)),(by first|exact H'|(subst_vars;exact H')),⟨by have:=HK1.out;first|omega|exact Nat.le_refl _⟩,⟨by (with_reducible repeat (first|apply Kd.V_alloc|apply Kd.V_drewN|apply Kd.V_drew));exact HO_2.out⟩,⟨by (with_reducible repeat (first|apply Kd.S_alloc|apply Kd.S_drewN|apply Kd.S_drew));exact HO_8.out⟩,⟨by (with_reducible repeat (first|apply Kd.V_alloc|apply Kd.V_drewN|apply Kd.V_drew));exact HO_535000.out⟩,⟨by (with_reducible repeat (first|refine blk_drewN ?_ _|refine blk_drew ?_|refine blk_alloc ?_ _));exact BK534.out⟩,⟨by repeat (first|(with_reducible first|exact HB.out|apply below_alloc|apply pw_below_drewN|apply below_drew1|refine below_set ?_ GE534.out)|exact HB.out)⟩⟩
    ·rw [if_neg c15] at H
     have c15b0 : decide (x9_1 < (l1.length : Int))=false:=decide_eq_false c15
     clear c15
     (first|rw [c15b0]|(simp only [i64_w,i32_w];rw [c15b0])|skip)
     have H':=Aside0.mk H
     clear H
     go_wp2
     go_meet
     case rel=>exact ⟨_,(false),(by first|rfl|(simp;done)|(simp [*];done)),(by first|exact H'|(subst_vars;exact H')),⟨by have:=HK1.out;first|omega|exact Nat.le_refl _⟩,⟨by (with_reducible repeat (first|apply Kd.V_alloc|apply Kd.V_drewN|apply Kd.V_drew));exact HO_2.out⟩,⟨by (with_reducible repeat (first|apply Kd.S_alloc|apply Kd.S_drewN|apply Kd.S_drew));exact HO_8.out⟩,⟨by (with_reducible repeat (first|apply Kd.V_alloc|apply Kd.V_drewN|apply Kd.V_drew));exact HO_535000.out⟩,⟨by (with_reducible repeat (first|refine blk_drewN ?_ _|refine blk_drew ?_|refine blk_alloc ?_ _));exact BK534.out⟩,⟨by repeat (first|(with_reducible first|exact HB.out|apply below_alloc|apply pw_below_drewN|apply below_drew1|refine below_set ?_ GE534.out)|exact HB.out)⟩⟩
   case rest =>
    clear HC14
    try clear c1
    try clear c2
    try clear p2
    try clear c8
    try clear c9
    try clear c15
    try clear c15b0
    try clear hcz11_0
    try clear hcz11_1
    try clear hcz11_2
    try clear hcz11_3
    try clear hcz8_0
    try clear hcz8_1
    try clear hcz8_2
    try clear hcz8_3
    try clear hfz11_0
    try clear hfz11_1
    try clear hfz11_2
    try clear hfz11_3
    try clear hfz8_0
    try clear hfz8_1
    try clear hfz8_2
    try clear hfz8_3
    try clear p2
    obtain ⟨kq,x28_13,rfl,HA,HJ13,HO_2,HO_8,HO_535000,BK534,HB⟩:=hcut
    cases kq with
    | zero=>exact absurd HA.out (by simp [thresherlaw04_SchemaAll.j1])
    | succ kj13 =>
     have H:=HA.out
     clear HA
     simp only [thresherlaw04_SchemaAll.j1] at H
     by_cases c16 : x28_13=true
     ·subst c16
      have H1 : (if 0≤x9_1 then (if x9_1 < (l1.length : Int) then ((thresherlaw04_short.f kj13 (rd_L6 l1 x9_1)).bind fun t546=>(if x8_1.length < 5864062014805 then ((schema_Row.f t536 t539 t540 t541 t546).bind fun t552=>((thresherref04_Row.f kj13 t536 t539 t540 t541 t546).bind fun t553=>(if (t552 != t553)=true then (some false) else (thresherlaw04_SchemaAll.l0 kj13 l1 l2 t535 (x8_1 ++ [t546]) (wrap64 (x9_1 + 1)) t536 t539 t540 t541)))) else (none))) else (none)) else (none))=some r:=by rw [if_pos rfl] at H;exact H
      clear H
      have H:=H1
      clear H1
      by_cases c17 : 0≤x9_1
      ·rw [if_pos c17] at H
       have c17b0 : decide (0≤x9_1)=true:=decide_eq_true c17
       clear c17
       by_cases c18 : x9_1 < (l1.length : Int)
       ·rw [if_pos c18] at H
        have c18b0 : decide (x9_1 < (l1.length : Int))=true:=decide_eq_true c18
        clear c18
        replace H:=Option.bind_eq_some_iff.mp H
        obtain ⟨t546,A190,H⟩:=H
        replace H : (if x8_1.length < 5864062014805 then ((schema_Row.f t536 t539 t540 t541 t546).bind fun t552=>((thresherref04_Row.f kj13 t536 t539 t540 t541 t546).bind fun t553=>(if (t552 != t553)=true then (some false) else (thresherlaw04_SchemaAll.l0 kj13 l1 l2 t535 (x8_1 ++ [t546]) (wrap64 (x9_1 + 1)) t536 t539 t540 t541)))) else (none))=some r:=H
        have A19:=Aside0.mk A190
        clear A190
        by_cases c20 : x8_1.length < 5864062014805
        ·rw [if_pos c20] at H
         have LMc20:=Aside0.mk c20
         clear c20
         obtain ⟨y549,hy549⟩ : ∃ y_ : List (List (S34)),y_=(x8_1 ++ [t546]):=⟨_,rfl⟩
         replace H : ((schema_Row.f t536 t539 t540 t541 t546).bind fun t552=>((thresherref04_Row.f kj13 t536 t539 t540 t541 t546).bind fun t553=>(if (t552 != t553)=true then (some false) else (thresherlaw04_SchemaAll.l0 kj13 l1 l2 t535 y549 (wrap64 (x9_1 + 1)) t536 t539 t540 t541))))=some r:=by first|(rw [hy549];with_reducible exact H)|(have H2_:=(Option.bind_some _ _).symm.trans H;rw [hy549];with_reducible exact H2_)|(have H2_:=(Option.bind_some _ _).symm.trans H;with_reducible exact H2_)|with_reducible exact H|(rw [hy549];exact H)|exact H
         have Ny549:=Aside0.mk hy549
         clear hy549
         replace H:=Option.bind_eq_some_iff.mp H
         obtain ⟨t552,A210,H⟩:=H
         replace H : ((thresherref04_Row.f kj13 t536 t539 t540 t541 t546).bind fun t553=>(if (t552 != t553)=true then (some false) else (thresherlaw04_SchemaAll.l0 kj13 l1 l2 t535 y549 (wrap64 (x9_1 + 1)) t536 t539 t540 t541)))=some r:=H
         have A21:=Aside0.mk A210
         clear A210
         replace H:=Option.bind_eq_some_iff.mp H
         obtain ⟨t553,A220,H⟩:=H
         replace H : (if (t552 != t553)=true then (some false) else (thresherlaw04_SchemaAll.l0 kj13 l1 l2 t535 y549 (wrap64 (x9_1 + 1)) t536 t539 t540 t541))=some r:=H
         have A22:=Aside0.mk A220
         clear A220
         by_cases c23 : (t552 != t553)=true
         ·rw [if_pos c23] at H
          have c23b0 : (t552 != t553)=true:=c23
          (try (have c23b1 : decide (t552=t553)=false:=by simpa using c23))
          (try (have c23b2 : (t552 == t553)=false:=by simpa using c23))
          (try (have c23b3 : ¬ (t552=t553):=by simpa using c23))
          clear c23
          obtain rfl:=Option.some.inj H
          have p545 : 0≤(x9_1 : Int):=of_decide_eq_true (by first|(with_reducible assumption)|assumption)
          have q545 : x9_1 < (l1.length : Int):=of_decide_eq_true (by first|(with_reducible assumption)|assumption)
          obtain ⟨ad545,A545_0,c545_0,e545,hx545_0,hl545_0,hi545_0⟩:=at_L6 HR1.out x9_1 p545 q545
          cases e545
          replace hx545_0:=(HB.out.cell (World.block_lt_of_cell? w _ hx545_0)).trans hx545_0
          have HR545_0:=Aside0.mk hi545_0
          have HC545_0:=Aside0.mk hl545_0
          clear hi545_0 hl545_0
          replace p545:=eq_true p545
          replace q545:=eq_true q545
          try go_wp2_with (first|((with_reducible refine gate_callee (f:=17) rfl ?_);refine goesL_ (some 35) rfl rfl Try.func17 (by kernel_rfl) rfl #[.slice A545_0 (rd_L6 l1 x9_1).length c545_0] rfl (by (try simp only [List.map_toArray,List.map_cons,List.map_nil]);first|done|rfl|(simp only [List.length_drop,List.length_take];rfl)) ?_;(with_reducible refine (thresherlaw04_short.calls kj13 _ _ (rd_L6 l1 x9_1) t546 _ ?side1 ?side2 A19.out).mono ?_);(case side1=>repeat (first|exact (Kd.C_below HR545_0.out HB.out)|(with_reducible refine Kd.C_alloc ?_ _)|(with_reducible refine Kd.C_drewN ?_ _)|(with_reducible refine Kd.C_drew ?_)));(case side2=>exact HC545_0.out);rintro e w24 ⟨v547,rfl,ho0,hb⟩;refine ⟨_,rfl,?_⟩;have n0_:=Aside0.mk (Kd.V_elder' (V_up HO_2.out) (Kd.R_base ho0) hb);have n1_:=Aside0.mk (Kd.S_elder' (S_up HO_8.out) (Kd.R_base ho0) hb);have n2_:=Aside0.mk (Kd.V_elder' (V_up HO_535000.out) (Kd.R_base ho0) hb);have n3_:=Aside0.mk (Kd.R_lower (Kd.R_newM (M:=fun k_=>(w.heap.size≤k_)) ho0 (below_size (below_go HB.out)) (fun k_ h_=>h_)) (below_size (below_go HB.out)));have n4_:=Aside0.mk (blk_below (blk_up BK534.out) hb);have n5_:=Aside0.mk (below_step (below_go HB.out) hb);clear HO_2;clear HO_8;clear HO_535000;clear BK534;clear HB;have HO_2:=n0_;have HO_8:=n1_;have HO_535000:=n2_;have HO548:=n3_;have BK534:=n4_;have HB:=n5_;clear n0_ n1_ n2_ n3_ n4_ n5_;(try clear hb);(try clear hb2);(try clear hk);(try clear hi);(try clear ho0);obtain ⟨Ao26,co26,eo26⟩:=Kd.R_slice HO548.out;subst eo26)|((with_reducible refine gate_builtin (b:=.append) (xs:=#[.tmp 36,.tmp 38]) rfl ?_);at_builtin;refine Kd.S_append (Kd.slice 34 k34) (w0:=w) w.heap.size rfl (.tmp 36) (.tmp 38) 38 26 (.slice none 0 0) 24 rfl Try.underlying38 info26 rfl (by decide) (by omega) u8 x8_1 t546 [.slice Ao26 t546.length co26] (fun k_=>(w.heap.size≤k_)) (fun k_=>some k_=(.slice Ao26 t546.length co26 : Value).ownBlock) rfl rfl ?aP (fun k_ hk_=>((Kd.R_mono (ok':=fun k_=>((fun k_=>(w.heap.size≤k_))) k_∧some k_≠(u8 : Value).ownBlock) (Kd.R_apart' (HO548.out) (Kd.S_typed HO_8.out) (by decide)) (fun k_ hk=>⟨hk.1.1,hk.2⟩))).1 k_ hk_.symm) ?aF ?aO ?aB ?aS ?aL ?_;(case aP=>exact Kd.M_row (Kd.R_mono (Kd.R_tight rfl (Kd.R_mono (ok':=fun k_=>((fun k_=>(w.heap.size≤k_))) k_∧some k_≠(u8 : Value).ownBlock) (Kd.R_apart' (HO548.out) (Kd.S_typed HO_8.out) (by decide)) (fun k_ hk=>⟨hk.1.1,hk.2⟩))) (fun _ h_=>h_)));(case aB=>exact (below_go HB.out));(case aF=>exact (fun k_ hk=>(Nat.le_trans (below_size (below_go HB.out)) hk)));(case aO=>exact (by (with_reducible repeat (first|apply Kd.S_alloc|apply Kd.S_drewN|apply Kd.S_drew));exact Kd.S_mono HO_8.out (fun k_ hk=>⟨hk.1,fun e_=>hk.2 e_⟩)));(case aS=>exact (below_size (below_go HB.out)));(case aL=>have:=LMc20.out;omega);intro v550 w25 ho hb hg hat;rw [← Ny549.out] at ho;have n0_:=Aside0.mk (Kd.V_afterv (ok:=(fun k_=>((P0_0_ k_ ∨ P2_ k_) ∨ w.heap.size≤k_)∧some k_≠(.slice Ao26 t546.length co26 : Value).ownBlock∧k_≠gb534)) (V_upm HO_2.out (fun _ hk=>⟨⟨hk.1.1,⟨hk.2,hk.1.2.2⟩⟩,hk.1.2.1⟩)) hg hat);have n1_:=Aside0.mk (Kd.V_afterv (ok:=(fun k_=>((P0_0_ k_ ∨ P2_ k_) ∨ w.heap.size≤k_)∧some k_≠(.slice Ao26 t546.length co26 : Value).ownBlock∧k_≠gb534)) (V_upm HO_535000.out (fun _ hk=>⟨⟨hk.1.1,⟨hk.2,hk.1.2.2⟩⟩,hk.1.2.1⟩)) hg hat);have n2_:=Aside0.mk (blk_grown (blk_up BK534.out) hg (Kd.S_ne HO_8.out BK534.out (by decide)));have n3_:=Aside0.mk (hb);have n4_:=Aside0.mk (ho);have n5_:=Aside0.mk (Kd.R_over' (R_up HO548.out) (Kd.S_typed (S_up HO_8.out)) (by decide) hg);clear HO_2;clear HO_535000;clear BK534;clear HB;clear HO_8;clear HO548;have HO_2:=n0_;have HO_535000:=n1_;have BK534:=n2_;have HB:=n3_;have HO551:=n4_;have HO548:=n5_;clear n0_ n1_ n2_ n3_ n4_ n5_;clear ho hb hg hat))
          have n0_:=Aside0.mk (Kd.V_drew HO_2.out)
          have n1_:=Aside0.mk (Kd.V_drew HO_535000.out)
          have n2_:=Aside0.mk (Kd.S_drew HO551.out)
          have n3_:=Aside0.mk (blk_drew BK534.out)
          have n4_:=Aside0.mk (below_drew1 HB.out)
          clear HO_2
          clear HO_535000
          clear HO551
          clear BK534
          clear HB
          have HO_2:=n0_
          have HO_535000:=n1_
          have HO551:=n2_
          have BK534:=n3_
          have HB:=n4_
          clear n0_ n1_ n2_ n3_ n4_
          have HO548:=Aside0.mk (Kd.R_drew HO548.out)
          refine start_ (n:=7) (S:=fun w'=>w'.cell? ⟨gb534,0,none⟩=some (.slice Ao10 t536.length co10)∧w'.cell? ⟨gb534,1,none⟩=some (.int .i64 t539)∧w'.cell? ⟨gb534,2,none⟩=some (.int .i64 t540)∧w'.cell? ⟨gb534,3,none⟩=some (.int .i64 t541)) (ds:=[]) #[false,false,false,false,false,false,false] (by kernel_rfl) rfl rfl ⟨(blk_cell BK534.out 0).trans rfl,(blk_cell BK534.out 1).trans rfl,(blk_cell BK534.out 2).trans rfl,(blk_cell BK534.out 3).trans rfl⟩ (fun hHeld=>?_)
          generalize w25.drew=w27 at HO_2 HO_535000 HO551 HO548 BK534 HB hHeld ⊢
          refine pure_ (i:=1) (N:=some 41) (v:=?_) (a':=?_) #[false,true,false,false,false,false,false] rfl rfl (by kernel_rfl) (fun _ _ _ h=>h) (Or.inl ⟨by rfl,?_⟩) ?_ ?_
          rotate_left;(intro w';go_simp;with_reducible rfl);rotate_left;(simp only [Act.put,List.setIfInBounds_toArray,List.set_cons_zero,List.set_cons_succ,i64_w,i32_w];rfl)
          refine pure_ (i:=4) (N:=some 44) (v:=?_) (a':=?_) #[false,true,false,false,true,false,false] rfl rfl (by kernel_rfl) (fun _ _ _ h=>h) (Or.inl ⟨by rfl,?_⟩) ?_ ?_
          rotate_left;(intro w';go_simp;with_reducible rfl);rotate_left;(simp only [Act.put,List.setIfInBounds_toArray,List.set_cons_zero,List.set_cons_succ,i64_w,i32_w];rfl)
          refine take_ (i:=0) (N:=some 40) (v:=?_) (a':=?_) #[true,true,false,false,true,false,false] rfl rfl (by kernel_rfl) (fun _ _ _ h=>h) (Or.inl ⟨by rfl,?_⟩) hHeld ?_ ?_
          rotate_left;(rintro w' ⟨s0,s1,s2,s3⟩;go_simp;with_reducible rfl);rotate_left;(simp only [Act.put,List.setIfInBounds_toArray,List.set_cons_zero,List.set_cons_succ,i64_w,i32_w];rfl)
          refine take_ (i:=3) (N:=some 43) (v:=?_) (a':=?_) #[true,true,false,true,true,false,false] rfl rfl (by kernel_rfl) (fun _ _ _ h=>h) (Or.inl ⟨by rfl,?_⟩) hHeld ?_ ?_
          rotate_left;(rintro w' ⟨s0,s1,s2,s3⟩;go_simp;with_reducible rfl);rotate_left;(simp only [Act.put,List.setIfInBounds_toArray,List.set_cons_zero,List.set_cons_succ,i64_w,i32_w];rfl)
          refine one_ (i:=2) (N:=some 42) #[true,true,true,true,true,false,false] rfl rfl (by kernel_rfl) (by decide) (fun K hK=>?_)
          refine goes_ Try.func12 (by kernel_rfl) rfl #[.agg #[.slice Ao10 t536.length co10,.int .i64 t539,.int .i64 t540,.int .i64 t541],.slice Ao26 t546.length co26] (by rfl) rfl rfl (by (try simp only [List.map_toArray,List.map_cons,List.map_nil]);first|done|rfl|(simp only [List.length_drop,List.length_take];rfl)) ?_
          with_reducible refine (schema_Row.calls _ _ t536 t539 t540 t541 _ _ t546 t552 _ ?side1 ?side2 ?side3 ?side4 A21.out).mono ?_
          (case side1=>repeat (first|exact (Kd.V_reads' HO_535000.out).2.2|(with_reducible refine Kd.C_alloc ?_ _)|(with_reducible refine Kd.C_drewN ?_ _)|(with_reducible refine Kd.C_drew ?_)))
          (case side2=>exact (Kd.V_reads' HO_535000.out).2.1)
          (case side3=>repeat (first|exact (Kd.R_reads' HO548.out).2.2|(with_reducible refine Kd.C_alloc ?_ _)|(with_reducible refine Kd.C_drewN ?_ _)|(with_reducible refine Kd.C_drew ?_)))
          (case side4=>exact (Kd.R_reads' HO548.out).2.1)
          rintro e w28 ⟨rfl,hb⟩
          refine ⟨_,rfl,?_⟩
          have HO548:=Aside0.mk (Kd.R_below (R_up HO548.out) hb)
          have n0_:=Aside0.mk (Kd.V_below (V_up HO_2.out) hb)
          have n1_:=Aside0.mk (Kd.V_below (V_up HO_535000.out) hb)
          have n2_:=Aside0.mk (Kd.S_below (S_up HO551.out) hb)
          have n3_:=Aside0.mk (blk_below (blk_up BK534.out) hb)
          have n4_:=Aside0.mk (below_step (below_go HB.out) hb)
          clear HO_2
          clear HO_535000
          clear HO551
          clear BK534
          clear HB
          have HO_2:=n0_
          have HO_535000:=n1_
          have HO551:=n2_
          have BK534:=n3_
          have HB:=n4_
          clear n0_ n1_ n2_ n3_ n4_
          (try clear hb)
          (try clear hb2)
          (try clear hk)
          (try clear hi)
          refine hK.out _ _ ⟨(blk_cell BK534.out 0).trans rfl,(blk_cell BK534.out 1).trans rfl,(blk_cell BK534.out 2).trans rfl,(blk_cell BK534.out 3).trans rfl⟩ (fun hHeld=>?_)
          clear hK K
          refine norm_ (a':=?_) ?_ ?_
          rotate_left
          ·show Act.put _ (some 42) _=_
           simp only [Act.put,List.setIfInBounds_toArray,List.set_cons_zero,List.set_cons_succ,i64_w,i32_w]
           rfl
          refine one_ (i:=5) (N:=some 45) #[true,true,true,true,true,true,false] rfl rfl (by kernel_rfl) (by decide) (fun K hK=>?_)
          refine goes_ Try.func21 (by kernel_rfl) rfl #[.agg #[.slice Ao10 t536.length co10,.int .i64 t539,.int .i64 t540,.int .i64 t541],.slice Ao26 t546.length co26] (by rfl) rfl rfl (by (try simp only [List.map_toArray,List.map_cons,List.map_nil]);first|done|rfl|(simp only [List.length_drop,List.length_take];rfl)) ?_
          with_reducible refine (thresherref04_Row.calls kj13 _ _ t536 t539 t540 t541 _ _ t546 t553 _ ?side1 ?side2 ?side3 ?side4 A22.out).mono ?_
          (case side1=>repeat (first|exact (Kd.V_reads' HO_535000.out).2.2|(with_reducible refine Kd.C_alloc ?_ _)|(with_reducible refine Kd.C_drewN ?_ _)|(with_reducible refine Kd.C_drew ?_)))
          (case side2=>exact (Kd.V_reads' HO_535000.out).2.1)
          (case side3=>repeat (first|exact (Kd.R_reads' HO548.out).2.2|(with_reducible refine Kd.C_alloc ?_ _)|(with_reducible refine Kd.C_drewN ?_ _)|(with_reducible refine Kd.C_drew ?_)))
          (case side4=>exact (Kd.R_reads' HO548.out).2.1)
          rintro e w29 ⟨rfl,hb⟩
          refine ⟨_,rfl,?_⟩
          have n0_:=Aside0.mk (Kd.V_below (V_up HO_2.out) hb)
          have n1_:=Aside0.mk (Kd.V_below (V_up HO_535000.out) hb)
          have n2_:=Aside0.mk (Kd.S_below (S_up HO551.out) hb)
          have n3_:=Aside0.mk (blk_below (blk_up BK534.out) hb)
          have n4_:=Aside0.mk (below_step (below_go HB.out) hb)
          clear HO_2
          clear HO_535000
          clear HO551
          clear BK534
          clear HB
          have HO_2:=n0_
          have HO_535000:=n1_
          have HO551:=n2_
          have BK534:=n3_
          have HB:=n4_
          clear n0_ n1_ n2_ n3_ n4_
          (try clear hb)
          (try clear hb2)
          (try clear hk)
          (try clear hi)
          refine hK.out _ _ ⟨(blk_cell BK534.out 0).trans rfl,(blk_cell BK534.out 1).trans rfl,(blk_cell BK534.out 2).trans rfl,(blk_cell BK534.out 3).trans rfl⟩ (fun hHeld=>?_)
          clear hK K
          refine norm_ (a':=?_) ?_ ?_
          rotate_left
          ·show Act.put _ (some 45) _=_
           simp only [Act.put,List.setIfInBounds_toArray,List.set_cons_zero,List.set_cons_succ,i64_w,i32_w]
           rfl
          refine pure_ (i:=6) (N:=some 46) (v:=?_) (a':=?_) #[true,true,true,true,true,true,true] rfl rfl (by kernel_rfl) (fun _ _ _ h=>h) (Or.inl ⟨by rfl,?_⟩) ?_ ?_
          rotate_left;(intro w';go_simp;with_reducible rfl);rotate_left;(simp only [Act.put,List.setIfInBounds_toArray,List.set_cons_zero,List.set_cons_succ,i64_w,i32_w];rfl)
          refine done_ (by kernel_rfl) ?_
          try go_wp2
          go_ret
          exact ⟨by first|rfl|(simp [errW_none,errW_some] <;> rfl)|(simp [*,errW_none,errW_some] <;> rfl),by repeat (first|(with_reducible first|exact HB.out|apply below_alloc|apply pw_below_drewN|apply below_drew1|refine below_set ?_ GE534.out)|exact HB.out)⟩
         ·rw [if_neg c23] at H
          have c23b0 : (t552 != t553)=false:=by simpa using c23
          (try (have c23b1 : decide (t552=t553)=true:=by simpa using c23))
          (try (have c23b2 : (t552 == t553)=true:=by simpa using c23))
          clear c23
          have H':=Aside0.mk H
          clear H
          have p545 : 0≤(x9_1 : Int):=of_decide_eq_true (by first|(with_reducible assumption)|assumption)
          have q545 : x9_1 < (l1.length : Int):=of_decide_eq_true (by first|(with_reducible assumption)|assumption)
          obtain ⟨ad545,A545_0,c545_0,e545,hx545_0,hl545_0,hi545_0⟩:=at_L6 HR1.out x9_1 p545 q545
          cases e545
          replace hx545_0:=(HB.out.cell (World.block_lt_of_cell? w _ hx545_0)).trans hx545_0
          have HR545_0:=Aside0.mk hi545_0
          have HC545_0:=Aside0.mk hl545_0
          clear hi545_0 hl545_0
          replace p545:=eq_true p545
          replace q545:=eq_true q545
          try go_wp2_with (first|((with_reducible refine gate_callee (f:=17) rfl ?_);refine goesL_ (some 35) rfl rfl Try.func17 (by kernel_rfl) rfl #[.slice A545_0 (rd_L6 l1 x9_1).length c545_0] rfl (by (try simp only [List.map_toArray,List.map_cons,List.map_nil]);first|done|rfl|(simp only [List.length_drop,List.length_take];rfl)) ?_;(with_reducible refine (thresherlaw04_short.calls kj13 _ _ (rd_L6 l1 x9_1) t546 _ ?side1 ?side2 A19.out).mono ?_);(case side1=>repeat (first|exact (Kd.C_below HR545_0.out HB.out)|(with_reducible refine Kd.C_alloc ?_ _)|(with_reducible refine Kd.C_drewN ?_ _)|(with_reducible refine Kd.C_drew ?_)));(case side2=>exact HC545_0.out);rintro e w30 ⟨v547,rfl,ho0,hb⟩;refine ⟨_,rfl,?_⟩;have n0_:=Aside0.mk (Kd.V_elder' (V_up HO_2.out) (Kd.R_base ho0) hb);have n1_:=Aside0.mk (Kd.S_elder' (S_up HO_8.out) (Kd.R_base ho0) hb);have n2_:=Aside0.mk (Kd.V_elder' (V_up HO_535000.out) (Kd.R_base ho0) hb);have n3_:=Aside0.mk (Kd.R_lower (Kd.R_newM (M:=fun k_=>(w.heap.size≤k_)) ho0 (below_size (below_go HB.out)) (fun k_ h_=>h_)) (below_size (below_go HB.out)));have n4_:=Aside0.mk (blk_below (blk_up BK534.out) hb);have n5_:=Aside0.mk (below_step (below_go HB.out) hb);clear HO_2;clear HO_8;clear HO_535000;clear BK534;clear HB;have HO_2:=n0_;have HO_8:=n1_;have HO_535000:=n2_;have HO548:=n3_;have BK534:=n4_;have HB:=n5_;clear n0_ n1_ n2_ n3_ n4_ n5_;(try clear hb);(try clear hb2);(try clear hk);(try clear hi);(try clear ho0);obtain ⟨Ao32,co32,eo32⟩:=Kd.R_slice HO548.out;subst eo32)|((with_reducible refine gate_builtin (b:=.append) (xs:=#[.tmp 36,.tmp 38]) rfl ?_);at_builtin;refine Kd.S_append (Kd.slice 34 k34) (w0:=w) w.heap.size rfl (.tmp 36) (.tmp 38) 38 26 (.slice none 0 0) 24 rfl Try.underlying38 info26 rfl (by decide) (by omega) u8 x8_1 t546 [.slice Ao32 t546.length co32] (fun k_=>(w.heap.size≤k_)) (fun k_=>some k_=(.slice Ao32 t546.length co32 : Value).ownBlock) rfl rfl ?aP (fun k_ hk_=>((Kd.R_mono (ok':=fun k_=>((fun k_=>(w.heap.size≤k_))) k_∧some k_≠(u8 : Value).ownBlock) (Kd.R_apart' (HO548.out) (Kd.S_typed HO_8.out) (by decide)) (fun k_ hk=>⟨hk.1.1,hk.2⟩))).1 k_ hk_.symm) ?aF ?aO ?aB ?aS ?aL ?_;(case aP=>exact Kd.M_row (Kd.R_mono (Kd.R_tight rfl (Kd.R_mono (ok':=fun k_=>((fun k_=>(w.heap.size≤k_))) k_∧some k_≠(u8 : Value).ownBlock) (Kd.R_apart' (HO548.out) (Kd.S_typed HO_8.out) (by decide)) (fun k_ hk=>⟨hk.1.1,hk.2⟩))) (fun _ h_=>h_)));(case aB=>exact (below_go HB.out));(case aF=>exact (fun k_ hk=>(Nat.le_trans (below_size (below_go HB.out)) hk)));(case aO=>exact (by (with_reducible repeat (first|apply Kd.S_alloc|apply Kd.S_drewN|apply Kd.S_drew));exact Kd.S_mono HO_8.out (fun k_ hk=>⟨hk.1,fun e_=>hk.2 e_⟩)));(case aS=>exact (below_size (below_go HB.out)));(case aL=>have:=LMc20.out;omega);intro v550 w31 ho hb hg hat;rw [← Ny549.out] at ho;have n0_:=Aside0.mk (Kd.V_afterv (ok:=(fun k_=>((P0_0_ k_ ∨ P2_ k_) ∨ w.heap.size≤k_)∧some k_≠(.slice Ao32 t546.length co32 : Value).ownBlock∧k_≠gb534)) (V_upm HO_2.out (fun _ hk=>⟨⟨hk.1.1,⟨hk.2,hk.1.2.2⟩⟩,hk.1.2.1⟩)) hg hat);have n1_:=Aside0.mk (Kd.V_afterv (ok:=(fun k_=>((P0_0_ k_ ∨ P2_ k_) ∨ w.heap.size≤k_)∧some k_≠(.slice Ao32 t546.length co32 : Value).ownBlock∧k_≠gb534)) (V_upm HO_535000.out (fun _ hk=>⟨⟨hk.1.1,⟨hk.2,hk.1.2.2⟩⟩,hk.1.2.1⟩)) hg hat);have n2_:=Aside0.mk (blk_grown (blk_up BK534.out) hg (Kd.S_ne HO_8.out BK534.out (by decide)));have n3_:=Aside0.mk (hb);have n4_:=Aside0.mk (ho);have n5_:=Aside0.mk (Kd.R_over' (R_up HO548.out) (Kd.S_typed (S_up HO_8.out)) (by decide) hg);clear HO_2;clear HO_535000;clear BK534;clear HB;clear HO_8;clear HO548;have HO_2:=n0_;have HO_535000:=n1_;have BK534:=n2_;have HB:=n3_;have HO551:=n4_;have HO548:=n5_;clear n0_ n1_ n2_ n3_ n4_ n5_;clear ho hb hg hat))
          have n0_:=Aside0.mk (Kd.V_drew HO_2.out)
          have n1_:=Aside0.mk (Kd.V_drew HO_535000.out)
          have n2_:=Aside0.mk (Kd.S_drew HO551.out)
          have n3_:=Aside0.mk (blk_drew BK534.out)
          have n4_:=Aside0.mk (below_drew1 HB.out)
          clear HO_2
          clear HO_535000
          clear HO551
          clear BK534
          clear HB
          have HO_2:=n0_
          have HO_535000:=n1_
          have HO551:=n2_
          have BK534:=n3_
          have HB:=n4_
          clear n0_ n1_ n2_ n3_ n4_
          have HO548:=Aside0.mk (Kd.R_drew HO548.out)
          refine start_ (n:=7) (S:=fun w'=>w'.cell? ⟨gb534,0,none⟩=some (.slice Ao10 t536.length co10)∧w'.cell? ⟨gb534,1,none⟩=some (.int .i64 t539)∧w'.cell? ⟨gb534,2,none⟩=some (.int .i64 t540)∧w'.cell? ⟨gb534,3,none⟩=some (.int .i64 t541)) (ds:=[]) #[false,false,false,false,false,false,false] (by kernel_rfl) rfl rfl ⟨(blk_cell BK534.out 0).trans rfl,(blk_cell BK534.out 1).trans rfl,(blk_cell BK534.out 2).trans rfl,(blk_cell BK534.out 3).trans rfl⟩ (fun hHeld=>?_)
          generalize w31.drew=w33 at HO_2 HO_535000 HO551 HO548 BK534 HB hHeld ⊢
          refine pure_ (i:=1) (N:=some 41) (v:=?_) (a':=?_) #[false,true,false,false,false,false,false] rfl rfl (by kernel_rfl) (fun _ _ _ h=>h) (Or.inl ⟨by rfl,?_⟩) ?_ ?_
          rotate_left;(intro w';go_simp;with_reducible rfl);rotate_left;(simp only [Act.put,List.setIfInBounds_toArray,List.set_cons_zero,List.set_cons_succ,i64_w,i32_w];rfl)
          refine pure_ (i:=4) (N:=some 44) (v:=?_) (a':=?_) #[false,true,false,false,true,false,false] rfl rfl (by kernel_rfl) (fun _ _ _ h=>h) (Or.inl ⟨by rfl,?_⟩) ?_ ?_
          rotate_left;(intro w';go_simp;with_reducible rfl);rotate_left;(simp only [Act.put,List.setIfInBounds_toArray,List.set_cons_zero,List.set_cons_succ,i64_w,i32_w];rfl)
          refine take_ (i:=0) (N:=some 40) (v:=?_) (a':=?_) #[true,true,false,false,true,false,false] rfl rfl (by kernel_rfl) (fun _ _ _ h=>h) (Or.inl ⟨by rfl,?_⟩) hHeld ?_ ?_
          rotate_left;(rintro w' ⟨s0,s1,s2,s3⟩;go_simp;with_reducible rfl);rotate_left;(simp only [Act.put,List.setIfInBounds_toArray,List.set_cons_zero,List.set_cons_succ,i64_w,i32_w];rfl)
          refine take_ (i:=3) (N:=some 43) (v:=?_) (a':=?_) #[true,true,false,true,true,false,false] rfl rfl (by kernel_rfl) (fun _ _ _ h=>h) (Or.inl ⟨by rfl,?_⟩) hHeld ?_ ?_
          rotate_left;(rintro w' ⟨s0,s1,s2,s3⟩;go_simp;with_reducible rfl);rotate_left;(simp only [Act.put,List.setIfInBounds_toArray,List.set_cons_zero,List.set_cons_succ,i64_w,i32_w];rfl)
          refine one_ (i:=2) (N:=some 42) #[true,true,true,true,true,false,false] rfl rfl (by kernel_rfl) (by decide) (fun K hK=>?_)
          refine goes_ Try.func12 (by kernel_rfl) rfl #[.agg #[.slice Ao10 t536.length co10,.int .i64 t539,.int .i64 t540,.int .i64 t541],.slice Ao32 t546.length co32] (by rfl) rfl rfl (by (try simp only [List.map_toArray,List.map_cons,List.map_nil]);first|done|rfl|(simp only [List.length_drop,List.length_take];rfl)) ?_
          with_reducible refine (schema_Row.calls _ _ t536 t539 t540 t541 _ _ t546 t552 _ ?side1 ?side2 ?side3 ?side4 A21.out).mono ?_
          (case side1=>repeat (first|exact (Kd.V_reads' HO_535000.out).2.2|(with_reducible refine Kd.C_alloc ?_ _)|(with_reducible refine Kd.C_drewN ?_ _)|(with_reducible refine Kd.C_drew ?_)))
          (case side2=>exact (Kd.V_reads' HO_535000.out).2.1)
          (case side3=>repeat (first|exact (Kd.R_reads' HO548.out).2.2|(with_reducible refine Kd.C_alloc ?_ _)|(with_reducible refine Kd.C_drewN ?_ _)|(with_reducible refine Kd.C_drew ?_)))
          (case side4=>exact (Kd.R_reads' HO548.out).2.1)
          rintro e w34 ⟨rfl,hb⟩
          refine ⟨_,rfl,?_⟩
          have HO548:=Aside0.mk (Kd.R_below (R_up HO548.out) hb)
          have n0_:=Aside0.mk (Kd.V_below (V_up HO_2.out) hb)
          have n1_:=Aside0.mk (Kd.V_below (V_up HO_535000.out) hb)
          have n2_:=Aside0.mk (Kd.S_below (S_up HO551.out) hb)
          have n3_:=Aside0.mk (blk_below (blk_up BK534.out) hb)
          have n4_:=Aside0.mk (below_step (below_go HB.out) hb)
          clear HO_2
          clear HO_535000
          clear HO551
          clear BK534
          clear HB
          have HO_2:=n0_
          have HO_535000:=n1_
          have HO551:=n2_
          have BK534:=n3_
          have HB:=n4_
          clear n0_ n1_ n2_ n3_ n4_
          (try clear hb)
          (try clear hb2)
          (try clear hk)
          (try clear hi)
          refine hK.out _ _ ⟨(blk_cell BK534.out 0).trans rfl,(blk_cell BK534.out 1).trans rfl,(blk_cell BK534.out 2).trans rfl,(blk_cell BK534.out 3).trans rfl⟩ (fun hHeld=>?_)
          clear hK K
          refine norm_ (a':=?_) ?_ ?_
          rotate_left
          ·show Act.put _ (some 42) _=_
           simp only [Act.put,List.setIfInBounds_toArray,List.set_cons_zero,List.set_cons_succ,i64_w,i32_w]
           rfl
          refine one_ (i:=5) (N:=some 45) #[true,true,true,true,true,true,false] rfl rfl (by kernel_rfl) (by decide) (fun K hK=>?_)
          refine goes_ Try.func21 (by kernel_rfl) rfl #[.agg #[.slice Ao10 t536.length co10,.int .i64 t539,.int .i64 t540,.int .i64 t541],.slice Ao32 t546.length co32] (by rfl) rfl rfl (by (try simp only [List.map_toArray,List.map_cons,List.map_nil]);first|done|rfl|(simp only [List.length_drop,List.length_take];rfl)) ?_
          with_reducible refine (thresherref04_Row.calls kj13 _ _ t536 t539 t540 t541 _ _ t546 t553 _ ?side1 ?side2 ?side3 ?side4 A22.out).mono ?_
          (case side1=>repeat (first|exact (Kd.V_reads' HO_535000.out).2.2|(with_reducible refine Kd.C_alloc ?_ _)|(with_reducible refine Kd.C_drewN ?_ _)|(with_reducible refine Kd.C_drew ?_)))
          (case side2=>exact (Kd.V_reads' HO_535000.out).2.1)
          (case side3=>repeat (first|exact (Kd.R_reads' HO548.out).2.2|(with_reducible refine Kd.C_alloc ?_ _)|(with_reducible refine Kd.C_drewN ?_ _)|(with_reducible refine Kd.C_drew ?_)))
          (case side4=>exact (Kd.R_reads' HO548.out).2.1)
          rintro e w35 ⟨rfl,hb⟩
          refine ⟨_,rfl,?_⟩
          have n0_:=Aside0.mk (Kd.V_below (V_up HO_2.out) hb)
          have n1_:=Aside0.mk (Kd.V_below (V_up HO_535000.out) hb)
          have n2_:=Aside0.mk (Kd.S_below (S_up HO551.out) hb)
          have n3_:=Aside0.mk (blk_below (blk_up BK534.out) hb)
          have n4_:=Aside0.mk (below_step (below_go HB.out) hb)
          clear HO_2
          clear HO_535000
          clear HO551
          clear BK534
          clear HB
          have HO_2:=n0_
          have HO_535000:=n1_
          have HO551:=n2_
          have BK534:=n3_
          have HB:=n4_
          clear n0_ n1_ n2_ n3_ n4_
          (try clear hb)
          (try clear hb2)
          (try clear hk)
          (try clear hi)
          refine hK.out _ _ ⟨(blk_cell BK534.out 0).trans rfl,(blk_cell BK534.out 1).trans rfl,(blk_cell BK534.out 2).trans rfl,(blk_cell BK534.out 3).trans rfl⟩ (fun hHeld=>?_)
          clear hK K
          refine norm_ (a':=?_) ?_ ?_
          rotate_left
          ·show Act.put _ (some 45) _=_
           simp only [Act.put,List.setIfInBounds_toArray,List.set_cons_zero,List.set_cons_succ,i64_w,i32_w]
           rfl
          refine pure_ (i:=6) (N:=some 46) (v:=?_) (a':=?_) #[true,true,true,true,true,true,true] rfl rfl (by kernel_rfl) (fun _ _ _ h=>h) (Or.inl ⟨by rfl,?_⟩) ?_ ?_
          rotate_left;(intro w';go_simp;with_reducible rfl);rotate_left;(simp only [Act.put,List.setIfInBounds_toArray,List.set_cons_zero,List.set_cons_succ,i64_w,i32_w];rfl)
          refine done_ (by kernel_rfl) ?_
          try go_wp2
          go_roundg kj13
          case measure=>have:=HK1.out;have:=HJ13.out;omega
          case rel=>exact ⟨(y549),(wrap64 (x9_1 + 1)),(by first|rfl|(simp;done)|(simp [*];done)),(by first|exact H'|(subst_vars;exact H')),⟨by have:=HK1.out;have:=HJ13.out;omega⟩,⟨by (with_reducible repeat (first|apply Kd.V_alloc|apply Kd.V_drewN|apply Kd.V_drew));exact Kd.V_mono HO_2.out (fun _ hk=>⟨hk.1.1,⟨hk.2,hk.1.2.2⟩⟩)⟩,⟨by (with_reducible repeat (first|apply Kd.S_alloc|apply Kd.S_drewN|apply Kd.S_drew));exact HO551.out⟩,⟨by (with_reducible repeat (first|apply Kd.V_alloc|apply Kd.V_drewN|apply Kd.V_drew));exact Kd.V_mono HO_535000.out (fun _ hk=>⟨hk.1.1,⟨hk.2,hk.1.2.2⟩⟩)⟩,⟨by (with_reducible repeat (first|refine blk_drewN ?_ _|refine blk_drew ?_|refine blk_alloc ?_ _));exact BK534.out⟩,⟨by repeat (first|(with_reducible first|exact HB.out|apply below_alloc|apply pw_below_drewN|apply below_drew1|refine below_set ?_ GE534.out)|exact HB.out)⟩⟩
        ·rw [if_neg c20] at H
         exact absurd H (by simp)
       ·rw [if_neg c18] at H
        exact absurd H (by simp)
      ·rw [if_neg c17] at H
       exact absurd H (by simp)
     ·replace c16:=Bool.eq_false_iff.mpr c16
      subst c16
      have H1 : (if (l2.length : Int) > 300 then (if 300≤(l2.length : Int) then (thresherlaw04_SchemaAll.j2 kj13 (l2.take 300) t535 x8_1 t536 t539 t540 t541) else (none)) else (thresherlaw04_SchemaAll.j2 kj13 l2 t535 x8_1 t536 t539 t540 t541))=some r:=by rw [if_neg (show ¬ (false=true) by decide)] at H;exact H
      clear H
      have H:=H1
      clear H1
      have HC36:=Aside0.mk H
      clear H
      go_upto_if 49 with (fail)
      go_cut [2] (fun v2 wc=>∃ (kq : Nat) (x2_35 : List Int),Aside0 (thresherlaw04_SchemaAll.j2 kq x2_35 t535 x8_1 t536 t539 t540 t541=some r)∧Aside0 (kq≤kj13)∧Aside0 (Kd.V (Kd.int .u8) 5 wc w.heap.size (fun k_=>((P0_0_ k_ ∨ P2_ k_) ∨ w.heap.size≤k_)∧some k_≠(u8 : Value).ownBlock∧k_≠gb534) v2 x2_35)∧Aside0 (Kd.S (Kd.slice 34 k34) 26 wc w.heap.size (fun k_=>(w.heap.size≤k_)) u8 x8_1)∧Aside0 (Kd.V (Kd.int .i64) 3 wc w.heap.size (fun k_=>((P0_0_ k_ ∨ P2_ k_) ∨ w.heap.size≤k_)∧some k_≠(u8 : Value).ownBlock∧k_≠gb534) (.slice Ao10 t536.length co10) t536)∧Aside0 (wc.heap[gb534]?=some (.cells #[(.slice Ao10 t536.length co10),.int .i64 t539,.int .i64 t540,.int .i64 t541] 30 (0,0)))∧Aside0 (Below w.heap.size w wc))
      case first =>
       have H:=HC36.out
       clear HC36
       by_cases c37 : (l2.length : Int) > 300
       ·rw [if_pos c37] at H
        have c37b0 : decide (300 < (l2.length : Int))=true:=decide_eq_true c37
        have c37b1 : decide (300 < l2.length)=true:=decide_eq_true (by omega)
        clear c37
        (first|rw [c37b0]|(simp only [i64_w,i32_w];rw [c37b0])|skip)
        by_cases c38 : 300≤(l2.length : Int)
        ·rw [if_pos c38] at H
         have c38b0:=eq_true c38
         have c38b1 : decide (300≤(l2.length : Int))=true:=decide_eq_true c38
         clear c38
         obtain ⟨y554,hy554⟩ : ∃ y_ : List Int,y_=(l2.take 300):=⟨_,rfl⟩
         replace H : (thresherlaw04_SchemaAll.j2 kj13 y554 t535 x8_1 t536 t539 t540 t541)=some r:=by first|(rw [hy554];with_reducible exact H)|(have H2_:=(Option.bind_some _ _).symm.trans H;rw [hy554];with_reducible exact H2_)|(have H2_:=(Option.bind_some _ _).symm.trans H;with_reducible exact H2_)|with_reducible exact H|(rw [hy554];exact H)|exact H
         have Ny554:=Aside0.mk hy554
         clear hy554
         have H':=Aside0.mk H
         clear H
         have q39 : (300 : Int)≤((l2.length : Int) : Int):=of_decide_eq_true (by first|(with_reducible assumption)|assumption)
         obtain ⟨i039,hi039,_,hsz39,_⟩:=info_parts info5
         have hroom39 : l2.length≤c2:=(Kd.V_reads' HO_2.out).2.1
         have hC39 : Kd.F (Kd.int .u8) _ _ A2 l2.length l2:=(Kd.V_at (base:=w.heap.size) HO_2.out).2.2
         have hcut39:=cut_to (P:=Try.prog) 41 5 .i64 Try.underlying41 hi039 A2 l2.length c2 300 (by omega) q39 hroom39
         have hr39:=Kd.F_take (m:=300) hC39 (by omega)
         have hy39 : y554.length=(300 : Int).toNat:=(by rw [Ny554.out,List.length_take];omega)
         rw [← Ny554.out] at hr39
         rw [← hy39] at hcut39
         have HO558:=Aside0.mk (show Kd.V (Kd.int .u8) 5 _ w.heap.size _ (.slice A2 y554.length c2) y554 from Kd.V_mk (by omega) hr39)
         have HC558:=Aside0.mk (show y554.length≤c2 from by omega)
         clear hr39 hC39 hroom39 hi039 hsz39
         have KY39:=Aside0.mk hy39
         clear hy39
         replace q39:=eq_true q39
         go_wp2
         go_meet
         case rel=>exact ⟨_,(y554),(by first|exact H'|(subst_vars;exact H')),⟨by have:=HK1.out;have:=HJ13.out;first|omega|exact Nat.le_refl _⟩,⟨by (with_reducible repeat (first|apply Kd.V_alloc|apply Kd.V_drewN|apply Kd.V_drew));exact HO558.out⟩,⟨by (with_reducible repeat (first|apply Kd.S_alloc|apply Kd.S_drewN|apply Kd.S_drew));exact HO_8.out⟩,⟨by (with_reducible repeat (first|apply Kd.V_alloc|apply Kd.V_drewN|apply Kd.V_drew));exact HO_535000.out⟩,⟨by (with_reducible repeat (first|refine blk_drewN ?_ _|refine blk_drew ?_|refine blk_alloc ?_ _));exact BK534.out⟩,⟨by repeat (first|(with_reducible first|exact HB.out|apply below_alloc|apply pw_below_drewN|apply below_drew1|refine below_set ?_ GE534.out)|exact HB.out)⟩⟩
        ·rw [if_neg c38] at H
         exact absurd H (by simp)
       ·rw [if_neg c37] at H
        have c37b0 : decide (300 < (l2.length : Int))=false:=decide_eq_false c37
        have c37b1 : decide (300 < l2.length)=false:=decide_eq_false (by omega)
        clear c37
        (first|rw [c37b0]|(simp only [i64_w,i32_w];rw [c37b0])|skip)
        have H':=Aside0.mk H
        clear H
        go_wp2
        go_meet
        case rel=>exact ⟨_,(l2),(by first|exact H'|(subst_vars;exact H')),⟨by have:=HK1.out;have:=HJ13.out;first|omega|exact Nat.le_refl _⟩,⟨by (with_reducible repeat (first|apply Kd.V_alloc|apply Kd.V_drewN|apply Kd.V_drew));exact HO_2.out⟩,⟨by (with_reducible repeat (first|apply Kd.S_alloc|apply Kd.S_drewN|apply Kd.S_drew));exact HO_8.out⟩,⟨by (with_reducible repeat (first|apply Kd.V_alloc|apply Kd.V_drewN|apply Kd.V_drew));exact HO_535000.out⟩,⟨by (with_reducible repeat (first|refine blk_drewN ?_ _|refine blk_drew ?_|refine blk_alloc ?_ _));exact BK534.out⟩,⟨by repeat (first|(with_reducible first|exact HB.out|apply below_alloc|apply pw_below_drewN|apply below_drew1|refine below_set ?_ GE534.out)|exact HB.out)⟩⟩
      case rest =>
       clear HC36
       try clear c1
       try clear c2
       try clear p2
       try clear c3
       try clear q3
       try clear c5
       try clear p5
       try clear q5
       try clear hx5
       try clear p6
       try clear c8
       try clear c9
       try clear c12
       try clear c15
       try clear c15b0
       try clear c16
       try clear c17
       try clear c17b0
       try clear c18
       try clear c18b0
       try clear c20
       try clear c21
       try clear c23
       try clear c23b0
       try clear c23b1
       try clear c23b2
       try clear c37
       try clear c37b0
       try clear c37b1
       try clear c38
       try clear c38b0
       try clear c38b1
       try clear q39
       try clear hcz11_0
       try clear hcz11_1
       try clear hcz11_2
       try clear hcz11_3
       try clear hcz8_0
       try clear hcz8_1
       try clear hcz8_2
       try clear hcz8_3
       try clear hfz11_0
       try clear hfz11_1
       try clear hfz11_2
       try clear hfz11_3
       try clear hfz8_0
       try clear hfz8_1
       try clear hfz8_2
       try clear hfz8_3
       try clear hx545_0
       try clear p2
       try clear p545
       try clear q39
       try clear q545
       obtain ⟨kq,x2_35,HA,HJ35,HO_2,HO_8,HO_535000,BK534,HB⟩:=hcut
       cases kq with
       | zero=>exact absurd HA.out (by simp [thresherlaw04_SchemaAll.j2])
       | succ kj35 =>
        have H:=HA.out
        clear HA
        simp only [thresherlaw04_SchemaAll.j2] at H
        replace H:=Option.bind_eq_some_iff.mp H
        obtain ⟨⟨t559,t562,t563,t564,t565⟩,A400,H⟩:=H
        replace H : ((thresherref04_Take.f kj35 x2_35).bind fun bt567=>((thresherref04_Same.f kj35 t559 t562 t563 t564 bt567.1 bt567.2.1 bt567.2.2.1 bt567.2.2.2.1).bind fun t575=>((schema_Check.f t536 t539 t540 t541).bind fun t576=>((thresherref04_Check.f kj35 t536 t539 t540 t541).bind fun t577=>(if t576=t577 then ((schema_Batch.f t536 t539 t540 t541 x8_1).bind fun t578=>((thresherref04_Batch.f kj35 t536 t539 t540 t541 x8_1).bind fun t579=>(if t578=t579 then (if t575=true then (thresherlaw04_SchemaAll.j3 kj35 t535 t576 (t565 != bt567.2.2.2.2) t536 t539 t540 t541) else (thresherlaw04_SchemaAll.j3 kj35 t535 t576 true t536 t539 t540 t541)) else (thresherlaw04_SchemaAll.j3 kj35 t535 t576 true t536 t539 t540 t541)))) else (thresherlaw04_SchemaAll.j3 kj35 t535 t576 true t536 t539 t540 t541))))))=some r:=H
        have A40:=Aside0.mk A400
        clear A400
        replace H:=Option.bind_eq_some_iff.mp H
        obtain ⟨⟨t567,t570,t571,t572,t573⟩,A410,H⟩:=H
        replace H : ((thresherref04_Same.f kj35 t559 t562 t563 t564 t567 t570 t571 t572).bind fun t575=>((schema_Check.f t536 t539 t540 t541).bind fun t576=>((thresherref04_Check.f kj35 t536 t539 t540 t541).bind fun t577=>(if t576=t577 then ((schema_Batch.f t536 t539 t540 t541 x8_1).bind fun t578=>((thresherref04_Batch.f kj35 t536 t539 t540 t541 x8_1).bind fun t579=>(if t578=t579 then (if t575=true then (thresherlaw04_SchemaAll.j3 kj35 t535 t576 (t565 != t573) t536 t539 t540 t541) else (thresherlaw04_SchemaAll.j3 kj35 t535 t576 true t536 t539 t540 t541)) else (thresherlaw04_SchemaAll.j3 kj35 t535 t576 true t536 t539 t540 t541)))) else (thresherlaw04_SchemaAll.j3 kj35 t535 t576 true t536 t539 t540 t541)))))=some r:=H
        have A41:=Aside0.mk A410
        clear A410
        replace H:=Option.bind_eq_some_iff.mp H
        obtain ⟨t575,A420,H⟩:=H
        replace H : ((schema_Check.f t536 t539 t540 t541).bind fun t576=>((thresherref04_Check.f kj35 t536 t539 t540 t541).bind fun t577=>(if t576=t577 then ((schema_Batch.f t536 t539 t540 t541 x8_1).bind fun t578=>((thresherref04_Batch.f kj35 t536 t539 t540 t541 x8_1).bind fun t579=>(if t578=t579 then (if t575=true then (thresherlaw04_SchemaAll.j3 kj35 t535 t576 (t565 != t573) t536 t539 t540 t541) else (thresherlaw04_SchemaAll.j3 kj35 t535 t576 true t536 t539 t540 t541)) else (thresherlaw04_SchemaAll.j3 kj35 t535 t576 true t536 t539 t540 t541)))) else (thresherlaw04_SchemaAll.j3 kj35 t535 t576 true t536 t539 t540 t541))))=some r:=H
        have A42:=Aside0.mk A420
        clear A420
        replace H:=Option.bind_eq_some_iff.mp H
        obtain ⟨t576,A430,H⟩:=H
        replace H : ((thresherref04_Check.f kj35 t536 t539 t540 t541).bind fun t577=>(if t576=t577 then ((schema_Batch.f t536 t539 t540 t541 x8_1).bind fun t578=>((thresherref04_Batch.f kj35 t536 t539 t540 t541 x8_1).bind fun t579=>(if t578=t579 then (if t575=true then (thresherlaw04_SchemaAll.j3 kj35 t535 t576 (t565 != t573) t536 t539 t540 t541) else (thresherlaw04_SchemaAll.j3 kj35 t535 t576 true t536 t539 t540 t541)) else (thresherlaw04_SchemaAll.j3 kj35 t535 t576 true t536 t539 t540 t541)))) else (thresherlaw04_SchemaAll.j3 kj35 t535 t576 true t536 t539 t540 t541)))=some r:=H
        have A43:=Aside0.mk A430
        clear A430
        have HC44:=Aside0.mk H
        clear H
        obtain ⟨Ao45,co45,eo45⟩:=Kd.V_slice HO_2.out
        subst eo45
        go_upto_region 17 with (first|((with_reducible refine gate_callee (f:=15) rfl ?_);refine goesL_ (some 54) rfl rfl Try.func15 (by kernel_rfl) rfl #[.slice Ao45 x2_35.length co45] rfl (by (try simp only [List.map_toArray,List.map_cons,List.map_nil]);first|done|rfl|(simp only [List.length_drop,List.length_take];rfl)) ?_;(with_reducible refine (schema_Take.calls kj35 (fun k_=>(((P0_0_ k_ ∨ P2_ k_) ∨ w.heap.size≤k_)∧(some k_≠(u8 : Value).ownBlock∧k_≠gb534))) _ _ x2_35 t559 t562 t563 t564 t565 _ ?side1 A40.out).mono ?_);(case side1=>exact HO_2.out);rintro e w46 ⟨v560,rfl,ho0,hb⟩;refine ⟨_,rfl,?_⟩;have n0_:=Aside0.mk (Kd.V_below (V_up HO_2.out) hb);have n1_:=Aside0.mk (Kd.S_below (S_up HO_8.out) hb);have n2_:=Aside0.mk (Kd.V_below (V_up HO_535000.out) hb);have n3_:=Aside0.mk (Kd.V_lower (Kd.V_mono (ok':=fun k_=>((P0_0_ k_ ∨ P2_ k_) ∨ w.heap.size≤k_)∧some k_≠(u8 : Value).ownBlock∧k_≠gb534) ho0 (fun k_ hk_=>⟨Or.elim hk_ (fun hs_=>hs_.1) (fun hn_=>(.inr (Nat.le_trans (below_size (below_go HB.out)) hn_))),Or.elim hk_ (fun hs_=>hs_.2.1) (fun hn_=>(Kd.fresh' (Kd.S_lt (S_up HO_8.out)) k_ hn_)),Or.elim hk_ (fun hs_=>hs_.2.2) (fun hn_=>(Kd.freshB (blk_up BK534.out) k_ hn_))⟩)) (below_size (below_go HB.out)));have n4_:=Aside0.mk (blk_below (blk_up BK534.out) hb);have n5_:=Aside0.mk (below_step (below_go HB.out) hb);clear HO_2;clear HO_8;clear HO_535000;clear BK534;clear HB;have HO_2:=n0_;have HO_8:=n1_;have HO_535000:=n2_;have HO561:=n3_;have BK534:=n4_;have HB:=n5_;clear n0_ n1_ n2_ n3_ n4_ n5_;(try clear hb);(try clear hb2);(try clear hk);(try clear hi);(try clear ho0))|((with_reducible refine gate_dst (N:=11) rfl ?_);refine box_event ?hg (N:=11) ?hd (cs:=#[.slice none 0 0,.int .i64 0,.int .i64 0,.int .i64 0]) (t:=30) ?hr ?_;(case hd=>rfl);(case hg=>rfl);(case hr=>first|(go_simp;done)|(go_simp;rfl));intro gb566 hg w47 hbox hb;have n0_:=Aside0.mk (Kd.V_below (Kd.V_elderB (V_up HO_2.out) gb566 (Nat.le_of_eq hg.symm)) hb);have n1_:=Aside0.mk (Kd.S_below (S_up HO_8.out) hb);have n2_:=Aside0.mk (Kd.V_below (Kd.V_elderB (V_up HO_535000.out) gb566 (Nat.le_of_eq hg.symm)) hb);have n3_:=Aside0.mk (Kd.V_below (Kd.V_elderB (V_up HO561.out) gb566 (Nat.le_of_eq hg.symm)) hb);have n4_:=Aside0.mk (blk_below (blk_up BK534.out) hb);have n5_:=Aside0.mk (below_step (below_go HB.out) hb);have n6_:=Aside0.mk (hbox);have n7_:=Aside0.mk ((by rw [hg];exact (below_size (below_go HB.out)) : w.heap.size≤gb566));have n8_:=Aside0.mk ((by rw [hg];exact (below_size (below_go HB.out)) : w.heap.size≤gb566));have n9_:=Aside0.mk ((by rw [hg];exact Nat.ne_of_lt (blk_lt (blk_up BK534.out)) : gb534≠gb566));have n10_:=Aside0.mk ((by rw [hg];exact Nat.ne_of_gt (blk_lt (blk_up BK534.out)) : gb566≠gb534));clear HO_2;clear HO_8;clear HO_535000;clear HO561;clear BK534;clear HB;have HO_2:=n0_;have HO_8:=n1_;have HO_535000:=n2_;have HO561:=n3_;have BK534:=n4_;have HB:=n5_;have BK566:=n6_;have GW566:=n7_;have GE566:=n8_;have NB534_566:=n9_;have NB566_534:=n10_;clear n0_ n1_ n2_ n3_ n4_ n5_ n6_ n7_ n8_ n9_ n10_;clear hb hbox hg;obtain ⟨Ao48,co48,eo48⟩:=Kd.V_slice HO561.out;subst eo48;have hnb49:=NB566_534.out;have hnc49:=NB534_566.out;have hcz50_0 : w47.cell? ⟨gb566,0,none⟩=some (.slice none 0 0):=(blk_cell BK566.out 0).trans rfl;have hcz50_1 : w47.cell? ⟨gb566,1,none⟩=some (.int .i64 0):=(blk_cell BK566.out 1).trans rfl;have hcz50_2 : w47.cell? ⟨gb566,2,none⟩=some (.int .i64 0):=(blk_cell BK566.out 2).trans rfl;have hcz50_3 : w47.cell? ⟨gb566,3,none⟩=some (.int .i64 0):=(blk_cell BK566.out 3).trans rfl;have hfz50_0:=blk_frozen BK566.out 0;have hfz50_1:=blk_frozen BK566.out 1;have hfz50_2:=blk_frozen BK566.out 2;have hfz50_3:=blk_frozen BK566.out 3)|((with_reducible refine gate_callee (f:=22) rfl ?_);refine goesL_ (some 59) rfl rfl Try.func22 (by kernel_rfl) rfl #[.slice Ao45 x2_35.length co45] rfl (by (try simp only [List.map_toArray,List.map_cons,List.map_nil]);first|done|rfl|(simp only [List.length_drop,List.length_take];rfl)) ?_;(with_reducible refine (thresherref04_Take.calls kj35 _ _ x2_35 t567 t570 t571 t572 t573 _ ?side1 ?side2 A41.out).mono ?_);(case side1=>refine (Kd.V_reads' (e:=5) (base:=w.heap.size) (ok:=fun k_=>((((P0_0_ k_ ∨ P2_ k_) ∨ w.heap.size≤k_)∧(some k_≠(u8 : Value).ownBlock∧k_≠gb534))∧k_≠gb566)) (n:=x2_35.length) (c:=co45) ?_).2.2;exact (by (with_reducible repeat (first|apply Kd.V_alloc|apply Kd.V_drewN|apply Kd.V_drew));exact (Kd.V_mono (Kd.V_far (p:=⟨gb566,3,none⟩) (Kd.V_far (p:=⟨gb566,2,none⟩) (Kd.V_far (p:=⟨gb566,1,none⟩) (Kd.V_far (p:=⟨gb566,0,none⟩) (Kd.V_mono HO_2.out (fun k_ hk=>(⟨hk,hk.2⟩ : _∧k_≠gb566))) (fun _ hk=>hk.2) (.slice Ao48 t559.length co48)) (fun _ hk=>hk.2) (.int .i64 t562)) (fun _ hk=>hk.2) (.int .i64 t563)) (fun _ hk=>hk.2) (.int .i64 t564)) (fun _ h_=>h_.1))));(case side2=>exact (Kd.V_reads' HO_2.out).2.1);rintro e w51 ⟨v568,rfl,ho0,hb⟩;refine ⟨_,rfl,?_⟩;have n0_:=Aside0.mk (Kd.V_below (by (with_reducible repeat (first|apply Kd.V_alloc|apply Kd.V_drewN|apply Kd.V_drew));exact (Kd.V_mono (Kd.V_far (p:=⟨gb566,3,none⟩) (Kd.V_far (p:=⟨gb566,2,none⟩) (Kd.V_far (p:=⟨gb566,1,none⟩) (Kd.V_far (p:=⟨gb566,0,none⟩) (Kd.V_mono HO_2.out (fun k_ hk=>(⟨hk,hk.2⟩ : _∧k_≠gb566))) (fun _ hk=>hk.2) (.slice Ao48 t559.length co48)) (fun _ hk=>hk.2) (.int .i64 t562)) (fun _ hk=>hk.2) (.int .i64 t563)) (fun _ hk=>hk.2) (.int .i64 t564)) (fun _ h_=>h_.1))) hb);have n1_:=Aside0.mk (Kd.S_below (by (with_reducible repeat (first|apply Kd.S_alloc|apply Kd.S_drewN|apply Kd.S_drew));exact (Kd.S_mono (Kd.S_far (p:=⟨gb566,3,none⟩) (Kd.S_far (p:=⟨gb566,2,none⟩) (Kd.S_far (p:=⟨gb566,1,none⟩) (Kd.S_far (p:=⟨gb566,0,none⟩) (Kd.S_types HO_8.out BK566.out (by decide)) (fun _ hk=>hk.2) (.slice Ao48 t559.length co48)) (fun _ hk=>hk.2) (.int .i64 t562)) (fun _ hk=>hk.2) (.int .i64 t563)) (fun _ hk=>hk.2) (.int .i64 t564)) (fun _ h_=>h_.1))) hb);have n2_:=Aside0.mk (Kd.V_below (by (with_reducible repeat (first|apply Kd.V_alloc|apply Kd.V_drewN|apply Kd.V_drew));exact (Kd.V_mono (Kd.V_far (p:=⟨gb566,3,none⟩) (Kd.V_far (p:=⟨gb566,2,none⟩) (Kd.V_far (p:=⟨gb566,1,none⟩) (Kd.V_far (p:=⟨gb566,0,none⟩) (Kd.V_mono HO_535000.out (fun k_ hk=>(⟨hk,hk.2⟩ : _∧k_≠gb566))) (fun _ hk=>hk.2) (.slice Ao48 t559.length co48)) (fun _ hk=>hk.2) (.int .i64 t562)) (fun _ hk=>hk.2) (.int .i64 t563)) (fun _ hk=>hk.2) (.int .i64 t564)) (fun _ h_=>h_.1))) hb);have n3_:=Aside0.mk (Kd.V_below (by (with_reducible repeat (first|apply Kd.V_alloc|apply Kd.V_drewN|apply Kd.V_drew));exact (Kd.V_mono (Kd.V_far (p:=⟨gb566,3,none⟩) (Kd.V_far (p:=⟨gb566,2,none⟩) (Kd.V_far (p:=⟨gb566,1,none⟩) (Kd.V_far (p:=⟨gb566,0,none⟩) (Kd.V_mono HO561.out (fun k_ hk=>(⟨hk,hk.2⟩ : _∧k_≠gb566))) (fun _ hk=>hk.2) (.slice Ao48 t559.length co48)) (fun _ hk=>hk.2) (.int .i64 t562)) (fun _ hk=>hk.2) (.int .i64 t563)) (fun _ hk=>hk.2) (.int .i64 t564)) (fun _ h_=>h_.1))) hb);have n4_:=Aside0.mk (Kd.V_lower (Kd.V_mono (ok':=fun k_=>((P0_0_ k_ ∨ P2_ k_) ∨ w.heap.size≤k_)∧some k_≠(u8 : Value).ownBlock∧k_≠gb534∧k_≠gb566) ho0 (fun k_ hk_=>⟨(.inr (Nat.le_trans (below_size (below_go HB.out)) hk_)),(Kd.fresh' (Kd.S_lt (by (with_reducible repeat (first|apply Kd.S_alloc|apply Kd.S_drewN|apply Kd.S_drew));exact (Kd.S_mono (Kd.S_far (p:=⟨gb566,3,none⟩) (Kd.S_far (p:=⟨gb566,2,none⟩) (Kd.S_far (p:=⟨gb566,1,none⟩) (Kd.S_far (p:=⟨gb566,0,none⟩) (Kd.S_types HO_8.out BK566.out (by decide)) (fun _ hk=>hk.2) (.slice Ao48 t559.length co48)) (fun _ hk=>hk.2) (.int .i64 t562)) (fun _ hk=>hk.2) (.int .i64 t563)) (fun _ hk=>hk.2) (.int .i64 t564)) (fun _ h_=>h_.1)))) k_ hk_),(Kd.freshB (g:=gb534) (o:=.cells #[.slice Ao10 t536.length co10,.int .i64 t539,.int .i64 t540,.int .i64 t541] 30 (0,0)) (by (with_reducible repeat (first|refine blk_drewN ?_ _|refine blk_drew ?_|refine blk_alloc ?_ _));refine blk_far ?_ NB534_566.out _;(with_reducible repeat (first|refine blk_drewN ?_ _|refine blk_drew ?_|refine blk_alloc ?_ _));refine blk_far ?_ NB534_566.out _;(with_reducible repeat (first|refine blk_drewN ?_ _|refine blk_drew ?_|refine blk_alloc ?_ _));refine blk_far ?_ NB534_566.out _;(with_reducible repeat (first|refine blk_drewN ?_ _|refine blk_drew ?_|refine blk_alloc ?_ _));refine blk_far ?_ NB534_566.out _;(with_reducible repeat (first|refine blk_drewN ?_ _|refine blk_drew ?_|refine blk_alloc ?_ _));exact BK534.out) k_ hk_),(Kd.freshB (g:=gb566) (o:=.cells #[.slice Ao48 t559.length co48,.int .i64 t562,.int .i64 t563,.int .i64 t564] 30 (0,0)) (by (with_reducible repeat (first|refine blk_drewN ?_ _|refine blk_drew ?_|refine blk_alloc ?_ _));refine blk_put (cs:=#[.slice Ao48 t559.length co48,.int .i64 t562,.int .i64 t563,.int .i64 0]) ?_ 3 _ rfl;(with_reducible repeat (first|refine blk_drewN ?_ _|refine blk_drew ?_|refine blk_alloc ?_ _));refine blk_put (cs:=#[.slice Ao48 t559.length co48,.int .i64 t562,.int .i64 0,.int .i64 0]) ?_ 2 _ rfl;(with_reducible repeat (first|refine blk_drewN ?_ _|refine blk_drew ?_|refine blk_alloc ?_ _));refine blk_put (cs:=#[.slice Ao48 t559.length co48,.int .i64 0,.int .i64 0,.int .i64 0]) ?_ 1 _ rfl;(with_reducible repeat (first|refine blk_drewN ?_ _|refine blk_drew ?_|refine blk_alloc ?_ _));refine blk_put (cs:=#[.slice none 0 0,.int .i64 0,.int .i64 0,.int .i64 0]) ?_ 0 _ rfl;(with_reducible repeat (first|refine blk_drewN ?_ _|refine blk_drew ?_|refine blk_alloc ?_ _));exact BK566.out) k_ hk_)⟩)) (below_size (below_go HB.out)));have n5_:=Aside0.mk (blk_below (g:=gb534) (o:=.cells #[.slice Ao10 t536.length co10,.int .i64 t539,.int .i64 t540,.int .i64 t541] 30 (0,0)) (by (with_reducible repeat (first|refine blk_drewN ?_ _|refine blk_drew ?_|refine blk_alloc ?_ _));refine blk_far ?_ NB534_566.out _;(with_reducible repeat (first|refine blk_drewN ?_ _|refine blk_drew ?_|refine blk_alloc ?_ _));refine blk_far ?_ NB534_566.out _;(with_reducible repeat (first|refine blk_drewN ?_ _|refine blk_drew ?_|refine blk_alloc ?_ _));refine blk_far ?_ NB534_566.out _;(with_reducible repeat (first|refine blk_drewN ?_ _|refine blk_drew ?_|refine blk_alloc ?_ _));refine blk_far ?_ NB534_566.out _;(with_reducible repeat (first|refine blk_drewN ?_ _|refine blk_drew ?_|refine blk_alloc ?_ _));exact BK534.out) hb);have n6_:=Aside0.mk (blk_below (g:=gb566) (o:=.cells #[.slice Ao48 t559.length co48,.int .i64 t562,.int .i64 t563,.int .i64 t564] 30 (0,0)) (by (with_reducible repeat (first|refine blk_drewN ?_ _|refine blk_drew ?_|refine blk_alloc ?_ _));refine blk_put (cs:=#[.slice Ao48 t559.length co48,.int .i64 t562,.int .i64 t563,.int .i64 0]) ?_ 3 _ rfl;(with_reducible repeat (first|refine blk_drewN ?_ _|refine blk_drew ?_|refine blk_alloc ?_ _));refine blk_put (cs:=#[.slice Ao48 t559.length co48,.int .i64 t562,.int .i64 0,.int .i64 0]) ?_ 2 _ rfl;(with_reducible repeat (first|refine blk_drewN ?_ _|refine blk_drew ?_|refine blk_alloc ?_ _));refine blk_put (cs:=#[.slice Ao48 t559.length co48,.int .i64 0,.int .i64 0,.int .i64 0]) ?_ 1 _ rfl;(with_reducible repeat (first|refine blk_drewN ?_ _|refine blk_drew ?_|refine blk_alloc ?_ _));refine blk_put (cs:=#[.slice none 0 0,.int .i64 0,.int .i64 0,.int .i64 0]) ?_ 0 _ rfl;(with_reducible repeat (first|refine blk_drewN ?_ _|refine blk_drew ?_|refine blk_alloc ?_ _));exact BK566.out) hb);have n7_:=Aside0.mk (below_step (below_go HB.out) hb);clear HO_2;clear HO_8;clear HO_535000;clear HO561;clear BK534;clear BK566;clear HB;have HO_2:=n0_;have HO_8:=n1_;have HO_535000:=n2_;have HO561:=n3_;have HO569:=n4_;have BK534:=n5_;have BK566:=n6_;have HB:=n7_;clear n0_ n1_ n2_ n3_ n4_ n5_ n6_ n7_;(try clear hb);(try clear hb2);(try clear hk);(try clear hi);(try clear ho0))|((with_reducible refine gate_dst (N:=13) rfl ?_);refine box_event ?hg (N:=13) ?hd (cs:=#[.slice none 0 0,.int .i64 0,.int .i64 0,.int .i64 0]) (t:=30) ?hr ?_;(case hd=>rfl);(case hg=>rfl);(case hr=>first|(go_simp;done)|(go_simp;rfl));intro gb574 hg w52 hbox hb;have n0_:=Aside0.mk (Kd.V_below (Kd.V_elderB (V_up HO_2.out) gb574 (Nat.le_of_eq hg.symm)) hb);have n1_:=Aside0.mk (Kd.S_below (S_up HO_8.out) hb);have n2_:=Aside0.mk (Kd.V_below (Kd.V_elderB (V_up HO_535000.out) gb574 (Nat.le_of_eq hg.symm)) hb);have n3_:=Aside0.mk (Kd.V_below (Kd.V_elderB (V_up HO561.out) gb574 (Nat.le_of_eq hg.symm)) hb);have n4_:=Aside0.mk (Kd.V_below (Kd.V_elderB (V_up HO569.out) gb574 (Nat.le_of_eq hg.symm)) hb);have n5_:=Aside0.mk (blk_below (blk_up BK534.out) hb);have n6_:=Aside0.mk (blk_below (blk_up BK566.out) hb);have n7_:=Aside0.mk (below_step (below_go HB.out) hb);have n8_:=Aside0.mk (hbox);have n9_:=Aside0.mk ((by rw [hg];exact (below_size (below_go HB.out)) : w.heap.size≤gb574));have n10_:=Aside0.mk ((by rw [hg];exact (below_size (below_go HB.out)) : w.heap.size≤gb574));have n11_:=Aside0.mk ((by rw [hg];exact Nat.ne_of_lt (blk_lt (blk_up BK534.out)) : gb534≠gb574));have n12_:=Aside0.mk ((by rw [hg];exact Nat.ne_of_gt (blk_lt (blk_up BK534.out)) : gb574≠gb534));have n13_:=Aside0.mk ((by rw [hg];exact Nat.ne_of_lt (blk_lt (blk_up BK566.out)) : gb566≠gb574));have n14_:=Aside0.mk ((by rw [hg];exact Nat.ne_of_gt (blk_lt (blk_up BK566.out)) : gb574≠gb566));clear HO_2;clear HO_8;clear HO_535000;clear HO561;clear HO569;clear BK534;clear BK566;clear HB;have HO_2:=n0_;have HO_8:=n1_;have HO_535000:=n2_;have HO561:=n3_;have HO569:=n4_;have BK534:=n5_;have BK566:=n6_;have HB:=n7_;have BK574:=n8_;have GW574:=n9_;have GE574:=n10_;have NB534_574:=n11_;have NB574_534:=n12_;have NB566_574:=n13_;have NB574_566:=n14_;clear n0_ n1_ n2_ n3_ n4_ n5_ n6_ n7_ n8_ n9_ n10_ n11_ n12_ n13_ n14_;clear hb hbox hg;obtain ⟨Ao53,co53,eo53⟩:=Kd.V_slice HO569.out;subst eo53;have hnb54:=NB574_534.out;have hnc54:=NB534_574.out;have hnb55:=NB574_566.out;have hnc55:=NB566_574.out;have hcz56_0 : w52.cell? ⟨gb574,0,none⟩=some (.slice none 0 0):=(blk_cell BK574.out 0).trans rfl;have hcz56_1 : w52.cell? ⟨gb574,1,none⟩=some (.int .i64 0):=(blk_cell BK574.out 1).trans rfl;have hcz56_2 : w52.cell? ⟨gb574,2,none⟩=some (.int .i64 0):=(blk_cell BK574.out 2).trans rfl;have hcz56_3 : w52.cell? ⟨gb574,3,none⟩=some (.int .i64 0):=(blk_cell BK574.out 3).trans rfl;have hfz56_0:=blk_frozen BK574.out 0;have hfz56_1:=blk_frozen BK574.out 1;have hfz56_2:=blk_frozen BK574.out 2;have hfz56_3:=blk_frozen BK574.out 3;have hcz57_0 : w52.cell? ⟨gb566,0,none⟩=some (.slice Ao48 t559.length co48):=(blk_cell BK566.out 0).trans rfl;have hcz57_1 : w52.cell? ⟨gb566,1,none⟩=some (.int .i64 t562):=(blk_cell BK566.out 1).trans rfl;have hcz57_2 : w52.cell? ⟨gb566,2,none⟩=some (.int .i64 t563):=(blk_cell BK566.out 2).trans rfl;have hcz57_3 : w52.cell? ⟨gb566,3,none⟩=some (.int .i64 t564):=(blk_cell BK566.out 3).trans rfl;have hfz57_0:=blk_frozen BK566.out 0;have hfz57_1:=blk_frozen BK566.out 1;have hfz57_2:=blk_frozen BK566.out 2;have hfz57_3:=blk_frozen BK566.out 3)|((with_reducible refine gate_callee (f:=16) rfl ?_);refine goesL_ (some 64) rfl rfl Try.func16 (by kernel_rfl) rfl #[.agg #[.slice Ao48 t559.length co48,.int .i64 t562,.int .i64 t563,.int .i64 t564],.agg #[.slice Ao53 t567.length co53,.int .i64 t570,.int .i64 t571,.int .i64 t572]] rfl (by (try simp only [List.map_toArray,List.map_cons,List.map_nil]);first|done|rfl|(simp only [List.length_drop,List.length_take];rfl)) ?_;(with_reducible refine (thresherref04_Same.calls kj35 _ _ t559 t562 t563 t564 _ _ t567 t570 t571 t572 t575 _ ?side1 ?side2 ?side3 ?side4 A42.out).mono ?_);(case side1=>refine (Kd.V_reads' (e:=3) (base:=w.heap.size) (ok:=fun k_=>(((((P0_0_ k_ ∨ P2_ k_) ∨ w.heap.size≤k_)∧(some k_≠(u8 : Value).ownBlock∧k_≠gb534))∧k_≠gb566)∧k_≠gb574)) (n:=t559.length) (c:=co48) ?_).2.2;exact (by (with_reducible repeat (first|apply Kd.V_alloc|apply Kd.V_drewN|apply Kd.V_drew));exact (Kd.V_mono (Kd.V_far (p:=⟨gb574,3,none⟩) (Kd.V_far (p:=⟨gb574,2,none⟩) (Kd.V_far (p:=⟨gb574,1,none⟩) (Kd.V_far (p:=⟨gb574,0,none⟩) (Kd.V_mono HO561.out (fun k_ hk=>(⟨hk,hk.2⟩ : _∧k_≠gb574))) (fun _ hk=>hk.2) (.slice Ao53 t567.length co53)) (fun _ hk=>hk.2) (.int .i64 t570)) (fun _ hk=>hk.2) (.int .i64 t571)) (fun _ hk=>hk.2) (.int .i64 t572)) (fun _ h_=>h_.1))));(case side2=>exact (Kd.V_reads' HO561.out).2.1);(case side3=>refine (Kd.V_reads' (e:=3) (base:=w.heap.size) (ok:=fun k_=>((((P0_0_ k_ ∨ P2_ k_) ∨ w.heap.size≤k_)∧(some k_≠(u8 : Value).ownBlock∧(k_≠gb534∧k_≠gb566)))∧k_≠gb574)) (n:=t567.length) (c:=co53) ?_).2.2;exact (by (with_reducible repeat (first|apply Kd.V_alloc|apply Kd.V_drewN|apply Kd.V_drew));exact (Kd.V_mono (Kd.V_far (p:=⟨gb574,3,none⟩) (Kd.V_far (p:=⟨gb574,2,none⟩) (Kd.V_far (p:=⟨gb574,1,none⟩) (Kd.V_far (p:=⟨gb574,0,none⟩) (Kd.V_mono HO569.out (fun k_ hk=>(⟨hk,hk.2⟩ : _∧k_≠gb574))) (fun _ hk=>hk.2) (.slice Ao53 t567.length co53)) (fun _ hk=>hk.2) (.int .i64 t570)) (fun _ hk=>hk.2) (.int .i64 t571)) (fun _ hk=>hk.2) (.int .i64 t572)) (fun _ h_=>h_.1))));(case side4=>exact (Kd.V_reads' HO569.out).2.1);rintro e w58 ⟨rfl,hb⟩;refine ⟨_,rfl,?_⟩;have n0_:=Aside0.mk (Kd.V_below (by (with_reducible repeat (first|apply Kd.V_alloc|apply Kd.V_drewN|apply Kd.V_drew));exact (Kd.V_mono (Kd.V_far (p:=⟨gb574,3,none⟩) (Kd.V_far (p:=⟨gb574,2,none⟩) (Kd.V_far (p:=⟨gb574,1,none⟩) (Kd.V_far (p:=⟨gb574,0,none⟩) (Kd.V_mono HO_2.out (fun k_ hk=>(⟨hk,hk.2⟩ : _∧k_≠gb574))) (fun _ hk=>hk.2) (.slice Ao53 t567.length co53)) (fun _ hk=>hk.2) (.int .i64 t570)) (fun _ hk=>hk.2) (.int .i64 t571)) (fun _ hk=>hk.2) (.int .i64 t572)) (fun _ h_=>h_.1))) hb);have n1_:=Aside0.mk (Kd.S_below (by (with_reducible repeat (first|apply Kd.S_alloc|apply Kd.S_drewN|apply Kd.S_drew));exact (Kd.S_mono (Kd.S_far (p:=⟨gb574,3,none⟩) (Kd.S_far (p:=⟨gb574,2,none⟩) (Kd.S_far (p:=⟨gb574,1,none⟩) (Kd.S_far (p:=⟨gb574,0,none⟩) (Kd.S_types HO_8.out BK574.out (by decide)) (fun _ hk=>hk.2) (.slice Ao53 t567.length co53)) (fun _ hk=>hk.2) (.int .i64 t570)) (fun _ hk=>hk.2) (.int .i64 t571)) (fun _ hk=>hk.2) (.int .i64 t572)) (fun _ h_=>h_.1))) hb);have n2_:=Aside0.mk (Kd.V_below (by (with_reducible repeat (first|apply Kd.V_alloc|apply Kd.V_drewN|apply Kd.V_drew));exact (Kd.V_mono (Kd.V_far (p:=⟨gb574,3,none⟩) (Kd.V_far (p:=⟨gb574,2,none⟩) (Kd.V_far (p:=⟨gb574,1,none⟩) (Kd.V_far (p:=⟨gb574,0,none⟩) (Kd.V_mono HO_535000.out (fun k_ hk=>(⟨hk,hk.2⟩ : _∧k_≠gb574))) (fun _ hk=>hk.2) (.slice Ao53 t567.length co53)) (fun _ hk=>hk.2) (.int .i64 t570)) (fun _ hk=>hk.2) (.int .i64 t571)) (fun _ hk=>hk.2) (.int .i64 t572)) (fun _ h_=>h_.1))) hb);have n3_:=Aside0.mk (Kd.V_below (by (with_reducible repeat (first|apply Kd.V_alloc|apply Kd.V_drewN|apply Kd.V_drew));exact (Kd.V_mono (Kd.V_far (p:=⟨gb574,3,none⟩) (Kd.V_far (p:=⟨gb574,2,none⟩) (Kd.V_far (p:=⟨gb574,1,none⟩) (Kd.V_far (p:=⟨gb574,0,none⟩) (Kd.V_mono HO561.out (fun k_ hk=>(⟨hk,hk.2⟩ : _∧k_≠gb574))) (fun _ hk=>hk.2) (.slice Ao53 t567.length co53)) (fun _ hk=>hk.2) (.int .i64 t570)) (fun _ hk=>hk.2) (.int .i64 t571)) (fun _ hk=>hk.2) (.int .i64 t572)) (fun _ h_=>h_.1))) hb);have n4_:=Aside0.mk (Kd.V_below (by (with_reducible repeat (first|apply Kd.V_alloc|apply Kd.V_drewN|apply Kd.V_drew));exact (Kd.V_mono (Kd.V_far (p:=⟨gb574,3,none⟩) (Kd.V_far (p:=⟨gb574,2,none⟩) (Kd.V_far (p:=⟨gb574,1,none⟩) (Kd.V_far (p:=⟨gb574,0,none⟩) (Kd.V_mono HO569.out (fun k_ hk=>(⟨hk,hk.2⟩ : _∧k_≠gb574))) (fun _ hk=>hk.2) (.slice Ao53 t567.length co53)) (fun _ hk=>hk.2) (.int .i64 t570)) (fun _ hk=>hk.2) (.int .i64 t571)) (fun _ hk=>hk.2) (.int .i64 t572)) (fun _ h_=>h_.1))) hb);have n5_:=Aside0.mk (blk_below (g:=gb534) (o:=.cells #[.slice Ao10 t536.length co10,.int .i64 t539,.int .i64 t540,.int .i64 t541] 30 (0,0)) (by (with_reducible repeat (first|refine blk_drewN ?_ _|refine blk_drew ?_|refine blk_alloc ?_ _));refine blk_far ?_ NB534_574.out _;(with_reducible repeat (first|refine blk_drewN ?_ _|refine blk_drew ?_|refine blk_alloc ?_ _));refine blk_far ?_ NB534_574.out _;(with_reducible repeat (first|refine blk_drewN ?_ _|refine blk_drew ?_|refine blk_alloc ?_ _));refine blk_far ?_ NB534_574.out _;(with_reducible repeat (first|refine blk_drewN ?_ _|refine blk_drew ?_|refine blk_alloc ?_ _));refine blk_far ?_ NB534_574.out _;(with_reducible repeat (first|refine blk_drewN ?_ _|refine blk_drew ?_|refine blk_alloc ?_ _));exact BK534.out) hb);have n6_:=Aside0.mk (blk_below (g:=gb566) (o:=.cells #[.slice Ao48 t559.length co48,.int .i64 t562,.int .i64 t563,.int .i64 t564] 30 (0,0)) (by (with_reducible repeat (first|refine blk_drewN ?_ _|refine blk_drew ?_|refine blk_alloc ?_ _));refine blk_far ?_ NB566_574.out _;(with_reducible repeat (first|refine blk_drewN ?_ _|refine blk_drew ?_|refine blk_alloc ?_ _));refine blk_far ?_ NB566_574.out _;(with_reducible repeat (first|refine blk_drewN ?_ _|refine blk_drew ?_|refine blk_alloc ?_ _));refine blk_far ?_ NB566_574.out _;(with_reducible repeat (first|refine blk_drewN ?_ _|refine blk_drew ?_|refine blk_alloc ?_ _));refine blk_far ?_ NB566_574.out _;(with_reducible repeat (first|refine blk_drewN ?_ _|refine blk_drew ?_|refine blk_alloc ?_ _));exact BK566.out) hb);have n7_:=Aside0.mk (blk_below (g:=gb574) (o:=.cells #[.slice Ao53 t567.length co53,.int .i64 t570,.int .i64 t571,.int .i64 t572] 30 (0,0)) (by (with_reducible repeat (first|refine blk_drewN ?_ _|refine blk_drew ?_|refine blk_alloc ?_ _));refine blk_put (cs:=#[.slice Ao53 t567.length co53,.int .i64 t570,.int .i64 t571,.int .i64 0]) ?_ 3 _ rfl;(with_reducible repeat (first|refine blk_drewN ?_ _|refine blk_drew ?_|refine blk_alloc ?_ _));refine blk_put (cs:=#[.slice Ao53 t567.length co53,.int .i64 t570,.int .i64 0,.int .i64 0]) ?_ 2 _ rfl;(with_reducible repeat (first|refine blk_drewN ?_ _|refine blk_drew ?_|refine blk_alloc ?_ _));refine blk_put (cs:=#[.slice Ao53 t567.length co53,.int .i64 0,.int .i64 0,.int .i64 0]) ?_ 1 _ rfl;(with_reducible repeat (first|refine blk_drewN ?_ _|refine blk_drew ?_|refine blk_alloc ?_ _));refine blk_put (cs:=#[.slice none 0 0,.int .i64 0,.int .i64 0,.int .i64 0]) ?_ 0 _ rfl;(with_reducible repeat (first|refine blk_drewN ?_ _|refine blk_drew ?_|refine blk_alloc ?_ _));exact BK574.out) hb);have n8_:=Aside0.mk (below_step (below_go HB.out) hb);clear HO_2;clear HO_8;clear HO_535000;clear HO561;clear HO569;clear BK534;clear BK566;clear BK574;clear HB;have HO_2:=n0_;have HO_8:=n1_;have HO_535000:=n2_;have HO561:=n3_;have HO569:=n4_;have BK534:=n5_;have BK566:=n6_;have BK574:=n7_;have HB:=n8_;clear n0_ n1_ n2_ n3_ n4_ n5_ n6_ n7_ n8_;(try clear hb);(try clear hb2);(try clear hk);(try clear hi);have hcz59_0 : w58.cell? ⟨gb534,0,none⟩=some (.slice Ao10 t536.length co10):=(blk_cell BK534.out 0).trans rfl;have hcz59_1 : w58.cell? ⟨gb534,1,none⟩=some (.int .i64 t539):=(blk_cell BK534.out 1).trans rfl;have hcz59_2 : w58.cell? ⟨gb534,2,none⟩=some (.int .i64 t540):=(blk_cell BK534.out 2).trans rfl;have hcz59_3 : w58.cell? ⟨gb534,3,none⟩=some (.int .i64 t541):=(blk_cell BK534.out 3).trans rfl;have hfz59_0:=blk_frozen BK534.out 0;have hfz59_1:=blk_frozen BK534.out 1;have hfz59_2:=blk_frozen BK534.out 2;have hfz59_3:=blk_frozen BK534.out 3)|((with_reducible refine gate_callee (f:=23) rfl ?_);refine goesL_ (some 66) rfl rfl Try.func23 (by kernel_rfl) rfl #[.agg #[.slice Ao10 t536.length co10,.int .i64 t539,.int .i64 t540,.int .i64 t541]] rfl (by (try simp only [List.map_toArray,List.map_cons,List.map_nil]);first|done|rfl|(simp only [List.length_drop,List.length_take];rfl)) ?_;(with_reducible refine (schema_Check.calls _ _ t536 t539 t540 t541 t576 _ ?side1 ?side2 A43.out).mono ?_);(case side1=>repeat (first|exact (Kd.V_reads' HO_535000.out).2.2|(with_reducible refine Kd.C_alloc ?_ _)|(with_reducible refine Kd.C_drewN ?_ _)|(with_reducible refine Kd.C_drew ?_)));(case side2=>exact (Kd.V_reads' HO_535000.out).2.1);rintro e w60 ⟨rfl,hb⟩;refine ⟨_,rfl,?_⟩;have n0_:=Aside0.mk (Kd.V_below (V_up HO_2.out) hb);have n1_:=Aside0.mk (Kd.S_below (S_up HO_8.out) hb);have n2_:=Aside0.mk (Kd.V_below (V_up HO_535000.out) hb);have n3_:=Aside0.mk (Kd.V_below (V_up HO561.out) hb);have n4_:=Aside0.mk (Kd.V_below (V_up HO569.out) hb);have n5_:=Aside0.mk (blk_below (blk_up BK534.out) hb);have n6_:=Aside0.mk (blk_below (blk_up BK566.out) hb);have n7_:=Aside0.mk (blk_below (blk_up BK574.out) hb);have n8_:=Aside0.mk (below_step (below_go HB.out) hb);clear HO_2;clear HO_8;clear HO_535000;clear HO561;clear HO569;clear BK534;clear BK566;clear BK574;clear HB;have HO_2:=n0_;have HO_8:=n1_;have HO_535000:=n2_;have HO561:=n3_;have HO569:=n4_;have BK534:=n5_;have BK566:=n6_;have BK574:=n7_;have HB:=n8_;clear n0_ n1_ n2_ n3_ n4_ n5_ n6_ n7_ n8_;(try clear hb);(try clear hb2);(try clear hk);(try clear hi)))
        (try simp only [Act.put,List.setIfInBounds_toArray,List.set_cons_zero,List.set_cons_succ])
        go_cut [88] (fun v88 wc=>∃ (kq : Nat) (x88_43 : Bool),v88=.bool x88_43∧Aside0 (thresherlaw04_SchemaAll.j3 kq t535 t576 x88_43 t536 t539 t540 t541=some r)∧Aside0 (kq≤kj35)∧Aside0 (Kd.V (Kd.int .i64) 3 wc w.heap.size (fun k_=>((P0_0_ k_ ∨ P2_ k_) ∨ w.heap.size≤k_)∧k_≠gb534∧k_≠gb566∧k_≠gb574) (.slice Ao10 t536.length co10) t536)∧Aside0 (Kd.V (Kd.int .i64) 3 wc w.heap.size (fun k_=>((P0_0_ k_ ∨ P2_ k_) ∨ w.heap.size≤k_)∧k_≠gb534∧k_≠gb566∧k_≠gb574) (.slice Ao48 t559.length co48) t559)∧Aside0 (Kd.V (Kd.int .i64) 3 wc w.heap.size (fun k_=>((P0_0_ k_ ∨ P2_ k_) ∨ w.heap.size≤k_)∧k_≠gb534∧k_≠gb566∧k_≠gb574) (.slice Ao53 t567.length co53) t567)∧Aside0 (wc.heap[gb534]?=some (.cells #[(.slice Ao10 t536.length co10),.int .i64 t539,.int .i64 t540,.int .i64 t541] 30 (0,0)))∧Aside0 (wc.heap[gb566]?=some (.cells #[(.slice Ao48 t559.length co48),.int .i64 t562,.int .i64 t563,.int .i64 t564] 30 (0,0)))∧Aside0 (wc.heap[gb574]?=some (.cells #[(.slice Ao53 t567.length co53),.int .i64 t570,.int .i64 t571,.int .i64 t572] 30 (0,0)))∧Aside0 (Below w.heap.size w wc))
        case first =>
         have H:=HC44.out
         clear HC44
         replace H:=Option.bind_eq_some_iff.mp H
         obtain ⟨t577,A610,H⟩:=H
         replace H : (if t576=t577 then ((schema_Batch.f t536 t539 t540 t541 x8_1).bind fun t578=>((thresherref04_Batch.f kj35 t536 t539 t540 t541 x8_1).bind fun t579=>(if t578=t579 then (if t575=true then (thresherlaw04_SchemaAll.j3 kj35 t535 t576 (t565 != t573) t536 t539 t540 t541) else (thresherlaw04_SchemaAll.j3 kj35 t535 t576 true t536 t539 t540 t541)) else (thresherlaw04_SchemaAll.j3 kj35 t535 t576 true t536 t539 t540 t541)))) else (thresherlaw04_SchemaAll.j3 kj35 t535 t576 true t536 t539 t540 t541))=some r:=H
         have A61:=Aside0.mk A610
         clear A610
         by_cases c62 : t576=t577
         ·rw [if_pos c62] at H
          have c62b0 : (t576 == t577)=true:=beq_iff_eq.mpr c62
          have c62b1 : (t576 != t577)=false:=bne_eq_false_iff_eq.mpr c62
          clear c62
          (first|rw [c62b0]|(simp only [i64_w,i32_w];rw [c62b0])|skip)
          replace H:=Option.bind_eq_some_iff.mp H
          obtain ⟨t578,A630,H⟩:=H
          replace H : ((thresherref04_Batch.f kj35 t536 t539 t540 t541 x8_1).bind fun t579=>(if t578=t579 then (if t575=true then (thresherlaw04_SchemaAll.j3 kj35 t535 t576 (t565 != t573) t536 t539 t540 t541) else (thresherlaw04_SchemaAll.j3 kj35 t535 t576 true t536 t539 t540 t541)) else (thresherlaw04_SchemaAll.j3 kj35 t535 t576 true t536 t539 t540 t541)))=some r:=H
          have A63:=Aside0.mk A630
          clear A630
          replace H:=Option.bind_eq_some_iff.mp H
          obtain ⟨t579,A640,H⟩:=H
          replace H : (if t578=t579 then (if t575=true then (thresherlaw04_SchemaAll.j3 kj35 t535 t576 (t565 != t573) t536 t539 t540 t541) else (thresherlaw04_SchemaAll.j3 kj35 t535 t576 true t536 t539 t540 t541)) else (thresherlaw04_SchemaAll.j3 kj35 t535 t576 true t536 t539 t540 t541))=some r:=H
          have A64:=Aside0.mk A640
          clear A640
          by_cases c65 : t578=t579
          ·rw [if_pos c65] at H
           have c65b0 : (t578 == t579)=true:=beq_iff_eq.mpr c65
           have c65b1 : (t578 != t579)=false:=bne_eq_false_iff_eq.mpr c65
           clear c65
           by_cases c66 : t575=true
           ·subst c66
            have H1 : (thresherlaw04_SchemaAll.j3 kj35 t535 t576 (t565 != t573) t536 t539 t540 t541)=some r:=by rw [if_pos rfl] at H;exact H
            clear H
            have H:=H1
            clear H1
            have H':=Aside0.mk H
            clear H
            try go_wp2
            have n0_:=Aside0.mk (Kd.V_drew HO_2.out)
            have n1_:=Aside0.mk (Kd.S_drew HO_8.out)
            have n2_:=Aside0.mk (Kd.V_drew HO_535000.out)
            have n3_:=Aside0.mk (Kd.V_drew HO561.out)
            have n4_:=Aside0.mk (Kd.V_drew HO569.out)
            have n5_:=Aside0.mk (blk_drew BK534.out)
            have n6_:=Aside0.mk (blk_drew BK566.out)
            have n7_:=Aside0.mk (blk_drew BK574.out)
            have n8_:=Aside0.mk (below_drew1 HB.out)
            clear HO_2
            clear HO_8
            clear HO_535000
            clear HO561
            clear HO569
            clear BK534
            clear BK566
            clear BK574
            clear HB
            have HO_2:=n0_
            have HO_8:=n1_
            have HO_535000:=n2_
            have HO561:=n3_
            have HO569:=n4_
            have BK534:=n5_
            have BK566:=n6_
            have BK574:=n7_
            have HB:=n8_
            clear n0_ n1_ n2_ n3_ n4_ n5_ n6_ n7_ n8_
            refine start_ (n:=22) (S:=fun w'=>w'.cell? ⟨gb534,0,none⟩=some (.slice Ao10 t536.length co10)∧w'.cell? ⟨gb534,1,none⟩=some (.int .i64 t539)∧w'.cell? ⟨gb534,2,none⟩=some (.int .i64 t540)∧w'.cell? ⟨gb534,3,none⟩=some (.int .i64 t541)) (ds:=[]) #[false,false,false,false,false,false,false,false,false,false,false,false,false,false,false,false,false,false,false,false,false,false] (by kernel_rfl) rfl rfl ⟨(blk_cell BK534.out 0).trans rfl,(blk_cell BK534.out 1).trans rfl,(blk_cell BK534.out 2).trans rfl,(blk_cell BK534.out 3).trans rfl⟩ (fun hHeld=>?_);refine with_tabW thresherlaw04_SchemaAll.tab17 thresherlaw04_SchemaAll.bits17 (fun HT_ HW_=>?_)
            generalize w60.drew=w67 at HO_2 HO_8 HO_535000 HO561 HO569 BK534 BK566 BK574 HB hHeld ⊢
            refine pure_ (i:=0) (N:=some 67) (v:=?_) (a':=?_) #[true,false,false,false,false,false,false,false,false,false,false,false,false,false,false,false,false,false,false,false,false,false] rfl rfl (any_of HT_.out (by kernel_rfl)) (fun _ _ _ h=>h) (Or.inl ⟨by rfl,?_⟩) ?_ ?_
            rotate_left;(intro w';go_simp;with_reducible rfl);rotate_left;(simp only [Act.put,List.setIfInBounds_toArray,List.set_cons_zero,List.set_cons_succ,i64_w,i32_w];rfl)
            refine take_ (i:=1) (N:=some 68) (v:=?_) (a':=?_) #[true,true,false,false,false,false,false,false,false,false,false,false,false,false,false,false,false,false,false,false,false,false] rfl rfl (take_ofW HT_.out HW_.out (by kernel_rfl)) (fun _ _ _ h=>h) (Or.inl ⟨by rfl,?_⟩) hHeld ?_ ?_
            rotate_left;(rintro w' ⟨s0,s1,s2,s3⟩;go_simp;with_reducible rfl);rotate_left;(simp only [Act.put,List.setIfInBounds_toArray,List.set_cons_zero,List.set_cons_succ,i64_w,i32_w];rfl)
            refine one_ (i:=2) (N:=some 69) #[true,true,true,false,false,false,false,false,false,false,false,false,false,false,false,false,false,false,false,false,false,false] rfl rfl (one_of HT_.out (by kernel_rfl)) (by decide) (fun K hK=>?_)
            refine goes_ Try.func24 (by kernel_rfl) rfl #[.agg #[.slice Ao10 t536.length co10,.int .i64 t539,.int .i64 t540,.int .i64 t541]] (by rfl) rfl rfl (by (try simp only [List.map_toArray,List.map_cons,List.map_nil]);first|done|rfl|(simp only [List.length_drop,List.length_take];rfl)) ?_
            with_reducible refine (thresherref04_Check.calls kj35 _ _ t536 t539 t540 t541 t577 _ ?side1 ?side2 A61.out).mono ?_
            (case side1=>repeat (first|exact (Kd.V_reads' HO_535000.out).2.2|(with_reducible refine Kd.C_alloc ?_ _)|(with_reducible refine Kd.C_drewN ?_ _)|(with_reducible refine Kd.C_drew ?_)))
            (case side2=>exact (Kd.V_reads' HO_535000.out).2.1)
            rintro e w68 ⟨rfl,hb⟩
            refine ⟨_,rfl,?_⟩
            have n0_:=Aside0.mk (Kd.V_below (V_up HO_2.out) hb)
            have n1_:=Aside0.mk (Kd.S_below (S_up HO_8.out) hb)
            have n2_:=Aside0.mk (Kd.V_below (V_up HO_535000.out) hb)
            have n3_:=Aside0.mk (Kd.V_below (V_up HO561.out) hb)
            have n4_:=Aside0.mk (Kd.V_below (V_up HO569.out) hb)
            have n5_:=Aside0.mk (blk_below (blk_up BK534.out) hb)
            have n6_:=Aside0.mk (blk_below (blk_up BK566.out) hb)
            have n7_:=Aside0.mk (blk_below (blk_up BK574.out) hb)
            have n8_:=Aside0.mk (below_step (below_go HB.out) hb)
            clear HO_2
            clear HO_8
            clear HO_535000
            clear HO561
            clear HO569
            clear BK534
            clear BK566
            clear BK574
            clear HB
            have HO_2:=n0_
            have HO_8:=n1_
            have HO_535000:=n2_
            have HO561:=n3_
            have HO569:=n4_
            have BK534:=n5_
            have BK566:=n6_
            have BK574:=n7_
            have HB:=n8_
            clear n0_ n1_ n2_ n3_ n4_ n5_ n6_ n7_ n8_
            (try clear hb)
            (try clear hb2)
            (try clear hk)
            (try clear hi)
            obtain ⟨Ao69,co69,eo69⟩:=Kd.S_slice HO_8.out
            (first|subst eo69|(injection eo69 with f1_ f2_ f3_;have f4_:=f1_.symm;have f5_:=f3_.symm;clear f1_ f2_ f3_;subst f4_;subst f5_))
            refine hK.out _ _ ⟨(blk_cell BK534.out 0).trans rfl,(blk_cell BK534.out 1).trans rfl,(blk_cell BK534.out 2).trans rfl,(blk_cell BK534.out 3).trans rfl⟩ (fun hHeld=>?_)
            clear hK K
            refine norm_ (a':=?_) ?_ ?_
            rotate_left
            ·show Act.put _ (some 69) _=_
             simp only [Act.put,List.setIfInBounds_toArray,List.set_cons_zero,List.set_cons_succ,i64_w,i32_w]
             rfl
            refine pure_ (i:=3) (N:=some 70) (v:=?_) (a':=?_) #[true,true,true,true,false,false,false,false,false,false,false,false,false,false,false,false,false,false,false,false,false,false] rfl rfl (any_of HT_.out (by kernel_rfl)) (fun _ _ _ h=>h) (Or.inl ⟨by rfl,?_⟩) ?_ ?_
            rotate_left;(intro w';go_simp;with_reducible rfl);rotate_left;(simp only [Act.put,List.setIfInBounds_toArray,List.set_cons_zero,List.set_cons_succ,i64_w,i32_w];rfl)
            refine pure_ (i:=4) (N:=some 71) (v:=?_) (a':=?_) #[true,true,true,true,true,false,false,false,false,false,false,false,false,false,false,false,false,false,false,false,false,false] rfl rfl (any_of HT_.out (by kernel_rfl)) (fun _ _ _ h=>h) (Or.inl ⟨by rfl,?_⟩) ?_ ?_
            rotate_left;(intro w';go_simp;with_reducible rfl);rotate_left;(simp only [Act.put,List.setIfInBounds_toArray,List.set_cons_zero,List.set_cons_succ,i64_w,i32_w];rfl)
            refine pure_ (i:=6) (N:=some 73) (v:=?_) (a':=?_) #[true,true,true,true,true,false,true,false,false,false,false,false,false,false,false,false,false,false,false,false,false,false] rfl rfl (any_of HT_.out (by kernel_rfl)) (fun _ _ _ h=>h) (Or.inl ⟨by rfl,?_⟩) ?_ ?_
            rotate_left;(intro w';go_simp;with_reducible rfl);rotate_left;(simp only [Act.put,List.setIfInBounds_toArray,List.set_cons_zero,List.set_cons_succ,i64_w,i32_w];rfl)
            refine pure_ (i:=9) (N:=some 76) (v:=?_) (a':=?_) #[true,true,true,true,true,false,true,false,false,true,false,false,false,false,false,false,false,false,false,false,false,false] rfl rfl (any_of HT_.out (by kernel_rfl)) (fun _ _ _ h=>h) (Or.inl ⟨by rfl,?_⟩) ?_ ?_
            rotate_left;(intro w';go_simp;with_reducible rfl);rotate_left;(simp only [Act.put,List.setIfInBounds_toArray,List.set_cons_zero,List.set_cons_succ,i64_w,i32_w];rfl)
            refine take_ (i:=5) (N:=some 72) (v:=?_) (a':=?_) #[true,true,true,true,true,true,true,false,false,true,false,false,false,false,false,false,false,false,false,false,false,false] rfl rfl (take_ofW HT_.out HW_.out (by kernel_rfl)) (fun _ _ _ h=>h) (Or.inl ⟨by rfl,?_⟩) hHeld ?_ ?_
            rotate_left;(rintro w' ⟨s0,s1,s2,s3⟩;go_simp;with_reducible rfl);rotate_left;(simp only [Act.put,List.setIfInBounds_toArray,List.set_cons_zero,List.set_cons_succ,i64_w,i32_w];rfl)
            refine take_ (i:=8) (N:=some 75) (v:=?_) (a':=?_) #[true,true,true,true,true,true,true,false,true,true,false,false,false,false,false,false,false,false,false,false,false,false] rfl rfl (take_ofW HT_.out HW_.out (by kernel_rfl)) (fun _ _ _ h=>h) (Or.inl ⟨by rfl,?_⟩) hHeld ?_ ?_
            rotate_left;(rintro w' ⟨s0,s1,s2,s3⟩;go_simp;with_reducible rfl);rotate_left;(simp only [Act.put,List.setIfInBounds_toArray,List.set_cons_zero,List.set_cons_succ,i64_w,i32_w];rfl)
            refine one_ (i:=7) (N:=some 74) #[true,true,true,true,true,true,true,true,true,true,false,false,false,false,false,false,false,false,false,false,false,false] rfl rfl (one_of HT_.out (by kernel_rfl)) (by decide) (fun K hK=>?_)
            refine goes_ Try.func13 (by kernel_rfl) rfl #[.agg #[.slice Ao10 t536.length co10,.int .i64 t539,.int .i64 t540,.int .i64 t541],.slice Ao69 x8_1.length co69] (by rfl) rfl rfl (by (try simp only [List.map_toArray,List.map_cons,List.map_nil]);first|done|rfl|(simp only [List.length_drop,List.length_take];rfl)) ?_
            with_reducible refine (schema_Batch.calls _ _ t536 t539 t540 t541 _ _ x8_1 t578 _ ?side1 ?side2 ?side3 ?side4 A63.out).mono ?_
            (case side1=>repeat (first|exact (Kd.V_reads' HO_535000.out).2.2|(with_reducible refine Kd.C_alloc ?_ _)|(with_reducible refine Kd.C_drewN ?_ _)|(with_reducible refine Kd.C_drew ?_)))
            (case side2=>exact (Kd.V_reads' HO_535000.out).2.1)
            (case side3=>repeat (first|exact (Kd.S_reads' HO_8.out).2.2|(with_reducible refine Kd.C_alloc ?_ _)|(with_reducible refine Kd.C_drewN ?_ _)|(with_reducible refine Kd.C_drew ?_)))
            (case side4=>exact (Kd.S_reads' HO_8.out).2.1)
            rintro e w70 ⟨rfl,hb⟩
            refine ⟨_,rfl,?_⟩
            have n0_:=Aside0.mk (Kd.V_below (V_up HO_2.out) hb)
            have n1_:=Aside0.mk (Kd.S_below (S_up HO_8.out) hb)
            have n2_:=Aside0.mk (Kd.V_below (V_up HO_535000.out) hb)
            have n3_:=Aside0.mk (Kd.V_below (V_up HO561.out) hb)
            have n4_:=Aside0.mk (Kd.V_below (V_up HO569.out) hb)
            have n5_:=Aside0.mk (blk_below (blk_up BK534.out) hb)
            have n6_:=Aside0.mk (blk_below (blk_up BK566.out) hb)
            have n7_:=Aside0.mk (blk_below (blk_up BK574.out) hb)
            have n8_:=Aside0.mk (below_step (below_go HB.out) hb)
            clear HO_2
            clear HO_8
            clear HO_535000
            clear HO561
            clear HO569
            clear BK534
            clear BK566
            clear BK574
            clear HB
            have HO_2:=n0_
            have HO_8:=n1_
            have HO_535000:=n2_
            have HO561:=n3_
            have HO569:=n4_
            have BK534:=n5_
            have BK566:=n6_
            have BK574:=n7_
            have HB:=n8_
            clear n0_ n1_ n2_ n3_ n4_ n5_ n6_ n7_ n8_
            (try clear hb)
            (try clear hb2)
            (try clear hk)
            (try clear hi)
            refine hK.out _ _ ⟨(blk_cell BK534.out 0).trans rfl,(blk_cell BK534.out 1).trans rfl,(blk_cell BK534.out 2).trans rfl,(blk_cell BK534.out 3).trans rfl⟩ (fun hHeld=>?_)
            clear hK K
            refine norm_ (a':=?_) ?_ ?_
            rotate_left
            ·show Act.put _ (some 74) _=_
             simp only [Act.put,List.setIfInBounds_toArray,List.set_cons_zero,List.set_cons_succ,i64_w,i32_w]
             rfl
            refine one_ (i:=10) (N:=some 77) #[true,true,true,true,true,true,true,true,true,true,true,false,false,false,false,false,false,false,false,false,false,false] rfl rfl (one_of HT_.out (by kernel_rfl)) (by decide) (fun K hK=>?_)
            refine goes_ Try.func25 (by kernel_rfl) rfl #[.agg #[.slice Ao10 t536.length co10,.int .i64 t539,.int .i64 t540,.int .i64 t541],.slice Ao69 x8_1.length co69] (by rfl) rfl rfl (by (try simp only [List.map_toArray,List.map_cons,List.map_nil]);first|done|rfl|(simp only [List.length_drop,List.length_take];rfl)) ?_
            with_reducible refine (thresherref04_Batch.calls kj35 _ _ t536 t539 t540 t541 _ _ x8_1 t579 _ ?side1 ?side2 ?side3 ?side4 A64.out).mono ?_
            (case side1=>repeat (first|exact (Kd.V_reads' HO_535000.out).2.2|(with_reducible refine Kd.C_alloc ?_ _)|(with_reducible refine Kd.C_drewN ?_ _)|(with_reducible refine Kd.C_drew ?_)))
            (case side2=>exact (Kd.V_reads' HO_535000.out).2.1)
            (case side3=>repeat (first|exact (Kd.S_reads' HO_8.out).2.2|(with_reducible refine Kd.C_alloc ?_ _)|(with_reducible refine Kd.C_drewN ?_ _)|(with_reducible refine Kd.C_drew ?_)))
            (case side4=>exact (Kd.S_reads' HO_8.out).2.1)
            rintro e w71 ⟨rfl,hb⟩
            refine ⟨_,rfl,?_⟩
            have n0_:=Aside0.mk (Kd.V_below (V_up HO_2.out) hb)
            have n1_:=Aside0.mk (Kd.S_below (S_up HO_8.out) hb)
            have n2_:=Aside0.mk (Kd.V_below (V_up HO_535000.out) hb)
            have n3_:=Aside0.mk (Kd.V_below (V_up HO561.out) hb)
            have n4_:=Aside0.mk (Kd.V_below (V_up HO569.out) hb)
            have n5_:=Aside0.mk (blk_below (blk_up BK534.out) hb)
            have n6_:=Aside0.mk (blk_below (blk_up BK566.out) hb)
            have n7_:=Aside0.mk (blk_below (blk_up BK574.out) hb)
            have n8_:=Aside0.mk (below_step (below_go HB.out) hb)
            clear HO_2
            clear HO_8
            clear HO_535000
            clear HO561
            clear HO569
            clear BK534
            clear BK566
            clear BK574
            clear HB
            have HO_2:=n0_
            have HO_8:=n1_
            have HO_535000:=n2_
            have HO561:=n3_
            have HO569:=n4_
            have BK534:=n5_
            have BK566:=n6_
            have BK574:=n7_
            have HB:=n8_
            clear n0_ n1_ n2_ n3_ n4_ n5_ n6_ n7_ n8_
            (try clear hb)
            (try clear hb2)
            (try clear hk)
            (try clear hi)
            refine hK.out _ _ ⟨(blk_cell BK534.out 0).trans rfl,(blk_cell BK534.out 1).trans rfl,(blk_cell BK534.out 2).trans rfl,(blk_cell BK534.out 3).trans rfl⟩ (fun hHeld=>?_)
            clear hK K
            refine norm_ (a':=?_) ?_ ?_
            rotate_left
            ·show Act.put _ (some 77) _=_
             simp only [Act.put,List.setIfInBounds_toArray,List.set_cons_zero,List.set_cons_succ,i64_w,i32_w]
             rfl
            refine pure_ (i:=11) (N:=some 78) (v:=?_) (a':=?_) #[true,true,true,true,true,true,true,true,true,true,true,true,false,false,false,false,false,false,false,false,false,false] rfl rfl (any_of HT_.out (by kernel_rfl)) (fun _ _ _ h=>h) (Or.inl ⟨by rfl,?_⟩) ?_ ?_
            rotate_left;(intro w';go_simp;with_reducible rfl);rotate_left;(simp only [Act.put,List.setIfInBounds_toArray,List.set_cons_zero,List.set_cons_succ,i64_w,i32_w];rfl)
            refine pure_ (i:=12) (N:=some 79) (v:=?_) (a':=?_) #[true,true,true,true,true,true,true,true,true,true,true,true,true,false,false,false,false,false,false,false,false,false] rfl rfl (any_of HT_.out (by kernel_rfl)) (fun _ _ _ h=>h) (Or.inl ⟨by rfl,?_⟩) ?_ ?_
            rotate_left;(intro w';go_simp;with_reducible rfl);rotate_left;(simp only [Act.put,List.setIfInBounds_toArray,List.set_cons_zero,List.set_cons_succ,i64_w,i32_w];rfl)
            refine pure_ (i:=13) (N:=some 80) (v:=?_) (a':=?_) #[true,true,true,true,true,true,true,true,true,true,true,true,true,true,false,false,false,false,false,false,false,false] rfl rfl (any_of HT_.out (by kernel_rfl)) (fun _ _ _ h=>h) (Or.inl ⟨by rfl,?_⟩) ?_ ?_
            rotate_left;(intro w';go_simp;with_reducible rfl);rotate_left;(simp only [Act.put,List.setIfInBounds_toArray,List.set_cons_zero,List.set_cons_succ,i64_w,i32_w];rfl)
            refine pure_ (i:=14) (N:=some 81) (v:=?_) (a':=?_) #[true,true,true,true,true,true,true,true,true,true,true,true,true,true,true,false,false,false,false,false,false,false] rfl rfl (any_of HT_.out (by kernel_rfl)) (fun _ _ _ h=>h) (Or.inl ⟨by rfl,?_⟩) ?_ ?_
            rotate_left;(intro w';go_simp;with_reducible rfl);rotate_left;(simp only [Act.put,List.setIfInBounds_toArray,List.set_cons_zero,List.set_cons_succ,i64_w,i32_w];rfl)
            refine pure_ (i:=15) (N:=some 82) (v:=?_) (a':=?_) #[true,true,true,true,true,true,true,true,true,true,true,true,true,true,true,true,false,false,false,false,false,false] rfl rfl (any_of HT_.out (by kernel_rfl)) (fun _ _ _ h=>h) (Or.inl ⟨by rfl,?_⟩) ?_ ?_
            rotate_left;(intro w';go_simp;with_reducible rfl);rotate_left;(simp only [Act.put,List.setIfInBounds_toArray,List.set_cons_zero,List.set_cons_succ,i64_w,i32_w];rfl)
            refine pure_ (i:=16) (N:=some 83) (v:=?_) (a':=?_) #[true,true,true,true,true,true,true,true,true,true,true,true,true,true,true,true,true,false,false,false,false,false] rfl rfl (any_of HT_.out (by kernel_rfl)) (fun _ _ _ h=>h) (Or.inl ⟨by rfl,?_⟩) ?_ ?_
            rotate_left;(intro w';go_simp;with_reducible rfl);rotate_left;(simp only [Act.put,List.setIfInBounds_toArray,List.set_cons_zero,List.set_cons_succ,i64_w,i32_w];rfl)
            refine pure_ (i:=17) (N:=some 84) (v:=?_) (a':=?_) #[true,true,true,true,true,true,true,true,true,true,true,true,true,true,true,true,true,true,false,false,false,false] rfl rfl (any_of HT_.out (by kernel_rfl)) (fun _ _ _ h=>h) (Or.inl ⟨by rfl,?_⟩) ?_ ?_
            rotate_left;(intro w';go_simp;with_reducible rfl);rotate_left;(simp only [Act.put,List.setIfInBounds_toArray,List.set_cons_zero,List.set_cons_succ,i64_w,i32_w];rfl)
            refine pure_ (i:=18) (N:=some 85) (v:=?_) (a':=?_) #[true,true,true,true,true,true,true,true,true,true,true,true,true,true,true,true,true,true,true,false,false,false] rfl rfl (any_of HT_.out (by kernel_rfl)) (fun _ _ _ h=>h) (Or.inl ⟨by rfl,?_⟩) ?_ ?_
            rotate_left;(intro w';go_simp;with_reducible rfl);rotate_left;(simp only [Act.put,List.setIfInBounds_toArray,List.set_cons_zero,List.set_cons_succ,i64_w,i32_w];rfl)
            refine pure_ (i:=19) (N:=some 86) (v:=?_) (a':=?_) #[true,true,true,true,true,true,true,true,true,true,true,true,true,true,true,true,true,true,true,true,false,false] rfl rfl (any_of HT_.out (by kernel_rfl)) (fun _ _ _ h=>h) (Or.inl ⟨by rfl,?_⟩) ?_ ?_
            rotate_left;(intro w';go_simp;with_reducible rfl);rotate_left;(simp only [Act.put,List.setIfInBounds_toArray,List.set_cons_zero,List.set_cons_succ,i64_w,i32_w];rfl)
            refine pure_ (i:=20) (N:=some 87) (v:=?_) (a':=?_) #[true,true,true,true,true,true,true,true,true,true,true,true,true,true,true,true,true,true,true,true,true,false] rfl rfl (any_of HT_.out (by kernel_rfl)) (fun _ _ _ h=>h) (Or.inl ⟨by rfl,?_⟩) ?_ ?_
            rotate_left;(intro w';go_simp;with_reducible rfl);rotate_left;(simp only [Act.put,List.setIfInBounds_toArray,List.set_cons_zero,List.set_cons_succ,i64_w,i32_w];rfl)
            refine pure_ (i:=21) (N:=some 88) (v:=?_) (a':=?_) #[true,true,true,true,true,true,true,true,true,true,true,true,true,true,true,true,true,true,true,true,true,true] rfl rfl (any_of HT_.out (by kernel_rfl)) (fun _ _ _ h=>h) (Or.inl ⟨by rfl,?_⟩) ?_ ?_
            rotate_left;(intro w';go_simp;with_reducible rfl);rotate_left;(simp only [Act.put,List.setIfInBounds_toArray,List.set_cons_zero,List.set_cons_succ,i64_w,i32_w];rfl)
            refine done_ (done_of HT_.out (by kernel_rfl)) ?_
            (try clear hHeld)
            try go_wp2
            go_meet
            case rel=>exact ⟨_,((t565 != t573)),(by first|rfl|(simp;done)|(simp [*];done)),(by first|exact H'|(subst_vars;exact H')),⟨by have:=HK1.out;have:=HJ13.out;have:=HJ35.out;first|omega|exact Nat.le_refl _⟩,⟨by (with_reducible repeat (first|apply Kd.V_alloc|apply Kd.V_drewN|apply Kd.V_drew));exact Kd.V_mono HO_535000.out (fun _ hk=>⟨hk.1.1.1,⟨hk.1.1.2.2,⟨hk.1.2,hk.2⟩⟩⟩)⟩,⟨by (with_reducible repeat (first|apply Kd.V_alloc|apply Kd.V_drewN|apply Kd.V_drew));exact Kd.V_mono HO561.out (fun _ hk=>⟨hk.1.1.1,⟨hk.1.1.2.2,⟨hk.1.2,hk.2⟩⟩⟩)⟩,⟨by (with_reducible repeat (first|apply Kd.V_alloc|apply Kd.V_drewN|apply Kd.V_drew));exact Kd.V_mono HO569.out (fun _ hk=>⟨hk.1.1,⟨hk.1.2.2.1,⟨hk.1.2.2.2,hk.2⟩⟩⟩)⟩,⟨by (with_reducible repeat (first|refine blk_drewN ?_ _|refine blk_drew ?_|refine blk_alloc ?_ _));exact BK534.out⟩,⟨by (with_reducible repeat (first|refine blk_drewN ?_ _|refine blk_drew ?_|refine blk_alloc ?_ _));exact BK566.out⟩,⟨by (with_reducible repeat (first|refine blk_drewN ?_ _|refine blk_drew ?_|refine blk_alloc ?_ _));exact BK574.out⟩,⟨by repeat (first|(with_reducible first|exact HB.out|apply below_alloc|apply pw_below_drewN|apply below_drew1|refine below_set ?_ GE534.out|refine below_set ?_ GE566.out|refine below_set ?_ GE574.out)|exact HB.out)⟩⟩
           ·replace c66:=Bool.eq_false_iff.mpr c66
            subst c66
            have H1 : (thresherlaw04_SchemaAll.j3 kj35 t535 t576 true t536 t539 t540 t541)=some r:=by rw [if_neg (show ¬ (false=true) by decide)] at H;exact H
            clear H
            have H:=H1
            clear H1
            have H':=Aside0.mk H
            clear H
            try go_wp2
            have n0_:=Aside0.mk (Kd.V_drew HO_2.out)
            have n1_:=Aside0.mk (Kd.S_drew HO_8.out)
            have n2_:=Aside0.mk (Kd.V_drew HO_535000.out)
            have n3_:=Aside0.mk (Kd.V_drew HO561.out)
            have n4_:=Aside0.mk (Kd.V_drew HO569.out)
            have n5_:=Aside0.mk (blk_drew BK534.out)
            have n6_:=Aside0.mk (blk_drew BK566.out)
            have n7_:=Aside0.mk (blk_drew BK574.out)
            have n8_:=Aside0.mk (below_drew1 HB.out)
            clear HO_2
            clear HO_8
            clear HO_535000
            clear HO561
            clear HO569
            clear BK534
            clear BK566
            clear BK574
            clear HB
            have HO_2:=n0_
            have HO_8:=n1_
            have HO_535000:=n2_
            have HO561:=n3_
            have HO569:=n4_
            have BK534:=n5_
            have BK566:=n6_
            have BK574:=n7_
            have HB:=n8_
            clear n0_ n1_ n2_ n3_ n4_ n5_ n6_ n7_ n8_
            refine start_ (n:=22) (S:=fun w'=>w'.cell? ⟨gb534,0,none⟩=some (.slice Ao10 t536.length co10)∧w'.cell? ⟨gb534,1,none⟩=some (.int .i64 t539)∧w'.cell? ⟨gb534,2,none⟩=some (.int .i64 t540)∧w'.cell? ⟨gb534,3,none⟩=some (.int .i64 t541)) (ds:=[]) #[false,false,false,false,false,false,false,false,false,false,false,false,false,false,false,false,false,false,false,false,false,false] (by kernel_rfl) rfl rfl ⟨(blk_cell BK534.out 0).trans rfl,(blk_cell BK534.out 1).trans rfl,(blk_cell BK534.out 2).trans rfl,(blk_cell BK534.out 3).trans rfl⟩ (fun hHeld=>?_);refine with_tabW thresherlaw04_SchemaAll.tab17 thresherlaw04_SchemaAll.bits17 (fun HT_ HW_=>?_)
            generalize w60.drew=w72 at HO_2 HO_8 HO_535000 HO561 HO569 BK534 BK566 BK574 HB hHeld ⊢
            refine pure_ (i:=0) (N:=some 67) (v:=?_) (a':=?_) #[true,false,false,false,false,false,false,false,false,false,false,false,false,false,false,false,false,false,false,false,false,false] rfl rfl (any_of HT_.out (by kernel_rfl)) (fun _ _ _ h=>h) (Or.inl ⟨by rfl,?_⟩) ?_ ?_
            rotate_left;(intro w';go_simp;with_reducible rfl);rotate_left;(simp only [Act.put,List.setIfInBounds_toArray,List.set_cons_zero,List.set_cons_succ,i64_w,i32_w];rfl)
            refine take_ (i:=1) (N:=some 68) (v:=?_) (a':=?_) #[true,true,false,false,false,false,false,false,false,false,false,false,false,false,false,false,false,false,false,false,false,false] rfl rfl (take_ofW HT_.out HW_.out (by kernel_rfl)) (fun _ _ _ h=>h) (Or.inl ⟨by rfl,?_⟩) hHeld ?_ ?_
            rotate_left;(rintro w' ⟨s0,s1,s2,s3⟩;go_simp;with_reducible rfl);rotate_left;(simp only [Act.put,List.setIfInBounds_toArray,List.set_cons_zero,List.set_cons_succ,i64_w,i32_w];rfl)
            refine one_ (i:=2) (N:=some 69) #[true,true,true,false,false,false,false,false,false,false,false,false,false,false,false,false,false,false,false,false,false,false] rfl rfl (one_of HT_.out (by kernel_rfl)) (by decide) (fun K hK=>?_)
            refine goes_ Try.func24 (by kernel_rfl) rfl #[.agg #[.slice Ao10 t536.length co10,.int .i64 t539,.int .i64 t540,.int .i64 t541]] (by rfl) rfl rfl (by (try simp only [List.map_toArray,List.map_cons,List.map_nil]);first|done|rfl|(simp only [List.length_drop,List.length_take];rfl)) ?_
            with_reducible refine (thresherref04_Check.calls kj35 _ _ t536 t539 t540 t541 t577 _ ?side1 ?side2 A61.out).mono ?_
            (case side1=>repeat (first|exact (Kd.V_reads' HO_535000.out).2.2|(with_reducible refine Kd.C_alloc ?_ _)|(with_reducible refine Kd.C_drewN ?_ _)|(with_reducible refine Kd.C_drew ?_)))
            (case side2=>exact (Kd.V_reads' HO_535000.out).2.1)
            rintro e w73 ⟨rfl,hb⟩
            refine ⟨_,rfl,?_⟩
            have n0_:=Aside0.mk (Kd.V_below (V_up HO_2.out) hb)
            have n1_:=Aside0.mk (Kd.S_below (S_up HO_8.out) hb)
            have n2_:=Aside0.mk (Kd.V_below (V_up HO_535000.out) hb)
            have n3_:=Aside0.mk (Kd.V_below (V_up HO561.out) hb)
            have n4_:=Aside0.mk (Kd.V_below (V_up HO569.out) hb)
            have n5_:=Aside0.mk (blk_below (blk_up BK534.out) hb)
            have n6_:=Aside0.mk (blk_below (blk_up BK566.out) hb)
            have n7_:=Aside0.mk (blk_below (blk_up BK574.out) hb)
            have n8_:=Aside0.mk (below_step (below_go HB.out) hb)
            clear HO_2
            clear HO_8
            clear HO_535000
            clear HO561
            clear HO569
            clear BK534
            clear BK566
            clear BK574
            clear HB
            have HO_2:=n0_
            have HO_8:=n1_
            have HO_535000:=n2_
            have HO561:=n3_
            have HO569:=n4_
            have BK534:=n5_
            have BK566:=n6_
            have BK574:=n7_
            have HB:=n8_
            clear n0_ n1_ n2_ n3_ n4_ n5_ n6_ n7_ n8_
            (try clear hb)
            (try clear hb2)
            (try clear hk)
            (try clear hi)
            obtain ⟨Ao74,co74,eo74⟩:=Kd.S_slice HO_8.out
            (first|subst eo74|(injection eo74 with f1_ f2_ f3_;have f4_:=f1_.symm;have f5_:=f3_.symm;clear f1_ f2_ f3_;subst f4_;subst f5_))
            refine hK.out _ _ ⟨(blk_cell BK534.out 0).trans rfl,(blk_cell BK534.out 1).trans rfl,(blk_cell BK534.out 2).trans rfl,(blk_cell BK534.out 3).trans rfl⟩ (fun hHeld=>?_)
            clear hK K
            refine norm_ (a':=?_) ?_ ?_
            rotate_left
            ·show Act.put _ (some 69) _=_
             simp only [Act.put,List.setIfInBounds_toArray,List.set_cons_zero,List.set_cons_succ,i64_w,i32_w]
             rfl
            refine pure_ (i:=3) (N:=some 70) (v:=?_) (a':=?_) #[true,true,true,true,false,false,false,false,false,false,false,false,false,false,false,false,false,false,false,false,false,false] rfl rfl (any_of HT_.out (by kernel_rfl)) (fun _ _ _ h=>h) (Or.inl ⟨by rfl,?_⟩) ?_ ?_
            rotate_left;(intro w';go_simp;with_reducible rfl);rotate_left;(simp only [Act.put,List.setIfInBounds_toArray,List.set_cons_zero,List.set_cons_succ,i64_w,i32_w];rfl)
            refine pure_ (i:=4) (N:=some 71) (v:=?_) (a':=?_) #[true,true,true,true,true,false,false,false,false,false,false,false,false,false,false,false,false,false,false,false,false,false] rfl rfl (any_of HT_.out (by kernel_rfl)) (fun _ _ _ h=>h) (Or.inl ⟨by rfl,?_⟩) ?_ ?_
            rotate_left;(intro w';go_simp;with_reducible rfl);rotate_left;(simp only [Act.put,List.setIfInBounds_toArray,List.set_cons_zero,List.set_cons_succ,i64_w,i32_w];rfl)
            refine pure_ (i:=6) (N:=some 73) (v:=?_) (a':=?_) #[true,true,true,true,true,false,true,false,false,false,false,false,false,false,false,false,false,false,false,false,false,false] rfl rfl (any_of HT_.out (by kernel_rfl)) (fun _ _ _ h=>h) (Or.inl ⟨by rfl,?_⟩) ?_ ?_
            rotate_left;(intro w';go_simp;with_reducible rfl);rotate_left;(simp only [Act.put,List.setIfInBounds_toArray,List.set_cons_zero,List.set_cons_succ,i64_w,i32_w];rfl)
            refine pure_ (i:=9) (N:=some 76) (v:=?_) (a':=?_) #[true,true,true,true,true,false,true,false,false,true,false,false,false,false,false,false,false,false,false,false,false,false] rfl rfl (any_of HT_.out (by kernel_rfl)) (fun _ _ _ h=>h) (Or.inl ⟨by rfl,?_⟩) ?_ ?_
            rotate_left;(intro w';go_simp;with_reducible rfl);rotate_left;(simp only [Act.put,List.setIfInBounds_toArray,List.set_cons_zero,List.set_cons_succ,i64_w,i32_w];rfl)
            refine take_ (i:=5) (N:=some 72) (v:=?_) (a':=?_) #[true,true,true,true,true,true,true,false,false,true,false,false,false,false,false,false,false,false,false,false,false,false] rfl rfl (take_ofW HT_.out HW_.out (by kernel_rfl)) (fun _ _ _ h=>h) (Or.inl ⟨by rfl,?_⟩) hHeld ?_ ?_
            rotate_left;(rintro w' ⟨s0,s1,s2,s3⟩;go_simp;with_reducible rfl);rotate_left;(simp only [Act.put,List.setIfInBounds_toArray,List.set_cons_zero,List.set_cons_succ,i64_w,i32_w];rfl)
            refine take_ (i:=8) (N:=some 75) (v:=?_) (a':=?_) #[true,true,true,true,true,true,true,false,true,true,false,false,false,false,false,false,false,false,false,false,false,false] rfl rfl (take_ofW HT_.out HW_.out (by kernel_rfl)) (fun _ _ _ h=>h) (Or.inl ⟨by rfl,?_⟩) hHeld ?_ ?_
            rotate_left;(rintro w' ⟨s0,s1,s2,s3⟩;go_simp;with_reducible rfl);rotate_left;(simp only [Act.put,List.setIfInBounds_toArray,List.set_cons_zero,List.set_cons_succ,i64_w,i32_w];rfl)
            refine one_ (i:=7) (N:=some 74) #[true,true,true,true,true,true,true,true,true,true,false,false,false,false,false,false,false,false,false,false,false,false] rfl rfl (one_of HT_.out (by kernel_rfl)) (by decide) (fun K hK=>?_)
            refine goes_ Try.func13 (by kernel_rfl) rfl #[.agg #[.slice Ao10 t536.length co10,.int .i64 t539,.int .i64 t540,.int .i64 t541],.slice Ao74 x8_1.length co74] (by rfl) rfl rfl (by (try simp only [List.map_toArray,List.map_cons,List.map_nil]);first|done|rfl|(simp only [List.length_drop,List.length_take];rfl)) ?_
            with_reducible refine (schema_Batch.calls _ _ t536 t539 t540 t541 _ _ x8_1 t578 _ ?side1 ?side2 ?side3 ?side4 A63.out).mono ?_
            (case side1=>repeat (first|exact (Kd.V_reads' HO_535000.out).2.2|(with_reducible refine Kd.C_alloc ?_ _)|(with_reducible refine Kd.C_drewN ?_ _)|(with_reducible refine Kd.C_drew ?_)))
            (case side2=>exact (Kd.V_reads' HO_535000.out).2.1)
            (case side3=>repeat (first|exact (Kd.S_reads' HO_8.out).2.2|(with_reducible refine Kd.C_alloc ?_ _)|(with_reducible refine Kd.C_drewN ?_ _)|(with_reducible refine Kd.C_drew ?_)))
            (case side4=>exact (Kd.S_reads' HO_8.out).2.1)
            rintro e w75 ⟨rfl,hb⟩
            refine ⟨_,rfl,?_⟩
            have n0_:=Aside0.mk (Kd.V_below (V_up HO_2.out) hb)
            have n1_:=Aside0.mk (Kd.S_below (S_up HO_8.out) hb)
            have n2_:=Aside0.mk (Kd.V_below (V_up HO_535000.out) hb)
            have n3_:=Aside0.mk (Kd.V_below (V_up HO561.out) hb)
            have n4_:=Aside0.mk (Kd.V_below (V_up HO569.out) hb)
            have n5_:=Aside0.mk (blk_below (blk_up BK534.out) hb)
            have n6_:=Aside0.mk (blk_below (blk_up BK566.out) hb)
            have n7_:=Aside0.mk (blk_below (blk_up BK574.out) hb)
            have n8_:=Aside0.mk (below_step (below_go HB.out) hb)
            clear HO_2
            clear HO_8
            clear HO_535000
            clear HO561
            clear HO569
            clear BK534
            clear BK566
            clear BK574
            clear HB
            have HO_2:=n0_
            have HO_8:=n1_
            have HO_535000:=n2_
            have HO561:=n3_
            have HO569:=n4_
            have BK534:=n5_
            have BK566:=n6_
            have BK574:=n7_
            have HB:=n8_
            clear n0_ n1_ n2_ n3_ n4_ n5_ n6_ n7_ n8_
            (try clear hb)
            (try clear hb2)
            (try clear hk)
            (try clear hi)
            refine hK.out _ _ ⟨(blk_cell BK534.out 0).trans rfl,(blk_cell BK534.out 1).trans rfl,(blk_cell BK534.out 2).trans rfl,(blk_cell BK534.out 3).trans rfl⟩ (fun hHeld=>?_)
            clear hK K
            refine norm_ (a':=?_) ?_ ?_
            rotate_left
            ·show Act.put _ (some 74) _=_
             simp only [Act.put,List.setIfInBounds_toArray,List.set_cons_zero,List.set_cons_succ,i64_w,i32_w]
             rfl
            refine one_ (i:=10) (N:=some 77) #[true,true,true,true,true,true,true,true,true,true,true,false,false,false,false,false,false,false,false,false,false,false] rfl rfl (one_of HT_.out (by kernel_rfl)) (by decide) (fun K hK=>?_)
            refine goes_ Try.func25 (by kernel_rfl) rfl #[.agg #[.slice Ao10 t536.length co10,.int .i64 t539,.int .i64 t540,.int .i64 t541],.slice Ao74 x8_1.length co74] (by rfl) rfl rfl (by (try simp only [List.map_toArray,List.map_cons,List.map_nil]);first|done|rfl|(simp only [List.length_drop,List.length_take];rfl)) ?_
            with_reducible refine (thresherref04_Batch.calls kj35 _ _ t536 t539 t540 t541 _ _ x8_1 t579 _ ?side1 ?side2 ?side3 ?side4 A64.out).mono ?_
            (case side1=>repeat (first|exact (Kd.V_reads' HO_535000.out).2.2|(with_reducible refine Kd.C_alloc ?_ _)|(with_reducible refine Kd.C_drewN ?_ _)|(with_reducible refine Kd.C_drew ?_)))
            (case side2=>exact (Kd.V_reads' HO_535000.out).2.1)
            (case side3=>repeat (first|exact (Kd.S_reads' HO_8.out).2.2|(with_reducible refine Kd.C_alloc ?_ _)|(with_reducible refine Kd.C_drewN ?_ _)|(with_reducible refine Kd.C_drew ?_)))
            (case side4=>exact (Kd.S_reads' HO_8.out).2.1)
            rintro e w76 ⟨rfl,hb⟩
            refine ⟨_,rfl,?_⟩
            have n0_:=Aside0.mk (Kd.V_below (V_up HO_2.out) hb)
            have n1_:=Aside0.mk (Kd.S_below (S_up HO_8.out) hb)
            have n2_:=Aside0.mk (Kd.V_below (V_up HO_535000.out) hb)
            have n3_:=Aside0.mk (Kd.V_below (V_up HO561.out) hb)
            have n4_:=Aside0.mk (Kd.V_below (V_up HO569.out) hb)
            have n5_:=Aside0.mk (blk_below (blk_up BK534.out) hb)
            have n6_:=Aside0.mk (blk_below (blk_up BK566.out) hb)
            have n7_:=Aside0.mk (blk_below (blk_up BK574.out) hb)
            have n8_:=Aside0.mk (below_step (below_go HB.out) hb)
            clear HO_2
            clear HO_8
            clear HO_535000
            clear HO561
            clear HO569
            clear BK534
            clear BK566
            clear BK574
            clear HB
            have HO_2:=n0_
            have HO_8:=n1_
            have HO_535000:=n2_
            have HO561:=n3_
            have HO569:=n4_
            have BK534:=n5_
            have BK566:=n6_
            have BK574:=n7_
            have HB:=n8_
            clear n0_ n1_ n2_ n3_ n4_ n5_ n6_ n7_ n8_
            (try clear hb)
            (try clear hb2)
            (try clear hk)
            (try clear hi)
            refine hK.out _ _ ⟨(blk_cell BK534.out 0).trans rfl,(blk_cell BK534.out 1).trans rfl,(blk_cell BK534.out 2).trans rfl,(blk_cell BK534.out 3).trans rfl⟩ (fun hHeld=>?_)
            clear hK K
            refine norm_ (a':=?_) ?_ ?_
            rotate_left
            ·show Act.put _ (some 77) _=_
             simp only [Act.put,List.setIfInBounds_toArray,List.set_cons_zero,List.set_cons_succ,i64_w,i32_w]
             rfl
            refine pure_ (i:=11) (N:=some 78) (v:=?_) (a':=?_) #[true,true,true,true,true,true,true,true,true,true,true,true,false,false,false,false,false,false,false,false,false,false] rfl rfl (any_of HT_.out (by kernel_rfl)) (fun _ _ _ h=>h) (Or.inl ⟨by rfl,?_⟩) ?_ ?_
            rotate_left;(intro w';go_simp;with_reducible rfl);rotate_left;(simp only [Act.put,List.setIfInBounds_toArray,List.set_cons_zero,List.set_cons_succ,i64_w,i32_w];rfl)
            refine pure_ (i:=12) (N:=some 79) (v:=?_) (a':=?_) #[true,true,true,true,true,true,true,true,true,true,true,true,true,false,false,false,false,false,false,false,false,false] rfl rfl (any_of HT_.out (by kernel_rfl)) (fun _ _ _ h=>h) (Or.inl ⟨by rfl,?_⟩) ?_ ?_
            rotate_left;(intro w';go_simp;with_reducible rfl);rotate_left;(simp only [Act.put,List.setIfInBounds_toArray,List.set_cons_zero,List.set_cons_succ,i64_w,i32_w];rfl)
            refine pure_ (i:=13) (N:=some 80) (v:=?_) (a':=?_) #[true,true,true,true,true,true,true,true,true,true,true,true,true,true,false,false,false,false,false,false,false,false] rfl rfl (any_of HT_.out (by kernel_rfl)) (fun _ _ _ h=>h) (Or.inl ⟨by rfl,?_⟩) ?_ ?_
            rotate_left;(intro w';go_simp;with_reducible rfl);rotate_left;(simp only [Act.put,List.setIfInBounds_toArray,List.set_cons_zero,List.set_cons_succ,i64_w,i32_w];rfl)
            refine pure_ (i:=14) (N:=some 81) (v:=?_) (a':=?_) #[true,true,true,true,true,true,true,true,true,true,true,true,true,true,true,false,false,false,false,false,false,false] rfl rfl (any_of HT_.out (by kernel_rfl)) (fun _ _ _ h=>h) (Or.inl ⟨by rfl,?_⟩) ?_ ?_
            rotate_left;(intro w';go_simp;with_reducible rfl);rotate_left;(simp only [Act.put,List.setIfInBounds_toArray,List.set_cons_zero,List.set_cons_succ,i64_w,i32_w];rfl)
            refine pure_ (i:=15) (N:=some 82) (v:=?_) (a':=?_) #[true,true,true,true,true,true,true,true,true,true,true,true,true,true,true,true,false,false,false,false,false,false] rfl rfl (any_of HT_.out (by kernel_rfl)) (fun _ _ _ h=>h) (Or.inl ⟨by rfl,?_⟩) ?_ ?_
            rotate_left;(intro w';go_simp;with_reducible rfl);rotate_left;(simp only [Act.put,List.setIfInBounds_toArray,List.set_cons_zero,List.set_cons_succ,i64_w,i32_w];rfl)
            refine pure_ (i:=16) (N:=some 83) (v:=?_) (a':=?_) #[true,true,true,true,true,true,true,true,true,true,true,true,true,true,true,true,true,false,false,false,false,false] rfl rfl (any_of HT_.out (by kernel_rfl)) (fun _ _ _ h=>h) (Or.inl ⟨by rfl,?_⟩) ?_ ?_
            rotate_left;(intro w';go_simp;with_reducible rfl);rotate_left;(simp only [Act.put,List.setIfInBounds_toArray,List.set_cons_zero,List.set_cons_succ,i64_w,i32_w];rfl)
            refine pure_ (i:=17) (N:=some 84) (v:=?_) (a':=?_) #[true,true,true,true,true,true,true,true,true,true,true,true,true,true,true,true,true,true,false,false,false,false] rfl rfl (any_of HT_.out (by kernel_rfl)) (fun _ _ _ h=>h) (Or.inl ⟨by rfl,?_⟩) ?_ ?_
            rotate_left;(intro w';go_simp;with_reducible rfl);rotate_left;(simp only [Act.put,List.setIfInBounds_toArray,List.set_cons_zero,List.set_cons_succ,i64_w,i32_w];rfl)
            refine pure_ (i:=18) (N:=some 85) (v:=undef) (a':=?_) #[true,true,true,true,true,true,true,true,true,true,true,true,true,true,true,true,true,true,true,false,false,false] rfl rfl (any_of HT_.out (by kernel_rfl)) (fun _ _ _ h=>h) (Or.inr ⟨by rfl,rfl⟩) ?_ ?_
            rotate_left
            ·simp only [Act.put,List.setIfInBounds_toArray,List.set_cons_zero,List.set_cons_succ,i64_w,i32_w]
             rfl
            refine pure_ (i:=19) (N:=some 86) (v:=undef) (a':=?_) #[true,true,true,true,true,true,true,true,true,true,true,true,true,true,true,true,true,true,true,true,false,false] rfl rfl (any_of HT_.out (by kernel_rfl)) (fun _ _ _ h=>h) (Or.inr ⟨by rfl,rfl⟩) ?_ ?_
            rotate_left
            ·simp only [Act.put,List.setIfInBounds_toArray,List.set_cons_zero,List.set_cons_succ,i64_w,i32_w]
             rfl
            refine pure_ (i:=20) (N:=some 87) (v:=undef) (a':=?_) #[true,true,true,true,true,true,true,true,true,true,true,true,true,true,true,true,true,true,true,true,true,false] rfl rfl (any_of HT_.out (by kernel_rfl)) (fun _ _ _ h=>h) (Or.inr ⟨by rfl,rfl⟩) ?_ ?_
            rotate_left
            ·simp only [Act.put,List.setIfInBounds_toArray,List.set_cons_zero,List.set_cons_succ,i64_w,i32_w]
             rfl
            refine pure_ (i:=21) (N:=some 88) (v:=?_) (a':=?_) #[true,true,true,true,true,true,true,true,true,true,true,true,true,true,true,true,true,true,true,true,true,true] rfl rfl (any_of HT_.out (by kernel_rfl)) (fun _ _ _ h=>h) (Or.inl ⟨by rfl,?_⟩) ?_ ?_
            rotate_left;(intro w';go_simp;with_reducible rfl);rotate_left;(simp only [Act.put,List.setIfInBounds_toArray,List.set_cons_zero,List.set_cons_succ,i64_w,i32_w];rfl)
            refine done_ (done_of HT_.out (by kernel_rfl)) ?_
            (try clear hHeld)
            try go_wp2
            go_meet
            case rel=>exact ⟨_,(true),(by first|rfl|(simp;done)|(simp [*];done)),(by first|exact H'|(subst_vars;exact H')),⟨by have:=HK1.out;have:=HJ13.out;have:=HJ35.out;first|omega|exact Nat.le_refl _⟩,⟨by (with_reducible repeat (first|apply Kd.V_alloc|apply Kd.V_drewN|apply Kd.V_drew));exact Kd.V_mono HO_535000.out (fun _ hk=>⟨hk.1.1.1,⟨hk.1.1.2.2,⟨hk.1.2,hk.2⟩⟩⟩)⟩,⟨by (with_reducible repeat (first|apply Kd.V_alloc|apply Kd.V_drewN|apply Kd.V_drew));exact Kd.V_mono HO561.out (fun _ hk=>⟨hk.1.1.1,⟨hk.1.1.2.2,⟨hk.1.2,hk.2⟩⟩⟩)⟩,⟨by (with_reducible repeat (first|apply Kd.V_alloc|apply Kd.V_drewN|apply Kd.V_drew));exact Kd.V_mono HO569.out (fun _ hk=>⟨hk.1.1,⟨hk.1.2.2.1,⟨hk.1.2.2.2,hk.2⟩⟩⟩)⟩,⟨by (with_reducible repeat (first|refine blk_drewN ?_ _|refine blk_drew ?_|refine blk_alloc ?_ _));exact BK534.out⟩,⟨by (with_reducible repeat (first|refine blk_drewN ?_ _|refine blk_drew ?_|refine blk_alloc ?_ _));exact BK566.out⟩,⟨by (with_reducible repeat (first|refine blk_drewN ?_ _|refine blk_drew ?_|refine blk_alloc ?_ _));exact BK574.out⟩,⟨by repeat (first|(with_reducible first|exact HB.out|apply below_alloc|apply pw_below_drewN|apply below_drew1|refine below_set ?_ GE534.out|refine below_set ?_ GE566.out|refine below_set ?_ GE574.out)|exact HB.out)⟩⟩
          ·rw [if_neg c65] at H
           have c65b0 : (t578 == t579)=false:=beq_eq_false_iff_ne.mpr c65
           have c65b1 : (t578 != t579)=true:=bne_iff_ne.mpr c65
           have H':=Aside0.mk H
           clear H
           try go_wp2
           have n0_:=Aside0.mk (Kd.V_drew HO_2.out)
           have n1_:=Aside0.mk (Kd.S_drew HO_8.out)
           have n2_:=Aside0.mk (Kd.V_drew HO_535000.out)
           have n3_:=Aside0.mk (Kd.V_drew HO561.out)
           have n4_:=Aside0.mk (Kd.V_drew HO569.out)
           have n5_:=Aside0.mk (blk_drew BK534.out)
           have n6_:=Aside0.mk (blk_drew BK566.out)
           have n7_:=Aside0.mk (blk_drew BK574.out)
           have n8_:=Aside0.mk (below_drew1 HB.out)
           clear HO_2
           clear HO_8
           clear HO_535000
           clear HO561
           clear HO569
           clear BK534
           clear BK566
           clear BK574
           clear HB
           have HO_2:=n0_
           have HO_8:=n1_
           have HO_535000:=n2_
           have HO561:=n3_
           have HO569:=n4_
           have BK534:=n5_
           have BK566:=n6_
           have BK574:=n7_
           have HB:=n8_
           clear n0_ n1_ n2_ n3_ n4_ n5_ n6_ n7_ n8_
           refine start_ (n:=22) (S:=fun w'=>w'.cell? ⟨gb534,0,none⟩=some (.slice Ao10 t536.length co10)∧w'.cell? ⟨gb534,1,none⟩=some (.int .i64 t539)∧w'.cell? ⟨gb534,2,none⟩=some (.int .i64 t540)∧w'.cell? ⟨gb534,3,none⟩=some (.int .i64 t541)) (ds:=[]) #[false,false,false,false,false,false,false,false,false,false,false,false,false,false,false,false,false,false,false,false,false,false] (by kernel_rfl) rfl rfl ⟨(blk_cell BK534.out 0).trans rfl,(blk_cell BK534.out 1).trans rfl,(blk_cell BK534.out 2).trans rfl,(blk_cell BK534.out 3).trans rfl⟩ (fun hHeld=>?_);refine with_tabW thresherlaw04_SchemaAll.tab17 thresherlaw04_SchemaAll.bits17 (fun HT_ HW_=>?_)
           generalize w60.drew=w77 at HO_2 HO_8 HO_535000 HO561 HO569 BK534 BK566 BK574 HB hHeld ⊢
           refine pure_ (i:=0) (N:=some 67) (v:=?_) (a':=?_) #[true,false,false,false,false,false,false,false,false,false,false,false,false,false,false,false,false,false,false,false,false,false] rfl rfl (any_of HT_.out (by kernel_rfl)) (fun _ _ _ h=>h) (Or.inl ⟨by rfl,?_⟩) ?_ ?_
           rotate_left;(intro w';go_simp;with_reducible rfl);rotate_left;(simp only [Act.put,List.setIfInBounds_toArray,List.set_cons_zero,List.set_cons_succ,i64_w,i32_w];rfl)
           refine take_ (i:=1) (N:=some 68) (v:=?_) (a':=?_) #[true,true,false,false,false,false,false,false,false,false,false,false,false,false,false,false,false,false,false,false,false,false] rfl rfl (take_ofW HT_.out HW_.out (by kernel_rfl)) (fun _ _ _ h=>h) (Or.inl ⟨by rfl,?_⟩) hHeld ?_ ?_
           rotate_left;(rintro w' ⟨s0,s1,s2,s3⟩;go_simp;with_reducible rfl);rotate_left;(simp only [Act.put,List.setIfInBounds_toArray,List.set_cons_zero,List.set_cons_succ,i64_w,i32_w];rfl)
           refine one_ (i:=2) (N:=some 69) #[true,true,true,false,false,false,false,false,false,false,false,false,false,false,false,false,false,false,false,false,false,false] rfl rfl (one_of HT_.out (by kernel_rfl)) (by decide) (fun K hK=>?_)
           refine goes_ Try.func24 (by kernel_rfl) rfl #[.agg #[.slice Ao10 t536.length co10,.int .i64 t539,.int .i64 t540,.int .i64 t541]] (by rfl) rfl rfl (by (try simp only [List.map_toArray,List.map_cons,List.map_nil]);first|done|rfl|(simp only [List.length_drop,List.length_take];rfl)) ?_
           with_reducible refine (thresherref04_Check.calls kj35 _ _ t536 t539 t540 t541 t577 _ ?side1 ?side2 A61.out).mono ?_
           (case side1=>repeat (first|exact (Kd.V_reads' HO_535000.out).2.2|(with_reducible refine Kd.C_alloc ?_ _)|(with_reducible refine Kd.C_drewN ?_ _)|(with_reducible refine Kd.C_drew ?_)))
           (case side2=>exact (Kd.V_reads' HO_535000.out).2.1)
           rintro e w78 ⟨rfl,hb⟩
           refine ⟨_,rfl,?_⟩
           have n0_:=Aside0.mk (Kd.V_below (V_up HO_2.out) hb)
           have n1_:=Aside0.mk (Kd.S_below (S_up HO_8.out) hb)
           have n2_:=Aside0.mk (Kd.V_below (V_up HO_535000.out) hb)
           have n3_:=Aside0.mk (Kd.V_below (V_up HO561.out) hb)
           have n4_:=Aside0.mk (Kd.V_below (V_up HO569.out) hb)
           have n5_:=Aside0.mk (blk_below (blk_up BK534.out) hb)
           have n6_:=Aside0.mk (blk_below (blk_up BK566.out) hb)
           have n7_:=Aside0.mk (blk_below (blk_up BK574.out) hb)
           have n8_:=Aside0.mk (below_step (below_go HB.out) hb)
           clear HO_2
           clear HO_8
           clear HO_535000
           clear HO561
           clear HO569
           clear BK534
           clear BK566
           clear BK574
           clear HB
           have HO_2:=n0_
           have HO_8:=n1_
           have HO_535000:=n2_
           have HO561:=n3_
           have HO569:=n4_
           have BK534:=n5_
           have BK566:=n6_
           have BK574:=n7_
           have HB:=n8_
           clear n0_ n1_ n2_ n3_ n4_ n5_ n6_ n7_ n8_
           (try clear hb)
           (try clear hb2)
           (try clear hk)
           (try clear hi)
           obtain ⟨Ao79,co79,eo79⟩:=Kd.S_slice HO_8.out
           (first|subst eo79|(injection eo79 with f1_ f2_ f3_;have f4_:=f1_.symm;have f5_:=f3_.symm;clear f1_ f2_ f3_;subst f4_;subst f5_))
           refine hK.out _ _ ⟨(blk_cell BK534.out 0).trans rfl,(blk_cell BK534.out 1).trans rfl,(blk_cell BK534.out 2).trans rfl,(blk_cell BK534.out 3).trans rfl⟩ (fun hHeld=>?_)
           clear hK K
           refine norm_ (a':=?_) ?_ ?_
           rotate_left
           ·show Act.put _ (some 69) _=_
            simp only [Act.put,List.setIfInBounds_toArray,List.set_cons_zero,List.set_cons_succ,i64_w,i32_w]
            rfl
           refine pure_ (i:=3) (N:=some 70) (v:=?_) (a':=?_) #[true,true,true,true,false,false,false,false,false,false,false,false,false,false,false,false,false,false,false,false,false,false] rfl rfl (any_of HT_.out (by kernel_rfl)) (fun _ _ _ h=>h) (Or.inl ⟨by rfl,?_⟩) ?_ ?_
           rotate_left;(intro w';go_simp;with_reducible rfl);rotate_left;(simp only [Act.put,List.setIfInBounds_toArray,List.set_cons_zero,List.set_cons_succ,i64_w,i32_w];rfl)
           refine pure_ (i:=4) (N:=some 71) (v:=?_) (a':=?_) #[true,true,true,true,true,false,false,false,false,false,false,false,false,false,false,false,false,false,false,false,false,false] rfl rfl (any_of HT_.out (by kernel_rfl)) (fun _ _ _ h=>h) (Or.inl ⟨by rfl,?_⟩) ?_ ?_
           rotate_left;(intro w';go_simp;with_reducible rfl);rotate_left;(simp only [Act.put,List.setIfInBounds_toArray,List.set_cons_zero,List.set_cons_succ,i64_w,i32_w];rfl)
           refine pure_ (i:=6) (N:=some 73) (v:=?_) (a':=?_) #[true,true,true,true,true,false,true,false,false,false,false,false,false,false,false,false,false,false,false,false,false,false] rfl rfl (any_of HT_.out (by kernel_rfl)) (fun _ _ _ h=>h) (Or.inl ⟨by rfl,?_⟩) ?_ ?_
           rotate_left;(intro w';go_simp;with_reducible rfl);rotate_left;(simp only [Act.put,List.setIfInBounds_toArray,List.set_cons_zero,List.set_cons_succ,i64_w,i32_w];rfl)
           refine pure_ (i:=9) (N:=some 76) (v:=?_) (a':=?_) #[true,true,true,true,true,false,true,false,false,true,false,false,false,false,false,false,false,false,false,false,false,false] rfl rfl (any_of HT_.out (by kernel_rfl)) (fun _ _ _ h=>h) (Or.inl ⟨by rfl,?_⟩) ?_ ?_
           rotate_left;(intro w';go_simp;with_reducible rfl);rotate_left;(simp only [Act.put,List.setIfInBounds_toArray,List.set_cons_zero,List.set_cons_succ,i64_w,i32_w];rfl)
           refine take_ (i:=5) (N:=some 72) (v:=?_) (a':=?_) #[true,true,true,true,true,true,true,false,false,true,false,false,false,false,false,false,false,false,false,false,false,false] rfl rfl (take_ofW HT_.out HW_.out (by kernel_rfl)) (fun _ _ _ h=>h) (Or.inl ⟨by rfl,?_⟩) hHeld ?_ ?_
           rotate_left;(rintro w' ⟨s0,s1,s2,s3⟩;go_simp;with_reducible rfl);rotate_left;(simp only [Act.put,List.setIfInBounds_toArray,List.set_cons_zero,List.set_cons_succ,i64_w,i32_w];rfl)
           refine take_ (i:=8) (N:=some 75) (v:=?_) (a':=?_) #[true,true,true,true,true,true,true,false,true,true,false,false,false,false,false,false,false,false,false,false,false,false] rfl rfl (take_ofW HT_.out HW_.out (by kernel_rfl)) (fun _ _ _ h=>h) (Or.inl ⟨by rfl,?_⟩) hHeld ?_ ?_
           rotate_left;(rintro w' ⟨s0,s1,s2,s3⟩;go_simp;with_reducible rfl);rotate_left;(simp only [Act.put,List.setIfInBounds_toArray,List.set_cons_zero,List.set_cons_succ,i64_w,i32_w];rfl)
           refine one_ (i:=7) (N:=some 74) #[true,true,true,true,true,true,true,true,true,true,false,false,false,false,false,false,false,false,false,false,false,false] rfl rfl (one_of HT_.out (by kernel_rfl)) (by decide) (fun K hK=>?_)
           refine goes_ Try.func13 (by kernel_rfl) rfl #[.agg #[.slice Ao10 t536.length co10,.int .i64 t539,.int .i64 t540,.int .i64 t541],.slice Ao79 x8_1.length co79] (by rfl) rfl rfl (by (try simp only [List.map_toArray,List.map_cons,List.map_nil]);first|done|rfl|(simp only [List.length_drop,List.length_take];rfl)) ?_
           with_reducible refine (schema_Batch.calls _ _ t536 t539 t540 t541 _ _ x8_1 t578 _ ?side1 ?side2 ?side3 ?side4 A63.out).mono ?_
           (case side1=>repeat (first|exact (Kd.V_reads' HO_535000.out).2.2|(with_reducible refine Kd.C_alloc ?_ _)|(with_reducible refine Kd.C_drewN ?_ _)|(with_reducible refine Kd.C_drew ?_)))
           (case side2=>exact (Kd.V_reads' HO_535000.out).2.1)
           (case side3=>repeat (first|exact (Kd.S_reads' HO_8.out).2.2|(with_reducible refine Kd.C_alloc ?_ _)|(with_reducible refine Kd.C_drewN ?_ _)|(with_reducible refine Kd.C_drew ?_)))
           (case side4=>exact (Kd.S_reads' HO_8.out).2.1)
           rintro e w80 ⟨rfl,hb⟩
           refine ⟨_,rfl,?_⟩
           have n0_:=Aside0.mk (Kd.V_below (V_up HO_2.out) hb)
           have n1_:=Aside0.mk (Kd.S_below (S_up HO_8.out) hb)
           have n2_:=Aside0.mk (Kd.V_below (V_up HO_535000.out) hb)
           have n3_:=Aside0.mk (Kd.V_below (V_up HO561.out) hb)
           have n4_:=Aside0.mk (Kd.V_below (V_up HO569.out) hb)
           have n5_:=Aside0.mk (blk_below (blk_up BK534.out) hb)
           have n6_:=Aside0.mk (blk_below (blk_up BK566.out) hb)
           have n7_:=Aside0.mk (blk_below (blk_up BK574.out) hb)
           have n8_:=Aside0.mk (below_step (below_go HB.out) hb)
           clear HO_2
           clear HO_8
           clear HO_535000
           clear HO561
           clear HO569
           clear BK534
           clear BK566
           clear BK574
           clear HB
           have HO_2:=n0_
           have HO_8:=n1_
           have HO_535000:=n2_
           have HO561:=n3_
           have HO569:=n4_
           have BK534:=n5_
           have BK566:=n6_
           have BK574:=n7_
           have HB:=n8_
           clear n0_ n1_ n2_ n3_ n4_ n5_ n6_ n7_ n8_
           (try clear hb)
           (try clear hb2)
           (try clear hk)
           (try clear hi)
           refine hK.out _ _ ⟨(blk_cell BK534.out 0).trans rfl,(blk_cell BK534.out 1).trans rfl,(blk_cell BK534.out 2).trans rfl,(blk_cell BK534.out 3).trans rfl⟩ (fun hHeld=>?_)
           clear hK K
           refine norm_ (a':=?_) ?_ ?_
           rotate_left
           ·show Act.put _ (some 74) _=_
            simp only [Act.put,List.setIfInBounds_toArray,List.set_cons_zero,List.set_cons_succ,i64_w,i32_w]
            rfl
           refine one_ (i:=10) (N:=some 77) #[true,true,true,true,true,true,true,true,true,true,true,false,false,false,false,false,false,false,false,false,false,false] rfl rfl (one_of HT_.out (by kernel_rfl)) (by decide) (fun K hK=>?_)
           refine goes_ Try.func25 (by kernel_rfl) rfl #[.agg #[.slice Ao10 t536.length co10,.int .i64 t539,.int .i64 t540,.int .i64 t541],.slice Ao79 x8_1.length co79] (by rfl) rfl rfl (by (try simp only [List.map_toArray,List.map_cons,List.map_nil]);first|done|rfl|(simp only [List.length_drop,List.length_take];rfl)) ?_
           with_reducible refine (thresherref04_Batch.calls kj35 _ _ t536 t539 t540 t541 _ _ x8_1 t579 _ ?side1 ?side2 ?side3 ?side4 A64.out).mono ?_
           (case side1=>repeat (first|exact (Kd.V_reads' HO_535000.out).2.2|(with_reducible refine Kd.C_alloc ?_ _)|(with_reducible refine Kd.C_drewN ?_ _)|(with_reducible refine Kd.C_drew ?_)))
           (case side2=>exact (Kd.V_reads' HO_535000.out).2.1)
           (case side3=>repeat (first|exact (Kd.S_reads' HO_8.out).2.2|(with_reducible refine Kd.C_alloc ?_ _)|(with_reducible refine Kd.C_drewN ?_ _)|(with_reducible refine Kd.C_drew ?_)))
           (case side4=>exact (Kd.S_reads' HO_8.out).2.1)
           rintro e w81 ⟨rfl,hb⟩
           refine ⟨_,rfl,?_⟩
           have n0_:=Aside0.mk (Kd.V_below (V_up HO_2.out) hb)
           have n1_:=Aside0.mk (Kd.S_below (S_up HO_8.out) hb)
           have n2_:=Aside0.mk (Kd.V_below (V_up HO_535000.out) hb)
           have n3_:=Aside0.mk (Kd.V_below (V_up HO561.out) hb)
           have n4_:=Aside0.mk (Kd.V_below (V_up HO569.out) hb)
           have n5_:=Aside0.mk (blk_below (blk_up BK534.out) hb)
           have n6_:=Aside0.mk (blk_below (blk_up BK566.out) hb)
           have n7_:=Aside0.mk (blk_below (blk_up BK574.out) hb)
           have n8_:=Aside0.mk (below_step (below_go HB.out) hb)
           clear HO_2
           clear HO_8
           clear HO_535000
           clear HO561
           clear HO569
           clear BK534
           clear BK566
           clear BK574
           clear HB
           have HO_2:=n0_
           have HO_8:=n1_
           have HO_535000:=n2_
           have HO561:=n3_
           have HO569:=n4_
           have BK534:=n5_
           have BK566:=n6_
           have BK574:=n7_
           have HB:=n8_
           clear n0_ n1_ n2_ n3_ n4_ n5_ n6_ n7_ n8_
           (try clear hb)
           (try clear hb2)
           (try clear hk)
           (try clear hi)
           refine hK.out _ _ ⟨(blk_cell BK534.out 0).trans rfl,(blk_cell BK534.out 1).trans rfl,(blk_cell BK534.out 2).trans rfl,(blk_cell BK534.out 3).trans rfl⟩ (fun hHeld=>?_)
           clear hK K
           refine norm_ (a':=?_) ?_ ?_
           rotate_left
           ·show Act.put _ (some 77) _=_
            simp only [Act.put,List.setIfInBounds_toArray,List.set_cons_zero,List.set_cons_succ,i64_w,i32_w]
            rfl
           refine pure_ (i:=11) (N:=some 78) (v:=?_) (a':=?_) #[true,true,true,true,true,true,true,true,true,true,true,true,false,false,false,false,false,false,false,false,false,false] rfl rfl (any_of HT_.out (by kernel_rfl)) (fun _ _ _ h=>h) (Or.inl ⟨by rfl,?_⟩) ?_ ?_
           rotate_left;(intro w';go_simp;with_reducible rfl);rotate_left;(simp only [Act.put,List.setIfInBounds_toArray,List.set_cons_zero,List.set_cons_succ,i64_w,i32_w];rfl)
           refine pure_ (i:=12) (N:=some 79) (v:=?_) (a':=?_) #[true,true,true,true,true,true,true,true,true,true,true,true,true,false,false,false,false,false,false,false,false,false] rfl rfl (any_of HT_.out (by kernel_rfl)) (fun _ _ _ h=>h) (Or.inl ⟨by rfl,?_⟩) ?_ ?_
           rotate_left;(intro w';go_simp;with_reducible rfl);rotate_left;(simp only [Act.put,List.setIfInBounds_toArray,List.set_cons_zero,List.set_cons_succ,i64_w,i32_w];rfl)
           refine pure_ (i:=13) (N:=some 80) (v:=?_) (a':=?_) #[true,true,true,true,true,true,true,true,true,true,true,true,true,true,false,false,false,false,false,false,false,false] rfl rfl (any_of HT_.out (by kernel_rfl)) (fun _ _ _ h=>h) (Or.inl ⟨by rfl,?_⟩) ?_ ?_
           rotate_left;(intro w';go_simp;with_reducible rfl);rotate_left;(simp only [Act.put,List.setIfInBounds_toArray,List.set_cons_zero,List.set_cons_succ,i64_w,i32_w];rfl)
           refine pure_ (i:=14) (N:=some 81) (v:=undef) (a':=?_) #[true,true,true,true,true,true,true,true,true,true,true,true,true,true,true,false,false,false,false,false,false,false] rfl rfl (any_of HT_.out (by kernel_rfl)) (fun _ _ _ h=>h) (Or.inr ⟨by rfl,rfl⟩) ?_ ?_
           rotate_left
           ·simp only [Act.put,List.setIfInBounds_toArray,List.set_cons_zero,List.set_cons_succ,i64_w,i32_w]
            rfl
           refine pure_ (i:=15) (N:=some 82) (v:=undef) (a':=?_) #[true,true,true,true,true,true,true,true,true,true,true,true,true,true,true,true,false,false,false,false,false,false] rfl rfl (any_of HT_.out (by kernel_rfl)) (fun _ _ _ h=>h) (Or.inr ⟨by rfl,rfl⟩) ?_ ?_
           rotate_left
           ·simp only [Act.put,List.setIfInBounds_toArray,List.set_cons_zero,List.set_cons_succ,i64_w,i32_w]
            rfl
           refine pure_ (i:=16) (N:=some 83) (v:=?_) (a':=?_) #[true,true,true,true,true,true,true,true,true,true,true,true,true,true,true,true,true,false,false,false,false,false] rfl rfl (any_of HT_.out (by kernel_rfl)) (fun _ _ _ h=>h) (Or.inl ⟨by rfl,?_⟩) ?_ ?_
           rotate_left;(intro w';go_simp;with_reducible rfl);rotate_left;(simp only [Act.put,List.setIfInBounds_toArray,List.set_cons_zero,List.set_cons_succ,i64_w,i32_w];rfl)
           refine pure_ (i:=17) (N:=some 84) (v:=?_) (a':=?_) #[true,true,true,true,true,true,true,true,true,true,true,true,true,true,true,true,true,true,false,false,false,false] rfl rfl (any_of HT_.out (by kernel_rfl)) (fun _ _ _ h=>h) (Or.inl ⟨by rfl,?_⟩) ?_ ?_
           rotate_left;(intro w';go_simp;with_reducible rfl);rotate_left;(simp only [Act.put,List.setIfInBounds_toArray,List.set_cons_zero,List.set_cons_succ,i64_w,i32_w];rfl)
           refine pure_ (i:=18) (N:=some 85) (v:=undef) (a':=?_) #[true,true,true,true,true,true,true,true,true,true,true,true,true,true,true,true,true,true,true,false,false,false] rfl rfl (any_of HT_.out (by kernel_rfl)) (fun _ _ _ h=>h) (Or.inr ⟨by rfl,rfl⟩) ?_ ?_
           rotate_left
           ·simp only [Act.put,List.setIfInBounds_toArray,List.set_cons_zero,List.set_cons_succ,i64_w,i32_w]
            rfl
           refine pure_ (i:=19) (N:=some 86) (v:=undef) (a':=?_) #[true,true,true,true,true,true,true,true,true,true,true,true,true,true,true,true,true,true,true,true,false,false] rfl rfl (any_of HT_.out (by kernel_rfl)) (fun _ _ _ h=>h) (Or.inr ⟨by rfl,rfl⟩) ?_ ?_
           rotate_left
           ·simp only [Act.put,List.setIfInBounds_toArray,List.set_cons_zero,List.set_cons_succ,i64_w,i32_w]
            rfl
           refine pure_ (i:=20) (N:=some 87) (v:=undef) (a':=?_) #[true,true,true,true,true,true,true,true,true,true,true,true,true,true,true,true,true,true,true,true,true,false] rfl rfl (any_of HT_.out (by kernel_rfl)) (fun _ _ _ h=>h) (Or.inr ⟨by rfl,rfl⟩) ?_ ?_
           rotate_left
           ·simp only [Act.put,List.setIfInBounds_toArray,List.set_cons_zero,List.set_cons_succ,i64_w,i32_w]
            rfl
           refine pure_ (i:=21) (N:=some 88) (v:=?_) (a':=?_) #[true,true,true,true,true,true,true,true,true,true,true,true,true,true,true,true,true,true,true,true,true,true] rfl rfl (any_of HT_.out (by kernel_rfl)) (fun _ _ _ h=>h) (Or.inl ⟨by rfl,?_⟩) ?_ ?_
           rotate_left;(intro w';go_simp;with_reducible rfl);rotate_left;(simp only [Act.put,List.setIfInBounds_toArray,List.set_cons_zero,List.set_cons_succ,i64_w,i32_w];rfl)
           refine done_ (done_of HT_.out (by kernel_rfl)) ?_
           (try clear hHeld)
           try go_wp2
           go_meet
           case rel=>exact ⟨_,(true),(by first|rfl|(simp;done)|(simp [*];done)),(by first|exact H'|(subst_vars;exact H')),⟨by have:=HK1.out;have:=HJ13.out;have:=HJ35.out;first|omega|exact Nat.le_refl _⟩,⟨by (with_reducible repeat (first|apply Kd.V_alloc|apply Kd.V_drewN|apply Kd.V_drew));exact Kd.V_mono HO_535000.out (fun _ hk=>⟨hk.1.1.1,⟨hk.1.1.2.2,⟨hk.1.2,hk.2⟩⟩⟩)⟩,⟨by (with_reducible repeat (first|apply Kd.V_alloc|apply Kd.V_drewN|apply Kd.V_drew));exact Kd.V_mono HO561.out (fun _ hk=>⟨hk.1.1.1,⟨hk.1.1.2.2,⟨hk.1.2,hk.2⟩⟩⟩)⟩,⟨by (with_reducible repeat (first|apply Kd.V_alloc|apply Kd.V_drewN|apply Kd.V_drew));exact Kd.V_mono HO569.out (fun _ hk=>⟨hk.1.1,⟨hk.1.2.2.1,⟨hk.1.2.2.2,hk.2⟩⟩⟩)⟩,⟨by (with_reducible repeat (first|refine blk_drewN ?_ _|refine blk_drew ?_|refine blk_alloc ?_ _));exact BK534.out⟩,⟨by (with_reducible repeat (first|refine blk_drewN ?_ _|refine blk_drew ?_|refine blk_alloc ?_ _));exact BK566.out⟩,⟨by (with_reducible repeat (first|refine blk_drewN ?_ _|refine blk_drew ?_|refine blk_alloc ?_ _));exact BK574.out⟩,⟨by repeat (first|(with_reducible first|exact HB.out|apply below_alloc|apply pw_below_drewN|apply below_drew1|refine below_set ?_ GE534.out|refine below_set ?_ GE566.out|refine below_set ?_ GE574.out)|exact HB.out)⟩⟩
         ·rw [if_neg c62] at H
          have c62b0 : (t576 == t577)=false:=beq_eq_false_iff_ne.mpr c62
          have c62b1 : (t576 != t577)=true:=bne_iff_ne.mpr c62
          (first|rw [c62b0]|(simp only [i64_w,i32_w];rw [c62b0])|skip)
          have H':=Aside0.mk H
          clear H
          try go_wp2
          have n0_:=Aside0.mk (Kd.V_drew HO_2.out)
          have n1_:=Aside0.mk (Kd.S_drew HO_8.out)
          have n2_:=Aside0.mk (Kd.V_drew HO_535000.out)
          have n3_:=Aside0.mk (Kd.V_drew HO561.out)
          have n4_:=Aside0.mk (Kd.V_drew HO569.out)
          have n5_:=Aside0.mk (blk_drew BK534.out)
          have n6_:=Aside0.mk (blk_drew BK566.out)
          have n7_:=Aside0.mk (blk_drew BK574.out)
          have n8_:=Aside0.mk (below_drew1 HB.out)
          clear HO_2
          clear HO_8
          clear HO_535000
          clear HO561
          clear HO569
          clear BK534
          clear BK566
          clear BK574
          clear HB
          have HO_2:=n0_
          have HO_8:=n1_
          have HO_535000:=n2_
          have HO561:=n3_
          have HO569:=n4_
          have BK534:=n5_
          have BK566:=n6_
          have BK574:=n7_
          have HB:=n8_
          clear n0_ n1_ n2_ n3_ n4_ n5_ n6_ n7_ n8_
          refine start_ (n:=22) (S:=fun w'=>w'.cell? ⟨gb534,0,none⟩=some (.slice Ao10 t536.length co10)∧w'.cell? ⟨gb534,1,none⟩=some (.int .i64 t539)∧w'.cell? ⟨gb534,2,none⟩=some (.int .i64 t540)∧w'.cell? ⟨gb534,3,none⟩=some (.int .i64 t541)) (ds:=[]) #[false,false,false,false,false,false,false,false,false,false,false,false,false,false,false,false,false,false,false,false,false,false] (by kernel_rfl) rfl rfl ⟨(blk_cell BK534.out 0).trans rfl,(blk_cell BK534.out 1).trans rfl,(blk_cell BK534.out 2).trans rfl,(blk_cell BK534.out 3).trans rfl⟩ (fun hHeld=>?_);refine with_tabW thresherlaw04_SchemaAll.tab17 thresherlaw04_SchemaAll.bits17 (fun HT_ HW_=>?_)
          generalize w60.drew=w82 at HO_2 HO_8 HO_535000 HO561 HO569 BK534 BK566 BK574 HB hHeld ⊢
          refine pure_ (i:=0) (N:=some 67) (v:=?_) (a':=?_) #[true,false,false,false,false,false,false,false,false,false,false,false,false,false,false,false,false,false,false,false,false,false] rfl rfl (any_of HT_.out (by kernel_rfl)) (fun _ _ _ h=>h) (Or.inl ⟨by rfl,?_⟩) ?_ ?_
          rotate_left;(intro w';go_simp;with_reducible rfl);rotate_left;(simp only [Act.put,List.setIfInBounds_toArray,List.set_cons_zero,List.set_cons_succ,i64_w,i32_w];rfl)
          refine take_ (i:=1) (N:=some 68) (v:=?_) (a':=?_) #[true,true,false,false,false,false,false,false,false,false,false,false,false,false,false,false,false,false,false,false,false,false] rfl rfl (take_ofW HT_.out HW_.out (by kernel_rfl)) (fun _ _ _ h=>h) (Or.inl ⟨by rfl,?_⟩) hHeld ?_ ?_
          rotate_left;(rintro w' ⟨s0,s1,s2,s3⟩;go_simp;with_reducible rfl);rotate_left;(simp only [Act.put,List.setIfInBounds_toArray,List.set_cons_zero,List.set_cons_succ,i64_w,i32_w];rfl)
          refine one_ (i:=2) (N:=some 69) #[true,true,true,false,false,false,false,false,false,false,false,false,false,false,false,false,false,false,false,false,false,false] rfl rfl (one_of HT_.out (by kernel_rfl)) (by decide) (fun K hK=>?_)
          refine goes_ Try.func24 (by kernel_rfl) rfl #[.agg #[.slice Ao10 t536.length co10,.int .i64 t539,.int .i64 t540,.int .i64 t541]] (by rfl) rfl rfl (by (try simp only [List.map_toArray,List.map_cons,List.map_nil]);first|done|rfl|(simp only [List.length_drop,List.length_take];rfl)) ?_
          with_reducible refine (thresherref04_Check.calls kj35 _ _ t536 t539 t540 t541 t577 _ ?side1 ?side2 A61.out).mono ?_
          (case side1=>repeat (first|exact (Kd.V_reads' HO_535000.out).2.2|(with_reducible refine Kd.C_alloc ?_ _)|(with_reducible refine Kd.C_drewN ?_ _)|(with_reducible refine Kd.C_drew ?_)))
          (case side2=>exact (Kd.V_reads' HO_535000.out).2.1)
          rintro e w83 ⟨rfl,hb⟩
          refine ⟨_,rfl,?_⟩
          have n0_:=Aside0.mk (Kd.V_below (V_up HO_2.out) hb)
          have n1_:=Aside0.mk (Kd.S_below (S_up HO_8.out) hb)
          have n2_:=Aside0.mk (Kd.V_below (V_up HO_535000.out) hb)
          have n3_:=Aside0.mk (Kd.V_below (V_up HO561.out) hb)
          have n4_:=Aside0.mk (Kd.V_below (V_up HO569.out) hb)
          have n5_:=Aside0.mk (blk_below (blk_up BK534.out) hb)
          have n6_:=Aside0.mk (blk_below (blk_up BK566.out) hb)
          have n7_:=Aside0.mk (blk_below (blk_up BK574.out) hb)
          have n8_:=Aside0.mk (below_step (below_go HB.out) hb)
          clear HO_2
          clear HO_8
          clear HO_535000
          clear HO561
          clear HO569
          clear BK534
          clear BK566
          clear BK574
          clear HB
          have HO_2:=n0_
          have HO_8:=n1_
          have HO_535000:=n2_
          have HO561:=n3_
          have HO569:=n4_
          have BK534:=n5_
          have BK566:=n6_
          have BK574:=n7_
          have HB:=n8_
          clear n0_ n1_ n2_ n3_ n4_ n5_ n6_ n7_ n8_
          (try clear hb)
          (try clear hb2)
          (try clear hk)
          (try clear hi)
          refine hK.out _ _ ⟨(blk_cell BK534.out 0).trans rfl,(blk_cell BK534.out 1).trans rfl,(blk_cell BK534.out 2).trans rfl,(blk_cell BK534.out 3).trans rfl⟩ (fun hHeld=>?_)
          clear hK K
          refine norm_ (a':=?_) ?_ ?_
          rotate_left
          ·show Act.put _ (some 69) _=_
           simp only [Act.put,List.setIfInBounds_toArray,List.set_cons_zero,List.set_cons_succ,i64_w,i32_w]
           rfl
          refine pure_ (i:=3) (N:=some 70) (v:=?_) (a':=?_) #[true,true,true,true,false,false,false,false,false,false,false,false,false,false,false,false,false,false,false,false,false,false] rfl rfl (any_of HT_.out (by kernel_rfl)) (fun _ _ _ h=>h) (Or.inl ⟨by rfl,?_⟩) ?_ ?_
          rotate_left;(intro w';go_simp;with_reducible rfl);rotate_left;(simp only [Act.put,List.setIfInBounds_toArray,List.set_cons_zero,List.set_cons_succ,i64_w,i32_w];rfl)
          refine pure_ (i:=4) (N:=some 71) (v:=?_) (a':=?_) #[true,true,true,true,true,false,false,false,false,false,false,false,false,false,false,false,false,false,false,false,false,false] rfl rfl (any_of HT_.out (by kernel_rfl)) (fun _ _ _ h=>h) (Or.inl ⟨by rfl,?_⟩) ?_ ?_
          rotate_left;(intro w';go_simp;with_reducible rfl);rotate_left;(simp only [Act.put,List.setIfInBounds_toArray,List.set_cons_zero,List.set_cons_succ,i64_w,i32_w];rfl)
          refine pure_ (i:=5) (N:=some 72) (v:=undef) (a':=?_) #[true,true,true,true,true,true,false,false,false,false,false,false,false,false,false,false,false,false,false,false,false,false] rfl rfl (any_of HT_.out (by kernel_rfl)) (fun _ _ _ h=>h) (Or.inr ⟨by rfl,rfl⟩) ?_ ?_
          rotate_left
          ·simp only [Act.put,List.setIfInBounds_toArray,List.set_cons_zero,List.set_cons_succ,i64_w,i32_w]
           rfl
          refine pure_ (i:=6) (N:=some 73) (v:=undef) (a':=?_) #[true,true,true,true,true,true,true,false,false,false,false,false,false,false,false,false,false,false,false,false,false,false] rfl rfl (any_of HT_.out (by kernel_rfl)) (fun _ _ _ h=>h) (Or.inr ⟨by rfl,rfl⟩) ?_ ?_
          rotate_left
          ·simp only [Act.put,List.setIfInBounds_toArray,List.set_cons_zero,List.set_cons_succ,i64_w,i32_w]
           rfl
          refine pure_ (i:=7) (N:=some 74) (v:=undef) (a':=?_) #[true,true,true,true,true,true,true,true,false,false,false,false,false,false,false,false,false,false,false,false,false,false] rfl rfl (any_of HT_.out (by kernel_rfl)) (fun _ _ _ h=>h) (Or.inr ⟨by rfl,rfl⟩) ?_ ?_
          rotate_left
          ·simp only [Act.put,List.setIfInBounds_toArray,List.set_cons_zero,List.set_cons_succ,i64_w,i32_w]
           rfl
          refine pure_ (i:=8) (N:=some 75) (v:=undef) (a':=?_) #[true,true,true,true,true,true,true,true,true,false,false,false,false,false,false,false,false,false,false,false,false,false] rfl rfl (any_of HT_.out (by kernel_rfl)) (fun _ _ _ h=>h) (Or.inr ⟨by rfl,rfl⟩) ?_ ?_
          rotate_left
          ·simp only [Act.put,List.setIfInBounds_toArray,List.set_cons_zero,List.set_cons_succ,i64_w,i32_w]
           rfl
          refine pure_ (i:=9) (N:=some 76) (v:=undef) (a':=?_) #[true,true,true,true,true,true,true,true,true,true,false,false,false,false,false,false,false,false,false,false,false,false] rfl rfl (any_of HT_.out (by kernel_rfl)) (fun _ _ _ h=>h) (Or.inr ⟨by rfl,rfl⟩) ?_ ?_
          rotate_left
          ·simp only [Act.put,List.setIfInBounds_toArray,List.set_cons_zero,List.set_cons_succ,i64_w,i32_w]
           rfl
          refine pure_ (i:=10) (N:=some 77) (v:=undef) (a':=?_) #[true,true,true,true,true,true,true,true,true,true,true,false,false,false,false,false,false,false,false,false,false,false] rfl rfl (any_of HT_.out (by kernel_rfl)) (fun _ _ _ h=>h) (Or.inr ⟨by rfl,rfl⟩) ?_ ?_
          rotate_left
          ·simp only [Act.put,List.setIfInBounds_toArray,List.set_cons_zero,List.set_cons_succ,i64_w,i32_w]
           rfl
          refine pure_ (i:=11) (N:=some 78) (v:=undef) (a':=?_) #[true,true,true,true,true,true,true,true,true,true,true,true,false,false,false,false,false,false,false,false,false,false] rfl rfl (any_of HT_.out (by kernel_rfl)) (fun _ _ _ h=>h) (Or.inr ⟨by rfl,rfl⟩) ?_ ?_
          rotate_left
          ·simp only [Act.put,List.setIfInBounds_toArray,List.set_cons_zero,List.set_cons_succ,i64_w,i32_w]
           rfl
          refine pure_ (i:=12) (N:=some 79) (v:=?_) (a':=?_) #[true,true,true,true,true,true,true,true,true,true,true,true,true,false,false,false,false,false,false,false,false,false] rfl rfl (any_of HT_.out (by kernel_rfl)) (fun _ _ _ h=>h) (Or.inl ⟨by rfl,?_⟩) ?_ ?_
          rotate_left;(intro w';go_simp;with_reducible rfl);rotate_left;(simp only [Act.put,List.setIfInBounds_toArray,List.set_cons_zero,List.set_cons_succ,i64_w,i32_w];rfl)
          refine pure_ (i:=13) (N:=some 80) (v:=?_) (a':=?_) #[true,true,true,true,true,true,true,true,true,true,true,true,true,true,false,false,false,false,false,false,false,false] rfl rfl (any_of HT_.out (by kernel_rfl)) (fun _ _ _ h=>h) (Or.inl ⟨by rfl,?_⟩) ?_ ?_
          rotate_left;(intro w';go_simp;with_reducible rfl);rotate_left;(simp only [Act.put,List.setIfInBounds_toArray,List.set_cons_zero,List.set_cons_succ,i64_w,i32_w];rfl)
          refine pure_ (i:=14) (N:=some 81) (v:=undef) (a':=?_) #[true,true,true,true,true,true,true,true,true,true,true,true,true,true,true,false,false,false,false,false,false,false] rfl rfl (any_of HT_.out (by kernel_rfl)) (fun _ _ _ h=>h) (Or.inr ⟨by rfl,rfl⟩) ?_ ?_
          rotate_left
          ·simp only [Act.put,List.setIfInBounds_toArray,List.set_cons_zero,List.set_cons_succ,i64_w,i32_w]
           rfl
          refine pure_ (i:=15) (N:=some 82) (v:=undef) (a':=?_) #[true,true,true,true,true,true,true,true,true,true,true,true,true,true,true,true,false,false,false,false,false,false] rfl rfl (any_of HT_.out (by kernel_rfl)) (fun _ _ _ h=>h) (Or.inr ⟨by rfl,rfl⟩) ?_ ?_
          rotate_left
          ·simp only [Act.put,List.setIfInBounds_toArray,List.set_cons_zero,List.set_cons_succ,i64_w,i32_w]
           rfl
          refine pure_ (i:=16) (N:=some 83) (v:=?_) (a':=?_) #[true,true,true,true,true,true,true,true,true,true,true,true,true,true,true,true,true,false,false,false,false,false] rfl rfl (any_of HT_.out (by kernel_rfl)) (fun _ _ _ h=>h) (Or.inl ⟨by rfl,?_⟩) ?_ ?_
          rotate_left;(intro w';go_simp;with_reducible rfl);rotate_left;(simp only [Act.put,List.setIfInBounds_toArray,List.set_cons_zero,List.set_cons_succ,i64_w,i32_w];rfl)
          refine pure_ (i:=17) (N:=some 84) (v:=?_) (a':=?_) #[true,true,true,true,true,true,true,true,true,true,true,true,true,true,true,true,true,true,false,false,false,false] rfl rfl (any_of HT_.out (by kernel_rfl)) (fun _ _ _ h=>h) (Or.inl ⟨by rfl,?_⟩) ?_ ?_
          rotate_left;(intro w';go_simp;with_reducible rfl);rotate_left;(simp only [Act.put,List.setIfInBounds_toArray,List.set_cons_zero,List.set_cons_succ,i64_w,i32_w];rfl)
          refine pure_ (i:=18) (N:=some 85) (v:=undef) (a':=?_) #[true,true,true,true,true,true,true,true,true,true,true,true,true,true,true,true,true,true,true,false,false,false] rfl rfl (any_of HT_.out (by kernel_rfl)) (fun _ _ _ h=>h) (Or.inr ⟨by rfl,rfl⟩) ?_ ?_
          rotate_left
          ·simp only [Act.put,List.setIfInBounds_toArray,List.set_cons_zero,List.set_cons_succ,i64_w,i32_w]
           rfl
          refine pure_ (i:=19) (N:=some 86) (v:=undef) (a':=?_) #[true,true,true,true,true,true,true,true,true,true,true,true,true,true,true,true,true,true,true,true,false,false] rfl rfl (any_of HT_.out (by kernel_rfl)) (fun _ _ _ h=>h) (Or.inr ⟨by rfl,rfl⟩) ?_ ?_
          rotate_left
          ·simp only [Act.put,List.setIfInBounds_toArray,List.set_cons_zero,List.set_cons_succ,i64_w,i32_w]
           rfl
          refine pure_ (i:=20) (N:=some 87) (v:=undef) (a':=?_) #[true,true,true,true,true,true,true,true,true,true,true,true,true,true,true,true,true,true,true,true,true,false] rfl rfl (any_of HT_.out (by kernel_rfl)) (fun _ _ _ h=>h) (Or.inr ⟨by rfl,rfl⟩) ?_ ?_
          rotate_left
          ·simp only [Act.put,List.setIfInBounds_toArray,List.set_cons_zero,List.set_cons_succ,i64_w,i32_w]
           rfl
          refine pure_ (i:=21) (N:=some 88) (v:=?_) (a':=?_) #[true,true,true,true,true,true,true,true,true,true,true,true,true,true,true,true,true,true,true,true,true,true] rfl rfl (any_of HT_.out (by kernel_rfl)) (fun _ _ _ h=>h) (Or.inl ⟨by rfl,?_⟩) ?_ ?_
          rotate_left;(intro w';go_simp;with_reducible rfl);rotate_left;(simp only [Act.put,List.setIfInBounds_toArray,List.set_cons_zero,List.set_cons_succ,i64_w,i32_w];rfl)
          refine done_ (done_of HT_.out (by kernel_rfl)) ?_
          (try clear hHeld)
          try go_wp2
          go_meet
          case rel=>exact ⟨_,(true),(by first|rfl|(simp;done)|(simp [*];done)),(by first|exact H'|(subst_vars;exact H')),⟨by have:=HK1.out;have:=HJ13.out;have:=HJ35.out;first|omega|exact Nat.le_refl _⟩,⟨by (with_reducible repeat (first|apply Kd.V_alloc|apply Kd.V_drewN|apply Kd.V_drew));exact Kd.V_mono HO_535000.out (fun _ hk=>⟨hk.1.1.1,⟨hk.1.1.2.2,⟨hk.1.2,hk.2⟩⟩⟩)⟩,⟨by (with_reducible repeat (first|apply Kd.V_alloc|apply Kd.V_drewN|apply Kd.V_drew));exact Kd.V_mono HO561.out (fun _ hk=>⟨hk.1.1.1,⟨hk.1.1.2.2,⟨hk.1.2,hk.2⟩⟩⟩)⟩,⟨by (with_reducible repeat (first|apply Kd.V_alloc|apply Kd.V_drewN|apply Kd.V_drew));exact Kd.V_mono HO569.out (fun _ hk=>⟨hk.1.1,⟨hk.1.2.2.1,⟨hk.1.2.2.2,hk.2⟩⟩⟩)⟩,⟨by (with_reducible repeat (first|refine blk_drewN ?_ _|refine blk_drew ?_|refine blk_alloc ?_ _));exact BK534.out⟩,⟨by (with_reducible repeat (first|refine blk_drewN ?_ _|refine blk_drew ?_|refine blk_alloc ?_ _));exact BK566.out⟩,⟨by (with_reducible repeat (first|refine blk_drewN ?_ _|refine blk_drew ?_|refine blk_alloc ?_ _));exact BK574.out⟩,⟨by repeat (first|(with_reducible first|exact HB.out|apply below_alloc|apply pw_below_drewN|apply below_drew1|refine below_set ?_ GE534.out|refine below_set ?_ GE566.out|refine below_set ?_ GE574.out)|exact HB.out)⟩⟩
        case rest =>
         clear HC44
         try clear c1
         try clear c2
         try clear p2
         try clear c6
         try clear c13
         try clear c24
         try clear c25
         try clear c62
         try clear c62b0
         try clear c62b1
         try clear c65
         try clear c65b0
         try clear c65b1
         obtain ⟨kq,x88_43,rfl,HA,HJ43,HO_535000,HO_567000,HO_575000,BK534,BK566,BK574,HB⟩:=hcut
         cases kq with
         | zero=>exact absurd HA.out (by simp [thresherlaw04_SchemaAll.j3])
         | succ kj43 =>
          have H:=HA.out
          clear HA
          simp only [thresherlaw04_SchemaAll.j3] at H
          by_cases c84 : x88_43=true
          ·subst c84
           have H1 : (some false)=some r:=by rw [if_pos rfl] at H;exact H
           clear H
           have H:=H1
           clear H1
           obtain rfl:=Option.some.inj H
           go_wp2
           go_ret
           exact ⟨by first|rfl|(simp [errW_none,errW_some] <;> rfl)|(simp [*,errW_none,errW_some] <;> rfl),by repeat (first|(with_reducible first|exact HB.out|apply below_alloc|apply pw_below_drewN|apply below_drew1|refine below_set ?_ GE534.out|refine below_set ?_ GE566.out|refine below_set ?_ GE574.out)|exact HB.out)⟩
          ·replace c84:=Bool.eq_false_iff.mpr c84
           subst c84
           have H1 : (if t535=true then (if t576=0 then ((schema_Put.f kj43 t536 t539 t540 t541).bind fun t580=>((thresherref04_Put.f kj43 t536 t539 t540 t541).bind fun t583=>(some ((strOfNums t580).toList == (strOfNums t583).toList)))) else (some true)) else (some false))=some r:=by rw [if_neg (show ¬ (false=true) by decide)] at H;exact H
           clear H
           have H:=H1
           clear H1
           by_cases c85 : t535=true
           ·subst c85
            have H1 : (if t576=0 then ((schema_Put.f kj43 t536 t539 t540 t541).bind fun t580=>((thresherref04_Put.f kj43 t536 t539 t540 t541).bind fun t583=>(some ((strOfNums t580).toList == (strOfNums t583).toList)))) else (some true))=some r:=by rw [if_pos rfl] at H;exact H
            clear H
            have H:=H1
            clear H1
            by_cases c86 : t576=0
            ·rw [if_pos c86] at H
             have c86b0 : (t576 == 0)=true:=beq_iff_eq.mpr c86
             have c86b1 : (t576 != 0)=false:=bne_eq_false_iff_eq.mpr c86
             clear c86
             replace H:=Option.bind_eq_some_iff.mp H
             obtain ⟨t580,A870,H⟩:=H
             replace H : ((thresherref04_Put.f kj43 t536 t539 t540 t541).bind fun t583=>(some ((strOfNums t580).toList == (strOfNums t583).toList)))=some r:=H
             have A87:=Aside0.mk A870
             clear A870
             replace H:=Option.bind_eq_some_iff.mp H
             obtain ⟨t583,A880,H⟩:=H
             replace H : (some ((strOfNums t580).toList == (strOfNums t583).toList))=some r:=H
             have A88:=Aside0.mk A880
             clear A880
             obtain rfl:=Option.some.inj H
             try go_wp2
             have n0_:=Aside0.mk (Kd.V_drew HO_535000.out)
             have n1_:=Aside0.mk (Kd.V_drew HO_567000.out)
             have n2_:=Aside0.mk (Kd.V_drew HO_575000.out)
             have n3_:=Aside0.mk (blk_drew BK534.out)
             have n4_:=Aside0.mk (blk_drew BK566.out)
             have n5_:=Aside0.mk (blk_drew BK574.out)
             have n6_:=Aside0.mk (below_drew1 HB.out)
             clear HO_535000
             clear HO_567000
             clear HO_575000
             clear BK534
             clear BK566
             clear BK574
             clear HB
             have HO_535000:=n0_
             have HO_567000:=n1_
             have HO_575000:=n2_
             have BK534:=n3_
             have BK566:=n4_
             have BK574:=n5_
             have HB:=n6_
             clear n0_ n1_ n2_ n3_ n4_ n5_ n6_
             refine start_ (n:=15) (S:=fun w'=>w'.cell? ⟨gb534,0,none⟩=some (.slice Ao10 t536.length co10)∧w'.cell? ⟨gb534,1,none⟩=some (.int .i64 t539)∧w'.cell? ⟨gb534,2,none⟩=some (.int .i64 t540)∧w'.cell? ⟨gb534,3,none⟩=some (.int .i64 t541)) (ds:=[]) #[false,false,false,false,false,false,false,false,false,false,false,false,false,false,false] (by kernel_rfl) rfl rfl ⟨(blk_cell BK534.out 0).trans rfl,(blk_cell BK534.out 1).trans rfl,(blk_cell BK534.out 2).trans rfl,(blk_cell BK534.out 3).trans rfl⟩ (fun hHeld=>?_);refine with_tabW thresherlaw04_SchemaAll.tab19 thresherlaw04_SchemaAll.bits19 (fun HT_ HW_=>?_)
             generalize wc.drew=w89 at HO_535000 HO_567000 HO_575000 BK534 BK566 BK574 HB hHeld ⊢
             refine pure_ (i:=0) (N:=some 89) (v:=?_) (a':=?_) #[true,false,false,false,false,false,false,false,false,false,false,false,false,false,false] rfl rfl (any_of HT_.out (by kernel_rfl)) (fun _ _ _ h=>h) (Or.inl ⟨by rfl,?_⟩) ?_ ?_
             rotate_left;(intro w';go_simp;with_reducible rfl);rotate_left;(simp only [Act.put,List.setIfInBounds_toArray,List.set_cons_zero,List.set_cons_succ,i64_w,i32_w];rfl)
             refine pure_ (i:=1) (N:=some 90) (v:=?_) (a':=?_) #[true,true,false,false,false,false,false,false,false,false,false,false,false,false,false] rfl rfl (any_of HT_.out (by kernel_rfl)) (fun _ _ _ h=>h) (Or.inl ⟨by rfl,?_⟩) ?_ ?_
             rotate_left;(intro w';go_simp;with_reducible rfl);rotate_left;(simp only [Act.put,List.setIfInBounds_toArray,List.set_cons_zero,List.set_cons_succ,i64_w,i32_w];rfl)
             refine pure_ (i:=2) (N:=some 91) (v:=?_) (a':=?_) #[true,true,true,false,false,false,false,false,false,false,false,false,false,false,false] rfl rfl (any_of HT_.out (by kernel_rfl)) (fun _ _ _ h=>h) (Or.inl ⟨by rfl,?_⟩) ?_ ?_
             rotate_left;(intro w';go_simp;with_reducible rfl);rotate_left;(simp only [Act.put,List.setIfInBounds_toArray,List.set_cons_zero,List.set_cons_succ,i64_w,i32_w];rfl)
             refine pure_ (i:=3) (N:=some 92) (v:=?_) (a':=?_) #[true,true,true,true,false,false,false,false,false,false,false,false,false,false,false] rfl rfl (any_of HT_.out (by kernel_rfl)) (fun _ _ _ h=>h) (Or.inl ⟨by rfl,?_⟩) ?_ ?_
             rotate_left;(intro w';go_simp;with_reducible rfl);rotate_left;(simp only [Act.put,List.setIfInBounds_toArray,List.set_cons_zero,List.set_cons_succ,i64_w,i32_w];rfl)
             refine pure_ (i:=4) (N:=some 93) (v:=?_) (a':=?_) #[true,true,true,true,true,false,false,false,false,false,false,false,false,false,false] rfl rfl (any_of HT_.out (by kernel_rfl)) (fun _ _ _ h=>h) (Or.inl ⟨by rfl,?_⟩) ?_ ?_
             rotate_left;(intro w';go_simp;with_reducible rfl);rotate_left;(simp only [Act.put,List.setIfInBounds_toArray,List.set_cons_zero,List.set_cons_succ,i64_w,i32_w];rfl)
             refine take_ (i:=5) (N:=some 94) (v:=?_) (a':=?_) #[true,true,true,true,true,true,false,false,false,false,false,false,false,false,false] rfl rfl (take_ofW HT_.out HW_.out (by kernel_rfl)) (fun _ _ _ h=>h) (Or.inl ⟨by rfl,?_⟩) hHeld ?_ ?_
             rotate_left;(rintro w' ⟨s0,s1,s2,s3⟩;go_simp;with_reducible rfl);rotate_left;(simp only [Act.put,List.setIfInBounds_toArray,List.set_cons_zero,List.set_cons_succ,i64_w,i32_w];rfl)
             refine take_ (i:=8) (N:=some 97) (v:=?_) (a':=?_) #[true,true,true,true,true,true,false,false,true,false,false,false,false,false,false] rfl rfl (take_ofW HT_.out HW_.out (by kernel_rfl)) (fun _ _ _ h=>h) (Or.inl ⟨by rfl,?_⟩) hHeld ?_ ?_
             rotate_left;(rintro w' ⟨s0,s1,s2,s3⟩;go_simp;with_reducible rfl);rotate_left;(simp only [Act.put,List.setIfInBounds_toArray,List.set_cons_zero,List.set_cons_succ,i64_w,i32_w];rfl)
             refine one_ (i:=6) (N:=some 95) #[true,true,true,true,true,true,true,false,true,false,false,false,false,false,false] rfl rfl (one_of HT_.out (by kernel_rfl)) (by decide) (fun K hK=>?_)
             refine goes_ Try.func14 (by kernel_rfl) rfl #[.agg #[.slice Ao10 t536.length co10,.int .i64 t539,.int .i64 t540,.int .i64 t541]] (by rfl) rfl rfl (by (try simp only [List.map_toArray,List.map_cons,List.map_nil]);first|done|rfl|(simp only [List.length_drop,List.length_take];rfl)) ?_
             with_reducible refine (schema_Put.calls kj43 (fun k_=>(((P0_0_ k_ ∨ P2_ k_) ∨ w.heap.size≤k_)∧(k_≠gb534∧(k_≠gb566∧k_≠gb574)))) _ _ t536 t539 t540 t541 t580 _ ?side1 A87.out).mono ?_
             (case side1=>exact HO_535000.out)
             rintro e w90 ⟨v581,rfl,ho0,hb⟩
             refine ⟨_,rfl,?_⟩
             have n0_:=Aside0.mk (Kd.V_elder' (V_up HO_535000.out) (Kd.R_base ho0) hb)
             have n1_:=Aside0.mk (Kd.V_elder' (V_up HO_567000.out) (Kd.R_base ho0) hb)
             have n2_:=Aside0.mk (Kd.V_elder' (V_up HO_575000.out) (Kd.R_base ho0) hb)
             have n3_:=Aside0.mk (Kd.R_lower (Kd.R_newM (M:=fun k_=>(w.heap.size≤k_)) (Kd.R_mono (ok':=fun k_=>True) ho0 (fun _ hk_=>trivial)) (below_size (below_go HB.out)) (fun k_ h_=>h_)) (below_size (below_go HB.out)))
             have n4_:=Aside0.mk (blk_below (blk_up BK534.out) hb)
             have n5_:=Aside0.mk (blk_below (blk_up BK566.out) hb)
             have n6_:=Aside0.mk (blk_below (blk_up BK574.out) hb)
             have n7_:=Aside0.mk (below_step (below_go HB.out) hb)
             clear HO_535000
             clear HO_567000
             clear HO_575000
             clear BK534
             clear BK566
             clear BK574
             clear HB
             have HO_535000:=n0_
             have HO_567000:=n1_
             have HO_575000:=n2_
             have HO582:=n3_
             have BK534:=n4_
             have BK566:=n5_
             have BK574:=n6_
             have HB:=n7_
             clear n0_ n1_ n2_ n3_ n4_ n5_ n6_ n7_
             (try clear hb)
             (try clear hb2)
             (try clear hk)
             (try clear hi)
             (try clear ho0)
             refine hK.out _ _ ⟨(blk_cell BK534.out 0).trans rfl,(blk_cell BK534.out 1).trans rfl,(blk_cell BK534.out 2).trans rfl,(blk_cell BK534.out 3).trans rfl⟩ (fun hHeld=>?_)
             clear hK K
             refine norm_ (a':=?_) ?_ ?_
             rotate_left
             ·show Act.put _ (some 95) _=_
              simp only [Act.put,List.setIfInBounds_toArray,List.set_cons_zero,List.set_cons_succ,i64_w,i32_w]
              rfl
             refine join_ (σ:=Value) 4 #[true,true,true,true,true,true,true,true,true,true,true,false,false,false,false] (fun s_=>[(96,.string (strOfNums t580)),(98,s_),(99,.string (strOfNums t583))]) (fun s_ w'=>(w'.cell? ⟨gb534,0,none⟩=some (.slice Ao10 t536.length co10)∧w'.cell? ⟨gb534,1,none⟩=some (.int .i64 t539)∧w'.cell? ⟨gb534,2,none⟩=some (.int .i64 t540)∧w'.cell? ⟨gb534,3,none⟩=some (.int .i64 t541))∧(Kd.R (Kd.int .u8) 5 w' w.heap.size (fun k_=>(w.heap.size≤k_)∧some k_≠(s_ : Value).ownBlock) v581 t580)∧(Kd.R (Kd.int .u8) 5 w' w.heap.size (fun k_=>(w.heap.size≤k_)∧some k_≠(v581 : Value).ownBlock) s_ t583)∧(Kd.V (Kd.int .i64) 3 w' w.heap.size (fun k_=>((P0_0_ k_ ∨ P2_ k_) ∨ w.heap.size≤k_)∧some k_≠(v581 : Value).ownBlock∧some k_≠(s_ : Value).ownBlock∧k_≠gb534∧k_≠gb566∧k_≠gb574) (.slice Ao10 t536.length co10) t536)∧(Kd.V (Kd.int .i64) 3 w' w.heap.size (fun k_=>((P0_0_ k_ ∨ P2_ k_) ∨ w.heap.size≤k_)∧some k_≠(v581 : Value).ownBlock∧some k_≠(s_ : Value).ownBlock∧k_≠gb534∧k_≠gb566∧k_≠gb574) (.slice Ao48 t559.length co48) t559)∧(Kd.V (Kd.int .i64) 3 w' w.heap.size (fun k_=>((P0_0_ k_ ∨ P2_ k_) ∨ w.heap.size≤k_)∧some k_≠(v581 : Value).ownBlock∧some k_≠(s_ : Value).ownBlock∧k_≠gb534∧k_≠gb566∧k_≠gb574) (.slice Ao53 t567.length co53) t567)∧(w'.heap[gb534]?=some (.cells #[.slice Ao10 t536.length co10,.int .i64 t539,.int .i64 t540,.int .i64 t541] 30 (0,0)))∧(w'.heap[gb566]?=some (.cells #[.slice Ao48 t559.length co48,.int .i64 t562,.int .i64 t563,.int .i64 t564] 30 (0,0)))∧(w'.heap[gb574]?=some (.cells #[.slice Ao53 t567.length co53,.int .i64 t570,.int .i64 t571,.int .i64 t572] 30 (0,0)))∧(Below w.heap.size w w')) ?_ ?_
             rotate_left
             ·intro hCont
              refine two_ (i:=7) (j:=9) (Ni:=some 96) (Nj:=some 98) #[true,true,true,true,true,true,true,true,true,false,false,false,false,false,false] #[true,true,true,true,true,true,true,false,true,true,false,false,false,false,false] rfl rfl rfl rfl (two_of HT_.out (by kernel_rfl)) (by decide) (by decide) (fun K hK=>?_) (fun K hK=>?_)
              ·skip
               have hcv91:=own_string (P:=Try.prog) Try.underlying41 Try.underlying5 Try.underlying9 (Kd.own_of_R HO582.out)
               refine value_ (w1:=?_) (v:=?_) (by rfl) rfl ?_ ?_
               rotate_left 2
               ·go_simp
                constructor
                ·rfl
                ·rfl
               clear hcv91
               refine hK.out _ _ ⟨(blk_cell BK534.out 0).trans rfl,(blk_cell BK534.out 1).trans rfl,(blk_cell BK534.out 2).trans rfl,(blk_cell BK534.out 3).trans rfl⟩ (fun hHeld=>?_)
               clear hK K
               refine norm_ (a':=?_) ?_ ?_
               rotate_left
               ·show Act.put _ (some 96) _=_
                simp only [Act.put,List.setIfInBounds_toArray,List.set_cons_zero,List.set_cons_succ,i64_w,i32_w]
                rfl
               refine one_ (i:=9) (N:=some 98) #[true,true,true,true,true,true,true,true,true,true,false,false,false,false,false] rfl rfl (one_of HT_.out (by kernel_rfl)) (by decide) (fun K hK=>?_)
               refine goes_ Try.func26 (by kernel_rfl) rfl #[.agg #[.slice Ao10 t536.length co10,.int .i64 t539,.int .i64 t540,.int .i64 t541]] (by rfl) rfl rfl (by (try simp only [List.map_toArray,List.map_cons,List.map_nil]);first|done|rfl|(simp only [List.length_drop,List.length_take];rfl)) ?_
               with_reducible refine (thresherref04_Put.calls kj43 _ _ t536 t539 t540 t541 t583 _ ?side1 ?side2 A88.out).mono ?_
               (case side1=>repeat (first|exact (Kd.V_reads' HO_535000.out).2.2|(with_reducible refine Kd.C_alloc ?_ _)|(with_reducible refine Kd.C_drewN ?_ _)|(with_reducible refine Kd.C_drew ?_)))
               (case side2=>exact (Kd.V_reads' HO_535000.out).2.1)
               rintro e w92 ⟨v584,rfl,ho0,hb⟩
               refine ⟨_,rfl,?_⟩
               have n0_:=Aside0.mk (Kd.V_elder' (V_up HO_535000.out) (Kd.R_base ho0) hb)
               have n1_:=Aside0.mk (Kd.V_elder' (V_up HO_567000.out) (Kd.R_base ho0) hb)
               have n2_:=Aside0.mk (Kd.V_elder' (V_up HO_575000.out) (Kd.R_base ho0) hb)
               have n3_:=Aside0.mk (Kd.R_elder' (R_up HO582.out) (Kd.R_base ho0) hb)
               have n4_:=Aside0.mk (Kd.R_lower (Kd.R_new' (Kd.R_newM (M:=fun k_=>(w.heap.size≤k_)) ho0 (below_size (below_go HB.out)) (fun k_ h_=>h_)) (Kd.R_lt (R_up HO582.out))) (below_size (below_go HB.out)))
               have n5_:=Aside0.mk (blk_below (blk_up BK534.out) hb)
               have n6_:=Aside0.mk (blk_below (blk_up BK566.out) hb)
               have n7_:=Aside0.mk (blk_below (blk_up BK574.out) hb)
               have n8_:=Aside0.mk (below_step (below_go HB.out) hb)
               clear HO_535000
               clear HO_567000
               clear HO_575000
               clear HO582
               clear BK534
               clear BK566
               clear BK574
               clear HB
               have HO_535000:=n0_
               have HO_567000:=n1_
               have HO_575000:=n2_
               have HO582:=n3_
               have HO585:=n4_
               have BK534:=n5_
               have BK566:=n6_
               have BK574:=n7_
               have HB:=n8_
               clear n0_ n1_ n2_ n3_ n4_ n5_ n6_ n7_ n8_
               (try clear hb)
               (try clear hb2)
               (try clear hk)
               (try clear hi)
               (try clear ho0)
               refine hK.out _ _ ⟨(blk_cell BK534.out 0).trans rfl,(blk_cell BK534.out 1).trans rfl,(blk_cell BK534.out 2).trans rfl,(blk_cell BK534.out 3).trans rfl⟩ (fun hHeld=>?_)
               clear hK K
               refine norm_ (a':=?_) ?_ ?_
               rotate_left
               ·show Act.put _ (some 98) _=_
                simp only [Act.put,List.setIfInBounds_toArray,List.set_cons_zero,List.set_cons_succ,i64_w,i32_w]
                rfl
               refine one_ (i:=10) (N:=some 99) #[true,true,true,true,true,true,true,true,true,true,true,false,false,false,false] rfl rfl (one_of HT_.out (by kernel_rfl)) (by decide) (fun K hK=>?_)
               have hcv93:=own_string (P:=Try.prog) Try.underlying41 Try.underlying5 Try.underlying9 (Kd.own_of_R HO585.out)
               refine value_ (w1:=?_) (v:=?_) (by rfl) rfl ?_ ?_
               rotate_left 2
               ·go_simp
                constructor
                ·rfl
                ·rfl
               clear hcv93
               refine hK.out _ _ ⟨(blk_cell BK534.out 0).trans rfl,(blk_cell BK534.out 1).trans rfl,(blk_cell BK534.out 2).trans rfl,(blk_cell BK534.out 3).trans rfl⟩ (fun hHeld=>?_)
               clear hK K
               refine norm_ (a':=?_) ?_ ?_
               rotate_left
               ·show Act.put _ (some 99) _=_
                simp only [Act.put,List.setIfInBounds_toArray,List.set_cons_zero,List.set_cons_succ,i64_w,i32_w]
                rfl
               exact norm_ (by simp only [putAll,Act.put,List.setIfInBounds_toArray,List.set_cons_zero,List.set_cons_succ]) (hCont (v584) _ ⟨hHeld,(by (with_reducible repeat (first|apply Kd.R_alloc|apply Kd.R_drewN|apply Kd.R_drew));exact Kd.R_mono HO582.out (fun _ hk=>⟨hk.1.1,hk.2⟩)),(by (with_reducible repeat (first|apply Kd.R_alloc|apply Kd.R_drewN|apply Kd.R_drew));exact Kd.R_mono HO585.out (fun _ hk=>⟨hk.1.1,hk.2⟩)),(V_upm HO_535000.out (fun _ hk=>⟨hk.1.1.1,⟨hk.1.2,⟨hk.2,⟨hk.1.1.2.1,⟨hk.1.1.2.2.1,hk.1.1.2.2.2⟩⟩⟩⟩⟩)),(V_upm HO_567000.out (fun _ hk=>⟨hk.1.1.1,⟨hk.1.2,⟨hk.2,⟨hk.1.1.2.1,⟨hk.1.1.2.2.1,hk.1.1.2.2.2⟩⟩⟩⟩⟩)),(V_upm HO_575000.out (fun _ hk=>⟨hk.1.1.1,⟨hk.1.2,⟨hk.2,⟨hk.1.1.2.1,⟨hk.1.1.2.2.1,hk.1.1.2.2.2⟩⟩⟩⟩⟩)),(blk_up BK534.out),(blk_up BK566.out),(blk_up BK574.out),(below_go HB.out)⟩)
              ·skip
               refine goes_ Try.func26 (by kernel_rfl) rfl #[.agg #[.slice Ao10 t536.length co10,.int .i64 t539,.int .i64 t540,.int .i64 t541]] (by rfl) rfl rfl (by (try simp only [List.map_toArray,List.map_cons,List.map_nil]);first|done|rfl|(simp only [List.length_drop,List.length_take];rfl)) ?_
               with_reducible refine (thresherref04_Put.calls kj43 _ _ t536 t539 t540 t541 t583 _ ?side1 ?side2 A88.out).mono ?_
               (case side1=>repeat (first|exact (Kd.V_reads' HO_535000.out).2.2|(with_reducible refine Kd.C_alloc ?_ _)|(with_reducible refine Kd.C_drewN ?_ _)|(with_reducible refine Kd.C_drew ?_)))
               (case side2=>exact (Kd.V_reads' HO_535000.out).2.1)
               rintro e w91 ⟨v584,rfl,ho0,hb⟩
               refine ⟨_,rfl,?_⟩
               have n0_:=Aside0.mk (Kd.V_elder' (V_up HO_535000.out) (Kd.R_base ho0) hb)
               have n1_:=Aside0.mk (Kd.V_elder' (V_up HO_567000.out) (Kd.R_base ho0) hb)
               have n2_:=Aside0.mk (Kd.V_elder' (V_up HO_575000.out) (Kd.R_base ho0) hb)
               have n3_:=Aside0.mk (Kd.R_elder' (R_up HO582.out) (Kd.R_base ho0) hb)
               have n4_:=Aside0.mk (Kd.R_lower (Kd.R_new' (Kd.R_newM (M:=fun k_=>(w.heap.size≤k_)) ho0 (below_size (below_go HB.out)) (fun k_ h_=>h_)) (Kd.R_lt (R_up HO582.out))) (below_size (below_go HB.out)))
               have n5_:=Aside0.mk (blk_below (blk_up BK534.out) hb)
               have n6_:=Aside0.mk (blk_below (blk_up BK566.out) hb)
               have n7_:=Aside0.mk (blk_below (blk_up BK574.out) hb)
               have n8_:=Aside0.mk (below_step (below_go HB.out) hb)
               clear HO_535000
               clear HO_567000
               clear HO_575000
               clear HO582
               clear BK534
               clear BK566
               clear BK574
               clear HB
               have HO_535000:=n0_
               have HO_567000:=n1_
               have HO_575000:=n2_
               have HO582:=n3_
               have HO585:=n4_
               have BK534:=n5_
               have BK566:=n6_
               have BK574:=n7_
               have HB:=n8_
               clear n0_ n1_ n2_ n3_ n4_ n5_ n6_ n7_ n8_
               (try clear hb)
               (try clear hb2)
               (try clear hk)
               (try clear hi)
               (try clear ho0)
               refine hK.out _ _ ⟨(blk_cell BK534.out 0).trans rfl,(blk_cell BK534.out 1).trans rfl,(blk_cell BK534.out 2).trans rfl,(blk_cell BK534.out 3).trans rfl⟩ (fun hHeld=>?_)
               clear hK K
               refine norm_ (a':=?_) ?_ ?_
               rotate_left
               ·show Act.put _ (some 98) _=_
                simp only [Act.put,List.setIfInBounds_toArray,List.set_cons_zero,List.set_cons_succ,i64_w,i32_w]
                rfl
               refine two_ (i:=7) (j:=10) (Ni:=some 96) (Nj:=some 99) #[true,true,true,true,true,true,true,true,true,true,false,false,false,false,false] #[true,true,true,true,true,true,true,false,true,true,true,false,false,false,false] rfl rfl rfl rfl (two_of HT_.out (by kernel_rfl)) (by decide) (by decide) (fun K hK=>?_) (fun K hK=>?_)
               ·skip
                have hcv92:=own_string (P:=Try.prog) Try.underlying41 Try.underlying5 Try.underlying9 (Kd.own_of_R HO582.out)
                refine value_ (w1:=?_) (v:=?_) (by rfl) rfl ?_ ?_
                rotate_left 2
                ·go_simp
                 constructor
                 ·rfl
                 ·rfl
                clear hcv92
                refine hK.out _ _ ⟨(blk_cell BK534.out 0).trans rfl,(blk_cell BK534.out 1).trans rfl,(blk_cell BK534.out 2).trans rfl,(blk_cell BK534.out 3).trans rfl⟩ (fun hHeld=>?_)
                clear hK K
                refine norm_ (a':=?_) ?_ ?_
                rotate_left
                ·show Act.put _ (some 96) _=_
                 simp only [Act.put,List.setIfInBounds_toArray,List.set_cons_zero,List.set_cons_succ,i64_w,i32_w]
                 rfl
                refine one_ (i:=10) (N:=some 99) #[true,true,true,true,true,true,true,true,true,true,true,false,false,false,false] rfl rfl (one_of HT_.out (by kernel_rfl)) (by decide) (fun K hK=>?_)
                have hcv93:=own_string (P:=Try.prog) Try.underlying41 Try.underlying5 Try.underlying9 (Kd.own_of_R HO585.out)
                refine value_ (w1:=?_) (v:=?_) (by rfl) rfl ?_ ?_
                rotate_left 2
                ·go_simp
                 constructor
                 ·rfl
                 ·rfl
                clear hcv93
                refine hK.out _ _ ⟨(blk_cell BK534.out 0).trans rfl,(blk_cell BK534.out 1).trans rfl,(blk_cell BK534.out 2).trans rfl,(blk_cell BK534.out 3).trans rfl⟩ (fun hHeld=>?_)
                clear hK K
                refine norm_ (a':=?_) ?_ ?_
                rotate_left
                ·show Act.put _ (some 99) _=_
                 simp only [Act.put,List.setIfInBounds_toArray,List.set_cons_zero,List.set_cons_succ,i64_w,i32_w]
                 rfl
                exact norm_ (by simp only [putAll,Act.put,List.setIfInBounds_toArray,List.set_cons_zero,List.set_cons_succ]) (hCont (v584) _ ⟨hHeld,(by (with_reducible repeat (first|apply Kd.R_alloc|apply Kd.R_drewN|apply Kd.R_drew));exact Kd.R_mono HO582.out (fun _ hk=>⟨hk.1.1,hk.2⟩)),(by (with_reducible repeat (first|apply Kd.R_alloc|apply Kd.R_drewN|apply Kd.R_drew));exact Kd.R_mono HO585.out (fun _ hk=>⟨hk.1.1,hk.2⟩)),(V_upm HO_535000.out (fun _ hk=>⟨hk.1.1.1,⟨hk.1.2,⟨hk.2,⟨hk.1.1.2.1,⟨hk.1.1.2.2.1,hk.1.1.2.2.2⟩⟩⟩⟩⟩)),(V_upm HO_567000.out (fun _ hk=>⟨hk.1.1.1,⟨hk.1.2,⟨hk.2,⟨hk.1.1.2.1,⟨hk.1.1.2.2.1,hk.1.1.2.2.2⟩⟩⟩⟩⟩)),(V_upm HO_575000.out (fun _ hk=>⟨hk.1.1.1,⟨hk.1.2,⟨hk.2,⟨hk.1.1.2.1,⟨hk.1.1.2.2.1,hk.1.1.2.2.2⟩⟩⟩⟩⟩)),(blk_up BK534.out),(blk_up BK566.out),(blk_up BK574.out),(below_go HB.out)⟩)
               ·skip
                have hcv92:=own_string (P:=Try.prog) Try.underlying41 Try.underlying5 Try.underlying9 (Kd.own_of_R HO585.out)
                refine value_ (w1:=?_) (v:=?_) (by rfl) rfl ?_ ?_
                rotate_left 2
                ·go_simp
                 constructor
                 ·rfl
                 ·rfl
                clear hcv92
                refine hK.out _ _ ⟨(blk_cell BK534.out 0).trans rfl,(blk_cell BK534.out 1).trans rfl,(blk_cell BK534.out 2).trans rfl,(blk_cell BK534.out 3).trans rfl⟩ (fun hHeld=>?_)
                clear hK K
                refine norm_ (a':=?_) ?_ ?_
                rotate_left
                ·show Act.put _ (some 99) _=_
                 simp only [Act.put,List.setIfInBounds_toArray,List.set_cons_zero,List.set_cons_succ,i64_w,i32_w]
                 rfl
                refine one_ (i:=7) (N:=some 96) #[true,true,true,true,true,true,true,true,true,true,true,false,false,false,false] rfl rfl (one_of HT_.out (by kernel_rfl)) (by decide) (fun K hK=>?_)
                have hcv93:=own_string (P:=Try.prog) Try.underlying41 Try.underlying5 Try.underlying9 (Kd.own_of_R HO582.out)
                refine value_ (w1:=?_) (v:=?_) (by rfl) rfl ?_ ?_
                rotate_left 2
                ·go_simp
                 constructor
                 ·rfl
                 ·rfl
                clear hcv93
                refine hK.out _ _ ⟨(blk_cell BK534.out 0).trans rfl,(blk_cell BK534.out 1).trans rfl,(blk_cell BK534.out 2).trans rfl,(blk_cell BK534.out 3).trans rfl⟩ (fun hHeld=>?_)
                clear hK K
                refine norm_ (a':=?_) ?_ ?_
                rotate_left
                ·show Act.put _ (some 96) _=_
                 simp only [Act.put,List.setIfInBounds_toArray,List.set_cons_zero,List.set_cons_succ,i64_w,i32_w]
                 rfl
                exact norm_ (by simp only [putAll,Act.put,List.setIfInBounds_toArray,List.set_cons_zero,List.set_cons_succ]) (hCont (v584) _ ⟨hHeld,(by (with_reducible repeat (first|apply Kd.R_alloc|apply Kd.R_drewN|apply Kd.R_drew));exact Kd.R_mono HO582.out (fun _ hk=>⟨hk.1.1,hk.2⟩)),(by (with_reducible repeat (first|apply Kd.R_alloc|apply Kd.R_drewN|apply Kd.R_drew));exact Kd.R_mono HO585.out (fun _ hk=>⟨hk.1.1,hk.2⟩)),(V_upm HO_535000.out (fun _ hk=>⟨hk.1.1.1,⟨hk.1.2,⟨hk.2,⟨hk.1.1.2.1,⟨hk.1.1.2.2.1,hk.1.1.2.2.2⟩⟩⟩⟩⟩)),(V_upm HO_567000.out (fun _ hk=>⟨hk.1.1.1,⟨hk.1.2,⟨hk.2,⟨hk.1.1.2.1,⟨hk.1.1.2.2.1,hk.1.1.2.2.2⟩⟩⟩⟩⟩)),(V_upm HO_575000.out (fun _ hk=>⟨hk.1.1.1,⟨hk.1.2,⟨hk.2,⟨hk.1.1.2.1,⟨hk.1.1.2.2.1,hk.1.1.2.2.2⟩⟩⟩⟩⟩)),(blk_up BK534.out),(blk_up BK566.out),(blk_up BK574.out),(below_go HB.out)⟩)
             rintro v584 w94 ⟨hS_,h0_,h1_,h2_,h3_,h4_,h5_,h6_,h7_,h8_⟩
             have n0_ : Aside0 (Kd.R (Kd.int .u8) 5 w94 w.heap.size (fun k_=>(w.heap.size≤k_)∧some k_≠(v584 : Value).ownBlock) v581 t580):=⟨h0_⟩
             have n1_ : Aside0 (Kd.R (Kd.int .u8) 5 w94 w.heap.size (fun k_=>(w.heap.size≤k_)∧some k_≠(v581 : Value).ownBlock) v584 t583):=⟨h1_⟩
             have n2_ : Aside0 (Kd.V (Kd.int .i64) 3 w94 w.heap.size (fun k_=>((P0_0_ k_ ∨ P2_ k_) ∨ w.heap.size≤k_)∧some k_≠(v581 : Value).ownBlock∧some k_≠(v584 : Value).ownBlock∧k_≠gb534∧k_≠gb566∧k_≠gb574) (.slice Ao10 t536.length co10) t536):=⟨h2_⟩
             have n3_ : Aside0 (Kd.V (Kd.int .i64) 3 w94 w.heap.size (fun k_=>((P0_0_ k_ ∨ P2_ k_) ∨ w.heap.size≤k_)∧some k_≠(v581 : Value).ownBlock∧some k_≠(v584 : Value).ownBlock∧k_≠gb534∧k_≠gb566∧k_≠gb574) (.slice Ao48 t559.length co48) t559):=⟨h3_⟩
             have n4_ : Aside0 (Kd.V (Kd.int .i64) 3 w94 w.heap.size (fun k_=>((P0_0_ k_ ∨ P2_ k_) ∨ w.heap.size≤k_)∧some k_≠(v581 : Value).ownBlock∧some k_≠(v584 : Value).ownBlock∧k_≠gb534∧k_≠gb566∧k_≠gb574) (.slice Ao53 t567.length co53) t567):=⟨h4_⟩
             have n5_ : Aside0 (w94.heap[gb534]?=some (.cells #[.slice Ao10 t536.length co10,.int .i64 t539,.int .i64 t540,.int .i64 t541] 30 (0,0))):=⟨h5_⟩
             have n6_ : Aside0 (w94.heap[gb566]?=some (.cells #[.slice Ao48 t559.length co48,.int .i64 t562,.int .i64 t563,.int .i64 t564] 30 (0,0))):=⟨h6_⟩
             have n7_ : Aside0 (w94.heap[gb574]?=some (.cells #[.slice Ao53 t567.length co53,.int .i64 t570,.int .i64 t571,.int .i64 t572] 30 (0,0))):=⟨h7_⟩
             have n8_ : Aside0 (Below w.heap.size w w94):=⟨h8_⟩
             clear HO_535000
             clear HO_567000
             clear HO_575000
             clear BK534
             clear BK566
             clear BK574
             clear HB
             clear h0_ h1_ h2_ h3_ h4_ h5_ h6_ h7_ h8_
             have HO582:=n0_
             have HO585:=n1_
             have HO_535000:=n2_
             have HO_567000:=n3_
             have HO_575000:=n4_
             have BK534:=n5_
             have BK566:=n6_
             have BK574:=n7_
             have HB:=n8_
             clear n0_ n1_ n2_ n3_ n4_ n5_ n6_ n7_ n8_
             have hHeld : w94.cell? ⟨gb534,0,none⟩=some (.slice Ao10 t536.length co10)∧w94.cell? ⟨gb534,1,none⟩=some (.int .i64 t539)∧w94.cell? ⟨gb534,2,none⟩=some (.int .i64 t540)∧w94.cell? ⟨gb534,3,none⟩=some (.int .i64 t541):=hS_
             refine norm_ (a':=?_) ?_ ?_
             rotate_left
             ·simp only [putAll,Act.put,List.setIfInBounds_toArray,List.set_cons_zero,List.set_cons_succ]
              rfl
             refine pure_ (i:=11) (N:=some 100) (v:=?_) (a':=?_) #[true,true,true,true,true,true,true,true,true,true,true,true,false,false,false] rfl rfl (any_of HT_.out (by kernel_rfl)) (fun _ _ _ h=>h) (Or.inl ⟨by rfl,?_⟩) ?_ ?_
             rotate_left;(intro w';go_simp;with_reducible rfl);rotate_left;(simp only [Act.put,List.setIfInBounds_toArray,List.set_cons_zero,List.set_cons_succ,i64_w,i32_w];rfl)
             refine pure_ (i:=12) (N:=some 101) (v:=?_) (a':=?_) #[true,true,true,true,true,true,true,true,true,true,true,true,true,false,false] rfl rfl (any_of HT_.out (by kernel_rfl)) (fun _ _ _ h=>h) (Or.inl ⟨by rfl,?_⟩) ?_ ?_
             rotate_left;(intro w';go_simp;with_reducible rfl);rotate_left;(simp only [Act.put,List.setIfInBounds_toArray,List.set_cons_zero,List.set_cons_succ,i64_w,i32_w];rfl)
             refine pure_ (i:=13) (N:=some 102) (v:=?_) (a':=?_) #[true,true,true,true,true,true,true,true,true,true,true,true,true,true,false] rfl rfl (any_of HT_.out (by kernel_rfl)) (fun _ _ _ h=>h) (Or.inl ⟨by rfl,?_⟩) ?_ ?_
             rotate_left;(intro w';go_simp;with_reducible rfl);rotate_left;(simp only [Act.put,List.setIfInBounds_toArray,List.set_cons_zero,List.set_cons_succ,i64_w,i32_w];rfl)
             refine pure_ (i:=14) (N:=some 6) (v:=?_) (a':=?_) #[true,true,true,true,true,true,true,true,true,true,true,true,true,true,true] rfl rfl (any_of HT_.out (by kernel_rfl)) (fun _ _ _ h=>h) (Or.inl ⟨by rfl,?_⟩) ?_ ?_
             rotate_left;(intro w';go_simp;with_reducible rfl);rotate_left;(simp only [Act.put,List.setIfInBounds_toArray,List.set_cons_zero,List.set_cons_succ,i64_w,i32_w];rfl)
             refine done_ (done_of HT_.out (by kernel_rfl)) ?_
             (try clear hHeld)
             try go_wp2
             go_ret
             exact ⟨by first|rfl|(simp [errW_none,errW_some] <;> rfl)|(simp [*,errW_none,errW_some] <;> rfl),by repeat (first|(with_reducible first|exact HB.out|apply below_alloc|apply pw_below_drewN|apply below_drew1|refine below_set ?_ GE534.out|refine below_set ?_ GE566.out|refine below_set ?_ GE574.out)|exact HB.out)⟩
            ·rw [if_neg c86] at H
             have c86b0 : (t576 == 0)=false:=beq_eq_false_iff_ne.mpr c86
             have c86b1 : (t576 != 0)=true:=bne_iff_ne.mpr c86
             obtain rfl:=Option.some.inj H
             try go_wp2
             have n0_:=Aside0.mk (Kd.V_drew HO_535000.out)
             have n1_:=Aside0.mk (Kd.V_drew HO_567000.out)
             have n2_:=Aside0.mk (Kd.V_drew HO_575000.out)
             have n3_:=Aside0.mk (blk_drew BK534.out)
             have n4_:=Aside0.mk (blk_drew BK566.out)
             have n5_:=Aside0.mk (blk_drew BK574.out)
             have n6_:=Aside0.mk (below_drew1 HB.out)
             clear HO_535000
             clear HO_567000
             clear HO_575000
             clear BK534
             clear BK566
             clear BK574
             clear HB
             have HO_535000:=n0_
             have HO_567000:=n1_
             have HO_575000:=n2_
             have BK534:=n3_
             have BK566:=n4_
             have BK574:=n5_
             have HB:=n6_
             clear n0_ n1_ n2_ n3_ n4_ n5_ n6_
             refine start_ (n:=15) (S:=fun w'=>True) (ds:=[]) #[false,false,false,false,false,false,false,false,false,false,false,false,false,false,false] (by kernel_rfl) rfl rfl trivial (fun hHeld=>?_);refine with_tabW thresherlaw04_SchemaAll.tab19 thresherlaw04_SchemaAll.bits19 (fun HT_ HW_=>?_)
             generalize wc.drew=w95 at HO_535000 HO_567000 HO_575000 BK534 BK566 BK574 HB hHeld ⊢
             refine pure_ (i:=0) (N:=some 89) (v:=?_) (a':=?_) #[true,false,false,false,false,false,false,false,false,false,false,false,false,false,false] rfl rfl (any_of HT_.out (by kernel_rfl)) (fun _ _ _ h=>h) (Or.inl ⟨by rfl,?_⟩) ?_ ?_
             rotate_left;(intro w';go_simp;with_reducible rfl);rotate_left;(simp only [Act.put,List.setIfInBounds_toArray,List.set_cons_zero,List.set_cons_succ,i64_w,i32_w];rfl)
             refine pure_ (i:=1) (N:=some 90) (v:=?_) (a':=?_) #[true,true,false,false,false,false,false,false,false,false,false,false,false,false,false] rfl rfl (any_of HT_.out (by kernel_rfl)) (fun _ _ _ h=>h) (Or.inl ⟨by rfl,?_⟩) ?_ ?_
             rotate_left;(intro w';go_simp;with_reducible rfl);rotate_left;(simp only [Act.put,List.setIfInBounds_toArray,List.set_cons_zero,List.set_cons_succ,i64_w,i32_w];rfl)
             refine pure_ (i:=2) (N:=some 91) (v:=?_) (a':=?_) #[true,true,true,false,false,false,false,false,false,false,false,false,false,false,false] rfl rfl (any_of HT_.out (by kernel_rfl)) (fun _ _ _ h=>h) (Or.inl ⟨by rfl,?_⟩) ?_ ?_
             rotate_left;(intro w';go_simp;with_reducible rfl);rotate_left;(simp only [Act.put,List.setIfInBounds_toArray,List.set_cons_zero,List.set_cons_succ,i64_w,i32_w];rfl)
             refine pure_ (i:=3) (N:=some 92) (v:=?_) (a':=?_) #[true,true,true,true,false,false,false,false,false,false,false,false,false,false,false] rfl rfl (any_of HT_.out (by kernel_rfl)) (fun _ _ _ h=>h) (Or.inl ⟨by rfl,?_⟩) ?_ ?_
             rotate_left;(intro w';go_simp;with_reducible rfl);rotate_left;(simp only [Act.put,List.setIfInBounds_toArray,List.set_cons_zero,List.set_cons_succ,i64_w,i32_w];rfl)
             refine pure_ (i:=4) (N:=some 93) (v:=?_) (a':=?_) #[true,true,true,true,true,false,false,false,false,false,false,false,false,false,false] rfl rfl (any_of HT_.out (by kernel_rfl)) (fun _ _ _ h=>h) (Or.inl ⟨by rfl,?_⟩) ?_ ?_
             rotate_left;(intro w';go_simp;with_reducible rfl);rotate_left;(simp only [Act.put,List.setIfInBounds_toArray,List.set_cons_zero,List.set_cons_succ,i64_w,i32_w];rfl)
             refine pure_ (i:=5) (N:=some 94) (v:=undef) (a':=?_) #[true,true,true,true,true,true,false,false,false,false,false,false,false,false,false] rfl rfl (any_of HT_.out (by kernel_rfl)) (fun _ _ _ h=>h) (Or.inr ⟨by rfl,rfl⟩) ?_ ?_
             rotate_left
             ·simp only [Act.put,List.setIfInBounds_toArray,List.set_cons_zero,List.set_cons_succ,i64_w,i32_w]
              rfl
             refine pure_ (i:=6) (N:=some 95) (v:=undef) (a':=?_) #[true,true,true,true,true,true,true,false,false,false,false,false,false,false,false] rfl rfl (any_of HT_.out (by kernel_rfl)) (fun _ _ _ h=>h) (Or.inr ⟨by rfl,rfl⟩) ?_ ?_
             rotate_left
             ·simp only [Act.put,List.setIfInBounds_toArray,List.set_cons_zero,List.set_cons_succ,i64_w,i32_w]
              rfl
             refine pure_ (i:=7) (N:=some 96) (v:=undef) (a':=?_) #[true,true,true,true,true,true,true,true,false,false,false,false,false,false,false] rfl rfl (any_of HT_.out (by kernel_rfl)) (fun _ _ _ h=>h) (Or.inr ⟨by rfl,rfl⟩) ?_ ?_
             rotate_left
             ·simp only [Act.put,List.setIfInBounds_toArray,List.set_cons_zero,List.set_cons_succ,i64_w,i32_w]
              rfl
             refine pure_ (i:=8) (N:=some 97) (v:=undef) (a':=?_) #[true,true,true,true,true,true,true,true,true,false,false,false,false,false,false] rfl rfl (any_of HT_.out (by kernel_rfl)) (fun _ _ _ h=>h) (Or.inr ⟨by rfl,rfl⟩) ?_ ?_
             rotate_left
             ·simp only [Act.put,List.setIfInBounds_toArray,List.set_cons_zero,List.set_cons_succ,i64_w,i32_w]
              rfl
             refine pure_ (i:=9) (N:=some 98) (v:=undef) (a':=?_) #[true,true,true,true,true,true,true,true,true,true,false,false,false,false,false] rfl rfl (any_of HT_.out (by kernel_rfl)) (fun _ _ _ h=>h) (Or.inr ⟨by rfl,rfl⟩) ?_ ?_
             rotate_left
             ·simp only [Act.put,List.setIfInBounds_toArray,List.set_cons_zero,List.set_cons_succ,i64_w,i32_w]
              rfl
             refine pure_ (i:=10) (N:=some 99) (v:=undef) (a':=?_) #[true,true,true,true,true,true,true,true,true,true,true,false,false,false,false] rfl rfl (any_of HT_.out (by kernel_rfl)) (fun _ _ _ h=>h) (Or.inr ⟨by rfl,rfl⟩) ?_ ?_
             rotate_left
             ·simp only [Act.put,List.setIfInBounds_toArray,List.set_cons_zero,List.set_cons_succ,i64_w,i32_w]
              rfl
             refine pure_ (i:=11) (N:=some 100) (v:=undef) (a':=?_) #[true,true,true,true,true,true,true,true,true,true,true,true,false,false,false] rfl rfl (any_of HT_.out (by kernel_rfl)) (fun _ _ _ h=>h) (Or.inr ⟨by rfl,rfl⟩) ?_ ?_
             rotate_left
             ·simp only [Act.put,List.setIfInBounds_toArray,List.set_cons_zero,List.set_cons_succ,i64_w,i32_w]
              rfl
             refine pure_ (i:=12) (N:=some 101) (v:=?_) (a':=?_) #[true,true,true,true,true,true,true,true,true,true,true,true,true,false,false] rfl rfl (any_of HT_.out (by kernel_rfl)) (fun _ _ _ h=>h) (Or.inl ⟨by rfl,?_⟩) ?_ ?_
             rotate_left;(intro w';go_simp;with_reducible rfl);rotate_left;(simp only [Act.put,List.setIfInBounds_toArray,List.set_cons_zero,List.set_cons_succ,i64_w,i32_w];rfl)
             refine pure_ (i:=13) (N:=some 102) (v:=?_) (a':=?_) #[true,true,true,true,true,true,true,true,true,true,true,true,true,true,false] rfl rfl (any_of HT_.out (by kernel_rfl)) (fun _ _ _ h=>h) (Or.inl ⟨by rfl,?_⟩) ?_ ?_
             rotate_left;(intro w';go_simp;with_reducible rfl);rotate_left;(simp only [Act.put,List.setIfInBounds_toArray,List.set_cons_zero,List.set_cons_succ,i64_w,i32_w];rfl)
             refine pure_ (i:=14) (N:=some 6) (v:=?_) (a':=?_) #[true,true,true,true,true,true,true,true,true,true,true,true,true,true,true] rfl rfl (any_of HT_.out (by kernel_rfl)) (fun _ _ _ h=>h) (Or.inl ⟨by rfl,?_⟩) ?_ ?_
             rotate_left;(intro w';go_simp;with_reducible rfl);rotate_left;(simp only [Act.put,List.setIfInBounds_toArray,List.set_cons_zero,List.set_cons_succ,i64_w,i32_w];rfl)
             refine done_ (done_of HT_.out (by kernel_rfl)) ?_
             (try clear hHeld)
             try go_wp2
             go_ret
             exact ⟨by first|rfl|(simp [errW_none,errW_some] <;> rfl)|(simp [*,errW_none,errW_some] <;> rfl),by repeat (first|(with_reducible first|exact HB.out|apply below_alloc|apply pw_below_drewN|apply below_drew1|refine below_set ?_ GE534.out|refine below_set ?_ GE566.out|refine below_set ?_ GE574.out)|exact HB.out)⟩
           ·replace c85:=Bool.eq_false_iff.mpr c85
            subst c85
            have H1 : (some false)=some r:=by rw [if_neg (show ¬ (false=true) by decide)] at H;exact H
            clear H
            have H:=H1
            clear H1
            obtain rfl:=Option.some.inj H
            try go_wp2
            have n0_:=Aside0.mk (Kd.V_drew HO_535000.out)
            have n1_:=Aside0.mk (Kd.V_drew HO_567000.out)
            have n2_:=Aside0.mk (Kd.V_drew HO_575000.out)
            have n3_:=Aside0.mk (blk_drew BK534.out)
            have n4_:=Aside0.mk (blk_drew BK566.out)
            have n5_:=Aside0.mk (blk_drew BK574.out)
            have n6_:=Aside0.mk (below_drew1 HB.out)
            clear HO_535000
            clear HO_567000
            clear HO_575000
            clear BK534
            clear BK566
            clear BK574
            clear HB
            have HO_535000:=n0_
            have HO_567000:=n1_
            have HO_575000:=n2_
            have BK534:=n3_
            have BK566:=n4_
            have BK574:=n5_
            have HB:=n6_
            clear n0_ n1_ n2_ n3_ n4_ n5_ n6_
            refine start_ (n:=15) (S:=fun w'=>True) (ds:=[]) #[false,false,false,false,false,false,false,false,false,false,false,false,false,false,false] (by kernel_rfl) rfl rfl trivial (fun hHeld=>?_);refine with_tabW thresherlaw04_SchemaAll.tab19 thresherlaw04_SchemaAll.bits19 (fun HT_ HW_=>?_)
            generalize wc.drew=w96 at HO_535000 HO_567000 HO_575000 BK534 BK566 BK574 HB hHeld ⊢
            refine pure_ (i:=0) (N:=some 89) (v:=?_) (a':=?_) #[true,false,false,false,false,false,false,false,false,false,false,false,false,false,false] rfl rfl (any_of HT_.out (by kernel_rfl)) (fun _ _ _ h=>h) (Or.inl ⟨by rfl,?_⟩) ?_ ?_
            rotate_left;(intro w';go_simp;with_reducible rfl);rotate_left;(simp only [Act.put,List.setIfInBounds_toArray,List.set_cons_zero,List.set_cons_succ,i64_w,i32_w];rfl)
            refine pure_ (i:=1) (N:=some 90) (v:=?_) (a':=?_) #[true,true,false,false,false,false,false,false,false,false,false,false,false,false,false] rfl rfl (any_of HT_.out (by kernel_rfl)) (fun _ _ _ h=>h) (Or.inl ⟨by rfl,?_⟩) ?_ ?_
            rotate_left;(intro w';go_simp;with_reducible rfl);rotate_left;(simp only [Act.put,List.setIfInBounds_toArray,List.set_cons_zero,List.set_cons_succ,i64_w,i32_w];rfl)
            refine pure_ (i:=2) (N:=some 91) (v:=undef) (a':=?_) #[true,true,true,false,false,false,false,false,false,false,false,false,false,false,false] rfl rfl (any_of HT_.out (by kernel_rfl)) (fun _ _ _ h=>h) (Or.inr ⟨by rfl,rfl⟩) ?_ ?_
            rotate_left
            ·simp only [Act.put,List.setIfInBounds_toArray,List.set_cons_zero,List.set_cons_succ,i64_w,i32_w]
             rfl
            refine pure_ (i:=3) (N:=some 92) (v:=undef) (a':=?_) #[true,true,true,true,false,false,false,false,false,false,false,false,false,false,false] rfl rfl (any_of HT_.out (by kernel_rfl)) (fun _ _ _ h=>h) (Or.inr ⟨by rfl,rfl⟩) ?_ ?_
            rotate_left
            ·simp only [Act.put,List.setIfInBounds_toArray,List.set_cons_zero,List.set_cons_succ,i64_w,i32_w]
             rfl
            refine pure_ (i:=4) (N:=some 93) (v:=undef) (a':=?_) #[true,true,true,true,true,false,false,false,false,false,false,false,false,false,false] rfl rfl (any_of HT_.out (by kernel_rfl)) (fun _ _ _ h=>h) (Or.inr ⟨by rfl,rfl⟩) ?_ ?_
            rotate_left
            ·simp only [Act.put,List.setIfInBounds_toArray,List.set_cons_zero,List.set_cons_succ,i64_w,i32_w]
             rfl
            refine pure_ (i:=5) (N:=some 94) (v:=undef) (a':=?_) #[true,true,true,true,true,true,false,false,false,false,false,false,false,false,false] rfl rfl (any_of HT_.out (by kernel_rfl)) (fun _ _ _ h=>h) (Or.inr ⟨by rfl,rfl⟩) ?_ ?_
            rotate_left
            ·simp only [Act.put,List.setIfInBounds_toArray,List.set_cons_zero,List.set_cons_succ,i64_w,i32_w]
             rfl
            refine pure_ (i:=6) (N:=some 95) (v:=undef) (a':=?_) #[true,true,true,true,true,true,true,false,false,false,false,false,false,false,false] rfl rfl (any_of HT_.out (by kernel_rfl)) (fun _ _ _ h=>h) (Or.inr ⟨by rfl,rfl⟩) ?_ ?_
            rotate_left
            ·simp only [Act.put,List.setIfInBounds_toArray,List.set_cons_zero,List.set_cons_succ,i64_w,i32_w]
             rfl
            refine pure_ (i:=7) (N:=some 96) (v:=undef) (a':=?_) #[true,true,true,true,true,true,true,true,false,false,false,false,false,false,false] rfl rfl (any_of HT_.out (by kernel_rfl)) (fun _ _ _ h=>h) (Or.inr ⟨by rfl,rfl⟩) ?_ ?_
            rotate_left
            ·simp only [Act.put,List.setIfInBounds_toArray,List.set_cons_zero,List.set_cons_succ,i64_w,i32_w]
             rfl
            refine pure_ (i:=8) (N:=some 97) (v:=undef) (a':=?_) #[true,true,true,true,true,true,true,true,true,false,false,false,false,false,false] rfl rfl (any_of HT_.out (by kernel_rfl)) (fun _ _ _ h=>h) (Or.inr ⟨by rfl,rfl⟩) ?_ ?_
            rotate_left
            ·simp only [Act.put,List.setIfInBounds_toArray,List.set_cons_zero,List.set_cons_succ,i64_w,i32_w]
             rfl
            refine pure_ (i:=9) (N:=some 98) (v:=undef) (a':=?_) #[true,true,true,true,true,true,true,true,true,true,false,false,false,false,false] rfl rfl (any_of HT_.out (by kernel_rfl)) (fun _ _ _ h=>h) (Or.inr ⟨by rfl,rfl⟩) ?_ ?_
            rotate_left
            ·simp only [Act.put,List.setIfInBounds_toArray,List.set_cons_zero,List.set_cons_succ,i64_w,i32_w]
             rfl
            refine pure_ (i:=10) (N:=some 99) (v:=undef) (a':=?_) #[true,true,true,true,true,true,true,true,true,true,true,false,false,false,false] rfl rfl (any_of HT_.out (by kernel_rfl)) (fun _ _ _ h=>h) (Or.inr ⟨by rfl,rfl⟩) ?_ ?_
            rotate_left
            ·simp only [Act.put,List.setIfInBounds_toArray,List.set_cons_zero,List.set_cons_succ,i64_w,i32_w]
             rfl
            refine pure_ (i:=11) (N:=some 100) (v:=undef) (a':=?_) #[true,true,true,true,true,true,true,true,true,true,true,true,false,false,false] rfl rfl (any_of HT_.out (by kernel_rfl)) (fun _ _ _ h=>h) (Or.inr ⟨by rfl,rfl⟩) ?_ ?_
            rotate_left
            ·simp only [Act.put,List.setIfInBounds_toArray,List.set_cons_zero,List.set_cons_succ,i64_w,i32_w]
             rfl
            refine pure_ (i:=12) (N:=some 101) (v:=undef) (a':=?_) #[true,true,true,true,true,true,true,true,true,true,true,true,true,false,false] rfl rfl (any_of HT_.out (by kernel_rfl)) (fun _ _ _ h=>h) (Or.inr ⟨by rfl,rfl⟩) ?_ ?_
            rotate_left
            ·simp only [Act.put,List.setIfInBounds_toArray,List.set_cons_zero,List.set_cons_succ,i64_w,i32_w]
             rfl
            refine pure_ (i:=13) (N:=some 102) (v:=?_) (a':=?_) #[true,true,true,true,true,true,true,true,true,true,true,true,true,true,false] rfl rfl (any_of HT_.out (by kernel_rfl)) (fun _ _ _ h=>h) (Or.inl ⟨by rfl,?_⟩) ?_ ?_
            rotate_left;(intro w';go_simp;with_reducible rfl);rotate_left;(simp only [Act.put,List.setIfInBounds_toArray,List.set_cons_zero,List.set_cons_succ,i64_w,i32_w];rfl)
            refine pure_ (i:=14) (N:=some 6) (v:=?_) (a':=?_) #[true,true,true,true,true,true,true,true,true,true,true,true,true,true,true] rfl rfl (any_of HT_.out (by kernel_rfl)) (fun _ _ _ h=>h) (Or.inl ⟨by rfl,?_⟩) ?_ ?_
            rotate_left;(intro w';go_simp;with_reducible rfl);rotate_left;(simp only [Act.put,List.setIfInBounds_toArray,List.set_cons_zero,List.set_cons_succ,i64_w,i32_w];rfl)
            refine done_ (done_of HT_.out (by kernel_rfl)) ?_
            (try clear hHeld)
            try go_wp2
            go_ret
            exact ⟨by first|rfl|(simp [errW_none,errW_some] <;> rfl)|(simp [*,errW_none,errW_some] <;> rfl),by repeat (first|(with_reducible first|exact HB.out|apply below_alloc|apply pw_below_drewN|apply below_drew1|refine below_set ?_ GE534.out|refine below_set ?_ GE566.out|refine below_set ?_ GE574.out)|exact HB.out)⟩
end Go.Proofs.Ytkodpbellndelaa.P

