/- Texts of MergeFirst. Merged: Px18. -/
import Derived.Test.YtfiandejapgkoaaQMergeFirstPx0
import Derived.Test.YtfiandejapgkoaaQMergeFirstPx3
import Derived.Test.YtfiandejapgkoaaQMergeFirstPx5
import Derived.Test.YtfiandejapgkoaaQMergeFirstPx10
import Derived.Test.YtfiandejapgkoaaQMergeFirstPx14
import Derived.Test.YtfiandejapgkoaaMMergeFirst1
namespace Go.Proofs.Ytfiandejapgkoaa.P
open Go.RowKit Go.Proofs.YtfiandejapgkoaaW.PrintWords Go.Proofs.YtfiandejapgkoaaW.PrintLast Go.Proofs.YtfiandejapgkoaaW.PrintMore
attribute [local go_sem] max2_int min2_int max_two min_two max_three min_three max_four min_four   -- for this text's walks alone
set_option linter.unusedVariables false
set_option linter.unusedSimpArgs false
def thresherlaw14_MergeFirst.j0 : Nat→Bool→Option (Bool)
 | 0,_=>none
 | k + 1,x6=>some x6
def thresherlaw14_MergeFirst.f (k : Nat) (a0_0 : Int) (a0_1 : Int) (a0_2 : Int) (a0_3 : Int) (a0_4 : Int) (a0_5 : Int) (a0_6 : Int) (a0_7 : Int) (a0_8 : Int) (a0_9 : Int) (a0_10 : Int) (a0_11 : Int) (l1 : List (List (List (S31)))) (a2_0 : Int) (a2_1 : Int) : Option (Bool):=(thresherlaw14_shown.f k).bind fun t421=>((thresherlaw14_made.f k a0_0 a0_1 a0_2 a0_3 a0_4 a0_5 a0_6 a0_7 a0_8 a0_9 a0_10 a0_11).bind fun bt422=>((thresherlaw14_parts.f k bt422.1 bt422.2.1 bt422.2.2.1 bt422.2.2.2 l1).bind fun t429=>(if (wrap64 ((t429.length : Int) + 1))=0 then (none) else (if (wrap64 ((wrap64 ((t429.length : Int) - (Int.tmod (wrap64 (a2_0)) (wrap64 ((t429.length : Int) + 1))))) + 1))=0 then (none) else ((some (([] : List (List (List (S31)))) : List (List (List (S31))))).bind fun y432=>(if 0≤(Int.tmod (wrap64 (a2_0)) (wrap64 ((t429.length : Int) + 1))) then (if (Int.tmod (wrap64 (a2_0)) (wrap64 ((t429.length : Int) + 1)))≤(t429.length : Int) then ((some (t429.take ((Int.tmod (wrap64 (a2_0)) (wrap64 ((t429.length : Int) + 1))) : Int).toNat : List (List (List (S31))))).bind fun y435=>(if y432.length + y435.length < 5864062014805 then ((some (y432 ++ y435 : List (List (List (S31))))).bind fun y440=>((some (([] : List (List (List (S31)))) : List (List (List (S31))))).bind fun y443=>((some (t429.take ((Int.tmod (wrap64 (a2_0)) (wrap64 ((t429.length : Int) + 1))) : Int).toNat : List (List (List (S31))))).bind fun y446=>(if y443.length + y446.length < 5864062014805 then ((some (y443 ++ y446 : List (List (List (S31))))).bind fun y451=>(if (Int.tmod (wrap64 (a2_0)) (wrap64 ((t429.length : Int) + 1)))≤(wrap64 ((Int.tmod (wrap64 (a2_0)) (wrap64 ((t429.length : Int) + 1))) + (Int.tmod (wrap64 (a2_1)) (wrap64 ((wrap64 ((t429.length : Int) - (Int.tmod (wrap64 (a2_0)) (wrap64 ((t429.length : Int) + 1))))) + 1))))) then (if (wrap64 ((Int.tmod (wrap64 (a2_0)) (wrap64 ((t429.length : Int) + 1))) + (Int.tmod (wrap64 (a2_1)) (wrap64 ((wrap64 ((t429.length : Int) - (Int.tmod (wrap64 (a2_0)) (wrap64 ((t429.length : Int) + 1))))) + 1)))))≤(t429.length : Int) then ((merge_Folded.f k bt422.1 bt422.2.1 bt422.2.2.1 bt422.2.2.2 ((t429.take ((wrap64 ((Int.tmod (wrap64 (a2_0)) (wrap64 ((t429.length : Int) + 1))) + (Int.tmod (wrap64 (a2_1)) (wrap64 ((wrap64 ((t429.length : Int) - (Int.tmod (wrap64 (a2_0)) (wrap64 ((t429.length : Int) + 1))))) + 1))))) : Int).toNat).drop ((Int.tmod (wrap64 (a2_0)) (wrap64 ((t429.length : Int) + 1))) : Int).toNat)).bind fun t459=>(if y440.length < 5864062014805 then ((some (y440 ++ [t459] : List (List (List (S31))))).bind fun y462=>((merge_Rows.f k bt422.1 bt422.2.1 bt422.2.2.1 bt422.2.2.2 ((t429.take ((wrap64 ((Int.tmod (wrap64 (a2_0)) (wrap64 ((t429.length : Int) + 1))) + (Int.tmod (wrap64 (a2_1)) (wrap64 ((wrap64 ((t429.length : Int) - (Int.tmod (wrap64 (a2_0)) (wrap64 ((t429.length : Int) + 1))))) + 1))))) : Int).toNat).drop ((Int.tmod (wrap64 (a2_0)) (wrap64 ((t429.length : Int) + 1))) : Int).toNat)).bind fun t470=>(if y451.length < 5864062014805 then ((some (y451 ++ [t470] : List (List (List (S31))))).bind fun y473=>(if 0≤(wrap64 ((Int.tmod (wrap64 (a2_0)) (wrap64 ((t429.length : Int) + 1))) + (Int.tmod (wrap64 (a2_1)) (wrap64 ((wrap64 ((t429.length : Int) - (Int.tmod (wrap64 (a2_0)) (wrap64 ((t429.length : Int) + 1))))) + 1))))) then ((some (t429.drop ((wrap64 ((Int.tmod (wrap64 (a2_0)) (wrap64 ((t429.length : Int) + 1))) + (Int.tmod (wrap64 (a2_1)) (wrap64 ((wrap64 ((t429.length : Int) - (Int.tmod (wrap64 (a2_0)) (wrap64 ((t429.length : Int) + 1))))) + 1))))) : Int).toNat : List (List (List (S31))))).bind fun y476=>(if y462.length + y476.length < 5864062014805 then ((some (t429.drop ((wrap64 ((Int.tmod (wrap64 (a2_0)) (wrap64 ((t429.length : Int) + 1))) + (Int.tmod (wrap64 (a2_1)) (wrap64 ((wrap64 ((t429.length : Int) - (Int.tmod (wrap64 (a2_0)) (wrap64 ((t429.length : Int) + 1))))) + 1))))) : Int).toNat : List (List (List (S31))))).bind fun y484=>(if y473.length + y484.length < 5864062014805 then ((merge_Folded.f k bt422.1 bt422.2.1 bt422.2.2.1 bt422.2.2.2 (y462 ++ y476)).bind fun t492=>((merge_Folded.f k bt422.1 bt422.2.1 bt422.2.2.1 bt422.2.2.2 t429).bind fun t495=>((thresherref04_Rows.f k t492 t495).bind fun t498=>((merge_Rows.f k bt422.1 bt422.2.1 bt422.2.2.1 bt422.2.2.2 (y473 ++ y484)).bind fun t499=>((merge_Rows.f k bt422.1 bt422.2.1 bt422.2.2.1 bt422.2.2.2 t429).bind fun t502=>((thresherref04_Rows.f k t499 t502).bind fun t505=>(if t421=true then (if t498=true then (thresherlaw14_MergeFirst.j0 k t505) else (thresherlaw14_MergeFirst.j0 k false)) else (thresherlaw14_MergeFirst.j0 k false)))))))) else (none))) else (none))) else (none))) else (none)))) else (none))) else (none)) else (none))) else (none))))) else (none))) else (none)) else (none)))))))
theorem thresherlaw14_MergeFirst.mono_l : ∀ k,(∀ y0,LeO (thresherlaw14_MergeFirst.j0 k y0) (thresherlaw14_MergeFirst.j0 (k + 1) y0))
 | 0=>fun _ r h=>by simp [thresherlaw14_MergeFirst.j0] at h
 | k + 1=>by
  have ih0:=thresherlaw14_MergeFirst.mono_l k
  ·intro y0
   unfold thresherlaw14_MergeFirst.j0
   repeat' first
   | (with_reducible exact ih0 _)
   | (with_reducible exact merge_Folded.mono _ _ _ _ _ _)
   | (with_reducible exact merge_Rows.mono _ _ _ _ _ _)
   | (with_reducible exact thresherlaw14_made.mono _ _ _ _ _ _ _ _ _ _ _ _ _)
   | (with_reducible exact thresherlaw14_parts.mono _ _ _ _ _ _)
   | (with_reducible exact thresherlaw14_shown.mono _)
   | (with_reducible exact thresherref04_Rows.mono _ _ _)
   | (with_reducible exact LeO.refl _)
   | (with_reducible exact LeO.none _)
   | (with_reducible refine LeO.ite ?_ ?_)
   | (with_reducible refine LeO.bind ?_ (fun _=>?_))
   | exact ih0 _
   | exact merge_Folded.mono _ _ _ _ _ _
   | exact merge_Rows.mono _ _ _ _ _ _
   | exact thresherlaw14_made.mono _ _ _ _ _ _ _ _ _ _ _ _ _
   | exact thresherlaw14_parts.mono _ _ _ _ _ _
   | exact thresherlaw14_shown.mono _
   | exact thresherref04_Rows.mono _ _ _
   | exact LeO.none _
   | refine LeO.ite ?_ ?_
   | refine LeO.bind ?_ (fun _=>?_)
theorem thresherlaw14_MergeFirst.mono : ∀ a0 a1 a2 a3 a4 a5 a6 a7 a8 a9 a10 a11 a12 a13 a14 k,LeO (thresherlaw14_MergeFirst.f k a0 a1 a2 a3 a4 a5 a6 a7 a8 a9 a10 a11 a12 a13 a14) (thresherlaw14_MergeFirst.f (k + 1) a0 a1 a2 a3 a4 a5 a6 a7 a8 a9 a10 a11 a12 a13 a14):=by
 intro a0 a1 a2 a3 a4 a5 a6 a7 a8 a9 a10 a11 a12 a13 a14 k
 have ih0:=thresherlaw14_MergeFirst.mono_l k
 unfold thresherlaw14_MergeFirst.f
 repeat' first
   | (with_reducible exact ih0 _)
   | (with_reducible exact merge_Folded.mono _ _ _ _ _ _)
   | (with_reducible exact merge_Rows.mono _ _ _ _ _ _)
   | (with_reducible exact thresherlaw14_made.mono _ _ _ _ _ _ _ _ _ _ _ _ _)
   | (with_reducible exact thresherlaw14_parts.mono _ _ _ _ _ _)
   | (with_reducible exact thresherlaw14_shown.mono _)
   | (with_reducible exact thresherref04_Rows.mono _ _ _)
   | (with_reducible exact LeO.refl _)
   | (with_reducible exact LeO.none _)
   | (with_reducible refine LeO.ite ?_ ?_)
   | (with_reducible refine LeO.bind ?_ (fun _=>?_))
   | exact ih0 _
   | exact merge_Folded.mono _ _ _ _ _ _
   | exact merge_Rows.mono _ _ _ _ _ _
   | exact thresherlaw14_made.mono _ _ _ _ _ _ _ _ _ _ _ _ _
   | exact thresherlaw14_parts.mono _ _ _ _ _ _
   | exact thresherlaw14_shown.mono _
   | exact thresherref04_Rows.mono _ _ _
   | exact LeO.none _
   | refine LeO.ite ?_ ?_
   | refine LeO.bind ?_ (fun _=>?_)
def thresherlaw14_MergeFirst.T8 : Bool × List (List Nat × List Nat):=(true,[([],[]),([],[]),([],[]),([],[]),([],[]),([2,3,4],[2,3,4]),([1,5],[1,5]),([6],[6]),([0,7,6],[0,7]),([8,8,0,1,2,3,4,5,6,7,8],[0,8])])
def thresherlaw14_MergeFirst.B8 : List Nat:=[0,0,0,0,0,28,62,126,255,511]
theorem thresherlaw14_MergeFirst.tab8 : rtab .any (opsOf Try.f5 8)=thresherlaw14_MergeFirst.T8:=by kernel_rfl
theorem thresherlaw14_MergeFirst.bits8 : waitsOk thresherlaw14_MergeFirst.T8.2 thresherlaw14_MergeFirst.B8=true:=by kernel_rfl
def thresherlaw14_MergeFirst.T9 : Bool × List (List Nat × List Nat):=(true,[([],[]),([],[]),([],[]),([],[]),([],[]),([2,3,4],[2,3,4]),([1,5],[1,5]),([6],[6]),([0,7,6],[0,7]),([8,8,0,1,2,3,4,5,6,7,8],[0,8])])
def thresherlaw14_MergeFirst.B9 : List Nat:=[0,0,0,0,0,28,62,126,255,511]
theorem thresherlaw14_MergeFirst.tab9 : rtab .any (opsOf Try.f5 9)=thresherlaw14_MergeFirst.T9:=by kernel_rfl
theorem thresherlaw14_MergeFirst.bits9 : waitsOk thresherlaw14_MergeFirst.T9.2 thresherlaw14_MergeFirst.B9=true:=by kernel_rfl
def thresherlaw14_MergeFirst.T12 : Bool × List (List Nat × List Nat):=(true,[([],[]),([],[]),([0,1],[0,1]),([],[]),([],[]),([3,4,2],[3,4]),([2,5,5],[2,5]),([6,6,0,1,2,3,4,5,6],[6])])
def thresherlaw14_MergeFirst.B12 : List Nat:=[0,0,3,0,0,31,63,127]
theorem thresherlaw14_MergeFirst.tab12 : rtab .any (opsOf Try.f5 12)=thresherlaw14_MergeFirst.T12:=by kernel_rfl
theorem thresherlaw14_MergeFirst.bits12 : waitsOk thresherlaw14_MergeFirst.T12.2 thresherlaw14_MergeFirst.B12=true:=by kernel_rfl
def thresherlaw14_MergeFirst.T13 : Bool × List (List Nat × List Nat):=(true,[([],[]),([],[]),([0,1],[0,1]),([],[]),([],[]),([3,4,2],[3,4]),([2,5,5],[2,5]),([6,6,0,1,2,3,4,5,6],[6])])
def thresherlaw14_MergeFirst.B13 : List Nat:=[0,0,3,0,0,31,63,127]
theorem thresherlaw14_MergeFirst.tab13 : rtab .any (opsOf Try.f5 13)=thresherlaw14_MergeFirst.T13:=by kernel_rfl
theorem thresherlaw14_MergeFirst.bits13 : waitsOk thresherlaw14_MergeFirst.T13.2 thresherlaw14_MergeFirst.B13=true:=by kernel_rfl
set_option maxHeartbeats 8000000 in
set_option maxRecDepth 100000 in
theorem thresherlaw14_MergeFirst.calls (k : Nat) (a0_0 : Int) (a0_1 : Int) (a0_2 : Int) (a0_3 : Int) (a0_4 : Int) (a0_5 : Int) (a0_6 : Int) (a0_7 : Int) (a0_8 : Int) (a0_9 : Int) (a0_10 : Int) (a0_11 : Int) (A1 : Option Addr) (c1 : Nat) (l1 : List (List (List (S31)))) (a2_0 : Int) (a2_1 : Int) (r : Bool) (w : World) (hr1 : Kd.C (Kd.slice 33 (Kd.slice 31 k31)) w A1 l1.length l1) (hc1 : l1.length≤c1) (h : thresherlaw14_MergeFirst.f k a0_0 a0_1 a0_2 a0_3 a0_4 a0_5 a0_6 a0_7 a0_8 a0_9 a0_10 a0_11 l1 a2_0 a2_1=some r) :
  Calls Try.prog 5 #[.agg #[.int .u8 a0_0,.int .u8 a0_1,.int .u8 a0_2,.int .u8 a0_3,.int .u8 a0_4,.int .u8 a0_5,.int .u8 a0_6,.int .u8 a0_7,.int .u8 a0_8,.int .u8 a0_9,.int .u8 a0_10,.int .u8 a0_11],.slice A1 l1.length c1,.agg #[.int .u8 a2_0,.int .u8 a2_1]] w fun e w'=>e=.returned (.bool r)∧Below w.heap.size w w':=by
 have hu38:=Try.underlying38
 have hu43:=Try.underlying43
 have hu26:=Try.underlying26
 have HR1:=Aside0.mk hr1
 have HC1:=Aside0.mk hc1
 clear hr1 hc1
 have HB:=Aside0.mk (Below.refl w.heap.size w)
 have H : ((thresherlaw14_shown.f k).bind fun t421=>((thresherlaw14_made.f k a0_0 a0_1 a0_2 a0_3 a0_4 a0_5 a0_6 a0_7 a0_8 a0_9 a0_10 a0_11).bind fun bt422=>((thresherlaw14_parts.f k bt422.1 bt422.2.1 bt422.2.2.1 bt422.2.2.2 l1).bind fun t429=>(if (wrap64 ((t429.length : Int) + 1))=0 then (none) else (if (wrap64 ((wrap64 ((t429.length : Int) - (Int.tmod (wrap64 (a2_0)) (wrap64 ((t429.length : Int) + 1))))) + 1))=0 then (none) else ((some (([] : List (List (List (S31)))) : List (List (List (S31))))).bind fun y432=>(if 0≤(Int.tmod (wrap64 (a2_0)) (wrap64 ((t429.length : Int) + 1))) then (if (Int.tmod (wrap64 (a2_0)) (wrap64 ((t429.length : Int) + 1)))≤(t429.length : Int) then ((some (t429.take ((Int.tmod (wrap64 (a2_0)) (wrap64 ((t429.length : Int) + 1))) : Int).toNat : List (List (List (S31))))).bind fun y435=>(if y432.length + y435.length < 5864062014805 then ((some (y432 ++ y435 : List (List (List (S31))))).bind fun y440=>((some (([] : List (List (List (S31)))) : List (List (List (S31))))).bind fun y443=>((some (t429.take ((Int.tmod (wrap64 (a2_0)) (wrap64 ((t429.length : Int) + 1))) : Int).toNat : List (List (List (S31))))).bind fun y446=>(if y443.length + y446.length < 5864062014805 then ((some (y443 ++ y446 : List (List (List (S31))))).bind fun y451=>(if (Int.tmod (wrap64 (a2_0)) (wrap64 ((t429.length : Int) + 1)))≤(wrap64 ((Int.tmod (wrap64 (a2_0)) (wrap64 ((t429.length : Int) + 1))) + (Int.tmod (wrap64 (a2_1)) (wrap64 ((wrap64 ((t429.length : Int) - (Int.tmod (wrap64 (a2_0)) (wrap64 ((t429.length : Int) + 1))))) + 1))))) then (if (wrap64 ((Int.tmod (wrap64 (a2_0)) (wrap64 ((t429.length : Int) + 1))) + (Int.tmod (wrap64 (a2_1)) (wrap64 ((wrap64 ((t429.length : Int) - (Int.tmod (wrap64 (a2_0)) (wrap64 ((t429.length : Int) + 1))))) + 1)))))≤(t429.length : Int) then ((merge_Folded.f k bt422.1 bt422.2.1 bt422.2.2.1 bt422.2.2.2 ((t429.take ((wrap64 ((Int.tmod (wrap64 (a2_0)) (wrap64 ((t429.length : Int) + 1))) + (Int.tmod (wrap64 (a2_1)) (wrap64 ((wrap64 ((t429.length : Int) - (Int.tmod (wrap64 (a2_0)) (wrap64 ((t429.length : Int) + 1))))) + 1))))) : Int).toNat).drop ((Int.tmod (wrap64 (a2_0)) (wrap64 ((t429.length : Int) + 1))) : Int).toNat)).bind fun t459=>(if y440.length < 5864062014805 then ((some (y440 ++ [t459] : List (List (List (S31))))).bind fun y462=>((merge_Rows.f k bt422.1 bt422.2.1 bt422.2.2.1 bt422.2.2.2 ((t429.take ((wrap64 ((Int.tmod (wrap64 (a2_0)) (wrap64 ((t429.length : Int) + 1))) + (Int.tmod (wrap64 (a2_1)) (wrap64 ((wrap64 ((t429.length : Int) - (Int.tmod (wrap64 (a2_0)) (wrap64 ((t429.length : Int) + 1))))) + 1))))) : Int).toNat).drop ((Int.tmod (wrap64 (a2_0)) (wrap64 ((t429.length : Int) + 1))) : Int).toNat)).bind fun t470=>(if y451.length < 5864062014805 then ((some (y451 ++ [t470] : List (List (List (S31))))).bind fun y473=>(if 0≤(wrap64 ((Int.tmod (wrap64 (a2_0)) (wrap64 ((t429.length : Int) + 1))) + (Int.tmod (wrap64 (a2_1)) (wrap64 ((wrap64 ((t429.length : Int) - (Int.tmod (wrap64 (a2_0)) (wrap64 ((t429.length : Int) + 1))))) + 1))))) then ((some (t429.drop ((wrap64 ((Int.tmod (wrap64 (a2_0)) (wrap64 ((t429.length : Int) + 1))) + (Int.tmod (wrap64 (a2_1)) (wrap64 ((wrap64 ((t429.length : Int) - (Int.tmod (wrap64 (a2_0)) (wrap64 ((t429.length : Int) + 1))))) + 1))))) : Int).toNat : List (List (List (S31))))).bind fun y476=>(if y462.length + y476.length < 5864062014805 then ((some (t429.drop ((wrap64 ((Int.tmod (wrap64 (a2_0)) (wrap64 ((t429.length : Int) + 1))) + (Int.tmod (wrap64 (a2_1)) (wrap64 ((wrap64 ((t429.length : Int) - (Int.tmod (wrap64 (a2_0)) (wrap64 ((t429.length : Int) + 1))))) + 1))))) : Int).toNat : List (List (List (S31))))).bind fun y484=>(if y473.length + y484.length < 5864062014805 then ((merge_Folded.f k bt422.1 bt422.2.1 bt422.2.2.1 bt422.2.2.2 (y462 ++ y476)).bind fun t492=>((merge_Folded.f k bt422.1 bt422.2.1 bt422.2.2.1 bt422.2.2.2 t429).bind fun t495=>((thresherref04_Rows.f k t492 t495).bind fun t498=>((merge_Rows.f k bt422.1 bt422.2.1 bt422.2.2.1 bt422.2.2.2 (y473 ++ y484)).bind fun t499=>((merge_Rows.f k bt422.1 bt422.2.1 bt422.2.2.1 bt422.2.2.2 t429).bind fun t502=>((thresherref04_Rows.f k t499 t502).bind fun t505=>(if t421=true then (if t498=true then (thresherlaw14_MergeFirst.j0 k t505) else (thresherlaw14_MergeFirst.j0 k false)) else (thresherlaw14_MergeFirst.j0 k false)))))))) else (none))) else (none))) else (none))) else (none)))) else (none))) else (none)) else (none))) else (none))))) else (none))) else (none)) else (none))))))))=some r:=h
 clear h
 replace H:=Option.bind_eq_some_iff.mp H
 obtain ⟨t421,A40,H⟩:=H
 replace H : ((thresherlaw14_made.f k a0_0 a0_1 a0_2 a0_3 a0_4 a0_5 a0_6 a0_7 a0_8 a0_9 a0_10 a0_11).bind fun bt422=>((thresherlaw14_parts.f k bt422.1 bt422.2.1 bt422.2.2.1 bt422.2.2.2 l1).bind fun t429=>(if (wrap64 ((t429.length : Int) + 1))=0 then (none) else (if (wrap64 ((wrap64 ((t429.length : Int) - (Int.tmod (wrap64 (a2_0)) (wrap64 ((t429.length : Int) + 1))))) + 1))=0 then (none) else ((some (([] : List (List (List (S31)))) : List (List (List (S31))))).bind fun y432=>(if 0≤(Int.tmod (wrap64 (a2_0)) (wrap64 ((t429.length : Int) + 1))) then (if (Int.tmod (wrap64 (a2_0)) (wrap64 ((t429.length : Int) + 1)))≤(t429.length : Int) then ((some (t429.take ((Int.tmod (wrap64 (a2_0)) (wrap64 ((t429.length : Int) + 1))) : Int).toNat : List (List (List (S31))))).bind fun y435=>(if y432.length + y435.length < 5864062014805 then ((some (y432 ++ y435 : List (List (List (S31))))).bind fun y440=>((some (([] : List (List (List (S31)))) : List (List (List (S31))))).bind fun y443=>((some (t429.take ((Int.tmod (wrap64 (a2_0)) (wrap64 ((t429.length : Int) + 1))) : Int).toNat : List (List (List (S31))))).bind fun y446=>(if y443.length + y446.length < 5864062014805 then ((some (y443 ++ y446 : List (List (List (S31))))).bind fun y451=>(if (Int.tmod (wrap64 (a2_0)) (wrap64 ((t429.length : Int) + 1)))≤(wrap64 ((Int.tmod (wrap64 (a2_0)) (wrap64 ((t429.length : Int) + 1))) + (Int.tmod (wrap64 (a2_1)) (wrap64 ((wrap64 ((t429.length : Int) - (Int.tmod (wrap64 (a2_0)) (wrap64 ((t429.length : Int) + 1))))) + 1))))) then (if (wrap64 ((Int.tmod (wrap64 (a2_0)) (wrap64 ((t429.length : Int) + 1))) + (Int.tmod (wrap64 (a2_1)) (wrap64 ((wrap64 ((t429.length : Int) - (Int.tmod (wrap64 (a2_0)) (wrap64 ((t429.length : Int) + 1))))) + 1)))))≤(t429.length : Int) then ((merge_Folded.f k bt422.1 bt422.2.1 bt422.2.2.1 bt422.2.2.2 ((t429.take ((wrap64 ((Int.tmod (wrap64 (a2_0)) (wrap64 ((t429.length : Int) + 1))) + (Int.tmod (wrap64 (a2_1)) (wrap64 ((wrap64 ((t429.length : Int) - (Int.tmod (wrap64 (a2_0)) (wrap64 ((t429.length : Int) + 1))))) + 1))))) : Int).toNat).drop ((Int.tmod (wrap64 (a2_0)) (wrap64 ((t429.length : Int) + 1))) : Int).toNat)).bind fun t459=>(if y440.length < 5864062014805 then ((some (y440 ++ [t459] : List (List (List (S31))))).bind fun y462=>((merge_Rows.f k bt422.1 bt422.2.1 bt422.2.2.1 bt422.2.2.2 ((t429.take ((wrap64 ((Int.tmod (wrap64 (a2_0)) (wrap64 ((t429.length : Int) + 1))) + (Int.tmod (wrap64 (a2_1)) (wrap64 ((wrap64 ((t429.length : Int) - (Int.tmod (wrap64 (a2_0)) (wrap64 ((t429.length : Int) + 1))))) + 1))))) : Int).toNat).drop ((Int.tmod (wrap64 (a2_0)) (wrap64 ((t429.length : Int) + 1))) : Int).toNat)).bind fun t470=>(if y451.length < 5864062014805 then ((some (y451 ++ [t470] : List (List (List (S31))))).bind fun y473=>(if 0≤(wrap64 ((Int.tmod (wrap64 (a2_0)) (wrap64 ((t429.length : Int) + 1))) + (Int.tmod (wrap64 (a2_1)) (wrap64 ((wrap64 ((t429.length : Int) - (Int.tmod (wrap64 (a2_0)) (wrap64 ((t429.length : Int) + 1))))) + 1))))) then ((some (t429.drop ((wrap64 ((Int.tmod (wrap64 (a2_0)) (wrap64 ((t429.length : Int) + 1))) + (Int.tmod (wrap64 (a2_1)) (wrap64 ((wrap64 ((t429.length : Int) - (Int.tmod (wrap64 (a2_0)) (wrap64 ((t429.length : Int) + 1))))) + 1))))) : Int).toNat : List (List (List (S31))))).bind fun y476=>(if y462.length + y476.length < 5864062014805 then ((some (t429.drop ((wrap64 ((Int.tmod (wrap64 (a2_0)) (wrap64 ((t429.length : Int) + 1))) + (Int.tmod (wrap64 (a2_1)) (wrap64 ((wrap64 ((t429.length : Int) - (Int.tmod (wrap64 (a2_0)) (wrap64 ((t429.length : Int) + 1))))) + 1))))) : Int).toNat : List (List (List (S31))))).bind fun y484=>(if y473.length + y484.length < 5864062014805 then ((merge_Folded.f k bt422.1 bt422.2.1 bt422.2.2.1 bt422.2.2.2 (y462 ++ y476)).bind fun t492=>((merge_Folded.f k bt422.1 bt422.2.1 bt422.2.2.1 bt422.2.2.2 t429).bind fun t495=>((thresherref04_Rows.f k t492 t495).bind fun t498=>((merge_Rows.f k bt422.1 bt422.2.1 bt422.2.2.1 bt422.2.2.2 (y473 ++ y484)).bind fun t499=>((merge_Rows.f k bt422.1 bt422.2.1 bt422.2.2.1 bt422.2.2.2 t429).bind fun t502=>((thresherref04_Rows.f k t499 t502).bind fun t505=>(if t421=true then (if t498=true then (thresherlaw14_MergeFirst.j0 k t505) else (thresherlaw14_MergeFirst.j0 k false)) else (thresherlaw14_MergeFirst.j0 k false)))))))) else (none))) else (none))) else (none))) else (none)))) else (none))) else (none)) else (none))) else (none))))) else (none))) else (none)) else (none)))))))=some r:=H
 have A4:=Aside0.mk A40
 clear A40
 replace H:=Option.bind_eq_some_iff.mp H
 obtain ⟨⟨t422,t425,t426,t427⟩,A50,H⟩:=H
 replace H : ((thresherlaw14_parts.f k t422 t425 t426 t427 l1).bind fun t429=>(if (wrap64 ((t429.length : Int) + 1))=0 then (none) else (if (wrap64 ((wrap64 ((t429.length : Int) - (Int.tmod (wrap64 (a2_0)) (wrap64 ((t429.length : Int) + 1))))) + 1))=0 then (none) else ((some (([] : List (List (List (S31)))) : List (List (List (S31))))).bind fun y432=>(if 0≤(Int.tmod (wrap64 (a2_0)) (wrap64 ((t429.length : Int) + 1))) then (if (Int.tmod (wrap64 (a2_0)) (wrap64 ((t429.length : Int) + 1)))≤(t429.length : Int) then ((some (t429.take ((Int.tmod (wrap64 (a2_0)) (wrap64 ((t429.length : Int) + 1))) : Int).toNat : List (List (List (S31))))).bind fun y435=>(if y432.length + y435.length < 5864062014805 then ((some (y432 ++ y435 : List (List (List (S31))))).bind fun y440=>((some (([] : List (List (List (S31)))) : List (List (List (S31))))).bind fun y443=>((some (t429.take ((Int.tmod (wrap64 (a2_0)) (wrap64 ((t429.length : Int) + 1))) : Int).toNat : List (List (List (S31))))).bind fun y446=>(if y443.length + y446.length < 5864062014805 then ((some (y443 ++ y446 : List (List (List (S31))))).bind fun y451=>(if (Int.tmod (wrap64 (a2_0)) (wrap64 ((t429.length : Int) + 1)))≤(wrap64 ((Int.tmod (wrap64 (a2_0)) (wrap64 ((t429.length : Int) + 1))) + (Int.tmod (wrap64 (a2_1)) (wrap64 ((wrap64 ((t429.length : Int) - (Int.tmod (wrap64 (a2_0)) (wrap64 ((t429.length : Int) + 1))))) + 1))))) then (if (wrap64 ((Int.tmod (wrap64 (a2_0)) (wrap64 ((t429.length : Int) + 1))) + (Int.tmod (wrap64 (a2_1)) (wrap64 ((wrap64 ((t429.length : Int) - (Int.tmod (wrap64 (a2_0)) (wrap64 ((t429.length : Int) + 1))))) + 1)))))≤(t429.length : Int) then ((merge_Folded.f k t422 t425 t426 t427 ((t429.take ((wrap64 ((Int.tmod (wrap64 (a2_0)) (wrap64 ((t429.length : Int) + 1))) + (Int.tmod (wrap64 (a2_1)) (wrap64 ((wrap64 ((t429.length : Int) - (Int.tmod (wrap64 (a2_0)) (wrap64 ((t429.length : Int) + 1))))) + 1))))) : Int).toNat).drop ((Int.tmod (wrap64 (a2_0)) (wrap64 ((t429.length : Int) + 1))) : Int).toNat)).bind fun t459=>(if y440.length < 5864062014805 then ((some (y440 ++ [t459] : List (List (List (S31))))).bind fun y462=>((merge_Rows.f k t422 t425 t426 t427 ((t429.take ((wrap64 ((Int.tmod (wrap64 (a2_0)) (wrap64 ((t429.length : Int) + 1))) + (Int.tmod (wrap64 (a2_1)) (wrap64 ((wrap64 ((t429.length : Int) - (Int.tmod (wrap64 (a2_0)) (wrap64 ((t429.length : Int) + 1))))) + 1))))) : Int).toNat).drop ((Int.tmod (wrap64 (a2_0)) (wrap64 ((t429.length : Int) + 1))) : Int).toNat)).bind fun t470=>(if y451.length < 5864062014805 then ((some (y451 ++ [t470] : List (List (List (S31))))).bind fun y473=>(if 0≤(wrap64 ((Int.tmod (wrap64 (a2_0)) (wrap64 ((t429.length : Int) + 1))) + (Int.tmod (wrap64 (a2_1)) (wrap64 ((wrap64 ((t429.length : Int) - (Int.tmod (wrap64 (a2_0)) (wrap64 ((t429.length : Int) + 1))))) + 1))))) then ((some (t429.drop ((wrap64 ((Int.tmod (wrap64 (a2_0)) (wrap64 ((t429.length : Int) + 1))) + (Int.tmod (wrap64 (a2_1)) (wrap64 ((wrap64 ((t429.length : Int) - (Int.tmod (wrap64 (a2_0)) (wrap64 ((t429.length : Int) + 1))))) + 1))))) : Int).toNat : List (List (List (S31))))).bind fun y476=>(if y462.length + y476.length < 5864062014805 then ((some (t429.drop ((wrap64 ((Int.tmod (wrap64 (a2_0)) (wrap64 ((t429.length : Int) + 1))) + (Int.tmod (wrap64 (a2_1)) (wrap64 ((wrap64 ((t429.length : Int) - (Int.tmod (wrap64 (a2_0)) (wrap64 ((t429.length : Int) + 1))))) + 1))))) : Int).toNat : List (List (List (S31))))).bind fun y484=>(if y473.length + y484.length < 5864062014805 then ((merge_Folded.f k t422 t425 t426 t427 (y462 ++ y476)).bind fun t492=>((merge_Folded.f k t422 t425 t426 t427 t429).bind fun t495=>((thresherref04_Rows.f k t492 t495).bind fun t498=>((merge_Rows.f k t422 t425 t426 t427 (y473 ++ y484)).bind fun t499=>((merge_Rows.f k t422 t425 t426 t427 t429).bind fun t502=>((thresherref04_Rows.f k t499 t502).bind fun t505=>(if t421=true then (if t498=true then (thresherlaw14_MergeFirst.j0 k t505) else (thresherlaw14_MergeFirst.j0 k false)) else (thresherlaw14_MergeFirst.j0 k false)))))))) else (none))) else (none))) else (none))) else (none)))) else (none))) else (none)) else (none))) else (none))))) else (none))) else (none)) else (none))))))=some r:=H
 have A5:=Aside0.mk A50
 clear A50
 replace H:=Option.bind_eq_some_iff.mp H
 obtain ⟨t429,A60,H⟩:=H
 replace H : (if (wrap64 ((t429.length : Int) + 1))=0 then (none) else (if (wrap64 ((wrap64 ((t429.length : Int) - (Int.tmod (wrap64 (a2_0)) (wrap64 ((t429.length : Int) + 1))))) + 1))=0 then (none) else ((some (([] : List (List (List (S31)))) : List (List (List (S31))))).bind fun y432=>(if 0≤(Int.tmod (wrap64 (a2_0)) (wrap64 ((t429.length : Int) + 1))) then (if (Int.tmod (wrap64 (a2_0)) (wrap64 ((t429.length : Int) + 1)))≤(t429.length : Int) then ((some (t429.take ((Int.tmod (wrap64 (a2_0)) (wrap64 ((t429.length : Int) + 1))) : Int).toNat : List (List (List (S31))))).bind fun y435=>(if y432.length + y435.length < 5864062014805 then ((some (y432 ++ y435 : List (List (List (S31))))).bind fun y440=>((some (([] : List (List (List (S31)))) : List (List (List (S31))))).bind fun y443=>((some (t429.take ((Int.tmod (wrap64 (a2_0)) (wrap64 ((t429.length : Int) + 1))) : Int).toNat : List (List (List (S31))))).bind fun y446=>(if y443.length + y446.length < 5864062014805 then ((some (y443 ++ y446 : List (List (List (S31))))).bind fun y451=>(if (Int.tmod (wrap64 (a2_0)) (wrap64 ((t429.length : Int) + 1)))≤(wrap64 ((Int.tmod (wrap64 (a2_0)) (wrap64 ((t429.length : Int) + 1))) + (Int.tmod (wrap64 (a2_1)) (wrap64 ((wrap64 ((t429.length : Int) - (Int.tmod (wrap64 (a2_0)) (wrap64 ((t429.length : Int) + 1))))) + 1))))) then (if (wrap64 ((Int.tmod (wrap64 (a2_0)) (wrap64 ((t429.length : Int) + 1))) + (Int.tmod (wrap64 (a2_1)) (wrap64 ((wrap64 ((t429.length : Int) - (Int.tmod (wrap64 (a2_0)) (wrap64 ((t429.length : Int) + 1))))) + 1)))))≤(t429.length : Int) then ((merge_Folded.f k t422 t425 t426 t427 ((t429.take ((wrap64 ((Int.tmod (wrap64 (a2_0)) (wrap64 ((t429.length : Int) + 1))) + (Int.tmod (wrap64 (a2_1)) (wrap64 ((wrap64 ((t429.length : Int) - (Int.tmod (wrap64 (a2_0)) (wrap64 ((t429.length : Int) + 1))))) + 1))))) : Int).toNat).drop ((Int.tmod (wrap64 (a2_0)) (wrap64 ((t429.length : Int) + 1))) : Int).toNat)).bind fun t459=>(if y440.length < 5864062014805 then ((some (y440 ++ [t459] : List (List (List (S31))))).bind fun y462=>((merge_Rows.f k t422 t425 t426 t427 ((t429.take ((wrap64 ((Int.tmod (wrap64 (a2_0)) (wrap64 ((t429.length : Int) + 1))) + (Int.tmod (wrap64 (a2_1)) (wrap64 ((wrap64 ((t429.length : Int) - (Int.tmod (wrap64 (a2_0)) (wrap64 ((t429.length : Int) + 1))))) + 1))))) : Int).toNat).drop ((Int.tmod (wrap64 (a2_0)) (wrap64 ((t429.length : Int) + 1))) : Int).toNat)).bind fun t470=>(if y451.length < 5864062014805 then ((some (y451 ++ [t470] : List (List (List (S31))))).bind fun y473=>(if 0≤(wrap64 ((Int.tmod (wrap64 (a2_0)) (wrap64 ((t429.length : Int) + 1))) + (Int.tmod (wrap64 (a2_1)) (wrap64 ((wrap64 ((t429.length : Int) - (Int.tmod (wrap64 (a2_0)) (wrap64 ((t429.length : Int) + 1))))) + 1))))) then ((some (t429.drop ((wrap64 ((Int.tmod (wrap64 (a2_0)) (wrap64 ((t429.length : Int) + 1))) + (Int.tmod (wrap64 (a2_1)) (wrap64 ((wrap64 ((t429.length : Int) - (Int.tmod (wrap64 (a2_0)) (wrap64 ((t429.length : Int) + 1))))) + 1))))) : Int).toNat : List (List (List (S31))))).bind fun y476=>(if y462.length + y476.length < 5864062014805 then ((some (t429.drop ((wrap64 ((Int.tmod (wrap64 (a2_0)) (wrap64 ((t429.length : Int) + 1))) + (Int.tmod (wrap64 (a2_1)) (wrap64 ((wrap64 ((t429.length : Int) - (Int.tmod (wrap64 (a2_0)) (wrap64 ((t429.length : Int) + 1))))) + 1))))) : Int).toNat : List (List (List (S31))))).bind fun y484=>(if y473.length + y484.length < 5864062014805 then ((merge_Folded.f k t422 t425 t426 t427 (y462 ++ y476)).bind fun t492=>((merge_Folded.f k t422 t425 t426 t427 t429).bind fun t495=>((thresherref04_Rows.f k t492 t495).bind fun t498=>((merge_Rows.f k t422 t425 t426 t427 (y473 ++ y484)).bind fun t499=>((merge_Rows.f k t422 t425 t426 t427 t429).bind fun t502=>((thresherref04_Rows.f k t499 t502).bind fun t505=>(if t421=true then (if t498=true then (thresherlaw14_MergeFirst.j0 k t505) else (thresherlaw14_MergeFirst.j0 k false)) else (thresherlaw14_MergeFirst.j0 k false)))))))) else (none))) else (none))) else (none))) else (none)))) else (none))) else (none)) else (none))) else (none))))) else (none))) else (none)) else (none)))))=some r:=H
 have A6:=Aside0.mk A60
 clear A60
 by_cases c7 : (wrap64 ((t429.length : Int) + 1))=0
 ·rw [if_pos c7] at H
  exact absurd H (by simp)
 ·rw [if_neg c7] at H
  have c7b0 : ((wrap64 ((t429.length : Int) + 1)) == 0)=false:=beq_eq_false_iff_ne.mpr c7
  have c7b1 : ((wrap64 ((t429.length : Int) + 1)) != 0)=true:=bne_iff_ne.mpr c7
  by_cases c8 : (wrap64 ((wrap64 ((t429.length : Int) - (Int.tmod (wrap64 (a2_0)) (wrap64 ((t429.length : Int) + 1))))) + 1))=0
  ·rw [if_pos c8] at H
   exact absurd H (by simp)
  ·rw [if_neg c8] at H
   have c8b0 : ((wrap64 ((wrap64 ((t429.length : Int) - (Int.tmod (wrap64 (a2_0)) (wrap64 ((t429.length : Int) + 1))))) + 1)) == 0)=false:=beq_eq_false_iff_ne.mpr c8
   have c8b1 : ((wrap64 ((wrap64 ((t429.length : Int) - (Int.tmod (wrap64 (a2_0)) (wrap64 ((t429.length : Int) + 1))))) + 1)) != 0)=true:=bne_iff_ne.mpr c8
   obtain ⟨y432,hy432⟩ : ∃ y_ : List (List (List (S31))),y_=(([] : List (List (List (S31))))):=⟨_,rfl⟩
   replace H : (if 0≤(Int.tmod (wrap64 (a2_0)) (wrap64 ((t429.length : Int) + 1))) then (if (Int.tmod (wrap64 (a2_0)) (wrap64 ((t429.length : Int) + 1)))≤(t429.length : Int) then ((some (t429.take ((Int.tmod (wrap64 (a2_0)) (wrap64 ((t429.length : Int) + 1))) : Int).toNat : List (List (List (S31))))).bind fun y435=>(if y432.length + y435.length < 5864062014805 then ((some (y432 ++ y435 : List (List (List (S31))))).bind fun y440=>((some (([] : List (List (List (S31)))) : List (List (List (S31))))).bind fun y443=>((some (t429.take ((Int.tmod (wrap64 (a2_0)) (wrap64 ((t429.length : Int) + 1))) : Int).toNat : List (List (List (S31))))).bind fun y446=>(if y443.length + y446.length < 5864062014805 then ((some (y443 ++ y446 : List (List (List (S31))))).bind fun y451=>(if (Int.tmod (wrap64 (a2_0)) (wrap64 ((t429.length : Int) + 1)))≤(wrap64 ((Int.tmod (wrap64 (a2_0)) (wrap64 ((t429.length : Int) + 1))) + (Int.tmod (wrap64 (a2_1)) (wrap64 ((wrap64 ((t429.length : Int) - (Int.tmod (wrap64 (a2_0)) (wrap64 ((t429.length : Int) + 1))))) + 1))))) then (if (wrap64 ((Int.tmod (wrap64 (a2_0)) (wrap64 ((t429.length : Int) + 1))) + (Int.tmod (wrap64 (a2_1)) (wrap64 ((wrap64 ((t429.length : Int) - (Int.tmod (wrap64 (a2_0)) (wrap64 ((t429.length : Int) + 1))))) + 1)))))≤(t429.length : Int) then ((merge_Folded.f k t422 t425 t426 t427 ((t429.take ((wrap64 ((Int.tmod (wrap64 (a2_0)) (wrap64 ((t429.length : Int) + 1))) + (Int.tmod (wrap64 (a2_1)) (wrap64 ((wrap64 ((t429.length : Int) - (Int.tmod (wrap64 (a2_0)) (wrap64 ((t429.length : Int) + 1))))) + 1))))) : Int).toNat).drop ((Int.tmod (wrap64 (a2_0)) (wrap64 ((t429.length : Int) + 1))) : Int).toNat)).bind fun t459=>(if y440.length < 5864062014805 then ((some (y440 ++ [t459] : List (List (List (S31))))).bind fun y462=>((merge_Rows.f k t422 t425 t426 t427 ((t429.take ((wrap64 ((Int.tmod (wrap64 (a2_0)) (wrap64 ((t429.length : Int) + 1))) + (Int.tmod (wrap64 (a2_1)) (wrap64 ((wrap64 ((t429.length : Int) - (Int.tmod (wrap64 (a2_0)) (wrap64 ((t429.length : Int) + 1))))) + 1))))) : Int).toNat).drop ((Int.tmod (wrap64 (a2_0)) (wrap64 ((t429.length : Int) + 1))) : Int).toNat)).bind fun t470=>(if y451.length < 5864062014805 then ((some (y451 ++ [t470] : List (List (List (S31))))).bind fun y473=>(if 0≤(wrap64 ((Int.tmod (wrap64 (a2_0)) (wrap64 ((t429.length : Int) + 1))) + (Int.tmod (wrap64 (a2_1)) (wrap64 ((wrap64 ((t429.length : Int) - (Int.tmod (wrap64 (a2_0)) (wrap64 ((t429.length : Int) + 1))))) + 1))))) then ((some (t429.drop ((wrap64 ((Int.tmod (wrap64 (a2_0)) (wrap64 ((t429.length : Int) + 1))) + (Int.tmod (wrap64 (a2_1)) (wrap64 ((wrap64 ((t429.length : Int) - (Int.tmod (wrap64 (a2_0)) (wrap64 ((t429.length : Int) + 1))))) + 1))))) : Int).toNat : List (List (List (S31))))).bind fun y476=>(if y462.length + y476.length < 5864062014805 then ((some (t429.drop ((wrap64 ((Int.tmod (wrap64 (a2_0)) (wrap64 ((t429.length : Int) + 1))) + (Int.tmod (wrap64 (a2_1)) (wrap64 ((wrap64 ((t429.length : Int) - (Int.tmod (wrap64 (a2_0)) (wrap64 ((t429.length : Int) + 1))))) + 1))))) : Int).toNat : List (List (List (S31))))).bind fun y484=>(if y473.length + y484.length < 5864062014805 then ((merge_Folded.f k t422 t425 t426 t427 (y462 ++ y476)).bind fun t492=>((merge_Folded.f k t422 t425 t426 t427 t429).bind fun t495=>((thresherref04_Rows.f k t492 t495).bind fun t498=>((merge_Rows.f k t422 t425 t426 t427 (y473 ++ y484)).bind fun t499=>((merge_Rows.f k t422 t425 t426 t427 t429).bind fun t502=>((thresherref04_Rows.f k t499 t502).bind fun t505=>(if t421=true then (if t498=true then (thresherlaw14_MergeFirst.j0 k t505) else (thresherlaw14_MergeFirst.j0 k false)) else (thresherlaw14_MergeFirst.j0 k false)))))))) else (none))) else (none))) else (none))) else (none)))) else (none))) else (none)) else (none))) else (none))))) else (none))) else (none)) else (none))=some r:=by first|(rw [hy432];with_reducible exact H)|(have H2_:=(Option.bind_some _ _).symm.trans H;rw [hy432];with_reducible exact H2_)|(have H2_:=(Option.bind_some _ _).symm.trans H;with_reducible exact H2_)|with_reducible exact H|(rw [hy432];exact H)|exact H
   have Ny432:=Aside0.mk hy432
   clear hy432
   obtain ⟨ji9,hji9⟩ : ∃ j_ : Int,(Int.tmod (wrap64 (a2_0)) (wrap64 ((t429.length : Int) + 1)))=j_:=⟨_,rfl⟩
   replace H : (if 0≤(ji9) then (if (ji9)≤(t429.length : Int) then ((some (t429.take ((ji9) : Int).toNat : List (List (List (S31))))).bind fun y435=>(if y432.length + y435.length < 5864062014805 then ((some (y432 ++ y435 : List (List (List (S31))))).bind fun y440=>((some (([] : List (List (List (S31)))) : List (List (List (S31))))).bind fun y443=>((some (t429.take ((ji9) : Int).toNat : List (List (List (S31))))).bind fun y446=>(if y443.length + y446.length < 5864062014805 then ((some (y443 ++ y446 : List (List (List (S31))))).bind fun y451=>(if (ji9)≤(wrap64 ((ji9) + (Int.tmod (wrap64 (a2_1)) (wrap64 ((wrap64 ((t429.length : Int) - (ji9))) + 1))))) then (if (wrap64 ((ji9) + (Int.tmod (wrap64 (a2_1)) (wrap64 ((wrap64 ((t429.length : Int) - (ji9))) + 1)))))≤(t429.length : Int) then ((merge_Folded.f k t422 t425 t426 t427 ((t429.take ((wrap64 ((ji9) + (Int.tmod (wrap64 (a2_1)) (wrap64 ((wrap64 ((t429.length : Int) - (ji9))) + 1))))) : Int).toNat).drop ((ji9) : Int).toNat)).bind fun t459=>(if y440.length < 5864062014805 then ((some (y440 ++ [t459] : List (List (List (S31))))).bind fun y462=>((merge_Rows.f k t422 t425 t426 t427 ((t429.take ((wrap64 ((ji9) + (Int.tmod (wrap64 (a2_1)) (wrap64 ((wrap64 ((t429.length : Int) - (ji9))) + 1))))) : Int).toNat).drop ((ji9) : Int).toNat)).bind fun t470=>(if y451.length < 5864062014805 then ((some (y451 ++ [t470] : List (List (List (S31))))).bind fun y473=>(if 0≤(wrap64 ((ji9) + (Int.tmod (wrap64 (a2_1)) (wrap64 ((wrap64 ((t429.length : Int) - (ji9))) + 1))))) then ((some (t429.drop ((wrap64 ((ji9) + (Int.tmod (wrap64 (a2_1)) (wrap64 ((wrap64 ((t429.length : Int) - (ji9))) + 1))))) : Int).toNat : List (List (List (S31))))).bind fun y476=>(if y462.length + y476.length < 5864062014805 then ((some (t429.drop ((wrap64 ((ji9) + (Int.tmod (wrap64 (a2_1)) (wrap64 ((wrap64 ((t429.length : Int) - (ji9))) + 1))))) : Int).toNat : List (List (List (S31))))).bind fun y484=>(if y473.length + y484.length < 5864062014805 then ((merge_Folded.f k t422 t425 t426 t427 (y462 ++ y476)).bind fun t492=>((merge_Folded.f k t422 t425 t426 t427 t429).bind fun t495=>((thresherref04_Rows.f k t492 t495).bind fun t498=>((merge_Rows.f k t422 t425 t426 t427 (y473 ++ y484)).bind fun t499=>((merge_Rows.f k t422 t425 t426 t427 t429).bind fun t502=>((thresherref04_Rows.f k t499 t502).bind fun t505=>(if t421=true then (if t498=true then (thresherlaw14_MergeFirst.j0 k t505) else (thresherlaw14_MergeFirst.j0 k false)) else (thresherlaw14_MergeFirst.j0 k false)))))))) else (none))) else (none))) else (none))) else (none)))) else (none))) else (none)) else (none))) else (none))))) else (none))) else (none)) else (none))=some r:=by first|(rw [hji9] at H;exact H)|(simp only [hji9] at H ⊢;exact H)
   (try rw [hji9] at c8b0)
   (try rw [hji9] at c8)
   (try rw [hji9] at c8b1)
   (try rw [hji9] at A4)
   (try rw [hji9] at A5)
   (try rw [hji9] at A6)
   by_cases c10 : 0≤(ji9)
   ·rw [if_pos c10] at H
    have c10b0:=eq_true c10
    have c10b1 : decide (0≤(ji9))=true:=decide_eq_true c10
    clear c10
    by_cases c11 : (ji9)≤(t429.length : Int)
    ·rw [if_pos c11] at H
     have c11b0:=eq_true c11
     have c11b1 : decide ((ji9)≤(t429.length : Int))=true:=decide_eq_true c11
     clear c11
     obtain ⟨y435,hy435⟩ : ∃ y_ : List (List (List (S31))),y_=(t429.take ((ji9) : Int).toNat):=⟨_,rfl⟩
     replace H : (if y432.length + y435.length < 5864062014805 then ((some (y432 ++ y435 : List (List (List (S31))))).bind fun y440=>((some (([] : List (List (List (S31)))) : List (List (List (S31))))).bind fun y443=>((some (t429.take ((ji9) : Int).toNat : List (List (List (S31))))).bind fun y446=>(if y443.length + y446.length < 5864062014805 then ((some (y443 ++ y446 : List (List (List (S31))))).bind fun y451=>(if (ji9)≤(wrap64 ((ji9) + (Int.tmod (wrap64 (a2_1)) (wrap64 ((wrap64 ((t429.length : Int) - (ji9))) + 1))))) then (if (wrap64 ((ji9) + (Int.tmod (wrap64 (a2_1)) (wrap64 ((wrap64 ((t429.length : Int) - (ji9))) + 1)))))≤(t429.length : Int) then ((merge_Folded.f k t422 t425 t426 t427 ((t429.take ((wrap64 ((ji9) + (Int.tmod (wrap64 (a2_1)) (wrap64 ((wrap64 ((t429.length : Int) - (ji9))) + 1))))) : Int).toNat).drop ((ji9) : Int).toNat)).bind fun t459=>(if y440.length < 5864062014805 then ((some (y440 ++ [t459] : List (List (List (S31))))).bind fun y462=>((merge_Rows.f k t422 t425 t426 t427 ((t429.take ((wrap64 ((ji9) + (Int.tmod (wrap64 (a2_1)) (wrap64 ((wrap64 ((t429.length : Int) - (ji9))) + 1))))) : Int).toNat).drop ((ji9) : Int).toNat)).bind fun t470=>(if y451.length < 5864062014805 then ((some (y451 ++ [t470] : List (List (List (S31))))).bind fun y473=>(if 0≤(wrap64 ((ji9) + (Int.tmod (wrap64 (a2_1)) (wrap64 ((wrap64 ((t429.length : Int) - (ji9))) + 1))))) then ((some (t429.drop ((wrap64 ((ji9) + (Int.tmod (wrap64 (a2_1)) (wrap64 ((wrap64 ((t429.length : Int) - (ji9))) + 1))))) : Int).toNat : List (List (List (S31))))).bind fun y476=>(if y462.length + y476.length < 5864062014805 then ((some (t429.drop ((wrap64 ((ji9) + (Int.tmod (wrap64 (a2_1)) (wrap64 ((wrap64 ((t429.length : Int) - (ji9))) + 1))))) : Int).toNat : List (List (List (S31))))).bind fun y484=>(if y473.length + y484.length < 5864062014805 then ((merge_Folded.f k t422 t425 t426 t427 (y462 ++ y476)).bind fun t492=>((merge_Folded.f k t422 t425 t426 t427 t429).bind fun t495=>((thresherref04_Rows.f k t492 t495).bind fun t498=>((merge_Rows.f k t422 t425 t426 t427 (y473 ++ y484)).bind fun t499=>((merge_Rows.f k t422 t425 t426 t427 t429).bind fun t502=>((thresherref04_Rows.f k t499 t502).bind fun t505=>(if t421=true then (if t498=true then (thresherlaw14_MergeFirst.j0 k t505) else (thresherlaw14_MergeFirst.j0 k false)) else (thresherlaw14_MergeFirst.j0 k false)))))))) else (none))) else (none))) else (none))) else (none)))) else (none))) else (none)) else (none))) else (none))))) else (none))=some r:=by first|(rw [hy435];with_reducible exact H)|(have H2_:=(Option.bind_some _ _).symm.trans H;rw [hy435];with_reducible exact H2_)|(have H2_:=(Option.bind_some _ _).symm.trans H;with_reducible exact H2_)|with_reducible exact H|(rw [hy435];exact H)|exact H
     have Ny435:=Aside0.mk hy435
     clear hy435
     by_cases c12 : y432.length + y435.length < 5864062014805
     ·rw [if_pos c12] at H
      have LMc12:=Aside0.mk c12
      clear c12
      obtain ⟨y440,hy440⟩ : ∃ y_ : List (List (List (S31))),y_=(y432 ++ y435):=⟨_,rfl⟩
      replace H : ((some (([] : List (List (List (S31)))) : List (List (List (S31))))).bind fun y443=>((some (t429.take ((ji9) : Int).toNat : List (List (List (S31))))).bind fun y446=>(if y443.length + y446.length < 5864062014805 then ((some (y443 ++ y446 : List (List (List (S31))))).bind fun y451=>(if (ji9)≤(wrap64 ((ji9) + (Int.tmod (wrap64 (a2_1)) (wrap64 ((wrap64 ((t429.length : Int) - (ji9))) + 1))))) then (if (wrap64 ((ji9) + (Int.tmod (wrap64 (a2_1)) (wrap64 ((wrap64 ((t429.length : Int) - (ji9))) + 1)))))≤(t429.length : Int) then ((merge_Folded.f k t422 t425 t426 t427 ((t429.take ((wrap64 ((ji9) + (Int.tmod (wrap64 (a2_1)) (wrap64 ((wrap64 ((t429.length : Int) - (ji9))) + 1))))) : Int).toNat).drop ((ji9) : Int).toNat)).bind fun t459=>(if y440.length < 5864062014805 then ((some (y440 ++ [t459] : List (List (List (S31))))).bind fun y462=>((merge_Rows.f k t422 t425 t426 t427 ((t429.take ((wrap64 ((ji9) + (Int.tmod (wrap64 (a2_1)) (wrap64 ((wrap64 ((t429.length : Int) - (ji9))) + 1))))) : Int).toNat).drop ((ji9) : Int).toNat)).bind fun t470=>(if y451.length < 5864062014805 then ((some (y451 ++ [t470] : List (List (List (S31))))).bind fun y473=>(if 0≤(wrap64 ((ji9) + (Int.tmod (wrap64 (a2_1)) (wrap64 ((wrap64 ((t429.length : Int) - (ji9))) + 1))))) then ((some (t429.drop ((wrap64 ((ji9) + (Int.tmod (wrap64 (a2_1)) (wrap64 ((wrap64 ((t429.length : Int) - (ji9))) + 1))))) : Int).toNat : List (List (List (S31))))).bind fun y476=>(if y462.length + y476.length < 5864062014805 then ((some (t429.drop ((wrap64 ((ji9) + (Int.tmod (wrap64 (a2_1)) (wrap64 ((wrap64 ((t429.length : Int) - (ji9))) + 1))))) : Int).toNat : List (List (List (S31))))).bind fun y484=>(if y473.length + y484.length < 5864062014805 then ((merge_Folded.f k t422 t425 t426 t427 (y462 ++ y476)).bind fun t492=>((merge_Folded.f k t422 t425 t426 t427 t429).bind fun t495=>((thresherref04_Rows.f k t492 t495).bind fun t498=>((merge_Rows.f k t422 t425 t426 t427 (y473 ++ y484)).bind fun t499=>((merge_Rows.f k t422 t425 t426 t427 t429).bind fun t502=>((thresherref04_Rows.f k t499 t502).bind fun t505=>(if t421=true then (if t498=true then (thresherlaw14_MergeFirst.j0 k t505) else (thresherlaw14_MergeFirst.j0 k false)) else (thresherlaw14_MergeFirst.j0 k false)))))))) else (none))) else (none))) else (none))) else (none)))) else (none))) else (none)) else (none))) else (none))))=some r:=by first|(rw [hy440];with_reducible exact H)|(have H2_:=(Option.bind_some _ _).symm.trans H;rw [hy440];with_reducible exact H2_)|(have H2_:=(Option.bind_some _ _).symm.trans H;with_reducible exact H2_)|with_reducible exact H|(rw [hy440];exact H)|exact H
      have Ny440:=Aside0.mk hy440
      clear hy440
      obtain ⟨y443,hy443⟩ : ∃ y_ : List (List (List (S31))),y_=(([] : List (List (List (S31))))):=⟨_,rfl⟩
      replace H : ((some (t429.take ((ji9) : Int).toNat : List (List (List (S31))))).bind fun y446=>(if y443.length + y446.length < 5864062014805 then ((some (y443 ++ y446 : List (List (List (S31))))).bind fun y451=>(if (ji9)≤(wrap64 ((ji9) + (Int.tmod (wrap64 (a2_1)) (wrap64 ((wrap64 ((t429.length : Int) - (ji9))) + 1))))) then (if (wrap64 ((ji9) + (Int.tmod (wrap64 (a2_1)) (wrap64 ((wrap64 ((t429.length : Int) - (ji9))) + 1)))))≤(t429.length : Int) then ((merge_Folded.f k t422 t425 t426 t427 ((t429.take ((wrap64 ((ji9) + (Int.tmod (wrap64 (a2_1)) (wrap64 ((wrap64 ((t429.length : Int) - (ji9))) + 1))))) : Int).toNat).drop ((ji9) : Int).toNat)).bind fun t459=>(if y440.length < 5864062014805 then ((some (y440 ++ [t459] : List (List (List (S31))))).bind fun y462=>((merge_Rows.f k t422 t425 t426 t427 ((t429.take ((wrap64 ((ji9) + (Int.tmod (wrap64 (a2_1)) (wrap64 ((wrap64 ((t429.length : Int) - (ji9))) + 1))))) : Int).toNat).drop ((ji9) : Int).toNat)).bind fun t470=>(if y451.length < 5864062014805 then ((some (y451 ++ [t470] : List (List (List (S31))))).bind fun y473=>(if 0≤(wrap64 ((ji9) + (Int.tmod (wrap64 (a2_1)) (wrap64 ((wrap64 ((t429.length : Int) - (ji9))) + 1))))) then ((some (t429.drop ((wrap64 ((ji9) + (Int.tmod (wrap64 (a2_1)) (wrap64 ((wrap64 ((t429.length : Int) - (ji9))) + 1))))) : Int).toNat : List (List (List (S31))))).bind fun y476=>(if y462.length + y476.length < 5864062014805 then ((some (t429.drop ((wrap64 ((ji9) + (Int.tmod (wrap64 (a2_1)) (wrap64 ((wrap64 ((t429.length : Int) - (ji9))) + 1))))) : Int).toNat : List (List (List (S31))))).bind fun y484=>(if y473.length + y484.length < 5864062014805 then ((merge_Folded.f k t422 t425 t426 t427 (y462 ++ y476)).bind fun t492=>((merge_Folded.f k t422 t425 t426 t427 t429).bind fun t495=>((thresherref04_Rows.f k t492 t495).bind fun t498=>((merge_Rows.f k t422 t425 t426 t427 (y473 ++ y484)).bind fun t499=>((merge_Rows.f k t422 t425 t426 t427 t429).bind fun t502=>((thresherref04_Rows.f k t499 t502).bind fun t505=>(if t421=true then (if t498=true then (thresherlaw14_MergeFirst.j0 k t505) else (thresherlaw14_MergeFirst.j0 k false)) else (thresherlaw14_MergeFirst.j0 k false)))))))) else (none))) else (none))) else (none))) else (none)))) else (none))) else (none)) else (none))) else (none)))=some r:=by first|(rw [hy443];with_reducible exact H)|(have H2_:=(Option.bind_some _ _).symm.trans H;rw [hy443];with_reducible exact H2_)|(have H2_:=(Option.bind_some _ _).symm.trans H;with_reducible exact H2_)|with_reducible exact H|(rw [hy443];exact H)|exact H
      have Ny443:=Aside0.mk hy443
      clear hy443
      have c13b0:=eq_true (of_decide_eq_true (by first|(with_reducible assumption)|assumption) : 0≤(ji9))
      have c14b0:=eq_true (of_decide_eq_true (by first|(with_reducible assumption)|assumption) : (ji9)≤(t429.length : Int))
      have hy446 : y435=(t429.take ((ji9) : Int).toNat):=Ny435.out
      replace H : (if y443.length + y435.length < 5864062014805 then ((some (y443 ++ y435 : List (List (List (S31))))).bind fun y451=>(if (ji9)≤(wrap64 ((ji9) + (Int.tmod (wrap64 (a2_1)) (wrap64 ((wrap64 ((t429.length : Int) - (ji9))) + 1))))) then (if (wrap64 ((ji9) + (Int.tmod (wrap64 (a2_1)) (wrap64 ((wrap64 ((t429.length : Int) - (ji9))) + 1)))))≤(t429.length : Int) then ((merge_Folded.f k t422 t425 t426 t427 ((t429.take ((wrap64 ((ji9) + (Int.tmod (wrap64 (a2_1)) (wrap64 ((wrap64 ((t429.length : Int) - (ji9))) + 1))))) : Int).toNat).drop ((ji9) : Int).toNat)).bind fun t459=>(if y440.length < 5864062014805 then ((some (y440 ++ [t459] : List (List (List (S31))))).bind fun y462=>((merge_Rows.f k t422 t425 t426 t427 ((t429.take ((wrap64 ((ji9) + (Int.tmod (wrap64 (a2_1)) (wrap64 ((wrap64 ((t429.length : Int) - (ji9))) + 1))))) : Int).toNat).drop ((ji9) : Int).toNat)).bind fun t470=>(if y451.length < 5864062014805 then ((some (y451 ++ [t470] : List (List (List (S31))))).bind fun y473=>(if 0≤(wrap64 ((ji9) + (Int.tmod (wrap64 (a2_1)) (wrap64 ((wrap64 ((t429.length : Int) - (ji9))) + 1))))) then ((some (t429.drop ((wrap64 ((ji9) + (Int.tmod (wrap64 (a2_1)) (wrap64 ((wrap64 ((t429.length : Int) - (ji9))) + 1))))) : Int).toNat : List (List (List (S31))))).bind fun y476=>(if y462.length + y476.length < 5864062014805 then ((some (t429.drop ((wrap64 ((ji9) + (Int.tmod (wrap64 (a2_1)) (wrap64 ((wrap64 ((t429.length : Int) - (ji9))) + 1))))) : Int).toNat : List (List (List (S31))))).bind fun y484=>(if y473.length + y484.length < 5864062014805 then ((merge_Folded.f k t422 t425 t426 t427 (y462 ++ y476)).bind fun t492=>((merge_Folded.f k t422 t425 t426 t427 t429).bind fun t495=>((thresherref04_Rows.f k t492 t495).bind fun t498=>((merge_Rows.f k t422 t425 t426 t427 (y473 ++ y484)).bind fun t499=>((merge_Rows.f k t422 t425 t426 t427 t429).bind fun t502=>((thresherref04_Rows.f k t499 t502).bind fun t505=>(if t421=true then (if t498=true then (thresherlaw14_MergeFirst.j0 k t505) else (thresherlaw14_MergeFirst.j0 k false)) else (thresherlaw14_MergeFirst.j0 k false)))))))) else (none))) else (none))) else (none))) else (none)))) else (none))) else (none)) else (none))) else (none))=some r:=by first|(rw [hy446];with_reducible exact H)|(have H2_:=(Option.bind_some _ _).symm.trans H;rw [hy446];with_reducible exact H2_)|(have H2_:=(Option.bind_some _ _).symm.trans H;with_reducible exact H2_)|with_reducible exact H|(rw [hy446];exact H)|exact H
      have Ny446:=Aside0.mk hy446
      clear hy446
      by_cases c15 : y443.length + y435.length < 5864062014805
      ·rw [if_pos c15] at H
       have LMc15:=Aside0.mk c15
       clear c15
       obtain ⟨y451,hy451⟩ : ∃ y_ : List (List (List (S31))),y_=(y443 ++ y435):=⟨_,rfl⟩
       replace H : (if (ji9)≤(wrap64 ((ji9) + (Int.tmod (wrap64 (a2_1)) (wrap64 ((wrap64 ((t429.length : Int) - (ji9))) + 1))))) then (if (wrap64 ((ji9) + (Int.tmod (wrap64 (a2_1)) (wrap64 ((wrap64 ((t429.length : Int) - (ji9))) + 1)))))≤(t429.length : Int) then ((merge_Folded.f k t422 t425 t426 t427 ((t429.take ((wrap64 ((ji9) + (Int.tmod (wrap64 (a2_1)) (wrap64 ((wrap64 ((t429.length : Int) - (ji9))) + 1))))) : Int).toNat).drop ((ji9) : Int).toNat)).bind fun t459=>(if y440.length < 5864062014805 then ((some (y440 ++ [t459] : List (List (List (S31))))).bind fun y462=>((merge_Rows.f k t422 t425 t426 t427 ((t429.take ((wrap64 ((ji9) + (Int.tmod (wrap64 (a2_1)) (wrap64 ((wrap64 ((t429.length : Int) - (ji9))) + 1))))) : Int).toNat).drop ((ji9) : Int).toNat)).bind fun t470=>(if y451.length < 5864062014805 then ((some (y451 ++ [t470] : List (List (List (S31))))).bind fun y473=>(if 0≤(wrap64 ((ji9) + (Int.tmod (wrap64 (a2_1)) (wrap64 ((wrap64 ((t429.length : Int) - (ji9))) + 1))))) then ((some (t429.drop ((wrap64 ((ji9) + (Int.tmod (wrap64 (a2_1)) (wrap64 ((wrap64 ((t429.length : Int) - (ji9))) + 1))))) : Int).toNat : List (List (List (S31))))).bind fun y476=>(if y462.length + y476.length < 5864062014805 then ((some (t429.drop ((wrap64 ((ji9) + (Int.tmod (wrap64 (a2_1)) (wrap64 ((wrap64 ((t429.length : Int) - (ji9))) + 1))))) : Int).toNat : List (List (List (S31))))).bind fun y484=>(if y473.length + y484.length < 5864062014805 then ((merge_Folded.f k t422 t425 t426 t427 (y462 ++ y476)).bind fun t492=>((merge_Folded.f k t422 t425 t426 t427 t429).bind fun t495=>((thresherref04_Rows.f k t492 t495).bind fun t498=>((merge_Rows.f k t422 t425 t426 t427 (y473 ++ y484)).bind fun t499=>((merge_Rows.f k t422 t425 t426 t427 t429).bind fun t502=>((thresherref04_Rows.f k t499 t502).bind fun t505=>(if t421=true then (if t498=true then (thresherlaw14_MergeFirst.j0 k t505) else (thresherlaw14_MergeFirst.j0 k false)) else (thresherlaw14_MergeFirst.j0 k false)))))))) else (none))) else (none))) else (none))) else (none)))) else (none))) else (none)) else (none))=some r:=by first|(rw [hy451];with_reducible exact H)|(have H2_:=(Option.bind_some _ _).symm.trans H;rw [hy451];with_reducible exact H2_)|(have H2_:=(Option.bind_some _ _).symm.trans H;with_reducible exact H2_)|with_reducible exact H|(rw [hy451];exact H)|exact H
       have Ny451:=Aside0.mk hy451
       clear hy451
       have c16b0:=eq_true (of_decide_eq_true (by first|(with_reducible assumption)|assumption) : 0≤(ji9))
       by_cases c17 : (ji9)≤(wrap64 ((ji9) + (Int.tmod (wrap64 (a2_1)) (wrap64 ((wrap64 ((t429.length : Int) - (ji9))) + 1)))))
       ·rw [if_pos c17] at H
        have c17b0:=eq_true c17
        have c17b1 : decide ((ji9)≤(wrap64 ((ji9) + (Int.tmod (wrap64 (a2_1)) (wrap64 ((wrap64 ((t429.length : Int) - (ji9))) + 1))))))=true:=decide_eq_true c17
        by_cases c18 : (wrap64 ((ji9) + (Int.tmod (wrap64 (a2_1)) (wrap64 ((wrap64 ((t429.length : Int) - (ji9))) + 1)))))≤(t429.length : Int)
        ·rw [if_pos c18] at H
         have c18b0:=eq_true c18
         have c18b1 : decide ((wrap64 ((ji9) + (Int.tmod (wrap64 (a2_1)) (wrap64 ((wrap64 ((t429.length : Int) - (ji9))) + 1)))))≤(t429.length : Int))=true:=decide_eq_true c18
         obtain ⟨y454,hy454⟩ : ∃ y_ : List (List (List (S31))),y_=((t429.take ((wrap64 ((ji9) + (Int.tmod (wrap64 (a2_1)) (wrap64 ((wrap64 ((t429.length : Int) - (ji9))) + 1))))) : Int).toNat).drop ((ji9) : Int).toNat):=⟨_,rfl⟩
         replace H : ((merge_Folded.f k t422 t425 t426 t427 y454).bind fun t459=>(if y440.length < 5864062014805 then ((some (y440 ++ [t459] : List (List (List (S31))))).bind fun y462=>((merge_Rows.f k t422 t425 t426 t427 ((t429.take ((wrap64 ((ji9) + (Int.tmod (wrap64 (a2_1)) (wrap64 ((wrap64 ((t429.length : Int) - (ji9))) + 1))))) : Int).toNat).drop ((ji9) : Int).toNat)).bind fun t470=>(if y451.length < 5864062014805 then ((some (y451 ++ [t470] : List (List (List (S31))))).bind fun y473=>(if 0≤(wrap64 ((ji9) + (Int.tmod (wrap64 (a2_1)) (wrap64 ((wrap64 ((t429.length : Int) - (ji9))) + 1))))) then ((some (t429.drop ((wrap64 ((ji9) + (Int.tmod (wrap64 (a2_1)) (wrap64 ((wrap64 ((t429.length : Int) - (ji9))) + 1))))) : Int).toNat : List (List (List (S31))))).bind fun y476=>(if y462.length + y476.length < 5864062014805 then ((some (t429.drop ((wrap64 ((ji9) + (Int.tmod (wrap64 (a2_1)) (wrap64 ((wrap64 ((t429.length : Int) - (ji9))) + 1))))) : Int).toNat : List (List (List (S31))))).bind fun y484=>(if y473.length + y484.length < 5864062014805 then ((merge_Folded.f k t422 t425 t426 t427 (y462 ++ y476)).bind fun t492=>((merge_Folded.f k t422 t425 t426 t427 t429).bind fun t495=>((thresherref04_Rows.f k t492 t495).bind fun t498=>((merge_Rows.f k t422 t425 t426 t427 (y473 ++ y484)).bind fun t499=>((merge_Rows.f k t422 t425 t426 t427 t429).bind fun t502=>((thresherref04_Rows.f k t499 t502).bind fun t505=>(if t421=true then (if t498=true then (thresherlaw14_MergeFirst.j0 k t505) else (thresherlaw14_MergeFirst.j0 k false)) else (thresherlaw14_MergeFirst.j0 k false)))))))) else (none))) else (none))) else (none))) else (none)))) else (none)))=some r:=by first|(rw [hy454];with_reducible exact H)|(have H2_:=(Option.bind_some _ _).symm.trans H;rw [hy454];with_reducible exact H2_)|(have H2_:=(Option.bind_some _ _).symm.trans H;with_reducible exact H2_)|with_reducible exact H|(rw [hy454];exact H)|exact H
         have Ny454:=Aside0.mk hy454
         clear hy454
         replace H:=Option.bind_eq_some_iff.mp H
         obtain ⟨t459,A190,H⟩:=H
         replace H : (if y440.length < 5864062014805 then ((some (y440 ++ [t459] : List (List (List (S31))))).bind fun y462=>((merge_Rows.f k t422 t425 t426 t427 ((t429.take ((wrap64 ((ji9) + (Int.tmod (wrap64 (a2_1)) (wrap64 ((wrap64 ((t429.length : Int) - (ji9))) + 1))))) : Int).toNat).drop ((ji9) : Int).toNat)).bind fun t470=>(if y451.length < 5864062014805 then ((some (y451 ++ [t470] : List (List (List (S31))))).bind fun y473=>(if 0≤(wrap64 ((ji9) + (Int.tmod (wrap64 (a2_1)) (wrap64 ((wrap64 ((t429.length : Int) - (ji9))) + 1))))) then ((some (t429.drop ((wrap64 ((ji9) + (Int.tmod (wrap64 (a2_1)) (wrap64 ((wrap64 ((t429.length : Int) - (ji9))) + 1))))) : Int).toNat : List (List (List (S31))))).bind fun y476=>(if y462.length + y476.length < 5864062014805 then ((some (t429.drop ((wrap64 ((ji9) + (Int.tmod (wrap64 (a2_1)) (wrap64 ((wrap64 ((t429.length : Int) - (ji9))) + 1))))) : Int).toNat : List (List (List (S31))))).bind fun y484=>(if y473.length + y484.length < 5864062014805 then ((merge_Folded.f k t422 t425 t426 t427 (y462 ++ y476)).bind fun t492=>((merge_Folded.f k t422 t425 t426 t427 t429).bind fun t495=>((thresherref04_Rows.f k t492 t495).bind fun t498=>((merge_Rows.f k t422 t425 t426 t427 (y473 ++ y484)).bind fun t499=>((merge_Rows.f k t422 t425 t426 t427 t429).bind fun t502=>((thresherref04_Rows.f k t499 t502).bind fun t505=>(if t421=true then (if t498=true then (thresherlaw14_MergeFirst.j0 k t505) else (thresherlaw14_MergeFirst.j0 k false)) else (thresherlaw14_MergeFirst.j0 k false)))))))) else (none))) else (none))) else (none))) else (none)))) else (none))=some r:=H
         have A19:=Aside0.mk A190
         clear A190
         by_cases c20 : y440.length < 5864062014805
         ·rw [if_pos c20] at H
          have LMc20:=Aside0.mk c20
          clear c20
          obtain ⟨y462,hy462⟩ : ∃ y_ : List (List (List (S31))),y_=(y440 ++ [t459]):=⟨_,rfl⟩
          replace H : ((merge_Rows.f k t422 t425 t426 t427 ((t429.take ((wrap64 ((ji9) + (Int.tmod (wrap64 (a2_1)) (wrap64 ((wrap64 ((t429.length : Int) - (ji9))) + 1))))) : Int).toNat).drop ((ji9) : Int).toNat)).bind fun t470=>(if y451.length < 5864062014805 then ((some (y451 ++ [t470] : List (List (List (S31))))).bind fun y473=>(if 0≤(wrap64 ((ji9) + (Int.tmod (wrap64 (a2_1)) (wrap64 ((wrap64 ((t429.length : Int) - (ji9))) + 1))))) then ((some (t429.drop ((wrap64 ((ji9) + (Int.tmod (wrap64 (a2_1)) (wrap64 ((wrap64 ((t429.length : Int) - (ji9))) + 1))))) : Int).toNat : List (List (List (S31))))).bind fun y476=>(if y462.length + y476.length < 5864062014805 then ((some (t429.drop ((wrap64 ((ji9) + (Int.tmod (wrap64 (a2_1)) (wrap64 ((wrap64 ((t429.length : Int) - (ji9))) + 1))))) : Int).toNat : List (List (List (S31))))).bind fun y484=>(if y473.length + y484.length < 5864062014805 then ((merge_Folded.f k t422 t425 t426 t427 (y462 ++ y476)).bind fun t492=>((merge_Folded.f k t422 t425 t426 t427 t429).bind fun t495=>((thresherref04_Rows.f k t492 t495).bind fun t498=>((merge_Rows.f k t422 t425 t426 t427 (y473 ++ y484)).bind fun t499=>((merge_Rows.f k t422 t425 t426 t427 t429).bind fun t502=>((thresherref04_Rows.f k t499 t502).bind fun t505=>(if t421=true then (if t498=true then (thresherlaw14_MergeFirst.j0 k t505) else (thresherlaw14_MergeFirst.j0 k false)) else (thresherlaw14_MergeFirst.j0 k false)))))))) else (none))) else (none))) else (none))) else (none)))=some r:=by first|(rw [hy462];with_reducible exact H)|(have H2_:=(Option.bind_some _ _).symm.trans H;rw [hy462];with_reducible exact H2_)|(have H2_:=(Option.bind_some _ _).symm.trans H;with_reducible exact H2_)|with_reducible exact H|(rw [hy462];exact H)|exact H
          have Ny462:=Aside0.mk hy462
          clear hy462
          have c21b0:=eq_true (of_decide_eq_true (by first|(with_reducible assumption)|assumption) : 0≤(ji9))
          have c22b0:=eq_true (of_decide_eq_true (by first|(with_reducible assumption)|assumption) : (ji9)≤(wrap64 ((ji9) + (Int.tmod (wrap64 (a2_1)) (wrap64 ((wrap64 ((t429.length : Int) - (ji9))) + 1))))))
          have c23b0:=eq_true (of_decide_eq_true (by first|(with_reducible assumption)|assumption) : (wrap64 ((ji9) + (Int.tmod (wrap64 (a2_1)) (wrap64 ((wrap64 ((t429.length : Int) - (ji9))) + 1)))))≤(t429.length : Int))
          have hy465 : y454=((t429.take ((wrap64 ((ji9) + (Int.tmod (wrap64 (a2_1)) (wrap64 ((wrap64 ((t429.length : Int) - (ji9))) + 1))))) : Int).toNat).drop ((ji9) : Int).toNat):=Ny454.out
          replace H : ((merge_Rows.f k t422 t425 t426 t427 y454).bind fun t470=>(if y451.length < 5864062014805 then ((some (y451 ++ [t470] : List (List (List (S31))))).bind fun y473=>(if 0≤(wrap64 ((ji9) + (Int.tmod (wrap64 (a2_1)) (wrap64 ((wrap64 ((t429.length : Int) - (ji9))) + 1))))) then ((some (t429.drop ((wrap64 ((ji9) + (Int.tmod (wrap64 (a2_1)) (wrap64 ((wrap64 ((t429.length : Int) - (ji9))) + 1))))) : Int).toNat : List (List (List (S31))))).bind fun y476=>(if y462.length + y476.length < 5864062014805 then ((some (t429.drop ((wrap64 ((ji9) + (Int.tmod (wrap64 (a2_1)) (wrap64 ((wrap64 ((t429.length : Int) - (ji9))) + 1))))) : Int).toNat : List (List (List (S31))))).bind fun y484=>(if y473.length + y484.length < 5864062014805 then ((merge_Folded.f k t422 t425 t426 t427 (y462 ++ y476)).bind fun t492=>((merge_Folded.f k t422 t425 t426 t427 t429).bind fun t495=>((thresherref04_Rows.f k t492 t495).bind fun t498=>((merge_Rows.f k t422 t425 t426 t427 (y473 ++ y484)).bind fun t499=>((merge_Rows.f k t422 t425 t426 t427 t429).bind fun t502=>((thresherref04_Rows.f k t499 t502).bind fun t505=>(if t421=true then (if t498=true then (thresherlaw14_MergeFirst.j0 k t505) else (thresherlaw14_MergeFirst.j0 k false)) else (thresherlaw14_MergeFirst.j0 k false)))))))) else (none))) else (none))) else (none))) else (none)))=some r:=by first|(rw [hy465];with_reducible exact H)|(have H2_:=(Option.bind_some _ _).symm.trans H;rw [hy465];with_reducible exact H2_)|(have H2_:=(Option.bind_some _ _).symm.trans H;with_reducible exact H2_)|with_reducible exact H|(rw [hy465];exact H)|exact H
          have Ny465:=Aside0.mk hy465
          clear hy465
          replace H:=Option.bind_eq_some_iff.mp H
          obtain ⟨t470,A240,H⟩:=H
          replace H : (if y451.length < 5864062014805 then ((some (y451 ++ [t470] : List (List (List (S31))))).bind fun y473=>(if 0≤(wrap64 ((ji9) + (Int.tmod (wrap64 (a2_1)) (wrap64 ((wrap64 ((t429.length : Int) - (ji9))) + 1))))) then ((some (t429.drop ((wrap64 ((ji9) + (Int.tmod (wrap64 (a2_1)) (wrap64 ((wrap64 ((t429.length : Int) - (ji9))) + 1))))) : Int).toNat : List (List (List (S31))))).bind fun y476=>(if y462.length + y476.length < 5864062014805 then ((some (t429.drop ((wrap64 ((ji9) + (Int.tmod (wrap64 (a2_1)) (wrap64 ((wrap64 ((t429.length : Int) - (ji9))) + 1))))) : Int).toNat : List (List (List (S31))))).bind fun y484=>(if y473.length + y484.length < 5864062014805 then ((merge_Folded.f k t422 t425 t426 t427 (y462 ++ y476)).bind fun t492=>((merge_Folded.f k t422 t425 t426 t427 t429).bind fun t495=>((thresherref04_Rows.f k t492 t495).bind fun t498=>((merge_Rows.f k t422 t425 t426 t427 (y473 ++ y484)).bind fun t499=>((merge_Rows.f k t422 t425 t426 t427 t429).bind fun t502=>((thresherref04_Rows.f k t499 t502).bind fun t505=>(if t421=true then (if t498=true then (thresherlaw14_MergeFirst.j0 k t505) else (thresherlaw14_MergeFirst.j0 k false)) else (thresherlaw14_MergeFirst.j0 k false)))))))) else (none))) else (none))) else (none))) else (none))=some r:=H
          have A24:=Aside0.mk A240
          clear A240
          by_cases c25 : y451.length < 5864062014805
          ·rw [if_pos c25] at H
           have LMc25:=Aside0.mk c25
           clear c25
           obtain ⟨y473,hy473⟩ : ∃ y_ : List (List (List (S31))),y_=(y451 ++ [t470]):=⟨_,rfl⟩
           replace H : (if 0≤(wrap64 ((ji9) + (Int.tmod (wrap64 (a2_1)) (wrap64 ((wrap64 ((t429.length : Int) - (ji9))) + 1))))) then ((some (t429.drop ((wrap64 ((ji9) + (Int.tmod (wrap64 (a2_1)) (wrap64 ((wrap64 ((t429.length : Int) - (ji9))) + 1))))) : Int).toNat : List (List (List (S31))))).bind fun y476=>(if y462.length + y476.length < 5864062014805 then ((some (t429.drop ((wrap64 ((ji9) + (Int.tmod (wrap64 (a2_1)) (wrap64 ((wrap64 ((t429.length : Int) - (ji9))) + 1))))) : Int).toNat : List (List (List (S31))))).bind fun y484=>(if y473.length + y484.length < 5864062014805 then ((merge_Folded.f k t422 t425 t426 t427 (y462 ++ y476)).bind fun t492=>((merge_Folded.f k t422 t425 t426 t427 t429).bind fun t495=>((thresherref04_Rows.f k t492 t495).bind fun t498=>((merge_Rows.f k t422 t425 t426 t427 (y473 ++ y484)).bind fun t499=>((merge_Rows.f k t422 t425 t426 t427 t429).bind fun t502=>((thresherref04_Rows.f k t499 t502).bind fun t505=>(if t421=true then (if t498=true then (thresherlaw14_MergeFirst.j0 k t505) else (thresherlaw14_MergeFirst.j0 k false)) else (thresherlaw14_MergeFirst.j0 k false)))))))) else (none))) else (none))) else (none))=some r:=by first|(rw [hy473];with_reducible exact H)|(have H2_:=(Option.bind_some _ _).symm.trans H;rw [hy473];with_reducible exact H2_)|(have H2_:=(Option.bind_some _ _).symm.trans H;with_reducible exact H2_)|with_reducible exact H|(rw [hy473];exact H)|exact H
           have Ny473:=Aside0.mk hy473
           clear hy473
           obtain ⟨ji26,hji26⟩ : ∃ j_ : Int,(wrap64 ((ji9) + (Int.tmod (wrap64 (a2_1)) (wrap64 ((wrap64 ((t429.length : Int) - (ji9))) + 1)))))=j_:=⟨_,rfl⟩
           replace H : (if 0≤(ji26) then ((some (t429.drop ((ji26) : Int).toNat : List (List (List (S31))))).bind fun y476=>(if y462.length + y476.length < 5864062014805 then ((some (t429.drop ((ji26) : Int).toNat : List (List (List (S31))))).bind fun y484=>(if y473.length + y484.length < 5864062014805 then ((merge_Folded.f k t422 t425 t426 t427 (y462 ++ y476)).bind fun t492=>((merge_Folded.f k t422 t425 t426 t427 t429).bind fun t495=>((thresherref04_Rows.f k t492 t495).bind fun t498=>((merge_Rows.f k t422 t425 t426 t427 (y473 ++ y484)).bind fun t499=>((merge_Rows.f k t422 t425 t426 t427 t429).bind fun t502=>((thresherref04_Rows.f k t499 t502).bind fun t505=>(if t421=true then (if t498=true then (thresherlaw14_MergeFirst.j0 k t505) else (thresherlaw14_MergeFirst.j0 k false)) else (thresherlaw14_MergeFirst.j0 k false)))))))) else (none))) else (none))) else (none))=some r:=by first|(rw [hji26] at H;exact H)|(simp only [hji26] at H ⊢;exact H)
           (try rw [hji26] at c17b0)
           (try rw [hji26] at c17)
           (try rw [hji26] at c17b1)
           (try rw [hji26] at c17)
           (try rw [hji26] at c18b0)
           (try rw [hji26] at c18)
           (try rw [hji26] at c18b1)
           (try rw [hji26] at c18)
           (try rw [hji26] at A4)
           (try rw [hji26] at A5)
           (try rw [hji26] at A6)
           (try rw [hji26] at Ny454)
           (try rw [hji26] at A19)
           (try rw [hji26] at Ny465)
           (try rw [hji26] at A24)
           have hji26w : (IntKind.i64.wrap ((ji9) + (Int.tmod (wrap64 (a2_1)) (wrap64 ((wrap64 ((t429.length : Int) - (ji9))) + 1)))))=ji26:=(i64_w _).trans hji26
           by_cases c27 : 0≤(ji26)
           ·rw [if_pos c27] at H
            have c27b0:=eq_true c27
            have c27b1 : decide (0≤(ji26))=true:=decide_eq_true c27
            clear c27
            have c28b0:=eq_true (of_decide_eq_true (by first|(with_reducible assumption)|assumption) : (ji26)≤(t429.length : Int))
            obtain ⟨y476,hy476⟩ : ∃ y_ : List (List (List (S31))),y_=(t429.drop ((ji26) : Int).toNat):=⟨_,rfl⟩
            replace H : (if y462.length + y476.length < 5864062014805 then ((some (t429.drop ((ji26) : Int).toNat : List (List (List (S31))))).bind fun y484=>(if y473.length + y484.length < 5864062014805 then ((merge_Folded.f k t422 t425 t426 t427 (y462 ++ y476)).bind fun t492=>((merge_Folded.f k t422 t425 t426 t427 t429).bind fun t495=>((thresherref04_Rows.f k t492 t495).bind fun t498=>((merge_Rows.f k t422 t425 t426 t427 (y473 ++ y484)).bind fun t499=>((merge_Rows.f k t422 t425 t426 t427 t429).bind fun t502=>((thresherref04_Rows.f k t499 t502).bind fun t505=>(if t421=true then (if t498=true then (thresherlaw14_MergeFirst.j0 k t505) else (thresherlaw14_MergeFirst.j0 k false)) else (thresherlaw14_MergeFirst.j0 k false)))))))) else (none))) else (none))=some r:=by first|(rw [hy476];with_reducible exact H)|(have H2_:=(Option.bind_some _ _).symm.trans H;rw [hy476];with_reducible exact H2_)|(have H2_:=(Option.bind_some _ _).symm.trans H;with_reducible exact H2_)|with_reducible exact H|(rw [hy476];exact H)|exact H
            have Ny476:=Aside0.mk hy476
            clear hy476
            by_cases c29 : y462.length + y476.length < 5864062014805
            ·rw [if_pos c29] at H
             have LMc29:=Aside0.mk c29
             clear c29
             obtain ⟨y481,hy481⟩ : ∃ y_ : List (List (List (S31))),y_=(y462 ++ y476):=⟨_,rfl⟩
             replace H : ((some (t429.drop ((ji26) : Int).toNat : List (List (List (S31))))).bind fun y484=>(if y473.length + y484.length < 5864062014805 then ((merge_Folded.f k t422 t425 t426 t427 y481).bind fun t492=>((merge_Folded.f k t422 t425 t426 t427 t429).bind fun t495=>((thresherref04_Rows.f k t492 t495).bind fun t498=>((merge_Rows.f k t422 t425 t426 t427 (y473 ++ y484)).bind fun t499=>((merge_Rows.f k t422 t425 t426 t427 t429).bind fun t502=>((thresherref04_Rows.f k t499 t502).bind fun t505=>(if t421=true then (if t498=true then (thresherlaw14_MergeFirst.j0 k t505) else (thresherlaw14_MergeFirst.j0 k false)) else (thresherlaw14_MergeFirst.j0 k false)))))))) else (none)))=some r:=by first|(rw [hy481];with_reducible exact H)|(have H2_:=(Option.bind_some _ _).symm.trans H;rw [hy481];with_reducible exact H2_)|(have H2_:=(Option.bind_some _ _).symm.trans H;with_reducible exact H2_)|with_reducible exact H|(rw [hy481];exact H)|exact H
             have Ny481:=Aside0.mk hy481
             clear hy481
             have c30b0:=eq_true (of_decide_eq_true (by first|(with_reducible assumption)|assumption) : 0≤(ji26))
             have c31b0:=eq_true (of_decide_eq_true (by first|(with_reducible assumption)|assumption) : (ji26)≤(t429.length : Int))
             have hy484 : y476=(t429.drop ((ji26) : Int).toNat):=Ny476.out
             replace H : (if y473.length + y476.length < 5864062014805 then ((merge_Folded.f k t422 t425 t426 t427 y481).bind fun t492=>((merge_Folded.f k t422 t425 t426 t427 t429).bind fun t495=>((thresherref04_Rows.f k t492 t495).bind fun t498=>((merge_Rows.f k t422 t425 t426 t427 (y473 ++ y476)).bind fun t499=>((merge_Rows.f k t422 t425 t426 t427 t429).bind fun t502=>((thresherref04_Rows.f k t499 t502).bind fun t505=>(if t421=true then (if t498=true then (thresherlaw14_MergeFirst.j0 k t505) else (thresherlaw14_MergeFirst.j0 k false)) else (thresherlaw14_MergeFirst.j0 k false)))))))) else (none))=some r:=by first|(rw [hy484];with_reducible exact H)|(have H2_:=(Option.bind_some _ _).symm.trans H;rw [hy484];with_reducible exact H2_)|(have H2_:=(Option.bind_some _ _).symm.trans H;with_reducible exact H2_)|with_reducible exact H|(rw [hy484];exact H)|exact H
             have Ny484:=Aside0.mk hy484
             clear hy484
             by_cases c32 : y473.length + y476.length < 5864062014805
             ·rw [if_pos c32] at H
              have LMc32:=Aside0.mk c32
              clear c32
              obtain ⟨y489,hy489⟩ : ∃ y_ : List (List (List (S31))),y_=(y473 ++ y476):=⟨_,rfl⟩
              replace H : ((merge_Folded.f k t422 t425 t426 t427 y481).bind fun t492=>((merge_Folded.f k t422 t425 t426 t427 t429).bind fun t495=>((thresherref04_Rows.f k t492 t495).bind fun t498=>((merge_Rows.f k t422 t425 t426 t427 y489).bind fun t499=>((merge_Rows.f k t422 t425 t426 t427 t429).bind fun t502=>((thresherref04_Rows.f k t499 t502).bind fun t505=>(if t421=true then (if t498=true then (thresherlaw14_MergeFirst.j0 k t505) else (thresherlaw14_MergeFirst.j0 k false)) else (thresherlaw14_MergeFirst.j0 k false))))))))=some r:=by first|(rw [hy489];with_reducible exact H)|(have H2_:=(Option.bind_some _ _).symm.trans H;rw [hy489];with_reducible exact H2_)|(have H2_:=(Option.bind_some _ _).symm.trans H;with_reducible exact H2_)|with_reducible exact H|(rw [hy489];exact H)|exact H
              have Ny489:=Aside0.mk hy489
              clear hy489
              replace H:=Option.bind_eq_some_iff.mp H
              obtain ⟨t492,A330,H⟩:=H
              replace H : ((merge_Folded.f k t422 t425 t426 t427 t429).bind fun t495=>((thresherref04_Rows.f k t492 t495).bind fun t498=>((merge_Rows.f k t422 t425 t426 t427 y489).bind fun t499=>((merge_Rows.f k t422 t425 t426 t427 t429).bind fun t502=>((thresherref04_Rows.f k t499 t502).bind fun t505=>(if t421=true then (if t498=true then (thresherlaw14_MergeFirst.j0 k t505) else (thresherlaw14_MergeFirst.j0 k false)) else (thresherlaw14_MergeFirst.j0 k false)))))))=some r:=H
              have A33:=Aside0.mk A330
              clear A330
              replace H:=Option.bind_eq_some_iff.mp H
              obtain ⟨t495,A340,H⟩:=H
              replace H : ((thresherref04_Rows.f k t492 t495).bind fun t498=>((merge_Rows.f k t422 t425 t426 t427 y489).bind fun t499=>((merge_Rows.f k t422 t425 t426 t427 t429).bind fun t502=>((thresherref04_Rows.f k t499 t502).bind fun t505=>(if t421=true then (if t498=true then (thresherlaw14_MergeFirst.j0 k t505) else (thresherlaw14_MergeFirst.j0 k false)) else (thresherlaw14_MergeFirst.j0 k false))))))=some r:=H
              have A34:=Aside0.mk A340
              clear A340
              replace H:=Option.bind_eq_some_iff.mp H
              obtain ⟨t498,A350,H⟩:=H
              replace H : ((merge_Rows.f k t422 t425 t426 t427 y489).bind fun t499=>((merge_Rows.f k t422 t425 t426 t427 t429).bind fun t502=>((thresherref04_Rows.f k t499 t502).bind fun t505=>(if t421=true then (if t498=true then (thresherlaw14_MergeFirst.j0 k t505) else (thresherlaw14_MergeFirst.j0 k false)) else (thresherlaw14_MergeFirst.j0 k false)))))=some r:=H
              have A35:=Aside0.mk A350
              clear A350
              replace H:=Option.bind_eq_some_iff.mp H
              obtain ⟨t499,A360,H⟩:=H
              replace H : ((merge_Rows.f k t422 t425 t426 t427 t429).bind fun t502=>((thresherref04_Rows.f k t499 t502).bind fun t505=>(if t421=true then (if t498=true then (thresherlaw14_MergeFirst.j0 k t505) else (thresherlaw14_MergeFirst.j0 k false)) else (thresherlaw14_MergeFirst.j0 k false))))=some r:=H
              have A36:=Aside0.mk A360
              clear A360
              replace H:=Option.bind_eq_some_iff.mp H
              obtain ⟨t502,A370,H⟩:=H
              replace H : ((thresherref04_Rows.f k t499 t502).bind fun t505=>(if t421=true then (if t498=true then (thresherlaw14_MergeFirst.j0 k t505) else (thresherlaw14_MergeFirst.j0 k false)) else (thresherlaw14_MergeFirst.j0 k false)))=some r:=H
              have A37:=Aside0.mk A370
              clear A370
              replace H:=Option.bind_eq_some_iff.mp H
              obtain ⟨t505,A380,H⟩:=H
              replace H : (if t421=true then (if t498=true then (thresherlaw14_MergeFirst.j0 k t505) else (thresherlaw14_MergeFirst.j0 k false)) else (thresherlaw14_MergeFirst.j0 k false))=some r:=H
              have A38:=Aside0.mk A380
              clear A380
              have HC39:=Aside0.mk H
              clear H
              go_enter Try.func5,Try.ntmps5
              try go_wp2_with (first|((with_reducible refine gate_dst (N:=3) rfl ?_);refine box_event ?hg (N:=3) ?hd (cs:=#[.int .u8 a0_0,.int .u8 a0_1,.int .u8 a0_2,.int .u8 a0_3,.int .u8 a0_4,.int .u8 a0_5,.int .u8 a0_6,.int .u8 a0_7,.int .u8 a0_8,.int .u8 a0_9,.int .u8 a0_10,.int .u8 a0_11]) (t:=38) ?hr ?_;(case hd=>rfl);(case hg=>rfl);(case hr=>first|(go_simp;done)|(go_simp;rfl));intro gb419 hg w40 hbox hb;have n0_:=Aside0.mk (below_step (below_up HB.out) hb);have n1_:=Aside0.mk (hbox);have n2_:=Aside0.mk ((by rw [hg];exact (below_size (below_up HB.out)) : w.heap.size≤gb419));have n3_:=Aside0.mk ((by rw [hg];exact (below_size (below_up HB.out)) : w.heap.size≤gb419));clear HB;have HB:=n0_;have BK419:=n1_;have GW419:=n2_;have GE419:=n3_;clear n0_ n1_ n2_ n3_;clear hb hbox hg)|((with_reducible refine gate_dst (N:=5) rfl ?_);refine box_event ?hg (N:=5) ?hd (cs:=#[.int .u8 a2_0,.int .u8 a2_1]) (t:=43) ?hr ?_;(case hd=>rfl);(case hg=>rfl);(case hr=>first|(go_simp;done)|(go_simp;rfl));intro gb420 hg w41 hbox hb;have n0_:=Aside0.mk (blk_below (blk_up BK419.out) hb);have n1_:=Aside0.mk (below_step (below_go HB.out) hb);have n2_:=Aside0.mk (hbox);have n3_:=Aside0.mk ((by rw [hg];exact (below_size (below_go HB.out)) : w.heap.size≤gb420));have n4_:=Aside0.mk ((by rw [hg];exact (below_size (below_go HB.out)) : w.heap.size≤gb420));have n5_:=Aside0.mk ((by rw [hg];exact Nat.ne_of_lt (blk_lt (blk_up BK419.out)) : gb419≠gb420));have n6_:=Aside0.mk ((by rw [hg];exact Nat.ne_of_gt (blk_lt (blk_up BK419.out)) : gb420≠gb419));clear BK419;clear HB;have BK419:=n0_;have HB:=n1_;have BK420:=n2_;have GW420:=n3_;have GE420:=n4_;have NB419_420:=n5_;have NB420_419:=n6_;clear n0_ n1_ n2_ n3_ n4_ n5_ n6_;clear hb hbox hg)|((with_reducible refine gate_callee (f:=8) rfl ?_);refine goesL_ (some 16) rfl rfl Try.func8 (by kernel_rfl) rfl #[] rfl (by (try simp only [List.map_toArray,List.map_cons,List.map_nil]);first|done|rfl|(simp only [List.length_drop,List.length_take];rfl)) ?_;(with_reducible refine (thresherlaw14_shown.calls k  t421 _ A4.out).mono ?_);rintro e w42 ⟨rfl,hb⟩;refine ⟨_,rfl,?_⟩;have n0_:=Aside0.mk (blk_below (blk_up BK419.out) hb);have n1_:=Aside0.mk (blk_below (blk_up BK420.out) hb);have n2_:=Aside0.mk (below_step (below_go HB.out) hb);clear BK419;clear BK420;clear HB;have BK419:=n0_;have BK420:=n1_;have HB:=n2_;clear n0_ n1_ n2_;(try clear hb);(try clear hb2);(try clear hk);(try clear hi);have hnb43:=NB419_420.out;have hnc43:=NB420_419.out;have hcz44_0 : w42.cell? ⟨gb419,0,none⟩=some (.int .u8 a0_0):=(blk_cell BK419.out 0).trans rfl;have hcz44_1 : w42.cell? ⟨gb419,1,none⟩=some (.int .u8 a0_1):=(blk_cell BK419.out 1).trans rfl;have hcz44_2 : w42.cell? ⟨gb419,2,none⟩=some (.int .u8 a0_2):=(blk_cell BK419.out 2).trans rfl;have hcz44_3 : w42.cell? ⟨gb419,3,none⟩=some (.int .u8 a0_3):=(blk_cell BK419.out 3).trans rfl;have hcz44_4 : w42.cell? ⟨gb419,4,none⟩=some (.int .u8 a0_4):=(blk_cell BK419.out 4).trans rfl;have hcz44_5 : w42.cell? ⟨gb419,5,none⟩=some (.int .u8 a0_5):=(blk_cell BK419.out 5).trans rfl;have hcz44_6 : w42.cell? ⟨gb419,6,none⟩=some (.int .u8 a0_6):=(blk_cell BK419.out 6).trans rfl;have hcz44_7 : w42.cell? ⟨gb419,7,none⟩=some (.int .u8 a0_7):=(blk_cell BK419.out 7).trans rfl;have hcz44_8 : w42.cell? ⟨gb419,8,none⟩=some (.int .u8 a0_8):=(blk_cell BK419.out 8).trans rfl;have hcz44_9 : w42.cell? ⟨gb419,9,none⟩=some (.int .u8 a0_9):=(blk_cell BK419.out 9).trans rfl;have hcz44_10 : w42.cell? ⟨gb419,10,none⟩=some (.int .u8 a0_10):=(blk_cell BK419.out 10).trans rfl;have hcz44_11 : w42.cell? ⟨gb419,11,none⟩=some (.int .u8 a0_11):=(blk_cell BK419.out 11).trans rfl;have hfz44_0:=blk_frozen BK419.out 0;have hfz44_1:=blk_frozen BK419.out 1;have hfz44_2:=blk_frozen BK419.out 2;have hfz44_3:=blk_frozen BK419.out 3;have hfz44_4:=blk_frozen BK419.out 4;have hfz44_5:=blk_frozen BK419.out 5;have hfz44_6:=blk_frozen BK419.out 6;have hfz44_7:=blk_frozen BK419.out 7;have hfz44_8:=blk_frozen BK419.out 8;have hfz44_9:=blk_frozen BK419.out 9;have hfz44_10:=blk_frozen BK419.out 10;have hfz44_11:=blk_frozen BK419.out 11)|((with_reducible refine gate_callee (f:=10) rfl ?_);refine goesL_ (some 18) rfl rfl Try.func10 (by kernel_rfl) rfl #[.agg #[.int .u8 a0_0,.int .u8 a0_1,.int .u8 a0_2,.int .u8 a0_3,.int .u8 a0_4,.int .u8 a0_5,.int .u8 a0_6,.int .u8 a0_7,.int .u8 a0_8,.int .u8 a0_9,.int .u8 a0_10,.int .u8 a0_11]] rfl (by (try simp only [List.map_toArray,List.map_cons,List.map_nil]);first|done|rfl|(simp only [List.length_drop,List.length_take];rfl)) ?_;(with_reducible refine (thresherlaw14_made.calls k a0_0 a0_1 a0_2 a0_3 a0_4 a0_5 a0_6 a0_7 a0_8 a0_9 a0_10 a0_11 t422 t425 t426 t427 _ A5.out).mono ?_);rintro e w45 ⟨v423,rfl,ho0,hb⟩;refine ⟨_,rfl,?_⟩;have n0_:=Aside0.mk (Kd.R_lower ho0 (below_size (below_go HB.out)));have n1_:=Aside0.mk (blk_below (blk_up BK419.out) hb);have n2_:=Aside0.mk (blk_below (blk_up BK420.out) hb);have n3_:=Aside0.mk (below_step (below_go HB.out) hb);clear BK419;clear BK420;clear HB;have HO424:=n0_;have BK419:=n1_;have BK420:=n2_;have HB:=n3_;clear n0_ n1_ n2_ n3_;(try clear hb);(try clear hb2);(try clear hk);(try clear hi);(try clear ho0))|((with_reducible refine gate_dst (N:=8) rfl ?_);refine box_event ?hg (N:=8) ?hd (cs:=#[.slice none 0 0,.int .i64 0,.int .i64 0,.int .i64 0]) (t:=26) ?hr ?_;(case hd=>rfl);(case hg=>rfl);(case hr=>first|(go_simp;done)|(go_simp;rfl));intro gb428 hg w46 hbox hb;have n0_:=Aside0.mk (Kd.R_below (R_up HO424.out) hb);have n1_:=Aside0.mk (blk_below (blk_up BK419.out) hb);have n2_:=Aside0.mk (blk_below (blk_up BK420.out) hb);have n3_:=Aside0.mk (below_step (below_go HB.out) hb);have n4_:=Aside0.mk (hbox);have n5_:=Aside0.mk ((by rw [hg];exact (below_size (below_go HB.out)) : w.heap.size≤gb428));have n6_:=Aside0.mk ((by rw [hg];exact (below_size (below_go HB.out)) : w.heap.size≤gb428));have n7_:=Aside0.mk ((by rw [hg];exact Nat.ne_of_lt (blk_lt (blk_up BK419.out)) : gb419≠gb428));have n8_:=Aside0.mk ((by rw [hg];exact Nat.ne_of_gt (blk_lt (blk_up BK419.out)) : gb428≠gb419));have n9_:=Aside0.mk ((by rw [hg];exact Nat.ne_of_lt (blk_lt (blk_up BK420.out)) : gb420≠gb428));have n10_:=Aside0.mk ((by rw [hg];exact Nat.ne_of_gt (blk_lt (blk_up BK420.out)) : gb428≠gb420));clear HO424;clear BK419;clear BK420;clear HB;have HO424:=n0_;have BK419:=n1_;have BK420:=n2_;have HB:=n3_;have BK428:=n4_;have GW428:=n5_;have GE428:=n6_;have NB419_428:=n7_;have NB428_419:=n8_;have NB420_428:=n9_;have NB428_420:=n10_;clear n0_ n1_ n2_ n3_ n4_ n5_ n6_ n7_ n8_ n9_ n10_;clear hb hbox hg;obtain ⟨Ao47,co47,eo47⟩:=Kd.R_slice HO424.out;subst eo47;have hnb48:=NB428_419.out;have hnc48:=NB419_428.out;have hnb49:=NB428_420.out;have hnc49:=NB420_428.out;have hcz50_0 : w46.cell? ⟨gb428,0,none⟩=some (.slice none 0 0):=(blk_cell BK428.out 0).trans rfl;have hcz50_1 : w46.cell? ⟨gb428,1,none⟩=some (.int .i64 0):=(blk_cell BK428.out 1).trans rfl;have hcz50_2 : w46.cell? ⟨gb428,2,none⟩=some (.int .i64 0):=(blk_cell BK428.out 2).trans rfl;have hcz50_3 : w46.cell? ⟨gb428,3,none⟩=some (.int .i64 0):=(blk_cell BK428.out 3).trans rfl;have hfz50_0:=blk_frozen BK428.out 0;have hfz50_1:=blk_frozen BK428.out 1;have hfz50_2:=blk_frozen BK428.out 2;have hfz50_3:=blk_frozen BK428.out 3)|((with_reducible refine gate_callee (f:=11) rfl ?_);refine goesL_ (some 21) rfl rfl Try.func11 (by kernel_rfl) rfl #[.agg #[.slice Ao47 t422.length co47,.int .i64 t425,.int .i64 t426,.int .i64 t427],.slice A1 l1.length c1] rfl (by (try simp only [List.map_toArray,List.map_cons,List.map_nil]);first|done|rfl|(simp only [List.length_drop,List.length_take];rfl)) ?_;(with_reducible refine (thresherlaw14_parts.calls k _ _ t422 t425 t426 t427 _ _ l1 t429 _ ?side1 ?side2 ?side3 ?side4 A6.out).mono ?_);(case side1=>refine (Kd.R_reads' (e:=3) (base:=w.heap.size) (ok:=fun k_=>True) (n:=t422.length) (c:=co47) ?_).2.2;exact (by (with_reducible repeat (first|apply Kd.R_alloc|apply Kd.R_drewN|apply Kd.R_drew));exact (Kd.R_mono (Kd.R_far (p:=⟨gb428,3,none⟩) (Kd.R_far (p:=⟨gb428,2,none⟩) (Kd.R_far (p:=⟨gb428,1,none⟩) (Kd.R_far (p:=⟨gb428,0,none⟩) (Kd.R_types HO424.out BK428.out (by decide)) (fun _ hk=>hk.2) (.slice Ao47 t422.length co47)) (fun _ hk=>hk.2) (.int .i64 t425)) (fun _ hk=>hk.2) (.int .i64 t426)) (fun _ hk=>hk.2) (.int .i64 t427)) (fun _ h_=>h_.1))));(case side2=>exact (Kd.R_reads' HO424.out).2.1);(case side3=>exact Kd.C_below HR1.out (below_go HB.out));(case side4=>exact HC1.out);rintro e w51 ⟨v430,rfl,ho0,hb⟩;refine ⟨_,rfl,?_⟩;have n0_:=Aside0.mk (Kd.R_below (by (with_reducible repeat (first|apply Kd.R_alloc|apply Kd.R_drewN|apply Kd.R_drew));exact (Kd.R_mono (Kd.R_far (p:=⟨gb428,3,none⟩) (Kd.R_far (p:=⟨gb428,2,none⟩) (Kd.R_far (p:=⟨gb428,1,none⟩) (Kd.R_far (p:=⟨gb428,0,none⟩) (Kd.R_types HO424.out BK428.out (by decide)) (fun _ hk=>hk.2) (.slice Ao47 t422.length co47)) (fun _ hk=>hk.2) (.int .i64 t425)) (fun _ hk=>hk.2) (.int .i64 t426)) (fun _ hk=>hk.2) (.int .i64 t427)) (fun _ h_=>h_.1))) hb);have n1_:=Aside0.mk (Kd.N_lower (Kd.N_mono (ok':=fun k_=>some k_≠(.slice Ao47 t422.length co47 : Value).ownBlock∧k_≠gb419∧k_≠gb420∧k_≠gb428) ho0 (fun k_ hk_=>⟨(Kd.fresh' (Kd.R_lt (by (with_reducible repeat (first|apply Kd.R_alloc|apply Kd.R_drewN|apply Kd.R_drew));exact (Kd.R_mono (Kd.R_far (p:=⟨gb428,3,none⟩) (Kd.R_far (p:=⟨gb428,2,none⟩) (Kd.R_far (p:=⟨gb428,1,none⟩) (Kd.R_far (p:=⟨gb428,0,none⟩) (Kd.R_types HO424.out BK428.out (by decide)) (fun _ hk=>hk.2) (.slice Ao47 t422.length co47)) (fun _ hk=>hk.2) (.int .i64 t425)) (fun _ hk=>hk.2) (.int .i64 t426)) (fun _ hk=>hk.2) (.int .i64 t427)) (fun _ h_=>h_.1)))) k_ hk_),(Kd.freshB (g:=gb419) (o:=.cells #[.int .u8 a0_0,.int .u8 a0_1,.int .u8 a0_2,.int .u8 a0_3,.int .u8 a0_4,.int .u8 a0_5,.int .u8 a0_6,.int .u8 a0_7,.int .u8 a0_8,.int .u8 a0_9,.int .u8 a0_10,.int .u8 a0_11] 38 (0,0)) (by (with_reducible repeat (first|refine blk_drewN ?_ _|refine blk_drew ?_|refine blk_alloc ?_ _));refine blk_far ?_ NB419_428.out _;(with_reducible repeat (first|refine blk_drewN ?_ _|refine blk_drew ?_|refine blk_alloc ?_ _));refine blk_far ?_ NB419_428.out _;(with_reducible repeat (first|refine blk_drewN ?_ _|refine blk_drew ?_|refine blk_alloc ?_ _));refine blk_far ?_ NB419_428.out _;(with_reducible repeat (first|refine blk_drewN ?_ _|refine blk_drew ?_|refine blk_alloc ?_ _));refine blk_far ?_ NB419_428.out _;(with_reducible repeat (first|refine blk_drewN ?_ _|refine blk_drew ?_|refine blk_alloc ?_ _));exact BK419.out) k_ hk_),(Kd.freshB (g:=gb420) (o:=.cells #[.int .u8 a2_0,.int .u8 a2_1] 43 (0,0)) (by (with_reducible repeat (first|refine blk_drewN ?_ _|refine blk_drew ?_|refine blk_alloc ?_ _));refine blk_far ?_ NB420_428.out _;(with_reducible repeat (first|refine blk_drewN ?_ _|refine blk_drew ?_|refine blk_alloc ?_ _));refine blk_far ?_ NB420_428.out _;(with_reducible repeat (first|refine blk_drewN ?_ _|refine blk_drew ?_|refine blk_alloc ?_ _));refine blk_far ?_ NB420_428.out _;(with_reducible repeat (first|refine blk_drewN ?_ _|refine blk_drew ?_|refine blk_alloc ?_ _));refine blk_far ?_ NB420_428.out _;(with_reducible repeat (first|refine blk_drewN ?_ _|refine blk_drew ?_|refine blk_alloc ?_ _));exact BK420.out) k_ hk_),(Kd.freshB (g:=gb428) (o:=.cells #[.slice Ao47 t422.length co47,.int .i64 t425,.int .i64 t426,.int .i64 t427] 26 (0,0)) (by (with_reducible repeat (first|refine blk_drewN ?_ _|refine blk_drew ?_|refine blk_alloc ?_ _));refine blk_put (cs:=#[.slice Ao47 t422.length co47,.int .i64 t425,.int .i64 t426,.int .i64 0]) ?_ 3 _ rfl;(with_reducible repeat (first|refine blk_drewN ?_ _|refine blk_drew ?_|refine blk_alloc ?_ _));refine blk_put (cs:=#[.slice Ao47 t422.length co47,.int .i64 t425,.int .i64 0,.int .i64 0]) ?_ 2 _ rfl;(with_reducible repeat (first|refine blk_drewN ?_ _|refine blk_drew ?_|refine blk_alloc ?_ _));refine blk_put (cs:=#[.slice Ao47 t422.length co47,.int .i64 0,.int .i64 0,.int .i64 0]) ?_ 1 _ rfl;(with_reducible repeat (first|refine blk_drewN ?_ _|refine blk_drew ?_|refine blk_alloc ?_ _));refine blk_put (cs:=#[.slice none 0 0,.int .i64 0,.int .i64 0,.int .i64 0]) ?_ 0 _ rfl;(with_reducible repeat (first|refine blk_drewN ?_ _|refine blk_drew ?_|refine blk_alloc ?_ _));exact BK428.out) k_ hk_)⟩)) (below_size (below_go HB.out)));have n2_:=Aside0.mk (blk_below (g:=gb419) (o:=.cells #[.int .u8 a0_0,.int .u8 a0_1,.int .u8 a0_2,.int .u8 a0_3,.int .u8 a0_4,.int .u8 a0_5,.int .u8 a0_6,.int .u8 a0_7,.int .u8 a0_8,.int .u8 a0_9,.int .u8 a0_10,.int .u8 a0_11] 38 (0,0)) (by (with_reducible repeat (first|refine blk_drewN ?_ _|refine blk_drew ?_|refine blk_alloc ?_ _));refine blk_far ?_ NB419_428.out _;(with_reducible repeat (first|refine blk_drewN ?_ _|refine blk_drew ?_|refine blk_alloc ?_ _));refine blk_far ?_ NB419_428.out _;(with_reducible repeat (first|refine blk_drewN ?_ _|refine blk_drew ?_|refine blk_alloc ?_ _));refine blk_far ?_ NB419_428.out _;(with_reducible repeat (first|refine blk_drewN ?_ _|refine blk_drew ?_|refine blk_alloc ?_ _));refine blk_far ?_ NB419_428.out _;(with_reducible repeat (first|refine blk_drewN ?_ _|refine blk_drew ?_|refine blk_alloc ?_ _));exact BK419.out) hb);have n3_:=Aside0.mk (blk_below (g:=gb420) (o:=.cells #[.int .u8 a2_0,.int .u8 a2_1] 43 (0,0)) (by (with_reducible repeat (first|refine blk_drewN ?_ _|refine blk_drew ?_|refine blk_alloc ?_ _));refine blk_far ?_ NB420_428.out _;(with_reducible repeat (first|refine blk_drewN ?_ _|refine blk_drew ?_|refine blk_alloc ?_ _));refine blk_far ?_ NB420_428.out _;(with_reducible repeat (first|refine blk_drewN ?_ _|refine blk_drew ?_|refine blk_alloc ?_ _));refine blk_far ?_ NB420_428.out _;(with_reducible repeat (first|refine blk_drewN ?_ _|refine blk_drew ?_|refine blk_alloc ?_ _));refine blk_far ?_ NB420_428.out _;(with_reducible repeat (first|refine blk_drewN ?_ _|refine blk_drew ?_|refine blk_alloc ?_ _));exact BK420.out) hb);have n4_:=Aside0.mk (blk_below (g:=gb428) (o:=.cells #[.slice Ao47 t422.length co47,.int .i64 t425,.int .i64 t426,.int .i64 t427] 26 (0,0)) (by (with_reducible repeat (first|refine blk_drewN ?_ _|refine blk_drew ?_|refine blk_alloc ?_ _));refine blk_put (cs:=#[.slice Ao47 t422.length co47,.int .i64 t425,.int .i64 t426,.int .i64 0]) ?_ 3 _ rfl;(with_reducible repeat (first|refine blk_drewN ?_ _|refine blk_drew ?_|refine blk_alloc ?_ _));refine blk_put (cs:=#[.slice Ao47 t422.length co47,.int .i64 t425,.int .i64 0,.int .i64 0]) ?_ 2 _ rfl;(with_reducible repeat (first|refine blk_drewN ?_ _|refine blk_drew ?_|refine blk_alloc ?_ _));refine blk_put (cs:=#[.slice Ao47 t422.length co47,.int .i64 0,.int .i64 0,.int .i64 0]) ?_ 1 _ rfl;(with_reducible repeat (first|refine blk_drewN ?_ _|refine blk_drew ?_|refine blk_alloc ?_ _));refine blk_put (cs:=#[.slice none 0 0,.int .i64 0,.int .i64 0,.int .i64 0]) ?_ 0 _ rfl;(with_reducible repeat (first|refine blk_drewN ?_ _|refine blk_drew ?_|refine blk_alloc ?_ _));exact BK428.out) hb);have n5_:=Aside0.mk (below_step (below_go HB.out) hb);clear HO424;clear BK419;clear BK420;clear BK428;clear HB;have HO424:=n0_;have HO431:=n1_;have BK419:=n2_;have BK420:=n3_;have BK428:=n4_;have HB:=n5_;clear n0_ n1_ n2_ n3_ n4_ n5_;(try clear hb);(try clear hb2);(try clear hk);(try clear hi);(try clear ho0);have hcz52_0 : w51.cell? ⟨gb420,0,none⟩=some (.int .u8 a2_0):=(blk_cell BK420.out 0).trans rfl;have hcz52_1 : w51.cell? ⟨gb420,1,none⟩=some (.int .u8 a2_1):=(blk_cell BK420.out 1).trans rfl;have hfz52_0:=blk_frozen BK420.out 0;have hfz52_1:=blk_frozen BK420.out 1;obtain ⟨Ao53,co53,eo53⟩:=Kd.N_slice HO431.out;subst eo53)|((with_reducible refine gate_dst (N:=40) rfl ?_);refine Kd.N_lit (Kd.slice 33 (Kd.slice 31 k31)) _ 28 ?hg (N':=40) ?hd (xs:=([] : List (List (List (S31))))) (inner:=[]) (ok:=(fun k_=>some k_≠(.slice Ao47 t422.length co47 : Value).ownBlock∧some k_≠(.slice Ao53 t429.length co53 : Value).ownBlock∧k_≠gb419∧k_≠gb420∧k_≠gb428)) (okp:=(fun k_=>some k_≠(.slice Ao47 t422.length co47 : Value).ownBlock∧some k_≠(.slice Ao53 t429.length co53 : Value).ownBlock∧k_≠gb419∧k_≠gb420∧k_≠gb428)) ?hr ?hp (fun _ hk=>hk) ((show ∀ k_,w51.heap.size≤k_→(fun k_=>some k_≠(.slice Ao47 t422.length co47 : Value).ownBlock∧some k_≠(.slice Ao53 t429.length co53 : Value).ownBlock∧k_≠gb419∧k_≠gb420∧k_≠gb428) k_ from fun k_ hk=>⟨Kd.fresh' (Kd.R_lt (R_up HO424.out)) k_ hk,Kd.fresh' (Kd.N_lt (N_up HO431.out)) k_ hk,Kd.freshB (blk_up BK419.out) k_ hk,Kd.freshB (blk_up BK420.out) k_ hk,Kd.freshB (blk_up BK428.out) k_ hk⟩) _ (Nat.le_refl _)) (Below.refl _ _) (Nat.le_refl _) (by simp) ?_;(case hd=>rfl);(case hg=>rfl);(case hr=>first|(go_simp;done)|(go_simp;rfl));(case hp=>exact (Reps.none _ _));intro v433 w54 ho55 hb hg_ hnew_;clear hg_ hnew_;(first|rw [← Ny432.out] at ho55|(simp only [Int.reduceToNat] at ho55;rw [← Ny432.out] at ho55));have n0_:=Aside0.mk (Kd.R_below (R_up HO424.out) hb);have n1_:=Aside0.mk (Kd.N_elder' (N_up HO431.out) (Kd.N_base ho55) hb);have n2_:=Aside0.mk (Kd.N_lower ho55 (below_size (below_go HB.out)));have n3_:=Aside0.mk (blk_below (blk_up BK419.out) hb);have n4_:=Aside0.mk (blk_below (blk_up BK420.out) hb);have n5_:=Aside0.mk (blk_below (blk_up BK428.out) hb);have n6_:=Aside0.mk (below_step (below_go HB.out) hb);clear HO424;clear HO431;clear BK419;clear BK420;clear BK428;clear HB;have HO424:=n0_;have HO431:=n1_;have HO434:=n2_;have BK419:=n3_;have BK420:=n4_;have BK428:=n5_;have HB:=n6_;clear n0_ n1_ n2_ n3_ n4_ n5_ n6_;clear hb ho55;have q56 : ((ji9) : Int)≤((t429.length : Int) : Int):=of_decide_eq_true (by first|(with_reducible assumption)|assumption);obtain ⟨i056,hi056,_,hsz56,_⟩:=info_parts info28;have hroom56 : t429.length≤co53:=(Kd.N_reads' HO431.out).2.1;have hC56 : Kd.F (Kd.slice 33 (Kd.slice 31 k31)) _ _ Ao53 t429.length t429:=(Kd.V_at (base:=w.heap.size) (Kd.N_V HO431.out)).2.2;have hcut56:=cut_to (P:=Try.prog) 27 28 .i64 Try.underlying27 hi056 Ao53 t429.length co53 (ji9) (of_decide_eq_true (by first|(with_reducible assumption)|assumption)) q56 hroom56;have hr56:=Kd.F_take (m:=((ji9) : Int).toNat) hC56 (by omega);have hy56 : y435.length=((ji9) : Int).toNat:=(by rw [Ny435.out,List.length_take];omega);rw [← Ny435.out] at hr56;rw [← hy56] at hcut56;have HO439:=Aside0.mk (show Kd.V (Kd.slice 33 (Kd.slice 31 k31)) 28 _ w.heap.size _ (.slice Ao53 y435.length co53) y435 from Kd.V_mk (by omega) hr56);have HC439:=Aside0.mk (show y435.length≤co53 from by omega);clear hr56 hC56 hroom56 hi056 hsz56;have KY56:=Aside0.mk hy56;clear hy56;replace q56:=eq_true q56)|((with_reducible refine gate_builtin (b:=.append) (xs:=#[.tmp 40,.tmp 43]) rfl ?_);at_builtin;refine Kd.N_append_rows (Kd.slice 33 (Kd.slice 31 k31)) (w0:=w) w.heap.size rfl (.tmp 40) (.tmp 43) 27 28 (.slice none 0 0) 24 rfl Try.underlying27 info28 rfl (by decide) (by omega) v433 y432 y435 _ _ _ (fun k_=>some k_≠(.slice Ao47 t422.length co47 : Value).ownBlock∧k_≠gb419∧k_≠gb420∧k_≠gb428) (fun k_=>((fun k_=>some k_≠(.slice Ao47 t422.length co47 : Value).ownBlock∧k_≠gb419∧k_≠gb420∧k_≠gb428)) k_∧some k_≠(v433 : Value).ownBlock) rfl rfl ?aO ?aR (fun _ hk=>hk) ?aF ?aB ?aS ?aL ?_;(case aR=>exact (by skip;exact Kd.V_F (Kd.V_mono (ok':=(fun k_=>((fun k_=>some k_≠(.slice Ao47 t422.length co47 : Value).ownBlock∧k_≠gb419∧k_≠gb420∧k_≠gb428)) k_∧some k_≠(v433 : Value).ownBlock)) (HO439.out) (fun k_ hk=>by first|exact ⟨⟨hk.1.1,⟨hk.1.2.1,⟨hk.1.2.2.1,hk.1.2.2.2⟩⟩⟩,hk.2⟩|((try (simp only [and_assoc] at hk));(repeat (obtain ⟨_,hk⟩:=hk));(repeat' apply And.intro)<;>assumption)))));(case aB=>exact (below_go HB.out));(case aF=>exact (fun k_ hk=>⟨Kd.fresh' (Kd.R_lt (R_up HO424.out)) k_ hk,Kd.freshB (blk_up BK419.out) k_ hk,Kd.freshB (blk_up BK420.out) k_ hk,Kd.freshB (blk_up BK428.out) k_ hk⟩));(case aO=>exact (by (with_reducible repeat (first|apply Kd.N_alloc|apply Kd.N_drewN|apply Kd.N_drew));exact Kd.N_mono HO434.out (fun _ hk=>by first|exact ⟨hk.1,⟨hk.2.2.1,⟨hk.2.2.2.1,hk.2.2.2.2⟩⟩⟩|((try (simp only [and_assoc] at hk));(repeat (obtain ⟨_,hk⟩:=hk));(repeat' apply And.intro)<;>assumption))));(case aS=>exact (below_size (below_go HB.out)));(case aL=>have:=LMc12.out;omega);intro v441 w57 ho hb hg hat;rw [← Ny440.out] at ho;have n0_:=Aside0.mk (blk_grown (blk_up BK419.out) hg (Kd.N_ne HO434.out BK419.out (by decide)));have n1_:=Aside0.mk (blk_grown (blk_up BK420.out) hg (Kd.N_ne HO434.out BK420.out (by decide)));have n2_:=Aside0.mk (Kd.R_over' (R_up HO424.out) (Kd.N_typed (N_up HO434.out)) (by decide) hg);have n3_:=Aside0.mk (blk_grown (blk_up BK428.out) hg (Kd.N_ne HO434.out BK428.out (by decide)));have n4_:=Aside0.mk (Kd.N_afterv (ok:=(fun k_=>some k_≠(.slice Ao47 t422.length co47 : Value).ownBlock∧k_≠gb419∧k_≠gb420∧k_≠gb428)) (N_up HO431.out) hg hat);have n5_:=Aside0.mk (Kd.V_afterv (ok:=(fun k_=>some k_≠(.slice Ao47 t422.length co47 : Value).ownBlock∧k_≠gb419∧k_≠gb420∧k_≠gb428)) (V_up HO439.out) hg hat);have n6_:=Aside0.mk (hb);have n7_:=Aside0.mk (ho);clear BK419;clear BK420;clear HO424;clear BK428;clear HO431;clear HO439;clear HB;clear HO434;have BK419:=n0_;have BK420:=n1_;have HO424:=n2_;have BK428:=n3_;have HO431:=n4_;have HO439:=n5_;have HB:=n6_;have HO442:=n7_;clear n0_ n1_ n2_ n3_ n4_ n5_ n6_ n7_;clear ho hb hg hat)|((with_reducible refine gate_dst (N:=45) rfl ?_);refine Kd.N_lit (Kd.slice 33 (Kd.slice 31 k31)) _ 28 ?hg (N':=45) ?hd (xs:=([] : List (List (List (S31))))) (inner:=[]) (ok:=(fun k_=>some k_≠(.slice Ao47 t422.length co47 : Value).ownBlock∧some k_≠(.slice Ao53 t429.length co53 : Value).ownBlock∧some k_≠(v441 : Value).ownBlock∧k_≠gb419∧k_≠gb420∧k_≠gb428)) (okp:=(fun k_=>some k_≠(.slice Ao47 t422.length co47 : Value).ownBlock∧some k_≠(.slice Ao53 t429.length co53 : Value).ownBlock∧some k_≠(v441 : Value).ownBlock∧k_≠gb419∧k_≠gb420∧k_≠gb428)) ?hr ?hp (fun _ hk=>hk) ((show ∀ k_,w57.heap.size≤k_→(fun k_=>some k_≠(.slice Ao47 t422.length co47 : Value).ownBlock∧some k_≠(.slice Ao53 t429.length co53 : Value).ownBlock∧some k_≠(v441 : Value).ownBlock∧k_≠gb419∧k_≠gb420∧k_≠gb428) k_ from fun k_ hk=>⟨Kd.fresh' (Kd.R_lt (R_up HO424.out)) k_ hk,Kd.fresh' (Kd.N_lt (N_up HO431.out)) k_ hk,Kd.fresh' (Kd.N_lt (N_up HO442.out)) k_ hk,Kd.freshB (blk_up BK419.out) k_ hk,Kd.freshB (blk_up BK420.out) k_ hk,Kd.freshB (blk_up BK428.out) k_ hk⟩) _ (Nat.le_refl _)) (Below.refl _ _) (Nat.le_refl _) (by simp) ?_;(case hd=>rfl);(case hg=>rfl);(case hr=>first|(go_simp;done)|(go_simp;rfl));(case hp=>exact (Reps.none _ _));intro v444 w58 ho59 hb hg_ hnew_;clear hg_ hnew_;(first|rw [← Ny443.out] at ho59|(simp only [Int.reduceToNat] at ho59;rw [← Ny443.out] at ho59));have n0_:=Aside0.mk (Kd.R_below (R_up HO424.out) hb);have n1_:=Aside0.mk (Kd.N_elder' (N_up HO431.out) (Kd.N_base ho59) hb);have n2_:=Aside0.mk (Kd.V_elder' (V_up HO439.out) (Kd.N_base ho59) hb);have n3_:=Aside0.mk (Kd.N_elder' (N_up HO442.out) (Kd.N_base ho59) hb);have n4_:=Aside0.mk (Kd.N_lower ho59 (below_size (below_go HB.out)));have n5_:=Aside0.mk (blk_below (blk_up BK419.out) hb);have n6_:=Aside0.mk (blk_below (blk_up BK420.out) hb);have n7_:=Aside0.mk (blk_below (blk_up BK428.out) hb);have n8_:=Aside0.mk (below_step (below_go HB.out) hb);clear HO424;clear HO431;clear HO439;clear HO442;clear BK419;clear BK420;clear BK428;clear HB;have HO424:=n0_;have HO431:=n1_;have HO439:=n2_;have HO442:=n3_;have HO445:=n4_;have BK419:=n5_;have BK420:=n6_;have BK428:=n7_;have HB:=n8_;clear n0_ n1_ n2_ n3_ n4_ n5_ n6_ n7_ n8_;clear hb ho59;have q60 : ((ji9) : Int)≤((t429.length : Int) : Int):=of_decide_eq_true (by first|(with_reducible assumption)|assumption);obtain ⟨i060,hi060,_,hsz60,_⟩:=info_parts info28;have hroom60 : t429.length≤co53:=(Kd.N_reads' HO431.out).2.1;have hC60 : Kd.F (Kd.slice 33 (Kd.slice 31 k31)) _ _ Ao53 t429.length t429:=(Kd.V_at (base:=w.heap.size) (Kd.N_V HO431.out)).2.2;(try clear hcut56);have hcut60:=cut_to (P:=Try.prog) 27 28 .i64 Try.underlying27 hi060 Ao53 t429.length co53 (ji9) (of_decide_eq_true (by first|(with_reducible assumption)|assumption)) q60 hroom60;have hr60:=Kd.F_take (m:=((ji9) : Int).toNat) hC60 (by omega);have hy60 : y435.length=((ji9) : Int).toNat:=(by rw [Ny446.out,List.length_take];omega);rw [← Ny446.out] at hr60;rw [← hy60] at hcut60;have HO450:=Aside0.mk (show Kd.V (Kd.slice 33 (Kd.slice 31 k31)) 28 _ w.heap.size _ (.slice Ao53 y435.length co53) y435 from Kd.V_mk (by omega) hr60);have HC450:=Aside0.mk (show y435.length≤co53 from by omega);clear hr60 hC60 hroom60 hi060 hsz60;have KY60:=Aside0.mk hy60;clear hy60;replace q60:=eq_true q60)|((with_reducible refine gate_builtin (b:=.append) (xs:=#[.tmp 45,.tmp 48]) rfl ?_);at_builtin;refine Kd.N_append_rows (Kd.slice 33 (Kd.slice 31 k31)) (w0:=w) w.heap.size rfl (.tmp 45) (.tmp 48) 27 28 (.slice none 0 0) 24 rfl Try.underlying27 info28 rfl (by decide) (by omega) v444 y443 y435 _ _ _ (fun k_=>some k_≠(.slice Ao47 t422.length co47 : Value).ownBlock∧some k_≠(v441 : Value).ownBlock∧k_≠gb419∧k_≠gb420∧k_≠gb428) (fun k_=>((fun k_=>some k_≠(.slice Ao47 t422.length co47 : Value).ownBlock∧some k_≠(v441 : Value).ownBlock∧k_≠gb419∧k_≠gb420∧k_≠gb428)) k_∧some k_≠(v444 : Value).ownBlock) rfl rfl ?aO ?aR (fun _ hk=>hk) ?aF ?aB ?aS ?aL ?_;(case aR=>exact (by skip;exact Kd.V_F (Kd.V_mono (ok':=(fun k_=>((fun k_=>some k_≠(.slice Ao47 t422.length co47 : Value).ownBlock∧some k_≠(v441 : Value).ownBlock∧k_≠gb419∧k_≠gb420∧k_≠gb428)) k_∧some k_≠(v444 : Value).ownBlock)) (HO450.out) (fun k_ hk=>by first|exact ⟨⟨hk.1.1.1,⟨hk.1.2,⟨hk.1.1.2.1,⟨hk.1.1.2.2.1,hk.1.1.2.2.2⟩⟩⟩⟩,hk.2⟩|((try (simp only [and_assoc] at hk));(repeat (obtain ⟨_,hk⟩:=hk));(repeat' apply And.intro)<;>assumption)))));(case aB=>exact (below_go HB.out));(case aF=>exact (fun k_ hk=>⟨Kd.fresh' (Kd.R_lt (R_up HO424.out)) k_ hk,Kd.fresh' (Kd.N_lt (N_up HO442.out)) k_ hk,Kd.freshB (blk_up BK419.out) k_ hk,Kd.freshB (blk_up BK420.out) k_ hk,Kd.freshB (blk_up BK428.out) k_ hk⟩));(case aO=>exact (by (with_reducible repeat (first|apply Kd.N_alloc|apply Kd.N_drewN|apply Kd.N_drew));exact Kd.N_mono HO445.out (fun _ hk=>by first|exact ⟨hk.1,⟨hk.2.2.1,⟨hk.2.2.2.1,⟨hk.2.2.2.2.1,hk.2.2.2.2.2⟩⟩⟩⟩|((try (simp only [and_assoc] at hk));(repeat (obtain ⟨_,hk⟩:=hk));(repeat' apply And.intro)<;>assumption))));(case aS=>exact (below_size (below_go HB.out)));(case aL=>have:=LMc15.out;omega);intro v452 w61 ho hb hg hat;rw [← Ny451.out] at ho;have n0_:=Aside0.mk (blk_grown (blk_up BK419.out) hg (Kd.N_ne HO445.out BK419.out (by decide)));have n1_:=Aside0.mk (blk_grown (blk_up BK420.out) hg (Kd.N_ne HO445.out BK420.out (by decide)));have n2_:=Aside0.mk (Kd.R_over' (R_up HO424.out) (Kd.N_typed (N_up HO445.out)) (by decide) hg);have n3_:=Aside0.mk (blk_grown (blk_up BK428.out) hg (Kd.N_ne HO445.out BK428.out (by decide)));have n4_:=Aside0.mk (Kd.N_afterv (ok:=(fun k_=>some k_≠(.slice Ao47 t422.length co47 : Value).ownBlock∧some k_≠(v441 : Value).ownBlock∧k_≠gb419∧k_≠gb420∧k_≠gb428)) (by (with_reducible repeat (first|apply Kd.N_alloc|apply Kd.N_drewN|apply Kd.N_drew));exact Kd.N_mono HO431.out (fun _ hk=>by first|exact ⟨⟨hk.1.1.1,⟨hk.1.2,⟨hk.1.1.2.1,⟨hk.1.1.2.2.1,hk.1.1.2.2.2⟩⟩⟩⟩,hk.2⟩|((try (simp only [and_assoc] at hk));(repeat (obtain ⟨_,hk⟩:=hk));(repeat' apply And.intro)<;>assumption))) hg hat);have n5_:=Aside0.mk (Kd.V_afterv (ok:=(fun k_=>some k_≠(.slice Ao47 t422.length co47 : Value).ownBlock∧some k_≠(v441 : Value).ownBlock∧k_≠gb419∧k_≠gb420∧k_≠gb428)) (by (with_reducible repeat (first|apply Kd.V_alloc|apply Kd.V_drewN|apply Kd.V_drew));exact Kd.V_mono HO439.out (fun _ hk=>by first|exact ⟨⟨hk.1.1.1,⟨hk.1.2,⟨hk.1.1.2.1,⟨hk.1.1.2.2.1,hk.1.1.2.2.2⟩⟩⟩⟩,hk.2⟩|((try (simp only [and_assoc] at hk));(repeat (obtain ⟨_,hk⟩:=hk));(repeat' apply And.intro)<;>assumption))) hg hat);have n6_:=Aside0.mk (Kd.N_afterv (ok:=(fun k_=>some k_≠(.slice Ao47 t422.length co47 : Value).ownBlock∧k_≠gb419∧k_≠gb420∧k_≠gb428)) (N_up HO442.out) hg hat);have n7_:=Aside0.mk (Kd.V_afterv (ok:=(fun k_=>some k_≠(.slice Ao47 t422.length co47 : Value).ownBlock∧some k_≠(v441 : Value).ownBlock∧k_≠gb419∧k_≠gb420∧k_≠gb428)) (by (with_reducible repeat (first|apply Kd.V_alloc|apply Kd.V_drewN|apply Kd.V_drew));exact Kd.V_mono HO450.out (fun _ hk=>by first|exact ⟨⟨hk.1.1.1,⟨hk.1.2,⟨hk.1.1.2.1,⟨hk.1.1.2.2.1,hk.1.1.2.2.2⟩⟩⟩⟩,hk.2⟩|((try (simp only [and_assoc] at hk));(repeat (obtain ⟨_,hk⟩:=hk));(repeat' apply And.intro)<;>assumption))) hg hat);have n8_:=Aside0.mk (hb);have n9_:=Aside0.mk (ho);clear BK419;clear BK420;clear HO424;clear BK428;clear HO431;clear HO439;clear HO442;clear HO450;clear HB;clear HO445;have BK419:=n0_;have BK420:=n1_;have HO424:=n2_;have BK428:=n3_;have HO431:=n4_;have HO439:=n5_;have HO442:=n6_;have HO450:=n7_;have HB:=n8_;have HO453:=n9_;clear n0_ n1_ n2_ n3_ n4_ n5_ n6_ n7_ n8_ n9_;clear ho hb hg hat))
              have n0_:=Aside0.mk (Kd.R_drew HO424.out)
              have n1_:=Aside0.mk (Kd.N_drew HO431.out)
              have n2_:=Aside0.mk (Kd.V_drew HO439.out)
              have n3_:=Aside0.mk (Kd.N_drew HO442.out)
              have n4_:=Aside0.mk (Kd.V_drew HO450.out)
              have n5_:=Aside0.mk (Kd.N_drew HO453.out)
              have n6_:=Aside0.mk (blk_drew BK419.out)
              have n7_:=Aside0.mk (blk_drew BK420.out)
              have n8_:=Aside0.mk (blk_drew BK428.out)
              have n9_:=Aside0.mk (below_drew1 HB.out)
              clear HO424
              clear HO431
              clear HO439
              clear HO442
              clear HO450
              clear HO453
              clear BK419
              clear BK420
              clear BK428
              clear HB
              have HO424:=n0_
              have HO431:=n1_
              have HO439:=n2_
              have HO442:=n3_
              have HO450:=n4_
              have HO453:=n5_
              have BK419:=n6_
              have BK420:=n7_
              have BK428:=n8_
              have HB:=n9_
              clear n0_ n1_ n2_ n3_ n4_ n5_ n6_ n7_ n8_ n9_
              have q63 : ((ji26) : Int)≤((t429.length : Int) : Int):=of_decide_eq_true (by first|(with_reducible assumption)|assumption)
              obtain ⟨i063,hi063,_,hsz63,_⟩:=info_parts info28
              have hroom63 : t429.length≤co53:=(Kd.N_reads' HO431.out).2.1
              have hC63 : Kd.F (Kd.slice 33 (Kd.slice 31 k31)) _ _ Ao53 t429.length t429:=(Kd.V_at (base:=w.heap.size) (Kd.N_V HO431.out)).2.2
              have ql63 : ((ji9) : Int)≤((ji26) : Int):=of_decide_eq_true (by first|(with_reducible assumption)|assumption)
              have q063 : (0 : Int)≤((ji9) : Int):=of_decide_eq_true (by first|(with_reducible assumption)|assumption)
              have hcut63:=cut_mid (P:=Try.prog) 27 28 .i64 .i64 Try.underlying27 hi063 1 hsz63 Ao53 t429.length co53 (ji9) (ji26) q063 ql63 q63 hroom63
              have hr63:=Kd.F_mid (lo:=((ji9) : Int).toNat) (hi:=((ji26) : Int).toNat) (c:=co53) hC63 (by omega) (by omega) hroom63
              obtain ⟨A63,hA63⟩ : ∃ Z_,Z_=(if co53=((ji9) : Int).toNat then Ao53 else (Ao53 : Option Addr).map (·.add (((ji9) : Int).toNat * 1))):=⟨_,rfl⟩
              obtain ⟨c63,hc63⟩ : ∃ z_,z_=co53 - ((ji9) : Int).toNat:=⟨_,rfl⟩
              have hy63 : y454.length=((ji26) : Int).toNat - ((ji9) : Int).toNat:=(by rw [Ny454.out,List.length_drop,List.length_take] <;> omega)
              rw [show ((t429).take ((ji26) : Int).toNat).drop ((ji9) : Int).toNat=y454 from Ny454.out.symm] at hr63
              replace hr63 : Kd.F (Kd.slice 33 (Kd.slice 31 k31)) _ _ A63 y454.length y454:=(by rw [hA63];exact hr63)
              rw [← hy63,← hA63,← hc63] at hcut63
              have HO458:=Aside0.mk (show Kd.V (Kd.slice 33 (Kd.slice 31 k31)) 28 _ w.heap.size _ (.slice A63 y454.length c63) y454 from Kd.V_mk (by rw [hy63,hc63];exact Nat.sub_le_sub_right (Nat.le_trans (by omega) hroom63) _) hr63)
              have HC458:=Aside0.mk (show y454.length≤c63 from by rw [hy63,hc63];exact Nat.sub_le_sub_right (Nat.le_trans (by omega) hroom63) _)
              clear hr63 hC63 hroom63 hi063 hsz63 hc63
              have KY63:=Aside0.mk hy63
              have KA63:=Aside0.mk hA63
              clear hy63 hA63
              replace q63:=eq_true q63
              refine start_ (n:=10) (S:=fun w'=>w'.cell? ⟨gb428,0,none⟩=some (.slice Ao47 t422.length co47)∧w'.cell? ⟨gb428,1,none⟩=some (.int .i64 t425)∧w'.cell? ⟨gb428,2,none⟩=some (.int .i64 t426)∧w'.cell? ⟨gb428,3,none⟩=some (.int .i64 t427)) (ds:=[]) #[false,false,false,false,false,false,false,false,false,false] (by kernel_rfl) rfl rfl ⟨(blk_cell BK428.out 0).trans rfl,(blk_cell BK428.out 1).trans rfl,(blk_cell BK428.out 2).trans rfl,(blk_cell BK428.out 3).trans rfl⟩ (fun hHeld=>?_);refine with_tabW thresherlaw14_MergeFirst.tab8 thresherlaw14_MergeFirst.bits8 (fun HT_ HW_=>?_)
              generalize w61.drew=w62 at HO424 HO431 HO439 HO442 HO450 HO453 BK419 BK420 BK428 HB HO458 hHeld ⊢
              refine pure_ (i:=0) (N:=some 50) (v:=?_) (a':=?_) #[true,false,false,false,false,false,false,false,false,false] rfl rfl (any_of HT_.out (by kernel_rfl)) (fun _ _ _ h=>h) (Or.inl ⟨by rfl,?_⟩) ?_ ?_
              rotate_left;(intro w';go_simp;with_reducible rfl);rotate_left;(simp only [Act.put,List.setIfInBounds_toArray,List.set_cons_zero,List.set_cons_succ,i64_w,i32_w];rfl)
              refine pure_ (i:=2) (N:=some 52) (v:=?_) (a':=?_) #[true,false,true,false,false,false,false,false,false,false] rfl rfl (any_of HT_.out (by kernel_rfl)) (fun _ _ _ h=>h) (Or.inl ⟨by rfl,?_⟩) ?_ ?_
              rotate_left;(intro w';go_simp;with_reducible rfl);rotate_left;(simp only [Act.put,List.setIfInBounds_toArray,List.set_cons_zero,List.set_cons_succ,i64_w,i32_w];rfl)
              refine pure_ (i:=3) (N:=some 53) (v:=?_) (a':=?_) #[true,false,true,true,false,false,false,false,false,false] rfl rfl (any_of HT_.out (by kernel_rfl)) (fun _ _ _ h=>h) (Or.inl ⟨by rfl,?_⟩) ?_ ?_
              rotate_left;(intro w';go_simp;with_reducible rfl);rotate_left;(simp only [Act.put,List.setIfInBounds_toArray,List.set_cons_zero,List.set_cons_succ,i64_w,i32_w];rfl)
              refine pure_ (i:=4) (N:=some 54) (v:=?_) (a':=?_) #[true,false,true,true,true,false,false,false,false,false] rfl rfl (any_of HT_.out (by kernel_rfl)) (fun _ _ _ h=>h) (Or.inl ⟨by rfl,?_⟩) ?_ ?_
              rotate_left;(intro w';go_simp;with_reducible rfl);rotate_left;(simp only [Act.put,List.setIfInBounds_toArray,List.set_cons_zero,List.set_cons_succ,i64_w,i32_w];rfl)
              refine pure_ (i:=5) (N:=some 55) (v:=?_) (a':=?_) #[true,false,true,true,true,true,false,false,false,false] rfl rfl (any_of HT_.out (by kernel_rfl)) (fun _ _ _ h=>h) (Or.inl ⟨by rfl,?_⟩) ?_ ?_
              rotate_left;(intro w';go_simp;with_reducible rfl);rotate_left;(simp only [Act.put,List.setIfInBounds_toArray,List.set_cons_zero,List.set_cons_succ,i64_w,i32_w];rfl)
              refine take_ (i:=1) (N:=some 51) (v:=?_) (a':=?_) #[true,true,true,true,true,true,false,false,false,false] rfl rfl (take_ofW HT_.out HW_.out (by kernel_rfl)) (fun _ _ _ h=>h) (Or.inl ⟨by rfl,?_⟩) hHeld ?_ ?_
              rotate_left;(rintro w' ⟨s0,s1,s2,s3⟩;go_simp;with_reducible rfl);rotate_left;(simp only [Act.put,List.setIfInBounds_toArray,List.set_cons_zero,List.set_cons_succ,i64_w,i32_w];rfl)
              refine one_ (i:=6) (N:=some 56) #[true,true,true,true,true,true,true,false,false,false] rfl rfl (one_of HT_.out (by kernel_rfl)) (by decide) (fun K hK=>?_)
              refine goes_ Try.func14 (by kernel_rfl) rfl #[.agg #[.slice Ao47 t422.length co47,.int .i64 t425,.int .i64 t426,.int .i64 t427],.slice A63 y454.length c63] (by rfl) rfl rfl (by (try simp only [List.map_toArray,List.map_cons,List.map_nil]);first|done|rfl|(simp only [List.length_drop,List.length_take];rfl)) ?_
              with_reducible refine (merge_Folded.calls k _ _ t422 t425 t426 t427 (fun k_=>((some k_≠(.slice Ao47 t422.length co47 : Value).ownBlock∧(some k_≠(v441 : Value).ownBlock∧(k_≠gb419∧(k_≠gb420∧k_≠gb428))))∧some k_≠(v452 : Value).ownBlock)) _ _ y454 t459 _ ?side1 ?side2 ?side3 A19.out).mono ?_
              (case side1=>repeat (first|exact (Kd.R_reads' HO424.out).2.2|(with_reducible refine Kd.C_alloc ?_ _)|(with_reducible refine Kd.C_drewN ?_ _)|(with_reducible refine Kd.C_drew ?_)))
              (case side2=>exact (Kd.R_reads' HO424.out).2.1)
              (case side3=>first|exact HO458.out|exact Kd.V_mono HO458.out (fun k_ hk_=>by ((try (simp only [and_assoc] at hk_));(repeat (obtain ⟨_,hk_⟩:=hk_));(repeat' apply And.intro)<;>assumption)))
              rintro e w64 ⟨v460,rfl,ho0,hb⟩
              refine ⟨_,rfl,?_⟩
              have n0_:=Aside0.mk (Kd.R_below (R_up HO424.out) hb)
              have n1_:=Aside0.mk (Kd.N_elder' (N_up HO431.out) (by first|exact Kd.N_base ho0|exact Kd.S_base ho0) hb)
              have n2_:=Aside0.mk (Kd.V_elder' (V_up HO439.out) (by first|exact Kd.N_base ho0|exact Kd.S_base ho0) hb)
              have n3_:=Aside0.mk (Kd.N_elder' (N_up HO442.out) (by first|exact Kd.N_base ho0|exact Kd.S_base ho0) hb)
              have n4_:=Aside0.mk (Kd.V_elder' (V_up HO450.out) (by first|exact Kd.N_base ho0|exact Kd.S_base ho0) hb)
              have n5_:=Aside0.mk (Kd.N_elder' (N_up HO453.out) (by first|exact Kd.N_base ho0|exact Kd.S_base ho0) hb)
              have n6_:=Aside0.mk (Kd.V_elder' (V_up HO458.out) (by first|exact Kd.N_base ho0|exact Kd.S_base ho0) hb)
              have n7_:=Aside0.mk (Kd.N_lower (Kd.N_mono (ok':=fun k_=>some k_≠(.slice Ao47 t422.length co47 : Value).ownBlock∧some k_≠(v441 : Value).ownBlock∧some k_≠(v452 : Value).ownBlock∧k_≠gb419∧k_≠gb420∧k_≠gb428) ho0 (fun k_ hk_=>⟨Or.elim hk_ (fun hs_=>hs_.1.1) (fun hn_=>(Kd.fresh' (Kd.R_lt (R_up HO424.out)) k_ hn_)),Or.elim hk_ (fun hs_=>hs_.1.2.1) (fun hn_=>(Kd.fresh' (Kd.N_lt (N_up HO442.out)) k_ hn_)),Or.elim hk_ (fun hs_=>hs_.2) (fun hn_=>(Kd.fresh' (Kd.N_lt (N_up HO453.out)) k_ hn_)),Or.elim hk_ (fun hs_=>hs_.1.2.2.1) (fun hn_=>(Kd.freshB (blk_up BK419.out) k_ hn_)),Or.elim hk_ (fun hs_=>hs_.1.2.2.2.1) (fun hn_=>(Kd.freshB (blk_up BK420.out) k_ hn_)),Or.elim hk_ (fun hs_=>hs_.1.2.2.2.2) (fun hn_=>(Kd.freshB (blk_up BK428.out) k_ hn_))⟩)) (below_size (below_go HB.out)))
              have n8_:=Aside0.mk (blk_below (blk_up BK419.out) hb)
              have n9_:=Aside0.mk (blk_below (blk_up BK420.out) hb)
              have n10_:=Aside0.mk (blk_below (blk_up BK428.out) hb)
              have n11_:=Aside0.mk (below_step (below_go HB.out) hb)
              clear HO424
              clear HO431
              clear HO439
              clear HO442
              clear HO450
              clear HO453
              clear HO458
              clear BK419
              clear BK420
              clear BK428
              clear HB
              have HO424:=n0_
              have HO431:=n1_
              have HO439:=n2_
              have HO442:=n3_
              have HO450:=n4_
              have HO453:=n5_
              have HO458:=n6_
              have HO461:=n7_
              have BK419:=n8_
              have BK420:=n9_
              have BK428:=n10_
              have HB:=n11_
              clear n0_ n1_ n2_ n3_ n4_ n5_ n6_ n7_ n8_ n9_ n10_ n11_
              (try clear hb)
              (try clear hb2)
              (try clear hk)
              (try clear hi)
              (try clear ho0)
              obtain ⟨Ao66,co66,eo66⟩:=Kd.N_slice HO461.out
              (first|subst eo66|(injection eo66 with f1_ f2_ f3_;have f4_:=f1_.symm;have f5_:=f3_.symm;clear f1_ f2_ f3_;subst f4_;subst f5_))
              refine hK.out _ _ ⟨(blk_cell BK428.out 0).trans rfl,(blk_cell BK428.out 1).trans rfl,(blk_cell BK428.out 2).trans rfl,(blk_cell BK428.out 3).trans rfl⟩ (fun hHeld=>?_)
              clear hK K
              refine norm_ (a':=?_) ?_ ?_
              rotate_left
              ·show Act.put _ (some 56) _=_
               simp only [Act.put,List.setIfInBounds_toArray,List.set_cons_zero,List.set_cons_succ,i64_w,i32_w]
               rfl
              refine one_ (i:=7) (N:=some 57) #[true,true,true,true,true,true,true,true,false,false] rfl rfl (one_of HT_.out (by kernel_rfl)) (by decide) (fun K hK=>?_)
              refine value_ (w1:=?_) (v:=?_) (by rfl) rfl ?_ ?_
              rotate_left 2
              ·go_simp
               constructor
               ·rfl
               ·rfl
              refine hK.out _ _ ⟨(blk_cell (blk_alloc BK428.out _) 0).trans rfl,(blk_cell (blk_alloc BK428.out _) 1).trans rfl,(blk_cell (blk_alloc BK428.out _) 2).trans rfl,(blk_cell (blk_alloc BK428.out _) 3).trans rfl⟩ (fun hHeld=>?_)
              clear hK K
              refine norm_ (a':=?_) ?_ ?_
              rotate_left
              ·show Act.put _ (some 57) _=_
               simp only [Act.put,List.setIfInBounds_toArray,List.set_cons_zero,List.set_cons_succ,i64_w,i32_w]
               rfl
              refine one_ (i:=8) (N:=some 58) #[true,true,true,true,true,true,true,true,true,false] rfl rfl (one_of HT_.out (by kernel_rfl)) (by decide) (fun K hK=>?_)
              refine Kd.N_append_step (Kd.slice 33 (Kd.slice 31 k31)) (w0:=w) w.heap.size (by rfl) (.tmp 50) (.tmp 57) 27 28 (.slice none 0 0) 24 rfl Try.underlying27 info28 rfl (by decide) (by omega) v441 y440 t459 [.slice Ao66 t459.length co66] (fun k_=>some k_≠(.slice Ao47 t422.length co47 : Value).ownBlock∧some k_≠(v452 : Value).ownBlock∧k_≠gb419∧k_≠gb420∧k_≠gb428) (fun k_=>((fun k_=>some k_≠(.slice Ao47 t422.length co47 : Value).ownBlock∧some k_≠(v452 : Value).ownBlock∧k_≠gb419∧k_≠gb420∧k_≠gb428)) k_∧some k_≠(v441 : Value).ownBlock) rfl rfl ?aP (fun _ hk=>hk) ?aF ?aO ?aB ?aS ?aL ?_
              (case aP=>exact (Kd.FK_slice_mk (Kd.N_reads' (Kd.N_mono (ok':=(fun k_=>((fun k_=>some k_≠(.slice Ao47 t422.length co47 : Value).ownBlock∧some k_≠(v452 : Value).ownBlock∧k_≠gb419∧k_≠gb420∧k_≠gb428)) k_∧some k_≠(v441 : Value).ownBlock)) (HO461.out) (fun k_ hk=>by first|exact ⟨⟨hk.1,⟨hk.2.2.1,⟨hk.2.2.2.1,⟨hk.2.2.2.2.1,hk.2.2.2.2.2⟩⟩⟩⟩,hk.2.1⟩|((try (simp only [and_assoc] at hk));(repeat (obtain ⟨_,hk⟩:=hk));(repeat' apply And.intro)<;>assumption)))).2.1 (Kd.N_F (Kd.N_mono (ok':=(fun k_=>((fun k_=>some k_≠(.slice Ao47 t422.length co47 : Value).ownBlock∧some k_≠(v452 : Value).ownBlock∧k_≠gb419∧k_≠gb420∧k_≠gb428)) k_∧some k_≠(v441 : Value).ownBlock)) (HO461.out) (fun k_ hk=>by first|exact ⟨⟨hk.1,⟨hk.2.2.1,⟨hk.2.2.2.1,⟨hk.2.2.2.2.1,hk.2.2.2.2.2⟩⟩⟩⟩,hk.2.1⟩|((try (simp only [and_assoc] at hk));(repeat (obtain ⟨_,hk⟩:=hk));(repeat' apply And.intro)<;>assumption))))))
              (case aB=>exact (below_go HB.out))
              (case aF=>exact (fun k_ hk=>⟨Kd.fresh' (Kd.R_lt (R_up HO424.out)) k_ hk,Kd.fresh' (Kd.N_lt (N_up HO453.out)) k_ hk,Kd.freshB (blk_up BK419.out) k_ hk,Kd.freshB (blk_up BK420.out) k_ hk,Kd.freshB (blk_up BK428.out) k_ hk⟩))
              (case aO=>exact (by (with_reducible repeat (first|apply Kd.N_alloc|apply Kd.N_drewN|apply Kd.N_drew));exact Kd.N_mono HO442.out (fun _ hk=>by first|exact ⟨hk.1.1.1,⟨hk.1.2,⟨hk.1.1.2.1,⟨hk.1.1.2.2.1,hk.1.1.2.2.2⟩⟩⟩⟩|((try (simp only [and_assoc] at hk));(repeat (obtain ⟨_,hk⟩:=hk));(repeat' apply And.intro)<;>assumption))))
              (case aS=>exact (below_size (below_go HB.out)))
              (case aL=>have:=LMc20.out;omega)
              intro v463 w65 ho hb hg hat
              rw [← Ny462.out] at ho
              have n0_:=Aside0.mk (blk_grown (blk_up BK419.out) hg (Kd.N_ne HO442.out BK419.out (by decide)))
              have n1_:=Aside0.mk (blk_grown (blk_up BK420.out) hg (Kd.N_ne HO442.out BK420.out (by decide)))
              have n2_:=Aside0.mk (Kd.R_over' (R_up HO424.out) (Kd.N_typed (N_up HO442.out)) (by decide) hg)
              have n3_:=Aside0.mk (blk_grown (blk_up BK428.out) hg (Kd.N_ne HO442.out BK428.out (by decide)))
              have n4_:=Aside0.mk (Kd.N_afterv (ok:=(fun k_=>some k_≠(.slice Ao47 t422.length co47 : Value).ownBlock∧some k_≠(v452 : Value).ownBlock∧some k_≠(.slice Ao66 t459.length co66 : Value).ownBlock∧k_≠gb419∧k_≠gb420∧k_≠gb428)) (by (with_reducible repeat (first|apply Kd.N_alloc|apply Kd.N_drewN|apply Kd.N_drew));exact Kd.N_mono HO431.out (fun _ hk=>by first|exact ⟨⟨hk.1.1.1,⟨hk.1.2,⟨hk.2,⟨hk.1.1.2.2.1,⟨hk.1.1.2.2.2.1,hk.1.1.2.2.2.2⟩⟩⟩⟩⟩,hk.1.1.2.1⟩|((try (simp only [and_assoc] at hk));(repeat (obtain ⟨_,hk⟩:=hk));(repeat' apply And.intro)<;>assumption))) hg hat)
              have n5_:=Aside0.mk (Kd.V_afterv (ok:=(fun k_=>some k_≠(.slice Ao47 t422.length co47 : Value).ownBlock∧some k_≠(v452 : Value).ownBlock∧some k_≠(.slice Ao66 t459.length co66 : Value).ownBlock∧k_≠gb419∧k_≠gb420∧k_≠gb428)) (by (with_reducible repeat (first|apply Kd.V_alloc|apply Kd.V_drewN|apply Kd.V_drew));exact Kd.V_mono HO439.out (fun _ hk=>by first|exact ⟨⟨hk.1.1.1,⟨hk.1.2,⟨hk.2,⟨hk.1.1.2.2.1,⟨hk.1.1.2.2.2.1,hk.1.1.2.2.2.2⟩⟩⟩⟩⟩,hk.1.1.2.1⟩|((try (simp only [and_assoc] at hk));(repeat (obtain ⟨_,hk⟩:=hk));(repeat' apply And.intro)<;>assumption))) hg hat)
              have n6_:=Aside0.mk (Kd.V_afterv (ok:=(fun k_=>some k_≠(.slice Ao47 t422.length co47 : Value).ownBlock∧some k_≠(v452 : Value).ownBlock∧some k_≠(.slice Ao66 t459.length co66 : Value).ownBlock∧k_≠gb419∧k_≠gb420∧k_≠gb428)) (by (with_reducible repeat (first|apply Kd.V_alloc|apply Kd.V_drewN|apply Kd.V_drew));exact Kd.V_mono HO450.out (fun _ hk=>by first|exact ⟨⟨hk.1.1.1,⟨hk.1.2,⟨hk.2,⟨hk.1.1.2.2.1,⟨hk.1.1.2.2.2.1,hk.1.1.2.2.2.2⟩⟩⟩⟩⟩,hk.1.1.2.1⟩|((try (simp only [and_assoc] at hk));(repeat (obtain ⟨_,hk⟩:=hk));(repeat' apply And.intro)<;>assumption))) hg hat)
              have n7_:=Aside0.mk (Kd.N_afterv (ok:=(fun k_=>some k_≠(.slice Ao47 t422.length co47 : Value).ownBlock∧some k_≠(.slice Ao66 t459.length co66 : Value).ownBlock∧k_≠gb419∧k_≠gb420∧k_≠gb428)) (by (with_reducible repeat (first|apply Kd.N_alloc|apply Kd.N_drewN|apply Kd.N_drew));exact Kd.N_mono HO453.out (fun _ hk=>by first|exact ⟨⟨hk.1.1,⟨hk.2,⟨hk.1.2.2.1,⟨hk.1.2.2.2.1,hk.1.2.2.2.2⟩⟩⟩⟩,hk.1.2.1⟩|((try (simp only [and_assoc] at hk));(repeat (obtain ⟨_,hk⟩:=hk));(repeat' apply And.intro)<;>assumption))) hg hat)
              have n8_:=Aside0.mk (Kd.V_afterv (ok:=(fun k_=>some k_≠(.slice Ao47 t422.length co47 : Value).ownBlock∧some k_≠(v452 : Value).ownBlock∧some k_≠(.slice Ao66 t459.length co66 : Value).ownBlock∧k_≠gb419∧k_≠gb420∧k_≠gb428)) (by (with_reducible repeat (first|apply Kd.V_alloc|apply Kd.V_drewN|apply Kd.V_drew));exact Kd.V_mono HO458.out (fun _ hk=>by first|exact ⟨⟨hk.1.1.1,⟨hk.1.2,⟨hk.2,⟨hk.1.1.2.2.1,⟨hk.1.1.2.2.2.1,hk.1.1.2.2.2.2⟩⟩⟩⟩⟩,hk.1.1.2.1⟩|((try (simp only [and_assoc] at hk));(repeat (obtain ⟨_,hk⟩:=hk));(repeat' apply And.intro)<;>assumption))) hg hat)
              have n9_:=Aside0.mk (hb)
              have n10_:=Aside0.mk (ho)
              clear BK419
              clear BK420
              clear HO424
              clear BK428
              clear HO431
              clear HO439
              clear HO450
              clear HO453
              clear HO458
              clear HB
              clear HO442
              clear HO461
              have BK419:=n0_
              have BK420:=n1_
              have HO424:=n2_
              have BK428:=n3_
              have HO431:=n4_
              have HO439:=n5_
              have HO450:=n6_
              have HO453:=n7_
              have HO458:=n8_
              have HB:=n9_
              have HO464:=n10_
              clear n0_ n1_ n2_ n3_ n4_ n5_ n6_ n7_ n8_ n9_ n10_
              clear ho hb hg hat
              refine hK.out _ _ ⟨(blk_cell BK428.out 0).trans rfl,(blk_cell BK428.out 1).trans rfl,(blk_cell BK428.out 2).trans rfl,(blk_cell BK428.out 3).trans rfl⟩ (fun hHeld=>?_)
              clear hK K
              refine norm_ (a':=?_) ?_ ?_
              rotate_left
              ·show Act.put _ (some 58) _=_
               simp only [Act.put,List.setIfInBounds_toArray,List.set_cons_zero,List.set_cons_succ,i64_w,i32_w]
               rfl
              refine pure_ (i:=9) (N:=some 12) (v:=?_) (a':=?_) #[true,true,true,true,true,true,true,true,true,true] rfl rfl (any_of HT_.out (by kernel_rfl)) (fun _ _ _ h=>h) (Or.inl ⟨by rfl,?_⟩) ?_ ?_
              rotate_left;(intro w';go_simp;with_reducible rfl);rotate_left;(simp only [Act.put,List.setIfInBounds_toArray,List.set_cons_zero,List.set_cons_succ,i64_w,i32_w];rfl)
              refine done_ (done_of HT_.out (by kernel_rfl)) ?_
              (try clear hHeld)
              try go_wp2
              have n0_:=Aside0.mk (Kd.R_drew HO424.out)
              have n1_:=Aside0.mk (Kd.N_drew HO431.out)
              have n2_:=Aside0.mk (Kd.V_drew HO439.out)
              have n3_:=Aside0.mk (Kd.V_drew HO450.out)
              have n4_:=Aside0.mk (Kd.N_drew HO453.out)
              have n5_:=Aside0.mk (Kd.V_drew HO458.out)
              have n6_:=Aside0.mk (Kd.N_drew HO464.out)
              have n7_:=Aside0.mk (blk_drew BK419.out)
              have n8_:=Aside0.mk (blk_drew BK420.out)
              have n9_:=Aside0.mk (blk_drew BK428.out)
              have n10_:=Aside0.mk (below_drew1 HB.out)
              clear HO424
              clear HO431
              clear HO439
              clear HO450
              clear HO453
              clear HO458
              clear HO464
              clear BK419
              clear BK420
              clear BK428
              clear HB
              have HO424:=n0_
              have HO431:=n1_
              have HO439:=n2_
              have HO450:=n3_
              have HO453:=n4_
              have HO458:=n5_
              have HO464:=n6_
              have BK419:=n7_
              have BK420:=n8_
              have BK428:=n9_
              have HB:=n10_
              clear n0_ n1_ n2_ n3_ n4_ n5_ n6_ n7_ n8_ n9_ n10_
              have q68 : ((ji26) : Int)≤((t429.length : Int) : Int):=of_decide_eq_true (by first|(with_reducible assumption)|assumption)
              obtain ⟨i068,hi068,_,hsz68,_⟩:=info_parts info28
              have hroom68 : t429.length≤co53:=(Kd.N_reads' HO431.out).2.1
              have hC68 : Kd.F (Kd.slice 33 (Kd.slice 31 k31)) _ _ Ao53 t429.length t429:=(Kd.V_at (base:=w.heap.size) (Kd.N_V HO431.out)).2.2
              have ql68 : ((ji9) : Int)≤((ji26) : Int):=of_decide_eq_true (by first|(with_reducible assumption)|assumption)
              have q068 : (0 : Int)≤((ji9) : Int):=of_decide_eq_true (by first|(with_reducible assumption)|assumption)
              (try clear hcut63);have hcut68:=cut_mid (P:=Try.prog) 27 28 .i64 .i64 Try.underlying27 hi068 1 hsz68 Ao53 t429.length co53 (ji9) (ji26) q068 ql68 q68 hroom68
              have hr68:=Kd.F_mid (lo:=((ji9) : Int).toNat) (hi:=((ji26) : Int).toNat) (c:=co53) hC68 (by omega) (by omega) hroom68
              obtain ⟨A68,hA68⟩ : ∃ Z_,Z_=(if co53=((ji9) : Int).toNat then Ao53 else (Ao53 : Option Addr).map (·.add (((ji9) : Int).toNat * 1))):=⟨_,rfl⟩
              obtain ⟨c68,hc68⟩ : ∃ z_,z_=co53 - ((ji9) : Int).toNat:=⟨_,rfl⟩
              have hy68 : y454.length=((ji26) : Int).toNat - ((ji9) : Int).toNat:=(by rw [Ny465.out,List.length_drop,List.length_take] <;> omega)
              rw [show ((t429).take ((ji26) : Int).toNat).drop ((ji9) : Int).toNat=y454 from Ny465.out.symm] at hr68
              replace hr68 : Kd.F (Kd.slice 33 (Kd.slice 31 k31)) _ _ A68 y454.length y454:=(by rw [hA68];exact hr68)
              rw [← hy68,← hA68,← hc68] at hcut68
              have HO469:=Aside0.mk (show Kd.V (Kd.slice 33 (Kd.slice 31 k31)) 28 _ w.heap.size _ (.slice A68 y454.length c68) y454 from Kd.V_mk (by rw [hy68,hc68];exact Nat.sub_le_sub_right (Nat.le_trans (by omega) hroom68) _) hr68)
              have HC469:=Aside0.mk (show y454.length≤c68 from by rw [hy68,hc68];exact Nat.sub_le_sub_right (Nat.le_trans (by omega) hroom68) _)
              clear hr68 hC68 hroom68 hi068 hsz68 hc68
              have KY68:=Aside0.mk hy68
              have KA68:=Aside0.mk hA68
              clear hy68 hA68
              replace q68:=eq_true q68
              refine start_ (n:=10) (S:=fun w'=>w'.cell? ⟨gb428,0,none⟩=some (.slice Ao47 t422.length co47)∧w'.cell? ⟨gb428,1,none⟩=some (.int .i64 t425)∧w'.cell? ⟨gb428,2,none⟩=some (.int .i64 t426)∧w'.cell? ⟨gb428,3,none⟩=some (.int .i64 t427)) (ds:=[]) #[false,false,false,false,false,false,false,false,false,false] (by kernel_rfl) rfl rfl ⟨(blk_cell BK428.out 0).trans rfl,(blk_cell BK428.out 1).trans rfl,(blk_cell BK428.out 2).trans rfl,(blk_cell BK428.out 3).trans rfl⟩ (fun hHeld=>?_);refine with_tabW thresherlaw14_MergeFirst.tab9 thresherlaw14_MergeFirst.bits9 (fun HT_ HW_=>?_)
              generalize w65.drew=w67 at HO424 HO431 HO439 HO450 HO453 HO458 HO464 BK419 BK420 BK428 HB HO469 hHeld ⊢
              refine pure_ (i:=0) (N:=some 59) (v:=?_) (a':=?_) #[true,false,false,false,false,false,false,false,false,false] rfl rfl (any_of HT_.out (by kernel_rfl)) (fun _ _ _ h=>h) (Or.inl ⟨by rfl,?_⟩) ?_ ?_
              rotate_left;(intro w';go_simp;with_reducible rfl);rotate_left;(simp only [Act.put,List.setIfInBounds_toArray,List.set_cons_zero,List.set_cons_succ,i64_w,i32_w];rfl)
              refine pure_ (i:=2) (N:=some 61) (v:=?_) (a':=?_) #[true,false,true,false,false,false,false,false,false,false] rfl rfl (any_of HT_.out (by kernel_rfl)) (fun _ _ _ h=>h) (Or.inl ⟨by rfl,?_⟩) ?_ ?_
              rotate_left;(intro w';go_simp;with_reducible rfl);rotate_left;(simp only [Act.put,List.setIfInBounds_toArray,List.set_cons_zero,List.set_cons_succ,i64_w,i32_w];rfl)
              refine pure_ (i:=3) (N:=some 62) (v:=?_) (a':=?_) #[true,false,true,true,false,false,false,false,false,false] rfl rfl (any_of HT_.out (by kernel_rfl)) (fun _ _ _ h=>h) (Or.inl ⟨by rfl,?_⟩) ?_ ?_
              rotate_left;(intro w';go_simp;with_reducible rfl);rotate_left;(simp only [Act.put,List.setIfInBounds_toArray,List.set_cons_zero,List.set_cons_succ,i64_w,i32_w];rfl)
              refine pure_ (i:=4) (N:=some 63) (v:=?_) (a':=?_) #[true,false,true,true,true,false,false,false,false,false] rfl rfl (any_of HT_.out (by kernel_rfl)) (fun _ _ _ h=>h) (Or.inl ⟨by rfl,?_⟩) ?_ ?_
              rotate_left;(intro w';go_simp;with_reducible rfl);rotate_left;(simp only [Act.put,List.setIfInBounds_toArray,List.set_cons_zero,List.set_cons_succ,i64_w,i32_w];rfl)
              refine pure_ (i:=5) (N:=some 64) (v:=?_) (a':=?_) #[true,false,true,true,true,true,false,false,false,false] rfl rfl (any_of HT_.out (by kernel_rfl)) (fun _ _ _ h=>h) (Or.inl ⟨by rfl,?_⟩) ?_ ?_
              rotate_left;(intro w';go_simp;with_reducible rfl);rotate_left;(simp only [Act.put,List.setIfInBounds_toArray,List.set_cons_zero,List.set_cons_succ,i64_w,i32_w];rfl)
              refine take_ (i:=1) (N:=some 60) (v:=?_) (a':=?_) #[true,true,true,true,true,true,false,false,false,false] rfl rfl (take_ofW HT_.out HW_.out (by kernel_rfl)) (fun _ _ _ h=>h) (Or.inl ⟨by rfl,?_⟩) hHeld ?_ ?_
              rotate_left;(rintro w' ⟨s0,s1,s2,s3⟩;go_simp;with_reducible rfl);rotate_left;(simp only [Act.put,List.setIfInBounds_toArray,List.set_cons_zero,List.set_cons_succ,i64_w,i32_w];rfl)
              refine one_ (i:=6) (N:=some 65) #[true,true,true,true,true,true,true,false,false,false] rfl rfl (one_of HT_.out (by kernel_rfl)) (by decide) (fun K hK=>?_)
              refine goes_ Try.func9 (by kernel_rfl) rfl #[.agg #[.slice Ao47 t422.length co47,.int .i64 t425,.int .i64 t426,.int .i64 t427],.slice A68 y454.length c68] (by rfl) rfl rfl (by (try simp only [List.map_toArray,List.map_cons,List.map_nil]);first|done|rfl|(simp only [List.length_drop,List.length_take];rfl)) ?_
              with_reducible refine (merge_Rows.calls k _ _ t422 t425 t426 t427 (fun k_=>((some k_≠(.slice Ao47 t422.length co47 : Value).ownBlock∧(some k_≠(v452 : Value).ownBlock∧(some k_≠(.slice Ao66 t459.length co66 : Value).ownBlock∧(k_≠gb419∧(k_≠gb420∧k_≠gb428)))))∧some k_≠(v463 : Value).ownBlock)) _ _ y454 t470 _ ?side1 ?side2 ?side3 A24.out).mono ?_
              (case side1=>repeat (first|exact (Kd.R_reads' HO424.out).2.2|(with_reducible refine Kd.C_alloc ?_ _)|(with_reducible refine Kd.C_drewN ?_ _)|(with_reducible refine Kd.C_drew ?_)))
              (case side2=>exact (Kd.R_reads' HO424.out).2.1)
              (case side3=>first|exact HO469.out|exact Kd.V_mono HO469.out (fun k_ hk_=>by ((try (simp only [and_assoc] at hk_));(repeat (obtain ⟨_,hk_⟩:=hk_));(repeat' apply And.intro)<;>assumption)))
              rintro e w69 ⟨v471,rfl,ho0,hb⟩
              refine ⟨_,rfl,?_⟩
              have n0_:=Aside0.mk (Kd.R_below (R_up HO424.out) hb)
              have n1_:=Aside0.mk (Kd.N_elder' (N_up HO431.out) (by first|exact Kd.N_base ho0|exact Kd.S_base ho0) hb)
              have n2_:=Aside0.mk (Kd.V_elder' (V_up HO439.out) (by first|exact Kd.N_base ho0|exact Kd.S_base ho0) hb)
              have n3_:=Aside0.mk (Kd.V_elder' (V_up HO450.out) (by first|exact Kd.N_base ho0|exact Kd.S_base ho0) hb)
              have n4_:=Aside0.mk (Kd.N_elder' (N_up HO453.out) (by first|exact Kd.N_base ho0|exact Kd.S_base ho0) hb)
              have n5_:=Aside0.mk (Kd.V_elder' (V_up HO458.out) (by first|exact Kd.N_base ho0|exact Kd.S_base ho0) hb)
              have n6_:=Aside0.mk (Kd.N_elder' (N_up HO464.out) (by first|exact Kd.N_base ho0|exact Kd.S_base ho0) hb)
              have n7_:=Aside0.mk (Kd.V_elder' (V_up HO469.out) (by first|exact Kd.N_base ho0|exact Kd.S_base ho0) hb)
              have n8_:=Aside0.mk (Kd.N_lower (Kd.N_mono (ok':=fun k_=>some k_≠(.slice Ao47 t422.length co47 : Value).ownBlock∧some k_≠(v452 : Value).ownBlock∧some k_≠(v463 : Value).ownBlock∧k_≠gb419∧k_≠gb420∧k_≠gb428) ho0 (fun k_ hk_=>⟨Or.elim hk_ (fun hs_=>hs_.1.1) (fun hn_=>(Kd.fresh' (Kd.R_lt (R_up HO424.out)) k_ hn_)),Or.elim hk_ (fun hs_=>hs_.1.2.1) (fun hn_=>(Kd.fresh' (Kd.N_lt (N_up HO453.out)) k_ hn_)),Or.elim hk_ (fun hs_=>hs_.2) (fun hn_=>(Kd.fresh' (Kd.N_lt (N_up HO464.out)) k_ hn_)),Or.elim hk_ (fun hs_=>hs_.1.2.2.2.1) (fun hn_=>(Kd.freshB (blk_up BK419.out) k_ hn_)),Or.elim hk_ (fun hs_=>hs_.1.2.2.2.2.1) (fun hn_=>(Kd.freshB (blk_up BK420.out) k_ hn_)),Or.elim hk_ (fun hs_=>hs_.1.2.2.2.2.2) (fun hn_=>(Kd.freshB (blk_up BK428.out) k_ hn_))⟩)) (below_size (below_go HB.out)))
              have n9_:=Aside0.mk (blk_below (blk_up BK419.out) hb)
              have n10_:=Aside0.mk (blk_below (blk_up BK420.out) hb)
              have n11_:=Aside0.mk (blk_below (blk_up BK428.out) hb)
              have n12_:=Aside0.mk (below_step (below_go HB.out) hb)
              clear HO424
              clear HO431
              clear HO439
              clear HO450
              clear HO453
              clear HO458
              clear HO464
              clear HO469
              clear BK419
              clear BK420
              clear BK428
              clear HB
              have HO424:=n0_
              have HO431:=n1_
              have HO439:=n2_
              have HO450:=n3_
              have HO453:=n4_
              have HO458:=n5_
              have HO464:=n6_
              have HO469:=n7_
              have HO472:=n8_
              have BK419:=n9_
              have BK420:=n10_
              have BK428:=n11_
              have HB:=n12_
              clear n0_ n1_ n2_ n3_ n4_ n5_ n6_ n7_ n8_ n9_ n10_ n11_ n12_
              (try clear hb)
              (try clear hb2)
              (try clear hk)
              (try clear hi)
              (try clear ho0)
              obtain ⟨Ao71,co71,eo71⟩:=Kd.N_slice HO472.out
              (first|subst eo71|(injection eo71 with f1_ f2_ f3_;have f4_:=f1_.symm;have f5_:=f3_.symm;clear f1_ f2_ f3_;subst f4_;subst f5_))
              refine hK.out _ _ ⟨(blk_cell BK428.out 0).trans rfl,(blk_cell BK428.out 1).trans rfl,(blk_cell BK428.out 2).trans rfl,(blk_cell BK428.out 3).trans rfl⟩ (fun hHeld=>?_)
              clear hK K
              refine norm_ (a':=?_) ?_ ?_
              rotate_left
              ·show Act.put _ (some 65) _=_
               simp only [Act.put,List.setIfInBounds_toArray,List.set_cons_zero,List.set_cons_succ,i64_w,i32_w]
               rfl
              refine one_ (i:=7) (N:=some 66) #[true,true,true,true,true,true,true,true,false,false] rfl rfl (one_of HT_.out (by kernel_rfl)) (by decide) (fun K hK=>?_)
              refine value_ (w1:=?_) (v:=?_) (by rfl) rfl ?_ ?_
              rotate_left 2
              ·go_simp
               constructor
               ·rfl
               ·rfl
              refine hK.out _ _ ⟨(blk_cell (blk_alloc BK428.out _) 0).trans rfl,(blk_cell (blk_alloc BK428.out _) 1).trans rfl,(blk_cell (blk_alloc BK428.out _) 2).trans rfl,(blk_cell (blk_alloc BK428.out _) 3).trans rfl⟩ (fun hHeld=>?_)
              clear hK K
              refine norm_ (a':=?_) ?_ ?_
              rotate_left
              ·show Act.put _ (some 66) _=_
               simp only [Act.put,List.setIfInBounds_toArray,List.set_cons_zero,List.set_cons_succ,i64_w,i32_w]
               rfl
              refine one_ (i:=8) (N:=some 67) #[true,true,true,true,true,true,true,true,true,false] rfl rfl (one_of HT_.out (by kernel_rfl)) (by decide) (fun K hK=>?_)
              refine Kd.N_append_step (Kd.slice 33 (Kd.slice 31 k31)) (w0:=w) w.heap.size (by rfl) (.tmp 59) (.tmp 66) 27 28 (.slice none 0 0) 24 rfl Try.underlying27 info28 rfl (by decide) (by omega) v452 y451 t470 [.slice Ao71 t470.length co71] (fun k_=>some k_≠(.slice Ao47 t422.length co47 : Value).ownBlock∧some k_≠(v463 : Value).ownBlock∧k_≠gb419∧k_≠gb420∧k_≠gb428) (fun k_=>((fun k_=>some k_≠(.slice Ao47 t422.length co47 : Value).ownBlock∧some k_≠(v463 : Value).ownBlock∧k_≠gb419∧k_≠gb420∧k_≠gb428)) k_∧some k_≠(v452 : Value).ownBlock) rfl rfl ?aP (fun _ hk=>hk) ?aF ?aO ?aB ?aS ?aL ?_
              (case aP=>exact (Kd.FK_slice_mk (Kd.N_reads' (Kd.N_mono (ok':=(fun k_=>((fun k_=>some k_≠(.slice Ao47 t422.length co47 : Value).ownBlock∧some k_≠(v463 : Value).ownBlock∧k_≠gb419∧k_≠gb420∧k_≠gb428)) k_∧some k_≠(v452 : Value).ownBlock)) (HO472.out) (fun k_ hk=>by first|exact ⟨⟨hk.1,⟨hk.2.2.1,⟨hk.2.2.2.1,⟨hk.2.2.2.2.1,hk.2.2.2.2.2⟩⟩⟩⟩,hk.2.1⟩|((try (simp only [and_assoc] at hk));(repeat (obtain ⟨_,hk⟩:=hk));(repeat' apply And.intro)<;>assumption)))).2.1 (Kd.N_F (Kd.N_mono (ok':=(fun k_=>((fun k_=>some k_≠(.slice Ao47 t422.length co47 : Value).ownBlock∧some k_≠(v463 : Value).ownBlock∧k_≠gb419∧k_≠gb420∧k_≠gb428)) k_∧some k_≠(v452 : Value).ownBlock)) (HO472.out) (fun k_ hk=>by first|exact ⟨⟨hk.1,⟨hk.2.2.1,⟨hk.2.2.2.1,⟨hk.2.2.2.2.1,hk.2.2.2.2.2⟩⟩⟩⟩,hk.2.1⟩|((try (simp only [and_assoc] at hk));(repeat (obtain ⟨_,hk⟩:=hk));(repeat' apply And.intro)<;>assumption))))))
              (case aB=>exact (below_go HB.out))
              (case aF=>exact (fun k_ hk=>⟨Kd.fresh' (Kd.R_lt (R_up HO424.out)) k_ hk,Kd.fresh' (Kd.N_lt (N_up HO464.out)) k_ hk,Kd.freshB (blk_up BK419.out) k_ hk,Kd.freshB (blk_up BK420.out) k_ hk,Kd.freshB (blk_up BK428.out) k_ hk⟩))
              (case aO=>exact (by (with_reducible repeat (first|apply Kd.N_alloc|apply Kd.N_drewN|apply Kd.N_drew));exact Kd.N_mono HO453.out (fun _ hk=>by first|exact ⟨hk.1.1.1,⟨hk.1.2,⟨hk.1.1.2.2.1,⟨hk.1.1.2.2.2.1,hk.1.1.2.2.2.2⟩⟩⟩⟩|((try (simp only [and_assoc] at hk));(repeat (obtain ⟨_,hk⟩:=hk));(repeat' apply And.intro)<;>assumption))))
              (case aS=>exact (below_size (below_go HB.out)))
              (case aL=>have:=LMc25.out;omega)
              intro v474 w70 ho hb hg hat
              rw [← Ny473.out] at ho
              have n0_:=Aside0.mk (blk_grown (blk_up BK419.out) hg (Kd.N_ne HO453.out BK419.out (by decide)))
              have n1_:=Aside0.mk (blk_grown (blk_up BK420.out) hg (Kd.N_ne HO453.out BK420.out (by decide)))
              have n2_:=Aside0.mk (Kd.R_over' (R_up HO424.out) (Kd.N_typed (N_up HO453.out)) (by decide) hg)
              have n3_:=Aside0.mk (blk_grown (blk_up BK428.out) hg (Kd.N_ne HO453.out BK428.out (by decide)))
              have n4_:=Aside0.mk (Kd.N_afterv (ok:=(fun k_=>some k_≠(.slice Ao47 t422.length co47 : Value).ownBlock∧some k_≠(v463 : Value).ownBlock∧some k_≠(.slice Ao71 t470.length co71 : Value).ownBlock∧k_≠gb419∧k_≠gb420∧k_≠gb428)) (by (with_reducible repeat (first|apply Kd.N_alloc|apply Kd.N_drewN|apply Kd.N_drew));exact Kd.N_mono HO431.out (fun _ hk=>by first|exact ⟨⟨hk.1.1.1,⟨hk.1.2,⟨hk.2,⟨hk.1.1.2.2.2.1,⟨hk.1.1.2.2.2.2.1,hk.1.1.2.2.2.2.2⟩⟩⟩⟩⟩,hk.1.1.2.1⟩|((try (simp only [and_assoc] at hk));(repeat (obtain ⟨_,hk⟩:=hk));(repeat' apply And.intro)<;>assumption))) hg hat)
              have n5_:=Aside0.mk (Kd.V_afterv (ok:=(fun k_=>some k_≠(.slice Ao47 t422.length co47 : Value).ownBlock∧some k_≠(v463 : Value).ownBlock∧some k_≠(.slice Ao71 t470.length co71 : Value).ownBlock∧k_≠gb419∧k_≠gb420∧k_≠gb428)) (by (with_reducible repeat (first|apply Kd.V_alloc|apply Kd.V_drewN|apply Kd.V_drew));exact Kd.V_mono HO439.out (fun _ hk=>by first|exact ⟨⟨hk.1.1.1,⟨hk.1.2,⟨hk.2,⟨hk.1.1.2.2.2.1,⟨hk.1.1.2.2.2.2.1,hk.1.1.2.2.2.2.2⟩⟩⟩⟩⟩,hk.1.1.2.1⟩|((try (simp only [and_assoc] at hk));(repeat (obtain ⟨_,hk⟩:=hk));(repeat' apply And.intro)<;>assumption))) hg hat)
              have n6_:=Aside0.mk (Kd.V_afterv (ok:=(fun k_=>some k_≠(.slice Ao47 t422.length co47 : Value).ownBlock∧some k_≠(v463 : Value).ownBlock∧some k_≠(.slice Ao71 t470.length co71 : Value).ownBlock∧k_≠gb419∧k_≠gb420∧k_≠gb428)) (by (with_reducible repeat (first|apply Kd.V_alloc|apply Kd.V_drewN|apply Kd.V_drew));exact Kd.V_mono HO450.out (fun _ hk=>by first|exact ⟨⟨hk.1.1.1,⟨hk.1.2,⟨hk.2,⟨hk.1.1.2.2.2.1,⟨hk.1.1.2.2.2.2.1,hk.1.1.2.2.2.2.2⟩⟩⟩⟩⟩,hk.1.1.2.1⟩|((try (simp only [and_assoc] at hk));(repeat (obtain ⟨_,hk⟩:=hk));(repeat' apply And.intro)<;>assumption))) hg hat)
              have n7_:=Aside0.mk (Kd.V_afterv (ok:=(fun k_=>some k_≠(.slice Ao47 t422.length co47 : Value).ownBlock∧some k_≠(v463 : Value).ownBlock∧some k_≠(.slice Ao71 t470.length co71 : Value).ownBlock∧k_≠gb419∧k_≠gb420∧k_≠gb428)) (by (with_reducible repeat (first|apply Kd.V_alloc|apply Kd.V_drewN|apply Kd.V_drew));exact Kd.V_mono HO458.out (fun _ hk=>by first|exact ⟨⟨hk.1.1.1,⟨hk.1.2,⟨hk.2,⟨hk.1.1.2.2.2.1,⟨hk.1.1.2.2.2.2.1,hk.1.1.2.2.2.2.2⟩⟩⟩⟩⟩,hk.1.1.2.1⟩|((try (simp only [and_assoc] at hk));(repeat (obtain ⟨_,hk⟩:=hk));(repeat' apply And.intro)<;>assumption))) hg hat)
              have n8_:=Aside0.mk (Kd.N_afterv (ok:=(fun k_=>some k_≠(.slice Ao47 t422.length co47 : Value).ownBlock∧some k_≠(.slice Ao71 t470.length co71 : Value).ownBlock∧k_≠gb419∧k_≠gb420∧k_≠gb428)) (by (with_reducible repeat (first|apply Kd.N_alloc|apply Kd.N_drewN|apply Kd.N_drew));exact Kd.N_mono HO464.out (fun _ hk=>by first|exact ⟨⟨hk.1.1,⟨hk.2,⟨hk.1.2.2.1,⟨hk.1.2.2.2.1,hk.1.2.2.2.2⟩⟩⟩⟩,hk.1.2.1⟩|((try (simp only [and_assoc] at hk));(repeat (obtain ⟨_,hk⟩:=hk));(repeat' apply And.intro)<;>assumption))) hg hat)
              have n9_:=Aside0.mk (Kd.V_afterv (ok:=(fun k_=>some k_≠(.slice Ao47 t422.length co47 : Value).ownBlock∧some k_≠(v463 : Value).ownBlock∧some k_≠(.slice Ao71 t470.length co71 : Value).ownBlock∧k_≠gb419∧k_≠gb420∧k_≠gb428)) (by (with_reducible repeat (first|apply Kd.V_alloc|apply Kd.V_drewN|apply Kd.V_drew));exact Kd.V_mono HO469.out (fun _ hk=>by first|exact ⟨⟨hk.1.1.1,⟨hk.1.2,⟨hk.2,⟨hk.1.1.2.2.2.1,⟨hk.1.1.2.2.2.2.1,hk.1.1.2.2.2.2.2⟩⟩⟩⟩⟩,hk.1.1.2.1⟩|((try (simp only [and_assoc] at hk));(repeat (obtain ⟨_,hk⟩:=hk));(repeat' apply And.intro)<;>assumption))) hg hat)
              have n10_:=Aside0.mk (hb)
              have n11_:=Aside0.mk (ho)
              clear BK419
              clear BK420
              clear HO424
              clear BK428
              clear HO431
              clear HO439
              clear HO450
              clear HO458
              clear HO464
              clear HO469
              clear HB
              clear HO453
              clear HO472
              have BK419:=n0_
              have BK420:=n1_
              have HO424:=n2_
              have BK428:=n3_
              have HO431:=n4_
              have HO439:=n5_
              have HO450:=n6_
              have HO458:=n7_
              have HO464:=n8_
              have HO469:=n9_
              have HB:=n10_
              have HO475:=n11_
              clear n0_ n1_ n2_ n3_ n4_ n5_ n6_ n7_ n8_ n9_ n10_ n11_
              clear ho hb hg hat
              refine hK.out _ _ ⟨(blk_cell BK428.out 0).trans rfl,(blk_cell BK428.out 1).trans rfl,(blk_cell BK428.out 2).trans rfl,(blk_cell BK428.out 3).trans rfl⟩ (fun hHeld=>?_)
              clear hK K
              refine norm_ (a':=?_) ?_ ?_
              rotate_left
              ·show Act.put _ (some 67) _=_
               simp only [Act.put,List.setIfInBounds_toArray,List.set_cons_zero,List.set_cons_succ,i64_w,i32_w]
               rfl
              refine pure_ (i:=9) (N:=some 13) (v:=?_) (a':=?_) #[true,true,true,true,true,true,true,true,true,true] rfl rfl (any_of HT_.out (by kernel_rfl)) (fun _ _ _ h=>h) (Or.inl ⟨by rfl,?_⟩) ?_ ?_
              rotate_left;(intro w';go_simp;with_reducible rfl);rotate_left;(simp only [Act.put,List.setIfInBounds_toArray,List.set_cons_zero,List.set_cons_succ,i64_w,i32_w];rfl)
              refine done_ (done_of HT_.out (by kernel_rfl)) ?_
              (try clear hHeld)
              have q72 : ((ji26) : Int)≤((t429.length : Int) : Int):=of_decide_eq_true (by first|(with_reducible assumption)|assumption)
              obtain ⟨i072,hi072,_,hsz72,_⟩:=info_parts info28
              have hroom72 : t429.length≤co53:=(Kd.N_reads' HO431.out).2.1
              have hC72 : Kd.F (Kd.slice 33 (Kd.slice 31 k31)) _ _ Ao53 t429.length t429:=(Kd.V_at (base:=w.heap.size) (Kd.N_V HO431.out)).2.2
              have q072 : (0 : Int)≤((ji26) : Int):=of_decide_eq_true (by first|(with_reducible assumption)|assumption)
              have hcut72:=cut_from (P:=Try.prog) 27 28 .i64 Try.underlying27 hi072 1 hsz72 Ao53 t429.length co53 (ji26) q072 q72
              have hr72:=Kd.F_cut (m:=((ji26) : Int).toNat) (c:=co53) hC72 (by omega) hroom72
              obtain ⟨A72,hA72⟩ : ∃ Z_,Z_=(if co53=((ji26) : Int).toNat then Ao53 else (Ao53 : Option Addr).map (·.add (((ji26) : Int).toNat * 1))):=⟨_,rfl⟩
              obtain ⟨c72,hc72⟩ : ∃ z_,z_=co53 - ((ji26) : Int).toNat:=⟨_,rfl⟩
              have hy72 : y476.length=t429.length - ((ji26) : Int).toNat:=(by rw [Ny476.out,List.length_drop] <;> omega)
              rw [show (t429).drop ((ji26) : Int).toNat=y476 from Ny476.out.symm] at hr72
              replace hr72 : Kd.F (Kd.slice 33 (Kd.slice 31 k31)) _ _ A72 y476.length y476:=(by rw [hA72];exact hr72)
              rw [← hy72,← hA72,← hc72] at hcut72
              have HO480:=Aside0.mk (show Kd.V (Kd.slice 33 (Kd.slice 31 k31)) 28 _ w.heap.size _ (.slice A72 y476.length c72) y476 from Kd.V_mk (by rw [hy72,hc72];exact Nat.sub_le_sub_right hroom72 _) hr72)
              have HC480:=Aside0.mk (show y476.length≤c72 from by rw [hy72,hc72];exact Nat.sub_le_sub_right hroom72 _)
              clear hr72 hC72 hroom72 hi072 hsz72 hc72
              have KY72:=Aside0.mk hy72
              have KA72:=Aside0.mk hA72
              clear hy72 hA72
              replace q72:=eq_true q72
              try go_wp2_with (first|((with_reducible refine gate_builtin (b:=.append) (xs:=#[.tmp 68,.tmp 71]) rfl ?_);at_builtin;refine Kd.N_append_rows (Kd.slice 33 (Kd.slice 31 k31)) (w0:=w) w.heap.size rfl (.tmp 68) (.tmp 71) 27 28 (.slice none 0 0) 24 rfl Try.underlying27 info28 rfl (by decide) (by omega) v463 y462 y476 _ _ _ (fun k_=>some k_≠(.slice Ao47 t422.length co47 : Value).ownBlock∧some k_≠(v474 : Value).ownBlock∧k_≠gb419∧k_≠gb420∧k_≠gb428) (fun k_=>((fun k_=>some k_≠(.slice Ao47 t422.length co47 : Value).ownBlock∧some k_≠(v474 : Value).ownBlock∧k_≠gb419∧k_≠gb420∧k_≠gb428)) k_∧some k_≠(v463 : Value).ownBlock) rfl rfl ?aO ?aR (fun _ hk=>hk) ?aF ?aB ?aS ?aL ?_;(case aR=>exact (by skip;exact Kd.V_F (Kd.V_mono (ok':=(fun k_=>((fun k_=>some k_≠(.slice Ao47 t422.length co47 : Value).ownBlock∧some k_≠(v474 : Value).ownBlock∧k_≠gb419∧k_≠gb420∧k_≠gb428)) k_∧some k_≠(v463 : Value).ownBlock)) (HO480.out) (fun k_ hk=>by first|exact ⟨⟨hk.1.1,⟨hk.2,⟨hk.1.2.2.2.1,⟨hk.1.2.2.2.2.1,hk.1.2.2.2.2.2⟩⟩⟩⟩,hk.1.2.1⟩|((try (simp only [and_assoc] at hk));(repeat (obtain ⟨_,hk⟩:=hk));(repeat' apply And.intro)<;>assumption)))));(case aB=>exact (below_go HB.out));(case aF=>exact (fun k_ hk=>⟨Kd.fresh' (Kd.R_lt (R_up HO424.out)) k_ hk,Kd.fresh' (Kd.N_lt (N_up HO475.out)) k_ hk,Kd.freshB (blk_up BK419.out) k_ hk,Kd.freshB (blk_up BK420.out) k_ hk,Kd.freshB (blk_up BK428.out) k_ hk⟩));(case aO=>exact (by (with_reducible repeat (first|apply Kd.N_alloc|apply Kd.N_drewN|apply Kd.N_drew));exact Kd.N_mono HO464.out (fun _ hk=>by first|exact ⟨hk.1.1,⟨hk.2,⟨hk.1.2.2.1,⟨hk.1.2.2.2.1,hk.1.2.2.2.2⟩⟩⟩⟩|((try (simp only [and_assoc] at hk));(repeat (obtain ⟨_,hk⟩:=hk));(repeat' apply And.intro)<;>assumption))));(case aS=>exact (below_size (below_go HB.out)));(case aL=>have:=LMc29.out;omega);intro v482 w73 ho hb hg hat;rw [← Ny481.out] at ho;have n0_:=Aside0.mk (blk_grown (blk_up BK419.out) hg (Kd.N_ne HO464.out BK419.out (by decide)));have n1_:=Aside0.mk (blk_grown (blk_up BK420.out) hg (Kd.N_ne HO464.out BK420.out (by decide)));have n2_:=Aside0.mk (Kd.R_over' (R_up HO424.out) (Kd.N_typed (N_up HO464.out)) (by decide) hg);have n3_:=Aside0.mk (blk_grown (blk_up BK428.out) hg (Kd.N_ne HO464.out BK428.out (by decide)));have n4_:=Aside0.mk (Kd.N_afterv (ok:=(fun k_=>some k_≠(.slice Ao47 t422.length co47 : Value).ownBlock∧some k_≠(v474 : Value).ownBlock∧k_≠gb419∧k_≠gb420∧k_≠gb428)) (by (with_reducible repeat (first|apply Kd.N_alloc|apply Kd.N_drewN|apply Kd.N_drew));exact Kd.N_mono HO431.out (fun _ hk=>by first|exact ⟨⟨hk.1.1,⟨hk.2,⟨hk.1.2.2.2.1,⟨hk.1.2.2.2.2.1,hk.1.2.2.2.2.2⟩⟩⟩⟩,hk.1.2.1⟩|((try (simp only [and_assoc] at hk));(repeat (obtain ⟨_,hk⟩:=hk));(repeat' apply And.intro)<;>assumption))) hg hat);have n5_:=Aside0.mk (Kd.V_afterv (ok:=(fun k_=>some k_≠(.slice Ao47 t422.length co47 : Value).ownBlock∧some k_≠(v474 : Value).ownBlock∧k_≠gb419∧k_≠gb420∧k_≠gb428)) (by (with_reducible repeat (first|apply Kd.V_alloc|apply Kd.V_drewN|apply Kd.V_drew));exact Kd.V_mono HO439.out (fun _ hk=>by first|exact ⟨⟨hk.1.1,⟨hk.2,⟨hk.1.2.2.2.1,⟨hk.1.2.2.2.2.1,hk.1.2.2.2.2.2⟩⟩⟩⟩,hk.1.2.1⟩|((try (simp only [and_assoc] at hk));(repeat (obtain ⟨_,hk⟩:=hk));(repeat' apply And.intro)<;>assumption))) hg hat);have n6_:=Aside0.mk (Kd.V_afterv (ok:=(fun k_=>some k_≠(.slice Ao47 t422.length co47 : Value).ownBlock∧some k_≠(v474 : Value).ownBlock∧k_≠gb419∧k_≠gb420∧k_≠gb428)) (by (with_reducible repeat (first|apply Kd.V_alloc|apply Kd.V_drewN|apply Kd.V_drew));exact Kd.V_mono HO450.out (fun _ hk=>by first|exact ⟨⟨hk.1.1,⟨hk.2,⟨hk.1.2.2.2.1,⟨hk.1.2.2.2.2.1,hk.1.2.2.2.2.2⟩⟩⟩⟩,hk.1.2.1⟩|((try (simp only [and_assoc] at hk));(repeat (obtain ⟨_,hk⟩:=hk));(repeat' apply And.intro)<;>assumption))) hg hat);have n7_:=Aside0.mk (Kd.V_afterv (ok:=(fun k_=>some k_≠(.slice Ao47 t422.length co47 : Value).ownBlock∧some k_≠(v474 : Value).ownBlock∧k_≠gb419∧k_≠gb420∧k_≠gb428)) (by (with_reducible repeat (first|apply Kd.V_alloc|apply Kd.V_drewN|apply Kd.V_drew));exact Kd.V_mono HO458.out (fun _ hk=>by first|exact ⟨⟨hk.1.1,⟨hk.2,⟨hk.1.2.2.2.1,⟨hk.1.2.2.2.2.1,hk.1.2.2.2.2.2⟩⟩⟩⟩,hk.1.2.1⟩|((try (simp only [and_assoc] at hk));(repeat (obtain ⟨_,hk⟩:=hk));(repeat' apply And.intro)<;>assumption))) hg hat);have n8_:=Aside0.mk (Kd.V_afterv (ok:=(fun k_=>some k_≠(.slice Ao47 t422.length co47 : Value).ownBlock∧some k_≠(v474 : Value).ownBlock∧k_≠gb419∧k_≠gb420∧k_≠gb428)) (by (with_reducible repeat (first|apply Kd.V_alloc|apply Kd.V_drewN|apply Kd.V_drew));exact Kd.V_mono HO469.out (fun _ hk=>by first|exact ⟨⟨hk.1.1,⟨hk.2,⟨hk.1.2.2.2.1,⟨hk.1.2.2.2.2.1,hk.1.2.2.2.2.2⟩⟩⟩⟩,hk.1.2.1⟩|((try (simp only [and_assoc] at hk));(repeat (obtain ⟨_,hk⟩:=hk));(repeat' apply And.intro)<;>assumption))) hg hat);have n9_:=Aside0.mk (Kd.N_afterv (ok:=(fun k_=>some k_≠(.slice Ao47 t422.length co47 : Value).ownBlock∧k_≠gb419∧k_≠gb420∧k_≠gb428)) (by (with_reducible repeat (first|apply Kd.N_alloc|apply Kd.N_drewN|apply Kd.N_drew));exact Kd.N_mono HO475.out (fun _ hk=>by first|exact ⟨⟨hk.1,⟨hk.2.2.1,⟨hk.2.2.2.1,hk.2.2.2.2⟩⟩⟩,hk.2.1⟩|((try (simp only [and_assoc] at hk));(repeat (obtain ⟨_,hk⟩:=hk));(repeat' apply And.intro)<;>assumption))) hg hat);have n10_:=Aside0.mk (Kd.V_afterv (ok:=(fun k_=>some k_≠(.slice Ao47 t422.length co47 : Value).ownBlock∧some k_≠(v474 : Value).ownBlock∧k_≠gb419∧k_≠gb420∧k_≠gb428)) (by (with_reducible repeat (first|apply Kd.V_alloc|apply Kd.V_drewN|apply Kd.V_drew));exact Kd.V_mono HO480.out (fun _ hk=>by first|exact ⟨⟨hk.1.1,⟨hk.2,⟨hk.1.2.2.2.1,⟨hk.1.2.2.2.2.1,hk.1.2.2.2.2.2⟩⟩⟩⟩,hk.1.2.1⟩|((try (simp only [and_assoc] at hk));(repeat (obtain ⟨_,hk⟩:=hk));(repeat' apply And.intro)<;>assumption))) hg hat);have n11_:=Aside0.mk (hb);have n12_:=Aside0.mk (ho);clear BK419;clear BK420;clear HO424;clear BK428;clear HO431;clear HO439;clear HO450;clear HO458;clear HO469;clear HO475;clear HO480;clear HB;clear HO464;have BK419:=n0_;have BK420:=n1_;have HO424:=n2_;have BK428:=n3_;have HO431:=n4_;have HO439:=n5_;have HO450:=n6_;have HO458:=n7_;have HO469:=n8_;have HO475:=n9_;have HO480:=n10_;have HB:=n11_;have HO483:=n12_;clear n0_ n1_ n2_ n3_ n4_ n5_ n6_ n7_ n8_ n9_ n10_ n11_ n12_;clear ho hb hg hat;have q74 : ((ji26) : Int)≤((t429.length : Int) : Int):=of_decide_eq_true (by first|(with_reducible assumption)|assumption);obtain ⟨i074,hi074,_,hsz74,_⟩:=info_parts info28;have hroom74 : t429.length≤co53:=(Kd.N_reads' HO431.out).2.1;have hC74 : Kd.F (Kd.slice 33 (Kd.slice 31 k31)) _ _ Ao53 t429.length t429:=(Kd.V_at (base:=w.heap.size) (Kd.N_V HO431.out)).2.2;have q074 : (0 : Int)≤((ji26) : Int):=of_decide_eq_true (by first|(with_reducible assumption)|assumption);(try clear hcut72);have hcut74:=cut_from (P:=Try.prog) 27 28 .i64 Try.underlying27 hi074 1 hsz74 Ao53 t429.length co53 (ji26) q074 q74;have hr74:=Kd.F_cut (m:=((ji26) : Int).toNat) (c:=co53) hC74 (by omega) hroom74;obtain ⟨A74,hA74⟩ : ∃ Z_,Z_=(if co53=((ji26) : Int).toNat then Ao53 else (Ao53 : Option Addr).map (·.add (((ji26) : Int).toNat * 1))):=⟨_,rfl⟩;obtain ⟨c74,hc74⟩ : ∃ z_,z_=co53 - ((ji26) : Int).toNat:=⟨_,rfl⟩;have hy74 : y476.length=t429.length - ((ji26) : Int).toNat:=(by rw [Ny484.out,List.length_drop] <;> omega);rw [show (t429).drop ((ji26) : Int).toNat=y476 from Ny484.out.symm] at hr74;replace hr74 : Kd.F (Kd.slice 33 (Kd.slice 31 k31)) _ _ A74 y476.length y476:=(by rw [hA74];exact hr74);rw [← hy74,← hA74,← hc74] at hcut74;have HO488:=Aside0.mk (show Kd.V (Kd.slice 33 (Kd.slice 31 k31)) 28 _ w.heap.size _ (.slice A74 y476.length c74) y476 from Kd.V_mk (by rw [hy74,hc74];exact Nat.sub_le_sub_right hroom74 _) hr74);have HC488:=Aside0.mk (show y476.length≤c74 from by rw [hy74,hc74];exact Nat.sub_le_sub_right hroom74 _);clear hr74 hC74 hroom74 hi074 hsz74 hc74;have KY74:=Aside0.mk hy74;have KA74:=Aside0.mk hA74;clear hy74 hA74;replace q74:=eq_true q74)|((with_reducible refine gate_builtin (b:=.append) (xs:=#[.tmp 73,.tmp 76]) rfl ?_);at_builtin;refine Kd.N_append_rows (Kd.slice 33 (Kd.slice 31 k31)) (w0:=w) w.heap.size rfl (.tmp 73) (.tmp 76) 27 28 (.slice none 0 0) 24 rfl Try.underlying27 info28 rfl (by decide) (by omega) v474 y473 y476 _ _ _ (fun k_=>some k_≠(.slice Ao47 t422.length co47 : Value).ownBlock∧some k_≠(v482 : Value).ownBlock∧k_≠gb419∧k_≠gb420∧k_≠gb428) (fun k_=>((fun k_=>some k_≠(.slice Ao47 t422.length co47 : Value).ownBlock∧some k_≠(v482 : Value).ownBlock∧k_≠gb419∧k_≠gb420∧k_≠gb428)) k_∧some k_≠(v474 : Value).ownBlock) rfl rfl ?aO ?aR (fun _ hk=>hk) ?aF ?aB ?aS ?aL ?_;(case aR=>exact (by skip;exact Kd.V_F (Kd.V_mono (ok':=(fun k_=>((fun k_=>some k_≠(.slice Ao47 t422.length co47 : Value).ownBlock∧some k_≠(v482 : Value).ownBlock∧k_≠gb419∧k_≠gb420∧k_≠gb428)) k_∧some k_≠(v474 : Value).ownBlock)) (HO488.out) (fun k_ hk=>by first|exact ⟨⟨hk.1.1,⟨hk.2,⟨hk.1.2.2.1,⟨hk.1.2.2.2.1,hk.1.2.2.2.2⟩⟩⟩⟩,hk.1.2.1⟩|((try (simp only [and_assoc] at hk));(repeat (obtain ⟨_,hk⟩:=hk));(repeat' apply And.intro)<;>assumption)))));(case aB=>exact (below_go HB.out));(case aF=>exact (fun k_ hk=>⟨Kd.fresh' (Kd.R_lt (R_up HO424.out)) k_ hk,Kd.fresh' (Kd.N_lt (N_up HO483.out)) k_ hk,Kd.freshB (blk_up BK419.out) k_ hk,Kd.freshB (blk_up BK420.out) k_ hk,Kd.freshB (blk_up BK428.out) k_ hk⟩));(case aO=>exact (by (with_reducible repeat (first|apply Kd.N_alloc|apply Kd.N_drewN|apply Kd.N_drew));exact Kd.N_mono HO475.out (fun _ hk=>by first|exact ⟨hk.1.1,⟨hk.2,⟨hk.1.2.1,⟨hk.1.2.2.1,hk.1.2.2.2⟩⟩⟩⟩|((try (simp only [and_assoc] at hk));(repeat (obtain ⟨_,hk⟩:=hk));(repeat' apply And.intro)<;>assumption))));(case aS=>exact (below_size (below_go HB.out)));(case aL=>have:=LMc32.out;omega);intro v490 w75 ho hb hg hat;rw [← Ny489.out] at ho;have n0_:=Aside0.mk (blk_grown (blk_up BK419.out) hg (Kd.N_ne HO475.out BK419.out (by decide)));have n1_:=Aside0.mk (blk_grown (blk_up BK420.out) hg (Kd.N_ne HO475.out BK420.out (by decide)));have n2_:=Aside0.mk (Kd.R_over' (R_up HO424.out) (Kd.N_typed (N_up HO475.out)) (by decide) hg);have n3_:=Aside0.mk (blk_grown (blk_up BK428.out) hg (Kd.N_ne HO475.out BK428.out (by decide)));have n4_:=Aside0.mk (Kd.N_afterv (ok:=(fun k_=>some k_≠(.slice Ao47 t422.length co47 : Value).ownBlock∧some k_≠(v482 : Value).ownBlock∧k_≠gb419∧k_≠gb420∧k_≠gb428)) (by (with_reducible repeat (first|apply Kd.N_alloc|apply Kd.N_drewN|apply Kd.N_drew));exact Kd.N_mono HO431.out (fun _ hk=>by first|exact ⟨⟨hk.1.1,⟨hk.2,⟨hk.1.2.2.1,⟨hk.1.2.2.2.1,hk.1.2.2.2.2⟩⟩⟩⟩,hk.1.2.1⟩|((try (simp only [and_assoc] at hk));(repeat (obtain ⟨_,hk⟩:=hk));(repeat' apply And.intro)<;>assumption))) hg hat);have n5_:=Aside0.mk (Kd.V_afterv (ok:=(fun k_=>some k_≠(.slice Ao47 t422.length co47 : Value).ownBlock∧some k_≠(v482 : Value).ownBlock∧k_≠gb419∧k_≠gb420∧k_≠gb428)) (by (with_reducible repeat (first|apply Kd.V_alloc|apply Kd.V_drewN|apply Kd.V_drew));exact Kd.V_mono HO439.out (fun _ hk=>by first|exact ⟨⟨hk.1.1,⟨hk.2,⟨hk.1.2.2.1,⟨hk.1.2.2.2.1,hk.1.2.2.2.2⟩⟩⟩⟩,hk.1.2.1⟩|((try (simp only [and_assoc] at hk));(repeat (obtain ⟨_,hk⟩:=hk));(repeat' apply And.intro)<;>assumption))) hg hat);have n6_:=Aside0.mk (Kd.V_afterv (ok:=(fun k_=>some k_≠(.slice Ao47 t422.length co47 : Value).ownBlock∧some k_≠(v482 : Value).ownBlock∧k_≠gb419∧k_≠gb420∧k_≠gb428)) (by (with_reducible repeat (first|apply Kd.V_alloc|apply Kd.V_drewN|apply Kd.V_drew));exact Kd.V_mono HO450.out (fun _ hk=>by first|exact ⟨⟨hk.1.1,⟨hk.2,⟨hk.1.2.2.1,⟨hk.1.2.2.2.1,hk.1.2.2.2.2⟩⟩⟩⟩,hk.1.2.1⟩|((try (simp only [and_assoc] at hk));(repeat (obtain ⟨_,hk⟩:=hk));(repeat' apply And.intro)<;>assumption))) hg hat);have n7_:=Aside0.mk (Kd.V_afterv (ok:=(fun k_=>some k_≠(.slice Ao47 t422.length co47 : Value).ownBlock∧some k_≠(v482 : Value).ownBlock∧k_≠gb419∧k_≠gb420∧k_≠gb428)) (by (with_reducible repeat (first|apply Kd.V_alloc|apply Kd.V_drewN|apply Kd.V_drew));exact Kd.V_mono HO458.out (fun _ hk=>by first|exact ⟨⟨hk.1.1,⟨hk.2,⟨hk.1.2.2.1,⟨hk.1.2.2.2.1,hk.1.2.2.2.2⟩⟩⟩⟩,hk.1.2.1⟩|((try (simp only [and_assoc] at hk));(repeat (obtain ⟨_,hk⟩:=hk));(repeat' apply And.intro)<;>assumption))) hg hat);have n8_:=Aside0.mk (Kd.V_afterv (ok:=(fun k_=>some k_≠(.slice Ao47 t422.length co47 : Value).ownBlock∧some k_≠(v482 : Value).ownBlock∧k_≠gb419∧k_≠gb420∧k_≠gb428)) (by (with_reducible repeat (first|apply Kd.V_alloc|apply Kd.V_drewN|apply Kd.V_drew));exact Kd.V_mono HO469.out (fun _ hk=>by first|exact ⟨⟨hk.1.1,⟨hk.2,⟨hk.1.2.2.1,⟨hk.1.2.2.2.1,hk.1.2.2.2.2⟩⟩⟩⟩,hk.1.2.1⟩|((try (simp only [and_assoc] at hk));(repeat (obtain ⟨_,hk⟩:=hk));(repeat' apply And.intro)<;>assumption))) hg hat);have n9_:=Aside0.mk (Kd.V_afterv (ok:=(fun k_=>some k_≠(.slice Ao47 t422.length co47 : Value).ownBlock∧some k_≠(v482 : Value).ownBlock∧k_≠gb419∧k_≠gb420∧k_≠gb428)) (by (with_reducible repeat (first|apply Kd.V_alloc|apply Kd.V_drewN|apply Kd.V_drew));exact Kd.V_mono HO480.out (fun _ hk=>by first|exact ⟨⟨hk.1.1,⟨hk.2,⟨hk.1.2.2.1,⟨hk.1.2.2.2.1,hk.1.2.2.2.2⟩⟩⟩⟩,hk.1.2.1⟩|((try (simp only [and_assoc] at hk));(repeat (obtain ⟨_,hk⟩:=hk));(repeat' apply And.intro)<;>assumption))) hg hat);have n10_:=Aside0.mk (Kd.N_afterv (ok:=(fun k_=>some k_≠(.slice Ao47 t422.length co47 : Value).ownBlock∧k_≠gb419∧k_≠gb420∧k_≠gb428)) (by (with_reducible repeat (first|apply Kd.N_alloc|apply Kd.N_drewN|apply Kd.N_drew));exact Kd.N_mono HO483.out (fun _ hk=>by first|exact ⟨⟨hk.1,⟨hk.2.2.1,⟨hk.2.2.2.1,hk.2.2.2.2⟩⟩⟩,hk.2.1⟩|((try (simp only [and_assoc] at hk));(repeat (obtain ⟨_,hk⟩:=hk));(repeat' apply And.intro)<;>assumption))) hg hat);have n11_:=Aside0.mk (Kd.V_afterv (ok:=(fun k_=>some k_≠(.slice Ao47 t422.length co47 : Value).ownBlock∧some k_≠(v482 : Value).ownBlock∧k_≠gb419∧k_≠gb420∧k_≠gb428)) (by (with_reducible repeat (first|apply Kd.V_alloc|apply Kd.V_drewN|apply Kd.V_drew));exact Kd.V_mono HO488.out (fun _ hk=>by first|exact ⟨⟨hk.1.1,⟨hk.2,⟨hk.1.2.2.1,⟨hk.1.2.2.2.1,hk.1.2.2.2.2⟩⟩⟩⟩,hk.1.2.1⟩|((try (simp only [and_assoc] at hk));(repeat (obtain ⟨_,hk⟩:=hk));(repeat' apply And.intro)<;>assumption))) hg hat);have n12_:=Aside0.mk (hb);have n13_:=Aside0.mk (ho);clear BK419;clear BK420;clear HO424;clear BK428;clear HO431;clear HO439;clear HO450;clear HO458;clear HO469;clear HO480;clear HO483;clear HO488;clear HB;clear HO475;have BK419:=n0_;have BK420:=n1_;have HO424:=n2_;have BK428:=n3_;have HO431:=n4_;have HO439:=n5_;have HO450:=n6_;have HO458:=n7_;have HO469:=n8_;have HO480:=n9_;have HO483:=n10_;have HO488:=n11_;have HB:=n12_;have HO491:=n13_;clear n0_ n1_ n2_ n3_ n4_ n5_ n6_ n7_ n8_ n9_ n10_ n11_ n12_ n13_;clear ho hb hg hat))
              have n0_:=Aside0.mk (Kd.R_drew HO424.out)
              have n1_:=Aside0.mk (Kd.N_drew HO431.out)
              have n2_:=Aside0.mk (Kd.V_drew HO439.out)
              have n3_:=Aside0.mk (Kd.V_drew HO450.out)
              have n4_:=Aside0.mk (Kd.V_drew HO458.out)
              have n5_:=Aside0.mk (Kd.V_drew HO469.out)
              have n6_:=Aside0.mk (Kd.V_drew HO480.out)
              have n7_:=Aside0.mk (Kd.N_drew HO483.out)
              have n8_:=Aside0.mk (Kd.V_drew HO488.out)
              have n9_:=Aside0.mk (Kd.N_drew HO491.out)
              have n10_:=Aside0.mk (blk_drew BK419.out)
              have n11_:=Aside0.mk (blk_drew BK420.out)
              have n12_:=Aside0.mk (blk_drew BK428.out)
              have n13_:=Aside0.mk (below_drew1 HB.out)
              clear HO424
              clear HO431
              clear HO439
              clear HO450
              clear HO458
              clear HO469
              clear HO480
              clear HO483
              clear HO488
              clear HO491
              clear BK419
              clear BK420
              clear BK428
              clear HB
              have HO424:=n0_
              have HO431:=n1_
              have HO439:=n2_
              have HO450:=n3_
              have HO458:=n4_
              have HO469:=n5_
              have HO480:=n6_
              have HO483:=n7_
              have HO488:=n8_
              have HO491:=n9_
              have BK419:=n10_
              have BK420:=n11_
              have BK428:=n12_
              have HB:=n13_
              clear n0_ n1_ n2_ n3_ n4_ n5_ n6_ n7_ n8_ n9_ n10_ n11_ n12_ n13_
              obtain ⟨Ao77,co77,eo77⟩:=Kd.N_slice HO483.out
              (first|subst eo77|(injection eo77 with f1_ f2_ f3_;have f4_:=f1_.symm;have f5_:=f3_.symm;clear f1_ f2_ f3_;subst f4_;subst f5_))
              refine start_ (n:=8) (S:=fun w'=>w'.cell? ⟨gb428,0,none⟩=some (.slice Ao47 t422.length co47)∧w'.cell? ⟨gb428,1,none⟩=some (.int .i64 t425)∧w'.cell? ⟨gb428,2,none⟩=some (.int .i64 t426)∧w'.cell? ⟨gb428,3,none⟩=some (.int .i64 t427)) (ds:=[]) #[false,false,false,false,false,false,false,false] (by kernel_rfl) rfl rfl ⟨(blk_cell BK428.out 0).trans rfl,(blk_cell BK428.out 1).trans rfl,(blk_cell BK428.out 2).trans rfl,(blk_cell BK428.out 3).trans rfl⟩ (fun hHeld=>?_);refine with_tabW thresherlaw14_MergeFirst.tab12 thresherlaw14_MergeFirst.bits12 (fun HT_ HW_=>?_)
              generalize w75.drew=w76 at HO424 HO431 HO439 HO450 HO458 HO469 HO480 HO483 HO488 HO491 BK419 BK420 BK428 HB hHeld ⊢
              refine pure_ (i:=1) (N:=some 79) (v:=?_) (a':=?_) #[false,true,false,false,false,false,false,false] rfl rfl (any_of HT_.out (by kernel_rfl)) (fun _ _ _ h=>h) (Or.inl ⟨by rfl,?_⟩) ?_ ?_
              rotate_left;(intro w';go_simp;with_reducible rfl);rotate_left;(simp only [Act.put,List.setIfInBounds_toArray,List.set_cons_zero,List.set_cons_succ,i64_w,i32_w];rfl)
              refine pure_ (i:=4) (N:=some 82) (v:=?_) (a':=?_) #[false,true,false,false,true,false,false,false] rfl rfl (any_of HT_.out (by kernel_rfl)) (fun _ _ _ h=>h) (Or.inl ⟨by rfl,?_⟩) ?_ ?_
              rotate_left;(intro w';go_simp;with_reducible rfl);rotate_left;(simp only [Act.put,List.setIfInBounds_toArray,List.set_cons_zero,List.set_cons_succ,i64_w,i32_w];rfl)
              refine take_ (i:=0) (N:=some 78) (v:=?_) (a':=?_) #[true,true,false,false,true,false,false,false] rfl rfl (take_ofW HT_.out HW_.out (by kernel_rfl)) (fun _ _ _ h=>h) (Or.inl ⟨by rfl,?_⟩) hHeld ?_ ?_
              rotate_left;(rintro w' ⟨s0,s1,s2,s3⟩;go_simp;with_reducible rfl);rotate_left;(simp only [Act.put,List.setIfInBounds_toArray,List.set_cons_zero,List.set_cons_succ,i64_w,i32_w];rfl)
              refine take_ (i:=3) (N:=some 81) (v:=?_) (a':=?_) #[true,true,false,true,true,false,false,false] rfl rfl (take_ofW HT_.out HW_.out (by kernel_rfl)) (fun _ _ _ h=>h) (Or.inl ⟨by rfl,?_⟩) hHeld ?_ ?_
              rotate_left;(rintro w' ⟨s0,s1,s2,s3⟩;go_simp;with_reducible rfl);rotate_left;(simp only [Act.put,List.setIfInBounds_toArray,List.set_cons_zero,List.set_cons_succ,i64_w,i32_w];rfl)
              refine one_ (i:=2) (N:=some 80) #[true,true,true,true,true,false,false,false] rfl rfl (one_of HT_.out (by kernel_rfl)) (by decide) (fun K hK=>?_)
              refine goes_ Try.func14 (by kernel_rfl) rfl #[.agg #[.slice Ao47 t422.length co47,.int .i64 t425,.int .i64 t426,.int .i64 t427],.slice Ao77 y481.length co77] (by rfl) rfl rfl (by (try simp only [List.map_toArray,List.map_cons,List.map_nil]);first|done|rfl|(simp only [List.length_drop,List.length_take];rfl)) ?_
              with_reducible refine (merge_Folded.calls k _ _ t422 t425 t426 t427 (fun k_=>((some k_≠(.slice Ao47 t422.length co47 : Value).ownBlock∧(k_≠gb419∧(k_≠gb420∧k_≠gb428)))∧some k_≠(v490 : Value).ownBlock)) _ _ y481 t492 _ ?side1 ?side2 ?side3 A33.out).mono ?_
              (case side1=>repeat (first|exact (Kd.R_reads' HO424.out).2.2|(with_reducible refine Kd.C_alloc ?_ _)|(with_reducible refine Kd.C_drewN ?_ _)|(with_reducible refine Kd.C_drew ?_)))
              (case side2=>exact (Kd.R_reads' HO424.out).2.1)
              (case side3=>first|exact Kd.N_V (HO483.out)|exact Kd.N_V (Kd.N_mono HO483.out (fun k_ hk_=>by ((try (simp only [and_assoc] at hk_));(repeat (obtain ⟨_,hk_⟩:=hk_));(repeat' apply And.intro)<;>assumption))))
              rintro e w78 ⟨v493,rfl,ho0,hb⟩
              refine ⟨_,rfl,?_⟩
              have n0_:=Aside0.mk (Kd.R_below (R_up HO424.out) hb)
              have n1_:=Aside0.mk (Kd.N_elder' (N_up HO431.out) (by first|exact Kd.N_base ho0|exact Kd.S_base ho0) hb)
              have n2_:=Aside0.mk (Kd.V_elder' (V_up HO439.out) (by first|exact Kd.N_base ho0|exact Kd.S_base ho0) hb)
              have n3_:=Aside0.mk (Kd.V_elder' (V_up HO450.out) (by first|exact Kd.N_base ho0|exact Kd.S_base ho0) hb)
              have n4_:=Aside0.mk (Kd.V_elder' (V_up HO458.out) (by first|exact Kd.N_base ho0|exact Kd.S_base ho0) hb)
              have n5_:=Aside0.mk (Kd.V_elder' (V_up HO469.out) (by first|exact Kd.N_base ho0|exact Kd.S_base ho0) hb)
              have n6_:=Aside0.mk (Kd.V_elder' (V_up HO480.out) (by first|exact Kd.N_base ho0|exact Kd.S_base ho0) hb)
              have n7_:=Aside0.mk (Kd.N_elder' (N_up HO483.out) (by first|exact Kd.N_base ho0|exact Kd.S_base ho0) hb)
              have n8_:=Aside0.mk (Kd.V_elder' (V_up HO488.out) (by first|exact Kd.N_base ho0|exact Kd.S_base ho0) hb)
              have n9_:=Aside0.mk (Kd.N_elder' (N_up HO491.out) (by first|exact Kd.N_base ho0|exact Kd.S_base ho0) hb)
              have n10_:=Aside0.mk (Kd.N_lower (Kd.N_mono (ok':=fun k_=>some k_≠(.slice Ao47 t422.length co47 : Value).ownBlock∧some k_≠(v490 : Value).ownBlock∧k_≠gb419∧k_≠gb420∧k_≠gb428) ho0 (fun k_ hk_=>⟨Or.elim hk_ (fun hs_=>hs_.1.1) (fun hn_=>(Kd.fresh' (Kd.R_lt (R_up HO424.out)) k_ hn_)),Or.elim hk_ (fun hs_=>hs_.2) (fun hn_=>(Kd.fresh' (Kd.N_lt (N_up HO491.out)) k_ hn_)),Or.elim hk_ (fun hs_=>hs_.1.2.1) (fun hn_=>(Kd.freshB (blk_up BK419.out) k_ hn_)),Or.elim hk_ (fun hs_=>hs_.1.2.2.1) (fun hn_=>(Kd.freshB (blk_up BK420.out) k_ hn_)),Or.elim hk_ (fun hs_=>hs_.1.2.2.2) (fun hn_=>(Kd.freshB (blk_up BK428.out) k_ hn_))⟩)) (below_size (below_go HB.out)))
              have n11_:=Aside0.mk (blk_below (blk_up BK419.out) hb)
              have n12_:=Aside0.mk (blk_below (blk_up BK420.out) hb)
              have n13_:=Aside0.mk (blk_below (blk_up BK428.out) hb)
              have n14_:=Aside0.mk (below_step (below_go HB.out) hb)
              clear HO424
              clear HO431
              clear HO439
              clear HO450
              clear HO458
              clear HO469
              clear HO480
              clear HO483
              clear HO488
              clear HO491
              clear BK419
              clear BK420
              clear BK428
              clear HB
              have HO424:=n0_
              have HO431:=n1_
              have HO439:=n2_
              have HO450:=n3_
              have HO458:=n4_
              have HO469:=n5_
              have HO480:=n6_
              have HO483:=n7_
              have HO488:=n8_
              have HO491:=n9_
              have HO494:=n10_
              have BK419:=n11_
              have BK420:=n12_
              have BK428:=n13_
              have HB:=n14_
              clear n0_ n1_ n2_ n3_ n4_ n5_ n6_ n7_ n8_ n9_ n10_ n11_ n12_ n13_ n14_
              (try clear hb)
              (try clear hb2)
              (try clear hk)
              (try clear hi)
              (try clear ho0)
              refine hK.out _ _ ⟨(blk_cell BK428.out 0).trans rfl,(blk_cell BK428.out 1).trans rfl,(blk_cell BK428.out 2).trans rfl,(blk_cell BK428.out 3).trans rfl⟩ (fun hHeld=>?_)
              clear hK K
              refine norm_ (a':=?_) ?_ ?_
              rotate_left
              ·show Act.put _ (some 80) _=_
               simp only [Act.put,List.setIfInBounds_toArray,List.set_cons_zero,List.set_cons_succ,i64_w,i32_w]
               rfl
              refine one_ (i:=5) (N:=some 83) #[true,true,true,true,true,true,false,false] rfl rfl (one_of HT_.out (by kernel_rfl)) (by decide) (fun K hK=>?_)
              refine goes_ Try.func14 (by kernel_rfl) rfl #[.agg #[.slice Ao47 t422.length co47,.int .i64 t425,.int .i64 t426,.int .i64 t427],.slice Ao53 t429.length co53] (by rfl) rfl rfl (by (try simp only [List.map_toArray,List.map_cons,List.map_nil]);first|done|rfl|(simp only [List.length_drop,List.length_take];rfl)) ?_
              with_reducible refine (merge_Folded.calls k _ _ t422 t425 t426 t427 (fun k_=>(((some k_≠(.slice Ao47 t422.length co47 : Value).ownBlock∧(some k_≠(.slice Ao77 y481.length co77 : Value).ownBlock∧(k_≠gb419∧(k_≠gb420∧k_≠gb428))))∧some k_≠(v490 : Value).ownBlock)∧some k_≠(v493 : Value).ownBlock)) _ _ t429 t495 _ ?side1 ?side2 ?side3 A34.out).mono ?_
              (case side1=>repeat (first|exact (Kd.R_reads' HO424.out).2.2|(with_reducible refine Kd.C_alloc ?_ _)|(with_reducible refine Kd.C_drewN ?_ _)|(with_reducible refine Kd.C_drew ?_)))
              (case side2=>exact (Kd.R_reads' HO424.out).2.1)
              (case side3=>first|exact Kd.N_V (HO431.out)|exact Kd.N_V (Kd.N_mono HO431.out (fun k_ hk_=>by ((try (simp only [and_assoc] at hk_));(repeat (obtain ⟨_,hk_⟩:=hk_));(repeat' apply And.intro)<;>assumption))))
              rintro e w79 ⟨v496,rfl,ho0,hb⟩
              refine ⟨_,rfl,?_⟩
              have n0_:=Aside0.mk (Kd.R_below (R_up HO424.out) hb)
              have n1_:=Aside0.mk (Kd.N_elder' (N_up HO431.out) (by first|exact Kd.N_base ho0|exact Kd.S_base ho0) hb)
              have n2_:=Aside0.mk (Kd.V_elder' (V_up HO439.out) (by first|exact Kd.N_base ho0|exact Kd.S_base ho0) hb)
              have n3_:=Aside0.mk (Kd.V_elder' (V_up HO450.out) (by first|exact Kd.N_base ho0|exact Kd.S_base ho0) hb)
              have n4_:=Aside0.mk (Kd.V_elder' (V_up HO458.out) (by first|exact Kd.N_base ho0|exact Kd.S_base ho0) hb)
              have n5_:=Aside0.mk (Kd.V_elder' (V_up HO469.out) (by first|exact Kd.N_base ho0|exact Kd.S_base ho0) hb)
              have n6_:=Aside0.mk (Kd.V_elder' (V_up HO480.out) (by first|exact Kd.N_base ho0|exact Kd.S_base ho0) hb)
              have n7_:=Aside0.mk (Kd.N_elder' (N_up HO483.out) (by first|exact Kd.N_base ho0|exact Kd.S_base ho0) hb)
              have n8_:=Aside0.mk (Kd.V_elder' (V_up HO488.out) (by first|exact Kd.N_base ho0|exact Kd.S_base ho0) hb)
              have n9_:=Aside0.mk (Kd.N_elder' (N_up HO491.out) (by first|exact Kd.N_base ho0|exact Kd.S_base ho0) hb)
              have n10_:=Aside0.mk (Kd.N_elder' (N_up HO494.out) (by first|exact Kd.N_base ho0|exact Kd.S_base ho0) hb)
              have n11_:=Aside0.mk (Kd.N_lower (Kd.N_mono (ok':=fun k_=>some k_≠(.slice Ao47 t422.length co47 : Value).ownBlock∧some k_≠(.slice Ao77 y481.length co77 : Value).ownBlock∧some k_≠(v490 : Value).ownBlock∧some k_≠(v493 : Value).ownBlock∧k_≠gb419∧k_≠gb420∧k_≠gb428) ho0 (fun k_ hk_=>⟨Or.elim hk_ (fun hs_=>hs_.1.1.1) (fun hn_=>(Kd.fresh' (Kd.R_lt (R_up HO424.out)) k_ hn_)),Or.elim hk_ (fun hs_=>hs_.1.1.2.1) (fun hn_=>(Kd.fresh' (Kd.N_lt (N_up HO483.out)) k_ hn_)),Or.elim hk_ (fun hs_=>hs_.1.2) (fun hn_=>(Kd.fresh' (Kd.N_lt (N_up HO491.out)) k_ hn_)),Or.elim hk_ (fun hs_=>hs_.2) (fun hn_=>(Kd.fresh' (Kd.N_lt (N_up HO494.out)) k_ hn_)),Or.elim hk_ (fun hs_=>hs_.1.1.2.2.1) (fun hn_=>(Kd.freshB (blk_up BK419.out) k_ hn_)),Or.elim hk_ (fun hs_=>hs_.1.1.2.2.2.1) (fun hn_=>(Kd.freshB (blk_up BK420.out) k_ hn_)),Or.elim hk_ (fun hs_=>hs_.1.1.2.2.2.2) (fun hn_=>(Kd.freshB (blk_up BK428.out) k_ hn_))⟩)) (below_size (below_go HB.out)))
              have n12_:=Aside0.mk (blk_below (blk_up BK419.out) hb)
              have n13_:=Aside0.mk (blk_below (blk_up BK420.out) hb)
              have n14_:=Aside0.mk (blk_below (blk_up BK428.out) hb)
              have n15_:=Aside0.mk (below_step (below_go HB.out) hb)
              clear HO424
              clear HO431
              clear HO439
              clear HO450
              clear HO458
              clear HO469
              clear HO480
              clear HO483
              clear HO488
              clear HO491
              clear HO494
              clear BK419
              clear BK420
              clear BK428
              clear HB
              have HO424:=n0_
              have HO431:=n1_
              have HO439:=n2_
              have HO450:=n3_
              have HO458:=n4_
              have HO469:=n5_
              have HO480:=n6_
              have HO483:=n7_
              have HO488:=n8_
              have HO491:=n9_
              have HO494:=n10_
              have HO497:=n11_
              have BK419:=n12_
              have BK420:=n13_
              have BK428:=n14_
              have HB:=n15_
              clear n0_ n1_ n2_ n3_ n4_ n5_ n6_ n7_ n8_ n9_ n10_ n11_ n12_ n13_ n14_ n15_
              (try clear hb)
              (try clear hb2)
              (try clear hk)
              (try clear hi)
              (try clear ho0)
              obtain ⟨Ao80,co80,eo80⟩:=Kd.N_slice HO494.out
              (first|subst eo80|(injection eo80 with f1_ f2_ f3_;have f4_:=f1_.symm;have f5_:=f3_.symm;clear f1_ f2_ f3_;subst f4_;subst f5_))
              obtain ⟨Ao81,co81,eo81⟩:=Kd.N_slice HO497.out
              (first|subst eo81|(injection eo81 with f1_ f2_ f3_;have f4_:=f1_.symm;have f5_:=f3_.symm;clear f1_ f2_ f3_;subst f4_;subst f5_))
              refine hK.out _ _ ⟨(blk_cell BK428.out 0).trans rfl,(blk_cell BK428.out 1).trans rfl,(blk_cell BK428.out 2).trans rfl,(blk_cell BK428.out 3).trans rfl⟩ (fun hHeld=>?_)
              clear hK K
              refine norm_ (a':=?_) ?_ ?_
              rotate_left
              ·show Act.put _ (some 83) _=_
               simp only [Act.put,List.setIfInBounds_toArray,List.set_cons_zero,List.set_cons_succ,i64_w,i32_w]
               rfl
              refine one_ (i:=6) (N:=some 84) #[true,true,true,true,true,true,true,false] rfl rfl (one_of HT_.out (by kernel_rfl)) (by decide) (fun K hK=>?_)
              refine goes_ Try.func12 (by kernel_rfl) rfl #[.slice Ao80 t492.length co80,.slice Ao81 t495.length co81] (by rfl) rfl rfl (by (try simp only [List.map_toArray,List.map_cons,List.map_nil]);first|done|rfl|(simp only [List.length_drop,List.length_take];rfl)) ?_
              with_reducible refine (thresherref04_Rows.calls k _ _ t492 _ _ t495 t498 _ ?side1 ?side2 ?side3 ?side4 A35.out).mono ?_
              (case side1=>repeat (first|exact (Kd.N_reads' HO494.out).2.2|(with_reducible refine Kd.C_alloc ?_ _)|(with_reducible refine Kd.C_drewN ?_ _)|(with_reducible refine Kd.C_drew ?_)))
              (case side2=>exact (Kd.N_reads' HO494.out).2.1)
              (case side3=>repeat (first|exact (Kd.N_reads' HO497.out).2.2|(with_reducible refine Kd.C_alloc ?_ _)|(with_reducible refine Kd.C_drewN ?_ _)|(with_reducible refine Kd.C_drew ?_)))
              (case side4=>exact (Kd.N_reads' HO497.out).2.1)
              rintro e w' ⟨rfl,⟨nd,rfl⟩⟩
              refine ⟨_,rfl,?_⟩
              refine hK.out _ _ ⟨(blk_cell BK428.out 0).trans rfl,(blk_cell BK428.out 1).trans rfl,(blk_cell BK428.out 2).trans rfl,(blk_cell BK428.out 3).trans rfl⟩ (fun hHeld=>?_)
              clear hK K
              refine norm_ (a':=?_) ?_ ?_
              rotate_left
              ·show Act.put _ (some 84) _=_
               simp only [Act.put,List.setIfInBounds_toArray,List.set_cons_zero,List.set_cons_succ,i64_w,i32_w]
               rfl
              refine pure_ (i:=7) (N:=some 14) (v:=?_) (a':=?_) #[true,true,true,true,true,true,true,true] rfl rfl (any_of HT_.out (by kernel_rfl)) (fun _ _ _ h=>h) (Or.inl ⟨by rfl,?_⟩) ?_ ?_
              rotate_left;(intro w';go_simp;with_reducible rfl);rotate_left;(simp only [Act.put,List.setIfInBounds_toArray,List.set_cons_zero,List.set_cons_succ,i64_w,i32_w];rfl)
              refine done_ (done_of HT_.out (by kernel_rfl)) ?_
              (try clear hHeld)
              try go_wp2
              (try (rw [drewN_self w79];generalize hq_ : World.drewN w79 _=w79;have n0_ : Aside0 (Kd.R (Kd.int .i64) 3 w79 w.heap.size (fun _=>True) (.slice Ao47 t422.length co47) t422):=⟨by rw [← hq_];exact (R_up HO424.out)⟩;have n1_ : Aside0 (Kd.N (Kd.slice 33 (Kd.slice 31 k31)) 28 w79 w.heap.size (fun k_=>some k_≠(.slice Ao47 t422.length co47 : Value).ownBlock∧some k_≠(.slice Ao77 y481.length co77 : Value).ownBlock∧some k_≠(v490 : Value).ownBlock∧some k_≠(.slice Ao80 t492.length co80 : Value).ownBlock∧some k_≠(.slice Ao81 t495.length co81 : Value).ownBlock∧k_≠gb419∧k_≠gb420∧k_≠gb428) (.slice Ao53 t429.length co53) t429):=⟨by rw [← hq_];exact (by (with_reducible repeat (first|apply Kd.N_alloc|apply Kd.N_drewN|apply Kd.N_drew));exact Kd.N_mono HO431.out (fun _ hk=>by first|exact ⟨hk.1.1.1.1,⟨hk.1.1.1.2.1,⟨hk.1.1.2,⟨hk.1.2,⟨hk.2,⟨hk.1.1.1.2.2.1,⟨hk.1.1.1.2.2.2.1,hk.1.1.1.2.2.2.2⟩⟩⟩⟩⟩⟩⟩|((try (simp only [and_assoc] at hk));(repeat (obtain ⟨_,hk⟩:=hk));(repeat' apply And.intro)<;>assumption)))⟩;have n2_ : Aside0 (Kd.V (Kd.slice 33 (Kd.slice 31 k31)) 28 w79 w.heap.size (fun k_=>some k_≠(.slice Ao47 t422.length co47 : Value).ownBlock∧some k_≠(.slice Ao77 y481.length co77 : Value).ownBlock∧some k_≠(v490 : Value).ownBlock∧some k_≠(.slice Ao80 t492.length co80 : Value).ownBlock∧some k_≠(.slice Ao81 t495.length co81 : Value).ownBlock∧k_≠gb419∧k_≠gb420∧k_≠gb428) (.slice Ao53 y435.length co53) y435):=⟨by rw [← hq_];exact (by (with_reducible repeat (first|apply Kd.V_alloc|apply Kd.V_drewN|apply Kd.V_drew));exact Kd.V_mono HO439.out (fun _ hk=>by first|exact ⟨hk.1.1.1.1,⟨hk.1.1.1.2.1,⟨hk.1.1.2,⟨hk.1.2,⟨hk.2,⟨hk.1.1.1.2.2.1,⟨hk.1.1.1.2.2.2.1,hk.1.1.1.2.2.2.2⟩⟩⟩⟩⟩⟩⟩|((try (simp only [and_assoc] at hk));(repeat (obtain ⟨_,hk⟩:=hk));(repeat' apply And.intro)<;>assumption)))⟩;have n3_ : Aside0 (Kd.V (Kd.slice 33 (Kd.slice 31 k31)) 28 w79 w.heap.size (fun k_=>some k_≠(.slice Ao47 t422.length co47 : Value).ownBlock∧some k_≠(.slice Ao77 y481.length co77 : Value).ownBlock∧some k_≠(v490 : Value).ownBlock∧some k_≠(.slice Ao80 t492.length co80 : Value).ownBlock∧some k_≠(.slice Ao81 t495.length co81 : Value).ownBlock∧k_≠gb419∧k_≠gb420∧k_≠gb428) (.slice Ao53 y435.length co53) y435):=⟨by rw [← hq_];exact (by (with_reducible repeat (first|apply Kd.V_alloc|apply Kd.V_drewN|apply Kd.V_drew));exact Kd.V_mono HO450.out (fun _ hk=>by first|exact ⟨hk.1.1.1.1,⟨hk.1.1.1.2.1,⟨hk.1.1.2,⟨hk.1.2,⟨hk.2,⟨hk.1.1.1.2.2.1,⟨hk.1.1.1.2.2.2.1,hk.1.1.1.2.2.2.2⟩⟩⟩⟩⟩⟩⟩|((try (simp only [and_assoc] at hk));(repeat (obtain ⟨_,hk⟩:=hk));(repeat' apply And.intro)<;>assumption)))⟩;have n4_ : Aside0 (Kd.V (Kd.slice 33 (Kd.slice 31 k31)) 28 w79 w.heap.size (fun k_=>some k_≠(.slice Ao47 t422.length co47 : Value).ownBlock∧some k_≠(.slice Ao77 y481.length co77 : Value).ownBlock∧some k_≠(v490 : Value).ownBlock∧some k_≠(.slice Ao80 t492.length co80 : Value).ownBlock∧some k_≠(.slice Ao81 t495.length co81 : Value).ownBlock∧k_≠gb419∧k_≠gb420∧k_≠gb428) (.slice A63 y454.length c63) y454):=⟨by rw [← hq_];exact (by (with_reducible repeat (first|apply Kd.V_alloc|apply Kd.V_drewN|apply Kd.V_drew));exact Kd.V_mono HO458.out (fun _ hk=>by first|exact ⟨hk.1.1.1.1,⟨hk.1.1.1.2.1,⟨hk.1.1.2,⟨hk.1.2,⟨hk.2,⟨hk.1.1.1.2.2.1,⟨hk.1.1.1.2.2.2.1,hk.1.1.1.2.2.2.2⟩⟩⟩⟩⟩⟩⟩|((try (simp only [and_assoc] at hk));(repeat (obtain ⟨_,hk⟩:=hk));(repeat' apply And.intro)<;>assumption)))⟩;have n5_ : Aside0 (Kd.V (Kd.slice 33 (Kd.slice 31 k31)) 28 w79 w.heap.size (fun k_=>some k_≠(.slice Ao47 t422.length co47 : Value).ownBlock∧some k_≠(.slice Ao77 y481.length co77 : Value).ownBlock∧some k_≠(v490 : Value).ownBlock∧some k_≠(.slice Ao80 t492.length co80 : Value).ownBlock∧some k_≠(.slice Ao81 t495.length co81 : Value).ownBlock∧k_≠gb419∧k_≠gb420∧k_≠gb428) (.slice A68 y454.length c68) y454):=⟨by rw [← hq_];exact (by (with_reducible repeat (first|apply Kd.V_alloc|apply Kd.V_drewN|apply Kd.V_drew));exact Kd.V_mono HO469.out (fun _ hk=>by first|exact ⟨hk.1.1.1.1,⟨hk.1.1.1.2.1,⟨hk.1.1.2,⟨hk.1.2,⟨hk.2,⟨hk.1.1.1.2.2.1,⟨hk.1.1.1.2.2.2.1,hk.1.1.1.2.2.2.2⟩⟩⟩⟩⟩⟩⟩|((try (simp only [and_assoc] at hk));(repeat (obtain ⟨_,hk⟩:=hk));(repeat' apply And.intro)<;>assumption)))⟩;have n6_ : Aside0 (Kd.V (Kd.slice 33 (Kd.slice 31 k31)) 28 w79 w.heap.size (fun k_=>some k_≠(.slice Ao47 t422.length co47 : Value).ownBlock∧some k_≠(.slice Ao77 y481.length co77 : Value).ownBlock∧some k_≠(v490 : Value).ownBlock∧some k_≠(.slice Ao80 t492.length co80 : Value).ownBlock∧some k_≠(.slice Ao81 t495.length co81 : Value).ownBlock∧k_≠gb419∧k_≠gb420∧k_≠gb428) (.slice A72 y476.length c72) y476):=⟨by rw [← hq_];exact (by (with_reducible repeat (first|apply Kd.V_alloc|apply Kd.V_drewN|apply Kd.V_drew));exact Kd.V_mono HO480.out (fun _ hk=>by first|exact ⟨hk.1.1.1.1,⟨hk.1.1.1.2.1,⟨hk.1.1.2,⟨hk.1.2,⟨hk.2,⟨hk.1.1.1.2.2.1,⟨hk.1.1.1.2.2.2.1,hk.1.1.1.2.2.2.2⟩⟩⟩⟩⟩⟩⟩|((try (simp only [and_assoc] at hk));(repeat (obtain ⟨_,hk⟩:=hk));(repeat' apply And.intro)<;>assumption)))⟩;have n7_ : Aside0 (Kd.N (Kd.slice 33 (Kd.slice 31 k31)) 28 w79 w.heap.size (fun k_=>some k_≠(.slice Ao47 t422.length co47 : Value).ownBlock∧some k_≠(v490 : Value).ownBlock∧some k_≠(.slice Ao80 t492.length co80 : Value).ownBlock∧some k_≠(.slice Ao81 t495.length co81 : Value).ownBlock∧k_≠gb419∧k_≠gb420∧k_≠gb428) (.slice Ao77 y481.length co77) y481):=⟨by rw [← hq_];exact (by (with_reducible repeat (first|apply Kd.N_alloc|apply Kd.N_drewN|apply Kd.N_drew));exact Kd.N_mono HO483.out (fun _ hk=>by first|exact ⟨hk.1.1.1.1,⟨hk.1.1.2,⟨hk.1.2,⟨hk.2,⟨hk.1.1.1.2.1,⟨hk.1.1.1.2.2.1,hk.1.1.1.2.2.2⟩⟩⟩⟩⟩⟩|((try (simp only [and_assoc] at hk));(repeat (obtain ⟨_,hk⟩:=hk));(repeat' apply And.intro)<;>assumption)))⟩;have n8_ : Aside0 (Kd.V (Kd.slice 33 (Kd.slice 31 k31)) 28 w79 w.heap.size (fun k_=>some k_≠(.slice Ao47 t422.length co47 : Value).ownBlock∧some k_≠(.slice Ao77 y481.length co77 : Value).ownBlock∧some k_≠(v490 : Value).ownBlock∧some k_≠(.slice Ao80 t492.length co80 : Value).ownBlock∧some k_≠(.slice Ao81 t495.length co81 : Value).ownBlock∧k_≠gb419∧k_≠gb420∧k_≠gb428) (.slice A74 y476.length c74) y476):=⟨by rw [← hq_];exact (by (with_reducible repeat (first|apply Kd.V_alloc|apply Kd.V_drewN|apply Kd.V_drew));exact Kd.V_mono HO488.out (fun _ hk=>by first|exact ⟨hk.1.1.1.1,⟨hk.1.1.1.2.1,⟨hk.1.1.2,⟨hk.1.2,⟨hk.2,⟨hk.1.1.1.2.2.1,⟨hk.1.1.1.2.2.2.1,hk.1.1.1.2.2.2.2⟩⟩⟩⟩⟩⟩⟩|((try (simp only [and_assoc] at hk));(repeat (obtain ⟨_,hk⟩:=hk));(repeat' apply And.intro)<;>assumption)))⟩;have n9_ : Aside0 (Kd.N (Kd.slice 33 (Kd.slice 31 k31)) 28 w79 w.heap.size (fun k_=>some k_≠(.slice Ao47 t422.length co47 : Value).ownBlock∧some k_≠(.slice Ao77 y481.length co77 : Value).ownBlock∧some k_≠(.slice Ao80 t492.length co80 : Value).ownBlock∧some k_≠(.slice Ao81 t495.length co81 : Value).ownBlock∧k_≠gb419∧k_≠gb420∧k_≠gb428) v490 y489):=⟨by rw [← hq_];exact (by (with_reducible repeat (first|apply Kd.N_alloc|apply Kd.N_drewN|apply Kd.N_drew));exact Kd.N_mono HO491.out (fun _ hk=>by first|exact ⟨hk.1.1.1,⟨hk.1.1.2.1,⟨hk.1.2,⟨hk.2,⟨hk.1.1.2.2.1,⟨hk.1.1.2.2.2.1,hk.1.1.2.2.2.2⟩⟩⟩⟩⟩⟩|((try (simp only [and_assoc] at hk));(repeat (obtain ⟨_,hk⟩:=hk));(repeat' apply And.intro)<;>assumption)))⟩;have n10_ : Aside0 (Kd.N (Kd.slice 31 k31) 33 w79 w.heap.size (fun k_=>some k_≠(.slice Ao47 t422.length co47 : Value).ownBlock∧some k_≠(v490 : Value).ownBlock∧some k_≠(.slice Ao81 t495.length co81 : Value).ownBlock∧k_≠gb419∧k_≠gb420∧k_≠gb428) (.slice Ao80 t492.length co80) t492):=⟨by rw [← hq_];exact (by (with_reducible repeat (first|apply Kd.N_alloc|apply Kd.N_drewN|apply Kd.N_drew));exact Kd.N_mono HO494.out (fun _ hk=>by first|exact ⟨hk.1.1,⟨hk.1.2.1,⟨hk.2,⟨hk.1.2.2.1,⟨hk.1.2.2.2.1,hk.1.2.2.2.2⟩⟩⟩⟩⟩|((try (simp only [and_assoc] at hk));(repeat (obtain ⟨_,hk⟩:=hk));(repeat' apply And.intro)<;>assumption)))⟩;have n11_ : Aside0 (Kd.N (Kd.slice 31 k31) 33 w79 w.heap.size (fun k_=>some k_≠(.slice Ao47 t422.length co47 : Value).ownBlock∧some k_≠(.slice Ao77 y481.length co77 : Value).ownBlock∧some k_≠(v490 : Value).ownBlock∧some k_≠(.slice Ao80 t492.length co80 : Value).ownBlock∧k_≠gb419∧k_≠gb420∧k_≠gb428) (.slice Ao81 t495.length co81) t495):=⟨by rw [← hq_];exact (N_up HO497.out)⟩;have n12_ : Aside0 (w79.heap[gb419]?=some (.cells #[.int .u8 a0_0,.int .u8 a0_1,.int .u8 a0_2,.int .u8 a0_3,.int .u8 a0_4,.int .u8 a0_5,.int .u8 a0_6,.int .u8 a0_7,.int .u8 a0_8,.int .u8 a0_9,.int .u8 a0_10,.int .u8 a0_11] 38 (0,0))):=⟨by rw [← hq_];exact (blk_up BK419.out)⟩;have n13_ : Aside0 (w79.heap[gb420]?=some (.cells #[.int .u8 a2_0,.int .u8 a2_1] 43 (0,0))):=⟨by rw [← hq_];exact (blk_up BK420.out)⟩;have n14_ : Aside0 (w79.heap[gb428]?=some (.cells #[.slice Ao47 t422.length co47,.int .i64 t425,.int .i64 t426,.int .i64 t427] 26 (0,0))):=⟨by rw [← hq_];exact (blk_up BK428.out)⟩;have n15_ : Aside0 (Below w.heap.size w w79):=⟨by rw [← hq_];exact (below_go HB.out)⟩;clear HO424 HO431 HO439 HO450 HO458 HO469 HO480 HO483 HO488 HO491 HO494 HO497 BK419 BK420 BK428 HB hq_;have HO424:=n0_;have HO431:=n1_;have HO439:=n2_;have HO450:=n3_;have HO458:=n4_;have HO469:=n5_;have HO480:=n6_;have HO483:=n7_;have HO488:=n8_;have HO491:=n9_;have HO494:=n10_;have HO497:=n11_;have BK419:=n12_;have BK420:=n13_;have BK428:=n14_;have HB:=n15_;clear n0_ n1_ n2_ n3_ n4_ n5_ n6_ n7_ n8_ n9_ n10_ n11_ n12_ n13_ n14_ n15_))
              have n0_:=Aside0.mk (Kd.R_drew HO424.out)
              have n1_:=Aside0.mk (Kd.N_drew HO431.out)
              have n2_:=Aside0.mk (Kd.V_drew HO439.out)
              have n3_:=Aside0.mk (Kd.V_drew HO450.out)
              have n4_:=Aside0.mk (Kd.V_drew HO458.out)
              have n5_:=Aside0.mk (Kd.V_drew HO469.out)
              have n6_:=Aside0.mk (Kd.V_drew HO480.out)
              have n7_:=Aside0.mk (Kd.N_drew HO483.out)
              have n8_:=Aside0.mk (Kd.V_drew HO488.out)
              have n9_:=Aside0.mk (Kd.N_drew HO491.out)
              have n10_:=Aside0.mk (Kd.N_drew HO494.out)
              have n11_:=Aside0.mk (Kd.N_drew HO497.out)
              have n12_:=Aside0.mk (blk_drew BK419.out)
              have n13_:=Aside0.mk (blk_drew BK420.out)
              have n14_:=Aside0.mk (blk_drew BK428.out)
              have n15_:=Aside0.mk (below_drew1 HB.out)
              clear HO424
              clear HO431
              clear HO439
              clear HO450
              clear HO458
              clear HO469
              clear HO480
              clear HO483
              clear HO488
              clear HO491
              clear HO494
              clear HO497
              clear BK419
              clear BK420
              clear BK428
              clear HB
              have HO424:=n0_
              have HO431:=n1_
              have HO439:=n2_
              have HO450:=n3_
              have HO458:=n4_
              have HO469:=n5_
              have HO480:=n6_
              have HO483:=n7_
              have HO488:=n8_
              have HO491:=n9_
              have HO494:=n10_
              have HO497:=n11_
              have BK419:=n12_
              have BK420:=n13_
              have BK428:=n14_
              have HB:=n15_
              clear n0_ n1_ n2_ n3_ n4_ n5_ n6_ n7_ n8_ n9_ n10_ n11_ n12_ n13_ n14_ n15_
              obtain ⟨Ao83,co83,eo83⟩:=Kd.N_slice HO491.out
              (first|subst eo83|(injection eo83 with f1_ f2_ f3_;have f4_:=f1_.symm;have f5_:=f3_.symm;clear f1_ f2_ f3_;subst f4_;subst f5_))
              refine start_ (n:=8) (S:=fun w'=>w'.cell? ⟨gb428,0,none⟩=some (.slice Ao47 t422.length co47)∧w'.cell? ⟨gb428,1,none⟩=some (.int .i64 t425)∧w'.cell? ⟨gb428,2,none⟩=some (.int .i64 t426)∧w'.cell? ⟨gb428,3,none⟩=some (.int .i64 t427)) (ds:=[]) #[false,false,false,false,false,false,false,false] (by kernel_rfl) rfl rfl ⟨(blk_cell BK428.out 0).trans rfl,(blk_cell BK428.out 1).trans rfl,(blk_cell BK428.out 2).trans rfl,(blk_cell BK428.out 3).trans rfl⟩ (fun hHeld=>?_);refine with_tabW thresherlaw14_MergeFirst.tab13 thresherlaw14_MergeFirst.bits13 (fun HT_ HW_=>?_)
              generalize w79.drew=w82 at HO424 HO431 HO439 HO450 HO458 HO469 HO480 HO483 HO488 HO491 HO494 HO497 BK419 BK420 BK428 HB hHeld ⊢
              refine pure_ (i:=1) (N:=some 86) (v:=?_) (a':=?_) #[false,true,false,false,false,false,false,false] rfl rfl (any_of HT_.out (by kernel_rfl)) (fun _ _ _ h=>h) (Or.inl ⟨by rfl,?_⟩) ?_ ?_
              rotate_left;(intro w';go_simp;with_reducible rfl);rotate_left;(simp only [Act.put,List.setIfInBounds_toArray,List.set_cons_zero,List.set_cons_succ,i64_w,i32_w];rfl)
              refine pure_ (i:=4) (N:=some 89) (v:=?_) (a':=?_) #[false,true,false,false,true,false,false,false] rfl rfl (any_of HT_.out (by kernel_rfl)) (fun _ _ _ h=>h) (Or.inl ⟨by rfl,?_⟩) ?_ ?_
              rotate_left;(intro w';go_simp;with_reducible rfl);rotate_left;(simp only [Act.put,List.setIfInBounds_toArray,List.set_cons_zero,List.set_cons_succ,i64_w,i32_w];rfl)
              refine take_ (i:=0) (N:=some 85) (v:=?_) (a':=?_) #[true,true,false,false,true,false,false,false] rfl rfl (take_ofW HT_.out HW_.out (by kernel_rfl)) (fun _ _ _ h=>h) (Or.inl ⟨by rfl,?_⟩) hHeld ?_ ?_
              rotate_left;(rintro w' ⟨s0,s1,s2,s3⟩;go_simp;with_reducible rfl);rotate_left;(simp only [Act.put,List.setIfInBounds_toArray,List.set_cons_zero,List.set_cons_succ,i64_w,i32_w];rfl)
              refine take_ (i:=3) (N:=some 88) (v:=?_) (a':=?_) #[true,true,false,true,true,false,false,false] rfl rfl (take_ofW HT_.out HW_.out (by kernel_rfl)) (fun _ _ _ h=>h) (Or.inl ⟨by rfl,?_⟩) hHeld ?_ ?_
              rotate_left;(rintro w' ⟨s0,s1,s2,s3⟩;go_simp;with_reducible rfl);rotate_left;(simp only [Act.put,List.setIfInBounds_toArray,List.set_cons_zero,List.set_cons_succ,i64_w,i32_w];rfl)
              refine one_ (i:=2) (N:=some 87) #[true,true,true,true,true,false,false,false] rfl rfl (one_of HT_.out (by kernel_rfl)) (by decide) (fun K hK=>?_)
              refine goes_ Try.func9 (by kernel_rfl) rfl #[.agg #[.slice Ao47 t422.length co47,.int .i64 t425,.int .i64 t426,.int .i64 t427],.slice Ao83 y489.length co83] (by rfl) rfl rfl (by (try simp only [List.map_toArray,List.map_cons,List.map_nil]);first|done|rfl|(simp only [List.length_drop,List.length_take];rfl)) ?_
              with_reducible refine (merge_Rows.calls k _ _ t422 t425 t426 t427 (fun k_=>(((some k_≠(.slice Ao47 t422.length co47 : Value).ownBlock∧(some k_≠(.slice Ao77 y481.length co77 : Value).ownBlock∧(k_≠gb419∧(k_≠gb420∧k_≠gb428))))∧some k_≠(.slice Ao80 t492.length co80 : Value).ownBlock)∧some k_≠(.slice Ao81 t495.length co81 : Value).ownBlock)) _ _ y489 t499 _ ?side1 ?side2 ?side3 A36.out).mono ?_
              (case side1=>repeat (first|exact (Kd.R_reads' HO424.out).2.2|(with_reducible refine Kd.C_alloc ?_ _)|(with_reducible refine Kd.C_drewN ?_ _)|(with_reducible refine Kd.C_drew ?_)))
              (case side2=>exact (Kd.R_reads' HO424.out).2.1)
              (case side3=>first|exact Kd.N_V (HO491.out)|exact Kd.N_V (Kd.N_mono HO491.out (fun k_ hk_=>by ((try (simp only [and_assoc] at hk_));(repeat (obtain ⟨_,hk_⟩:=hk_));(repeat' apply And.intro)<;>assumption))))
              rintro e w84 ⟨v500,rfl,ho0,hb⟩
              refine ⟨_,rfl,?_⟩
              have n0_:=Aside0.mk (Kd.R_below (R_up HO424.out) hb)
              have n1_:=Aside0.mk (Kd.N_elder' (N_up HO431.out) (by first|exact Kd.N_base ho0|exact Kd.S_base ho0) hb)
              have n2_:=Aside0.mk (Kd.V_elder' (V_up HO439.out) (by first|exact Kd.N_base ho0|exact Kd.S_base ho0) hb)
              have n3_:=Aside0.mk (Kd.V_elder' (V_up HO450.out) (by first|exact Kd.N_base ho0|exact Kd.S_base ho0) hb)
              have n4_:=Aside0.mk (Kd.V_elder' (V_up HO458.out) (by first|exact Kd.N_base ho0|exact Kd.S_base ho0) hb)
              have n5_:=Aside0.mk (Kd.V_elder' (V_up HO469.out) (by first|exact Kd.N_base ho0|exact Kd.S_base ho0) hb)
              have n6_:=Aside0.mk (Kd.V_elder' (V_up HO480.out) (by first|exact Kd.N_base ho0|exact Kd.S_base ho0) hb)
              have n7_:=Aside0.mk (Kd.N_elder' (N_up HO483.out) (by first|exact Kd.N_base ho0|exact Kd.S_base ho0) hb)
              have n8_:=Aside0.mk (Kd.V_elder' (V_up HO488.out) (by first|exact Kd.N_base ho0|exact Kd.S_base ho0) hb)
              have n9_:=Aside0.mk (Kd.N_elder' (N_up HO491.out) (by first|exact Kd.N_base ho0|exact Kd.S_base ho0) hb)
              have n10_:=Aside0.mk (Kd.N_elder' (N_up HO494.out) (by first|exact Kd.N_base ho0|exact Kd.S_base ho0) hb)
              have n11_:=Aside0.mk (Kd.N_elder' (N_up HO497.out) (by first|exact Kd.N_base ho0|exact Kd.S_base ho0) hb)
              have n12_:=Aside0.mk (Kd.N_lower (Kd.N_mono (ok':=fun k_=>some k_≠(.slice Ao47 t422.length co47 : Value).ownBlock∧some k_≠(.slice Ao77 y481.length co77 : Value).ownBlock∧some k_≠(.slice Ao80 t492.length co80 : Value).ownBlock∧some k_≠(.slice Ao81 t495.length co81 : Value).ownBlock∧k_≠gb419∧k_≠gb420∧k_≠gb428) ho0 (fun k_ hk_=>⟨Or.elim hk_ (fun hs_=>hs_.1.1.1) (fun hn_=>(Kd.fresh' (Kd.R_lt (R_up HO424.out)) k_ hn_)),Or.elim hk_ (fun hs_=>hs_.1.1.2.1) (fun hn_=>(Kd.fresh' (Kd.N_lt (N_up HO483.out)) k_ hn_)),Or.elim hk_ (fun hs_=>hs_.1.2) (fun hn_=>(Kd.fresh' (Kd.N_lt (N_up HO494.out)) k_ hn_)),Or.elim hk_ (fun hs_=>hs_.2) (fun hn_=>(Kd.fresh' (Kd.N_lt (N_up HO497.out)) k_ hn_)),Or.elim hk_ (fun hs_=>hs_.1.1.2.2.1) (fun hn_=>(Kd.freshB (blk_up BK419.out) k_ hn_)),Or.elim hk_ (fun hs_=>hs_.1.1.2.2.2.1) (fun hn_=>(Kd.freshB (blk_up BK420.out) k_ hn_)),Or.elim hk_ (fun hs_=>hs_.1.1.2.2.2.2) (fun hn_=>(Kd.freshB (blk_up BK428.out) k_ hn_))⟩)) (below_size (below_go HB.out)))
              have n13_:=Aside0.mk (blk_below (blk_up BK419.out) hb)
              have n14_:=Aside0.mk (blk_below (blk_up BK420.out) hb)
              have n15_:=Aside0.mk (blk_below (blk_up BK428.out) hb)
              have n16_:=Aside0.mk (below_step (below_go HB.out) hb)
              clear HO424
              clear HO431
              clear HO439
              clear HO450
              clear HO458
              clear HO469
              clear HO480
              clear HO483
              clear HO488
              clear HO491
              clear HO494
              clear HO497
              clear BK419
              clear BK420
              clear BK428
              clear HB
              have HO424:=n0_
              have HO431:=n1_
              have HO439:=n2_
              have HO450:=n3_
              have HO458:=n4_
              have HO469:=n5_
              have HO480:=n6_
              have HO483:=n7_
              have HO488:=n8_
              have HO491:=n9_
              have HO494:=n10_
              have HO497:=n11_
              have HO501:=n12_
              have BK419:=n13_
              have BK420:=n14_
              have BK428:=n15_
              have HB:=n16_
              clear n0_ n1_ n2_ n3_ n4_ n5_ n6_ n7_ n8_ n9_ n10_ n11_ n12_ n13_ n14_ n15_ n16_
              (try clear hb)
              (try clear hb2)
              (try clear hk)
              (try clear hi)
              (try clear ho0)
              refine hK.out _ _ ⟨(blk_cell BK428.out 0).trans rfl,(blk_cell BK428.out 1).trans rfl,(blk_cell BK428.out 2).trans rfl,(blk_cell BK428.out 3).trans rfl⟩ (fun hHeld=>?_)
              clear hK K
              refine norm_ (a':=?_) ?_ ?_
              rotate_left
              ·show Act.put _ (some 87) _=_
               simp only [Act.put,List.setIfInBounds_toArray,List.set_cons_zero,List.set_cons_succ,i64_w,i32_w]
               rfl
              refine one_ (i:=5) (N:=some 90) #[true,true,true,true,true,true,false,false] rfl rfl (one_of HT_.out (by kernel_rfl)) (by decide) (fun K hK=>?_)
              refine goes_ Try.func9 (by kernel_rfl) rfl #[.agg #[.slice Ao47 t422.length co47,.int .i64 t425,.int .i64 t426,.int .i64 t427],.slice Ao53 t429.length co53] (by rfl) rfl rfl (by (try simp only [List.map_toArray,List.map_cons,List.map_nil]);first|done|rfl|(simp only [List.length_drop,List.length_take];rfl)) ?_
              with_reducible refine (merge_Rows.calls k _ _ t422 t425 t426 t427 (fun k_=>(((((some k_≠(.slice Ao47 t422.length co47 : Value).ownBlock∧(some k_≠(.slice Ao77 y481.length co77 : Value).ownBlock∧(k_≠gb419∧(k_≠gb420∧k_≠gb428))))∧some k_≠(.slice Ao83 y489.length co83 : Value).ownBlock)∧some k_≠(.slice Ao80 t492.length co80 : Value).ownBlock)∧some k_≠(.slice Ao81 t495.length co81 : Value).ownBlock)∧some k_≠(v500 : Value).ownBlock)) _ _ t429 t502 _ ?side1 ?side2 ?side3 A37.out).mono ?_
              (case side1=>repeat (first|exact (Kd.R_reads' HO424.out).2.2|(with_reducible refine Kd.C_alloc ?_ _)|(with_reducible refine Kd.C_drewN ?_ _)|(with_reducible refine Kd.C_drew ?_)))
              (case side2=>exact (Kd.R_reads' HO424.out).2.1)
              (case side3=>first|exact Kd.N_V (HO431.out)|exact Kd.N_V (Kd.N_mono HO431.out (fun k_ hk_=>by ((try (simp only [and_assoc] at hk_));(repeat (obtain ⟨_,hk_⟩:=hk_));(repeat' apply And.intro)<;>assumption))))
              rintro e w85 ⟨v503,rfl,ho0,hb⟩
              refine ⟨_,rfl,?_⟩
              have n0_:=Aside0.mk (Kd.R_below (R_up HO424.out) hb)
              have n1_:=Aside0.mk (Kd.N_elder' (N_up HO431.out) (by first|exact Kd.N_base ho0|exact Kd.S_base ho0) hb)
              have n2_:=Aside0.mk (Kd.V_elder' (V_up HO439.out) (by first|exact Kd.N_base ho0|exact Kd.S_base ho0) hb)
              have n3_:=Aside0.mk (Kd.V_elder' (V_up HO450.out) (by first|exact Kd.N_base ho0|exact Kd.S_base ho0) hb)
              have n4_:=Aside0.mk (Kd.V_elder' (V_up HO458.out) (by first|exact Kd.N_base ho0|exact Kd.S_base ho0) hb)
              have n5_:=Aside0.mk (Kd.V_elder' (V_up HO469.out) (by first|exact Kd.N_base ho0|exact Kd.S_base ho0) hb)
              have n6_:=Aside0.mk (Kd.V_elder' (V_up HO480.out) (by first|exact Kd.N_base ho0|exact Kd.S_base ho0) hb)
              have n7_:=Aside0.mk (Kd.N_elder' (N_up HO483.out) (by first|exact Kd.N_base ho0|exact Kd.S_base ho0) hb)
              have n8_:=Aside0.mk (Kd.V_elder' (V_up HO488.out) (by first|exact Kd.N_base ho0|exact Kd.S_base ho0) hb)
              have n9_:=Aside0.mk (Kd.N_elder' (N_up HO491.out) (by first|exact Kd.N_base ho0|exact Kd.S_base ho0) hb)
              have n10_:=Aside0.mk (Kd.N_elder' (N_up HO494.out) (by first|exact Kd.N_base ho0|exact Kd.S_base ho0) hb)
              have n11_:=Aside0.mk (Kd.N_elder' (N_up HO497.out) (by first|exact Kd.N_base ho0|exact Kd.S_base ho0) hb)
              have n12_:=Aside0.mk (Kd.N_elder' (N_up HO501.out) (by first|exact Kd.N_base ho0|exact Kd.S_base ho0) hb)
              have n13_:=Aside0.mk (Kd.N_lower (Kd.N_mono (ok':=fun k_=>some k_≠(.slice Ao47 t422.length co47 : Value).ownBlock∧some k_≠(.slice Ao77 y481.length co77 : Value).ownBlock∧some k_≠(.slice Ao83 y489.length co83 : Value).ownBlock∧some k_≠(.slice Ao80 t492.length co80 : Value).ownBlock∧some k_≠(.slice Ao81 t495.length co81 : Value).ownBlock∧some k_≠(v500 : Value).ownBlock∧k_≠gb419∧k_≠gb420∧k_≠gb428) ho0 (fun k_ hk_=>⟨Or.elim hk_ (fun hs_=>hs_.1.1.1.1.1) (fun hn_=>(Kd.fresh' (Kd.R_lt (R_up HO424.out)) k_ hn_)),Or.elim hk_ (fun hs_=>hs_.1.1.1.1.2.1) (fun hn_=>(Kd.fresh' (Kd.N_lt (N_up HO483.out)) k_ hn_)),Or.elim hk_ (fun hs_=>hs_.1.1.1.2) (fun hn_=>(Kd.fresh' (Kd.N_lt (N_up HO491.out)) k_ hn_)),Or.elim hk_ (fun hs_=>hs_.1.1.2) (fun hn_=>(Kd.fresh' (Kd.N_lt (N_up HO494.out)) k_ hn_)),Or.elim hk_ (fun hs_=>hs_.1.2) (fun hn_=>(Kd.fresh' (Kd.N_lt (N_up HO497.out)) k_ hn_)),Or.elim hk_ (fun hs_=>hs_.2) (fun hn_=>(Kd.fresh' (Kd.N_lt (N_up HO501.out)) k_ hn_)),Or.elim hk_ (fun hs_=>hs_.1.1.1.1.2.2.1) (fun hn_=>(Kd.freshB (blk_up BK419.out) k_ hn_)),Or.elim hk_ (fun hs_=>hs_.1.1.1.1.2.2.2.1) (fun hn_=>(Kd.freshB (blk_up BK420.out) k_ hn_)),Or.elim hk_ (fun hs_=>hs_.1.1.1.1.2.2.2.2) (fun hn_=>(Kd.freshB (blk_up BK428.out) k_ hn_))⟩)) (below_size (below_go HB.out)))
              have n14_:=Aside0.mk (blk_below (blk_up BK419.out) hb)
              have n15_:=Aside0.mk (blk_below (blk_up BK420.out) hb)
              have n16_:=Aside0.mk (blk_below (blk_up BK428.out) hb)
              have n17_:=Aside0.mk (below_step (below_go HB.out) hb)
              clear HO424
              clear HO431
              clear HO439
              clear HO450
              clear HO458
              clear HO469
              clear HO480
              clear HO483
              clear HO488
              clear HO491
              clear HO494
              clear HO497
              clear HO501
              clear BK419
              clear BK420
              clear BK428
              clear HB
              have HO424:=n0_
              have HO431:=n1_
              have HO439:=n2_
              have HO450:=n3_
              have HO458:=n4_
              have HO469:=n5_
              have HO480:=n6_
              have HO483:=n7_
              have HO488:=n8_
              have HO491:=n9_
              have HO494:=n10_
              have HO497:=n11_
              have HO501:=n12_
              have HO504:=n13_
              have BK419:=n14_
              have BK420:=n15_
              have BK428:=n16_
              have HB:=n17_
              clear n0_ n1_ n2_ n3_ n4_ n5_ n6_ n7_ n8_ n9_ n10_ n11_ n12_ n13_ n14_ n15_ n16_ n17_
              (try clear hb)
              (try clear hb2)
              (try clear hk)
              (try clear hi)
              (try clear ho0)
              obtain ⟨Ao86,co86,eo86⟩:=Kd.N_slice HO501.out
              (first|subst eo86|(injection eo86 with f1_ f2_ f3_;have f4_:=f1_.symm;have f5_:=f3_.symm;clear f1_ f2_ f3_;subst f4_;subst f5_))
              obtain ⟨Ao87,co87,eo87⟩:=Kd.N_slice HO504.out
              (first|subst eo87|(injection eo87 with f1_ f2_ f3_;have f4_:=f1_.symm;have f5_:=f3_.symm;clear f1_ f2_ f3_;subst f4_;subst f5_))
              refine hK.out _ _ ⟨(blk_cell BK428.out 0).trans rfl,(blk_cell BK428.out 1).trans rfl,(blk_cell BK428.out 2).trans rfl,(blk_cell BK428.out 3).trans rfl⟩ (fun hHeld=>?_)
              clear hK K
              refine norm_ (a':=?_) ?_ ?_
              rotate_left
              ·show Act.put _ (some 90) _=_
               simp only [Act.put,List.setIfInBounds_toArray,List.set_cons_zero,List.set_cons_succ,i64_w,i32_w]
               rfl
              refine one_ (i:=6) (N:=some 91) #[true,true,true,true,true,true,true,false] rfl rfl (one_of HT_.out (by kernel_rfl)) (by decide) (fun K hK=>?_)
              refine goes_ Try.func12 (by kernel_rfl) rfl #[.slice Ao86 t499.length co86,.slice Ao87 t502.length co87] (by rfl) rfl rfl (by (try simp only [List.map_toArray,List.map_cons,List.map_nil]);first|done|rfl|(simp only [List.length_drop,List.length_take];rfl)) ?_
              with_reducible refine (thresherref04_Rows.calls k _ _ t499 _ _ t502 t505 _ ?side1 ?side2 ?side3 ?side4 A38.out).mono ?_
              (case side1=>repeat (first|exact (Kd.N_reads' HO501.out).2.2|(with_reducible refine Kd.C_alloc ?_ _)|(with_reducible refine Kd.C_drewN ?_ _)|(with_reducible refine Kd.C_drew ?_)))
              (case side2=>exact (Kd.N_reads' HO501.out).2.1)
              (case side3=>repeat (first|exact (Kd.N_reads' HO504.out).2.2|(with_reducible refine Kd.C_alloc ?_ _)|(with_reducible refine Kd.C_drewN ?_ _)|(with_reducible refine Kd.C_drew ?_)))
              (case side4=>exact (Kd.N_reads' HO504.out).2.1)
              rintro e w' ⟨rfl,⟨nd,rfl⟩⟩
              refine ⟨_,rfl,?_⟩
              refine hK.out _ _ ⟨(blk_cell BK428.out 0).trans rfl,(blk_cell BK428.out 1).trans rfl,(blk_cell BK428.out 2).trans rfl,(blk_cell BK428.out 3).trans rfl⟩ (fun hHeld=>?_)
              clear hK K
              refine norm_ (a':=?_) ?_ ?_
              rotate_left
              ·show Act.put _ (some 91) _=_
               simp only [Act.put,List.setIfInBounds_toArray,List.set_cons_zero,List.set_cons_succ,i64_w,i32_w]
               rfl
              refine pure_ (i:=7) (N:=some 15) (v:=?_) (a':=?_) #[true,true,true,true,true,true,true,true] rfl rfl (any_of HT_.out (by kernel_rfl)) (fun _ _ _ h=>h) (Or.inl ⟨by rfl,?_⟩) ?_ ?_
              rotate_left;(intro w';go_simp;with_reducible rfl);rotate_left;(simp only [Act.put,List.setIfInBounds_toArray,List.set_cons_zero,List.set_cons_succ,i64_w,i32_w];rfl)
              refine done_ (done_of HT_.out (by kernel_rfl)) ?_
              (try clear hHeld)
              go_upto_region 14 with (fail)
              go_cut [6] (fun v6 wc=>∃ (kq : Nat) (x6_38 : Bool),v6=.bool x6_38∧Aside0 (thresherlaw14_MergeFirst.j0 kq x6_38=some r)∧Aside0 (kq≤k)∧Aside0 (Kd.R (Kd.int .i64) 3 wc w.heap.size (fun _=>True) (.slice Ao47 t422.length co47) t422)∧Aside0 (wc.heap[gb419]?=some (.cells #[.int .u8 a0_0,.int .u8 a0_1,.int .u8 a0_2,.int .u8 a0_3,.int .u8 a0_4,.int .u8 a0_5,.int .u8 a0_6,.int .u8 a0_7,.int .u8 a0_8,.int .u8 a0_9,.int .u8 a0_10,.int .u8 a0_11] 38 (0,0)))∧Aside0 (wc.heap[gb420]?=some (.cells #[.int .u8 a2_0,.int .u8 a2_1] 43 (0,0)))∧Aside0 (wc.heap[gb428]?=some (.cells #[(.slice Ao47 t422.length co47),.int .i64 t425,.int .i64 t426,.int .i64 t427] 26 (0,0)))∧Aside0 (Below w.heap.size w wc))
              case first =>
               have H:=HC39.out
               clear HC39
               by_cases c88 : t421=true
               ·subst c88
                have H1 : (if t498=true then (thresherlaw14_MergeFirst.j0 k t505) else (thresherlaw14_MergeFirst.j0 k false))=some r:=by rw [if_pos rfl] at H;exact H
                clear H
                have H:=H1
                clear H1
                by_cases c89 : t498=true
                ·subst c89
                 have H1 : (thresherlaw14_MergeFirst.j0 k t505)=some r:=by rw [if_pos rfl] at H;exact H
                 clear H
                 have H:=H1
                 clear H1
                 have H':=Aside0.mk H
                 clear H
                 go_wp2
                 go_meet
                 case rel=>exact ⟨_,(t505),(by first|rfl|(simp;done)|(simp [*];done)),(by first|exact H'|(subst_vars;exact H')),⟨by first|omega|exact Nat.le_refl _⟩,⟨by (with_reducible repeat (first|apply Kd.R_alloc|apply Kd.R_drewN|apply Kd.R_drew));exact HO424.out⟩,⟨by (with_reducible repeat (first|refine blk_drewN ?_ _|refine blk_drew ?_|refine blk_alloc ?_ _));exact BK419.out⟩,⟨by (with_reducible repeat (first|refine blk_drewN ?_ _|refine blk_drew ?_|refine blk_alloc ?_ _));exact BK420.out⟩,⟨by (with_reducible repeat (first|refine blk_drewN ?_ _|refine blk_drew ?_|refine blk_alloc ?_ _));exact BK428.out⟩,⟨by repeat (first|(with_reducible first|exact HB.out|apply below_alloc|apply pw_below_drewN|apply below_drew1|refine below_set ?_ GE419.out|refine below_set ?_ GE420.out|refine below_set ?_ GE428.out)|exact HB.out)⟩⟩
                ·replace c89:=Bool.eq_false_iff.mpr c89
                 subst c89
                 have H1 : (thresherlaw14_MergeFirst.j0 k false)=some r:=by rw [if_neg (show ¬ (false=true) by decide)] at H;exact H
                 clear H
                 have H:=H1
                 clear H1
                 have H':=Aside0.mk H
                 clear H
                 go_wp2
                 go_meet
                 case rel=>exact ⟨_,(false),(by first|rfl|(simp;done)|(simp [*];done)),(by first|exact H'|(subst_vars;exact H')),⟨by first|omega|exact Nat.le_refl _⟩,⟨by (with_reducible repeat (first|apply Kd.R_alloc|apply Kd.R_drewN|apply Kd.R_drew));exact HO424.out⟩,⟨by (with_reducible repeat (first|refine blk_drewN ?_ _|refine blk_drew ?_|refine blk_alloc ?_ _));exact BK419.out⟩,⟨by (with_reducible repeat (first|refine blk_drewN ?_ _|refine blk_drew ?_|refine blk_alloc ?_ _));exact BK420.out⟩,⟨by (with_reducible repeat (first|refine blk_drewN ?_ _|refine blk_drew ?_|refine blk_alloc ?_ _));exact BK428.out⟩,⟨by repeat (first|(with_reducible first|exact HB.out|apply below_alloc|apply pw_below_drewN|apply below_drew1|refine below_set ?_ GE419.out|refine below_set ?_ GE420.out|refine below_set ?_ GE428.out)|exact HB.out)⟩⟩
               ·replace c88:=Bool.eq_false_iff.mpr c88
                subst c88
                have H1 : (thresherlaw14_MergeFirst.j0 k false)=some r:=by rw [if_neg (show ¬ (false=true) by decide)] at H;exact H
                clear H
                have H:=H1
                clear H1
                have H':=Aside0.mk H
                clear H
                go_wp2
                go_meet
                case rel=>exact ⟨_,(false),(by first|rfl|(simp;done)|(simp [*];done)),(by first|exact H'|(subst_vars;exact H')),⟨by first|omega|exact Nat.le_refl _⟩,⟨by (with_reducible repeat (first|apply Kd.R_alloc|apply Kd.R_drewN|apply Kd.R_drew));exact HO424.out⟩,⟨by (with_reducible repeat (first|refine blk_drewN ?_ _|refine blk_drew ?_|refine blk_alloc ?_ _));exact BK419.out⟩,⟨by (with_reducible repeat (first|refine blk_drewN ?_ _|refine blk_drew ?_|refine blk_alloc ?_ _));exact BK420.out⟩,⟨by (with_reducible repeat (first|refine blk_drewN ?_ _|refine blk_drew ?_|refine blk_alloc ?_ _));exact BK428.out⟩,⟨by repeat (first|(with_reducible first|exact HB.out|apply below_alloc|apply pw_below_drewN|apply below_drew1|refine below_set ?_ GE419.out|refine below_set ?_ GE420.out|refine below_set ?_ GE428.out)|exact HB.out)⟩⟩
              case rest =>
               clear HC39
               try clear c1
               try clear c2
               try clear p2
               try clear c3
               try clear c6
               try clear c7
               try clear q7
               try clear c8
               try clear c9
               try clear c12
               try clear c14
               try clear c29
               try clear c32
               try clear c63
               try clear c68
               try clear c72
               try clear q72
               try clear c74
               try clear q74
               try clear c88
               try clear c89
               try clear q072
               try clear q074
               try clear q72
               try clear q74
               obtain ⟨kq,x6_38,rfl,HA,HJ38,HO_429000,BK419,BK420,BK428,HB⟩:=hcut
               cases kq with
               | zero=>exact absurd HA.out (by simp [thresherlaw14_MergeFirst.j0])
               | succ kj38 =>
                have H:=HA.out
                clear HA
                simp only [thresherlaw14_MergeFirst.j0] at H
                obtain rfl:=Option.some.inj H
                go_wp2
                go_ret
                exact ⟨by first|rfl|(simp [errW_none,errW_some] <;> rfl)|(simp only [← hji9,← hji26];first|rfl|(simp [errW_none,errW_some] <;> rfl))|(simp [*,errW_none,errW_some] <;> rfl),by repeat (first|(with_reducible first|exact HB.out|apply below_alloc|apply pw_below_drewN|apply below_drew1|refine below_set ?_ GE419.out|refine below_set ?_ GE420.out|refine below_set ?_ GE428.out)|exact HB.out)⟩
             ·rw [if_neg c32] at H
              exact absurd H (by simp)
            ·rw [if_neg c29] at H
             exact absurd H (by simp)
           ·rw [if_neg c27] at H
            exact absurd H (by simp)
          ·rw [if_neg c25] at H
           exact absurd H (by simp)
         ·rw [if_neg c20] at H
          exact absurd H (by simp)
        ·rw [if_neg c18] at H
         exact absurd H (by simp)
       ·rw [if_neg c17] at H
        exact absurd H (by simp)
      ·rw [if_neg c15] at H
       exact absurd H (by simp)
     ·rw [if_neg c12] at H
      exact absurd H (by simp)
    ·rw [if_neg c11] at H
     exact absurd H (by simp)
   ·rw [if_neg c10] at H
    exact absurd H (by simp)
end Go.Proofs.Ytfiandejapgkoaa.P

