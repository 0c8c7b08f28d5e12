/- Texts of FoldLast. Merged: Px17. -/
import Derived.Test.YtmanchjamkpklaaQFoldLastPx0
import Derived.Test.YtmanchjamkpklaaQFoldLastPx1
import Derived.Test.YtmanchjamkpklaaQFoldLastPx4
import Derived.Test.YtmanchjamkpklaaQFoldLastPx5
import Derived.Test.YtmanchjamkpklaaQFoldLastPx6
import Derived.Test.YtmanchjamkpklaaQFoldLastPx8
import Derived.Test.YtmanchjamkpklaaQFoldLastPx9
import Derived.Test.YtmanchjamkpklaaQFoldLastPx10
namespace Go.Proofs.Ytmanchjamkpklaa.P
open Go.RowKit Go.Proofs.YtmanchjamkpklaaW.PrintWords Go.Proofs.YtmanchjamkpklaaW.PrintLast Go.Proofs.YtmanchjamkpklaaW.PrintMore
attribute [local go_sem] max2_int min2_int max_two min_two max_three min_three max_four min_four   -- for this text's walks alone
set_option linter.unusedVariables false
set_option linter.unusedSimpArgs false
attribute [local go_sem high] eqA45
mutual
def thresherlaw13_FoldLast.l0 : Nat→Bool→List (List (S45))→List (List (S45))→Int→List Int→Int→List Int→Int→Int→Int→Option (Bool)
 | 0,_,_,_,_,_,_,_,_,_,_=>none
 | k + 1,x5,x7,x8,x9,x10,x11,x473000,x473001,x473002,x473003=>if x11 < (x7.length : Int) then (thresherlaw13_FoldLast.l1 k x5 x7 x8 x9 x10 x11 0 x473000 x473001 x473002 x473003) else (if x5=true then (some (x9 == (x8.length : Int))) else (some false))
def thresherlaw13_FoldLast.l1 : Nat→Bool→List (List (S45))→List (List (S45))→Int→List Int→Int→Int→List Int→Int→Int→Int→Option (Bool)
 | 0,_,_,_,_,_,_,_,_,_,_,_=>none
 | k + 1,x5,x7,x8,x9,x10,x11,x12,x473000,x473001,x473002,x473003=>if x12 < (x10.length : Int) then (if 0≤x12 then (if 0≤x11 then (if x11 < (x7.length : Int) then (if x12 < ((rd_L5 x7 x11).length : Int) then (thresherlaw13_FoldLast.l1 k x5 x7 x8 x9 (x10.set (x12 : Int).toNat (wrap64 ((rd x10 x12) + ((rd_T45 (rd_L5 x7 x11) x12).f0)))) x11 (wrap64 (x12 + 1)) x473000 x473001 x473002 x473003) else (none)) else (none)) else (none)) else (none)) else (if (wrap64 (x11 + 1)) < (x7.length : Int) then (if 0≤x11 then (if x11 < (x7.length : Int) then (if 0≤(wrap64 (x11 + 1)) then ((thresherref04_Compare.f k x473000 x473001 x473002 x473003 (rd_L5 x7 x11) (rd_L5 x7 (wrap64 (x11 + 1)))).bind fun t491=>(thresherlaw13_FoldLast.j2 k x5 x7 x8 x9 x10 x11 (t491 == 0) x473000 x473001 x473002 x473003)) else (none)) else (none)) else (none)) else (thresherlaw13_FoldLast.j2 k x5 x7 x8 x9 x10 x11 false x473000 x473001 x473002 x473003))
def thresherlaw13_FoldLast.j2 : Nat→Bool→List (List (S45))→List (List (S45))→Int→List Int→Int→Bool→List Int→Int→Int→Int→Option (Bool)
 | 0,_,_,_,_,_,_,_,_,_,_,_=>none
 | k + 1,x5,x7,x8,x9,x10,x11,x87,x473000,x473001,x473002,x473003=>if x87=true then (thresherlaw13_FoldLast.l0 k x5 x7 x8 x9 x10 (wrap64 (x11 + 1)) x473000 x473001 x473002 x473003) else (if x9 ≥ (x8.length : Int) then (thresherlaw13_FoldLast.j3 k x5 x7 x8 x9 x10 x11 true x473000 x473001 x473002 x473003) else (if 0≤x9 then (if x9 < (x8.length : Int) then (thresherlaw13_FoldLast.j3 k x5 x7 x8 x9 x10 x11 (((rd_L5 x8 x9).length : Int) != (x473000.length : Int)) x473000 x473001 x473002 x473003) else (none)) else (none)))
def thresherlaw13_FoldLast.j3 : Nat→Bool→List (List (S45))→List (List (S45))→Int→List Int→Int→Bool→List Int→Int→Int→Int→Option (Bool)
 | 0,_,_,_,_,_,_,_,_,_,_,_=>none
 | k + 1,x5,x7,x8,x9,x10,x11,x102,x473000,x473001,x473002,x473003=>if x102=true then (some false) else (thresherlaw13_FoldLast.l2 k x5 x7 x8 x9 x10 x11 0 x473000 x473001 x473002 x473003)
def thresherlaw13_FoldLast.l2 : Nat→Bool→List (List (S45))→List (List (S45))→Int→List Int→Int→Int→List Int→Int→Int→Int→Option (Bool)
 | 0,_,_,_,_,_,_,_,_,_,_,_=>none
 | k + 1,x5,x7,x8,x9,x10,x11,x13,x473000,x473001,x473002,x473003=>if x13 < (x10.length : Int) then (if 0≤x11 then (if x11 < (x7.length : Int) then (if 0≤x13 then (if x13 < ((rd_L5 x7 x11).length : Int) then (if x473002=3 then (if x13 ≥ x473001 then (if x13 < (x473000.length : Int) then (thresherlaw13_FoldLast.j5 k x5 x7 x8 x9 x10 x11 x13 ((rd x473000 x13) != 3) x473000 x473001 x473002 x473003 ((rd_T45 (rd_L5 x7 x11) x13).f0) ((rd_T45 (rd_L5 x7 x11) x13).f1)) else (none)) else (thresherlaw13_FoldLast.j5 k x5 x7 x8 x9 x10 x11 x13 false x473000 x473001 x473002 x473003 ((rd_T45 (rd_L5 x7 x11) x13).f0) ((rd_T45 (rd_L5 x7 x11) x13).f1))) else (thresherlaw13_FoldLast.j5 k x5 x7 x8 x9 x10 x11 x13 false x473000 x473001 x473002 x473003 ((rd_T45 (rd_L5 x7 x11) x13).f0) ((rd_T45 (rd_L5 x7 x11) x13).f1))) else (none)) else (none)) else (none)) else (none)) else (if 0≤(x473000.length : Int) then (if ((x473000.length : Int) : Int).toNat≤35184372088832 then (thresherlaw13_FoldLast.l0 k x5 x7 x8 (wrap64 (x9 + 1)) (List.replicate ((x473000.length : Int) : Int).toNat 0) (wrap64 (x11 + 1)) x473000 x473001 x473002 x473003) else (none)) else (none))
def thresherlaw13_FoldLast.j5 : Nat→Bool→List (List (S45))→List (List (S45))→Int→List Int→Int→Int→Bool→List Int→Int→Int→Int→Int→ByteArray→Option (Bool)
 | 0,_,_,_,_,_,_,_,_,_,_,_,_,_,_=>none
 | k + 1,x5,x7,x8,x9,x10,x11,x13,x132,x473000,x473001,x473002,x473003,x499000,x499001=>if x132=true then (if 0≤x13 then (if x13 < (x10.length : Int) then (thresherlaw13_FoldLast.j6 k x5 x7 x8 x9 x10 x11 x13 x473000 x473001 x473002 x473003 (rd x10 x13) (⟨#[]⟩ : ByteArray)) else (none)) else (none)) else (thresherlaw13_FoldLast.j6 k x5 x7 x8 x9 x10 x11 x13 x473000 x473001 x473002 x473003 x499000 x499001)
def thresherlaw13_FoldLast.j6 : Nat→Bool→List (List (S45))→List (List (S45))→Int→List Int→Int→Int→List Int→Int→Int→Int→Int→ByteArray→Option (Bool)
 | 0,_,_,_,_,_,_,_,_,_,_,_,_,_=>none
 | k + 1,x5,x7,x8,x9,x10,x11,x13,x473000,x473001,x473002,x473003,x499000,x499001=>if 0≤x9 then (if x9 < (x8.length : Int) then (if 0≤x13 then (if x13 < ((rd_L5 x8 x9).length : Int) then (if (!(((rd_T45 (rd_L5 x8 x9) x13).f0) == x499000) || (!((((rd_T45 (rd_L5 x8 x9) x13).f1).toList) == x499001.toList)))=true then (some false) else (thresherlaw13_FoldLast.l2 k x5 x7 x8 x9 x10 x11 (wrap64 (x13 + 1)) x473000 x473001 x473002 x473003)) else (none)) else (none)) else (none)) else (none)
end
def thresherlaw13_FoldLast.f (k : Nat) (a0_0 : Int) (a0_1 : Int) (a0_2 : Int) (a0_3 : Int) (a0_4 : Int) (a0_5 : Int) (a0_6 : Int) (a0_7 : Int) (a0_8 : Int) (a0_9 : Int) (a0_10 : Int) (a0_11 : Int) (l1 : List (List (S45))) : Option (Bool):=(thresherlaw13_shown.f k).bind fun t465=>((thresherlaw13_made.f k a0_0 a0_1 a0_2 a0_3 a0_4 a0_5 a0_6 a0_7 a0_8 a0_9 a0_10 a0_11).bind fun bt466=>((thresherref04_Fits.f k bt466.1 bt466.2.1 bt466.2.2.1 bt466.2.2.2 l1 60).bind fun t473=>((thresherref09_Sort.f k bt466.1 bt466.2.1 bt466.2.2.1 bt466.2.2.2 t473).bind fun t476=>((fold_Rows.f k bt466.1 bt466.2.1 bt466.2.2.1 bt466.2.2.2 t476).bind fun t479=>(if bt466.2.2.1=1 then (if t465=true then (some ((t479.length : Int) == (t476.length : Int))) else (some false)) else (if 0≤(bt466.1.length : Int) then (if ((bt466.1.length : Int) : Int).toNat≤35184372088832 then (thresherlaw13_FoldLast.l0 k t465 t476 t479 0 (List.replicate ((bt466.1.length : Int) : Int).toNat 0) 0 bt466.1 bt466.2.1 bt466.2.2.1 bt466.2.2.2) else (none)) else (none)))))))
theorem thresherlaw13_FoldLast.mono_l : ∀ k,(∀ y0 y1 y2 y3 y4 y5 y6 y7 y8 y9,LeO (thresherlaw13_FoldLast.l0 k y0 y1 y2 y3 y4 y5 y6 y7 y8 y9) (thresherlaw13_FoldLast.l0 (k + 1) y0 y1 y2 y3 y4 y5 y6 y7 y8 y9))∧(∀ y0 y1 y2 y3 y4 y5 y6 y7 y8 y9 y10,LeO (thresherlaw13_FoldLast.l1 k y0 y1 y2 y3 y4 y5 y6 y7 y8 y9 y10) (thresherlaw13_FoldLast.l1 (k + 1) y0 y1 y2 y3 y4 y5 y6 y7 y8 y9 y10))∧(∀ y0 y1 y2 y3 y4 y5 y6 y7 y8 y9 y10,LeO (thresherlaw13_FoldLast.j2 k y0 y1 y2 y3 y4 y5 y6 y7 y8 y9 y10) (thresherlaw13_FoldLast.j2 (k + 1) y0 y1 y2 y3 y4 y5 y6 y7 y8 y9 y10))∧(∀ y0 y1 y2 y3 y4 y5 y6 y7 y8 y9 y10,LeO (thresherlaw13_FoldLast.j3 k y0 y1 y2 y3 y4 y5 y6 y7 y8 y9 y10) (thresherlaw13_FoldLast.j3 (k + 1) y0 y1 y2 y3 y4 y5 y6 y7 y8 y9 y10))∧(∀ y0 y1 y2 y3 y4 y5 y6 y7 y8 y9 y10,LeO (thresherlaw13_FoldLast.l2 k y0 y1 y2 y3 y4 y5 y6 y7 y8 y9 y10) (thresherlaw13_FoldLast.l2 (k + 1) y0 y1 y2 y3 y4 y5 y6 y7 y8 y9 y10))∧(∀ y0 y1 y2 y3 y4 y5 y6 y7 y8 y9 y10 y11 y12 y13,LeO (thresherlaw13_FoldLast.j5 k y0 y1 y2 y3 y4 y5 y6 y7 y8 y9 y10 y11 y12 y13) (thresherlaw13_FoldLast.j5 (k + 1) y0 y1 y2 y3 y4 y5 y6 y7 y8 y9 y10 y11 y12 y13))∧(∀ y0 y1 y2 y3 y4 y5 y6 y7 y8 y9 y10 y11 y12,LeO (thresherlaw13_FoldLast.j6 k y0 y1 y2 y3 y4 y5 y6 y7 y8 y9 y10 y11 y12) (thresherlaw13_FoldLast.j6 (k + 1) y0 y1 y2 y3 y4 y5 y6 y7 y8 y9 y10 y11 y12))
 | 0=>⟨fun _ _ _ _ _ _ _ _ _ _ r h=>by simp [thresherlaw13_FoldLast.l0] at h,fun _ _ _ _ _ _ _ _ _ _ _ r h=>by simp [thresherlaw13_FoldLast.l1] at h,fun _ _ _ _ _ _ _ _ _ _ _ r h=>by simp [thresherlaw13_FoldLast.j2] at h,fun _ _ _ _ _ _ _ _ _ _ _ r h=>by simp [thresherlaw13_FoldLast.j3] at h,fun _ _ _ _ _ _ _ _ _ _ _ r h=>by simp [thresherlaw13_FoldLast.l2] at h,fun _ _ _ _ _ _ _ _ _ _ _ _ _ _ r h=>by simp [thresherlaw13_FoldLast.j5] at h,fun _ _ _ _ _ _ _ _ _ _ _ _ _ r h=>by simp [thresherlaw13_FoldLast.j6] at h⟩
 | k + 1=>by
  obtain ⟨ih0,ih1,ih2,ih3,ih4,ih5,ih6⟩:=thresherlaw13_FoldLast.mono_l k
  refine ⟨?_,?_,?_,?_,?_,?_,?_⟩
  ·intro y0 y1 y2 y3 y4 y5 y6 y7 y8 y9
   unfold thresherlaw13_FoldLast.l0
   repeat' first
   | (with_reducible exact ih0 _ _ _ _ _ _ _ _ _ _)
   | (with_reducible exact ih1 _ _ _ _ _ _ _ _ _ _ _)
   | (with_reducible exact ih2 _ _ _ _ _ _ _ _ _ _ _)
   | (with_reducible exact ih3 _ _ _ _ _ _ _ _ _ _ _)
   | (with_reducible exact ih4 _ _ _ _ _ _ _ _ _ _ _)
   | (with_reducible exact ih5 _ _ _ _ _ _ _ _ _ _ _ _ _ _)
   | (with_reducible exact ih6 _ _ _ _ _ _ _ _ _ _ _ _ _)
   | (with_reducible exact fold_Rows.mono _ _ _ _ _ _)
   | (with_reducible exact thresherlaw13_made.mono _ _ _ _ _ _ _ _ _ _ _ _ _)
   | (with_reducible exact thresherlaw13_shown.mono _)
   | (with_reducible exact thresherref04_Compare.mono _ _ _ _ _ _ _)
   | (with_reducible exact thresherref04_Fits.mono _ _ _ _ _ _ _)
   | (with_reducible exact thresherref09_Sort.mono _ _ _ _ _ _)
   | (with_reducible exact LeO.refl _)
   | (with_reducible exact LeO.none _)
   | (with_reducible refine LeO.ite ?_ ?_)
   | (with_reducible refine LeO.bind ?_ (fun _=>?_))
   | exact ih0 _ _ _ _ _ _ _ _ _ _
   | exact ih1 _ _ _ _ _ _ _ _ _ _ _
   | exact ih2 _ _ _ _ _ _ _ _ _ _ _
   | exact ih3 _ _ _ _ _ _ _ _ _ _ _
   | exact ih4 _ _ _ _ _ _ _ _ _ _ _
   | exact ih5 _ _ _ _ _ _ _ _ _ _ _ _ _ _
   | exact ih6 _ _ _ _ _ _ _ _ _ _ _ _ _
   | exact fold_Rows.mono _ _ _ _ _ _
   | exact thresherlaw13_made.mono _ _ _ _ _ _ _ _ _ _ _ _ _
   | exact thresherlaw13_shown.mono _
   | exact thresherref04_Compare.mono _ _ _ _ _ _ _
   | exact thresherref04_Fits.mono _ _ _ _ _ _ _
   | exact thresherref09_Sort.mono _ _ _ _ _ _
   | exact LeO.none _
   | refine LeO.ite ?_ ?_
   | refine LeO.bind ?_ (fun _=>?_)
  ·intro y0 y1 y2 y3 y4 y5 y6 y7 y8 y9 y10
   unfold thresherlaw13_FoldLast.l1
   repeat' first
   | (with_reducible exact ih0 _ _ _ _ _ _ _ _ _ _)
   | (with_reducible exact ih1 _ _ _ _ _ _ _ _ _ _ _)
   | (with_reducible exact ih2 _ _ _ _ _ _ _ _ _ _ _)
   | (with_reducible exact ih3 _ _ _ _ _ _ _ _ _ _ _)
   | (with_reducible exact ih4 _ _ _ _ _ _ _ _ _ _ _)
   | (with_reducible exact ih5 _ _ _ _ _ _ _ _ _ _ _ _ _ _)
   | (with_reducible exact ih6 _ _ _ _ _ _ _ _ _ _ _ _ _)
   | (with_reducible exact fold_Rows.mono _ _ _ _ _ _)
   | (with_reducible exact thresherlaw13_made.mono _ _ _ _ _ _ _ _ _ _ _ _ _)
   | (with_reducible exact thresherlaw13_shown.mono _)
   | (with_reducible exact thresherref04_Compare.mono _ _ _ _ _ _ _)
   | (with_reducible exact thresherref04_Fits.mono _ _ _ _ _ _ _)
   | (with_reducible exact thresherref09_Sort.mono _ _ _ _ _ _)
   | (with_reducible exact LeO.refl _)
   | (with_reducible exact LeO.none _)
   | (with_reducible refine LeO.ite ?_ ?_)
   | (with_reducible refine LeO.bind ?_ (fun _=>?_))
   | exact ih0 _ _ _ _ _ _ _ _ _ _
   | exact ih1 _ _ _ _ _ _ _ _ _ _ _
   | exact ih2 _ _ _ _ _ _ _ _ _ _ _
   | exact ih3 _ _ _ _ _ _ _ _ _ _ _
   | exact ih4 _ _ _ _ _ _ _ _ _ _ _
   | exact ih5 _ _ _ _ _ _ _ _ _ _ _ _ _ _
   | exact ih6 _ _ _ _ _ _ _ _ _ _ _ _ _
   | exact fold_Rows.mono _ _ _ _ _ _
   | exact thresherlaw13_made.mono _ _ _ _ _ _ _ _ _ _ _ _ _
   | exact thresherlaw13_shown.mono _
   | exact thresherref04_Compare.mono _ _ _ _ _ _ _
   | exact thresherref04_Fits.mono _ _ _ _ _ _ _
   | exact thresherref09_Sort.mono _ _ _ _ _ _
   | exact LeO.none _
   | refine LeO.ite ?_ ?_
   | refine LeO.bind ?_ (fun _=>?_)
  ·intro y0 y1 y2 y3 y4 y5 y6 y7 y8 y9 y10
   unfold thresherlaw13_FoldLast.j2
   repeat' first
   | (with_reducible exact ih0 _ _ _ _ _ _ _ _ _ _)
   | (with_reducible exact ih1 _ _ _ _ _ _ _ _ _ _ _)
   | (with_reducible exact ih2 _ _ _ _ _ _ _ _ _ _ _)
   | (with_reducible exact ih3 _ _ _ _ _ _ _ _ _ _ _)
   | (with_reducible exact ih4 _ _ _ _ _ _ _ _ _ _ _)
   | (with_reducible exact ih5 _ _ _ _ _ _ _ _ _ _ _ _ _ _)
   | (with_reducible exact ih6 _ _ _ _ _ _ _ _ _ _ _ _ _)
   | (with_reducible exact fold_Rows.mono _ _ _ _ _ _)
   | (with_reducible exact thresherlaw13_made.mono _ _ _ _ _ _ _ _ _ _ _ _ _)
   | (with_reducible exact thresherlaw13_shown.mono _)
   | (with_reducible exact thresherref04_Compare.mono _ _ _ _ _ _ _)
   | (with_reducible exact thresherref04_Fits.mono _ _ _ _ _ _ _)
   | (with_reducible exact thresherref09_Sort.mono _ _ _ _ _ _)
   | (with_reducible exact LeO.refl _)
   | (with_reducible exact LeO.none _)
   | (with_reducible refine LeO.ite ?_ ?_)
   | (with_reducible refine LeO.bind ?_ (fun _=>?_))
   | exact ih0 _ _ _ _ _ _ _ _ _ _
   | exact ih1 _ _ _ _ _ _ _ _ _ _ _
   | exact ih2 _ _ _ _ _ _ _ _ _ _ _
   | exact ih3 _ _ _ _ _ _ _ _ _ _ _
   | exact ih4 _ _ _ _ _ _ _ _ _ _ _
   | exact ih5 _ _ _ _ _ _ _ _ _ _ _ _ _ _
   | exact ih6 _ _ _ _ _ _ _ _ _ _ _ _ _
   | exact fold_Rows.mono _ _ _ _ _ _
   | exact thresherlaw13_made.mono _ _ _ _ _ _ _ _ _ _ _ _ _
   | exact thresherlaw13_shown.mono _
   | exact thresherref04_Compare.mono _ _ _ _ _ _ _
   | exact thresherref04_Fits.mono _ _ _ _ _ _ _
   | exact thresherref09_Sort.mono _ _ _ _ _ _
   | exact LeO.none _
   | refine LeO.ite ?_ ?_
   | refine LeO.bind ?_ (fun _=>?_)
  ·intro y0 y1 y2 y3 y4 y5 y6 y7 y8 y9 y10
   unfold thresherlaw13_FoldLast.j3
   repeat' first
   | (with_reducible exact ih0 _ _ _ _ _ _ _ _ _ _)
   | (with_reducible exact ih1 _ _ _ _ _ _ _ _ _ _ _)
   | (with_reducible exact ih2 _ _ _ _ _ _ _ _ _ _ _)
   | (with_reducible exact ih3 _ _ _ _ _ _ _ _ _ _ _)
   | (with_reducible exact ih4 _ _ _ _ _ _ _ _ _ _ _)
   | (with_reducible exact ih5 _ _ _ _ _ _ _ _ _ _ _ _ _ _)
   | (with_reducible exact ih6 _ _ _ _ _ _ _ _ _ _ _ _ _)
   | (with_reducible exact fold_Rows.mono _ _ _ _ _ _)
   | (with_reducible exact thresherlaw13_made.mono _ _ _ _ _ _ _ _ _ _ _ _ _)
   | (with_reducible exact thresherlaw13_shown.mono _)
   | (with_reducible exact thresherref04_Compare.mono _ _ _ _ _ _ _)
   | (with_reducible exact thresherref04_Fits.mono _ _ _ _ _ _ _)
   | (with_reducible exact thresherref09_Sort.mono _ _ _ _ _ _)
   | (with_reducible exact LeO.refl _)
   | (with_reducible exact LeO.none _)
   | (with_reducible refine LeO.ite ?_ ?_)
   | (with_reducible refine LeO.bind ?_ (fun _=>?_))
   | exact ih0 _ _ _ _ _ _ _ _ _ _
   | exact ih1 _ _ _ _ _ _ _ _ _ _ _
   | exact ih2 _ _ _ _ _ _ _ _ _ _ _
   | exact ih3 _ _ _ _ _ _ _ _ _ _ _
   | exact ih4 _ _ _ _ _ _ _ _ _ _ _
   | exact ih5 _ _ _ _ _ _ _ _ _ _ _ _ _ _
   | exact ih6 _ _ _ _ _ _ _ _ _ _ _ _ _
   | exact fold_Rows.mono _ _ _ _ _ _
   | exact thresherlaw13_made.mono _ _ _ _ _ _ _ _ _ _ _ _ _
   | exact thresherlaw13_shown.mono _
   | exact thresherref04_Compare.mono _ _ _ _ _ _ _
   | exact thresherref04_Fits.mono _ _ _ _ _ _ _
   | exact thresherref09_Sort.mono _ _ _ _ _ _
   | exact LeO.none _
   | refine LeO.ite ?_ ?_
   | refine LeO.bind ?_ (fun _=>?_)
  ·intro y0 y1 y2 y3 y4 y5 y6 y7 y8 y9 y10
   unfold thresherlaw13_FoldLast.l2
   repeat' first
   | (with_reducible exact ih0 _ _ _ _ _ _ _ _ _ _)
   | (with_reducible exact ih1 _ _ _ _ _ _ _ _ _ _ _)
   | (with_reducible exact ih2 _ _ _ _ _ _ _ _ _ _ _)
   | (with_reducible exact ih3 _ _ _ _ _ _ _ _ _ _ _)
   | (with_reducible exact ih4 _ _ _ _ _ _ _ _ _ _ _)
   | (with_reducible exact ih5 _ _ _ _ _ _ _ _ _ _ _ _ _ _)
   | (with_reducible exact ih6 _ _ _ _ _ _ _ _ _ _ _ _ _)
   | (with_reducible exact fold_Rows.mono _ _ _ _ _ _)
   | (with_reducible exact thresherlaw13_made.mono _ _ _ _ _ _ _ _ _ _ _ _ _)
   | (with_reducible exact thresherlaw13_shown.mono _)
   | (with_reducible exact thresherref04_Compare.mono _ _ _ _ _ _ _)
   | (with_reducible exact thresherref04_Fits.mono _ _ _ _ _ _ _)
   | (with_reducible exact thresherref09_Sort.mono _ _ _ _ _ _)
   | (with_reducible exact LeO.refl _)
   | (with_reducible exact LeO.none _)
   | (with_reducible refine LeO.ite ?_ ?_)
   | (with_reducible refine LeO.bind ?_ (fun _=>?_))
   | exact ih0 _ _ _ _ _ _ _ _ _ _
   | exact ih1 _ _ _ _ _ _ _ _ _ _ _
   | exact ih2 _ _ _ _ _ _ _ _ _ _ _
   | exact ih3 _ _ _ _ _ _ _ _ _ _ _
   | exact ih4 _ _ _ _ _ _ _ _ _ _ _
   | exact ih5 _ _ _ _ _ _ _ _ _ _ _ _ _ _
   | exact ih6 _ _ _ _ _ _ _ _ _ _ _ _ _
   | exact fold_Rows.mono _ _ _ _ _ _
   | exact thresherlaw13_made.mono _ _ _ _ _ _ _ _ _ _ _ _ _
   | exact thresherlaw13_shown.mono _
   | exact thresherref04_Compare.mono _ _ _ _ _ _ _
   | exact thresherref04_Fits.mono _ _ _ _ _ _ _
   | exact thresherref09_Sort.mono _ _ _ _ _ _
   | exact LeO.none _
   | refine LeO.ite ?_ ?_
   | refine LeO.bind ?_ (fun _=>?_)
  ·intro y0 y1 y2 y3 y4 y5 y6 y7 y8 y9 y10 y11 y12 y13
   unfold thresherlaw13_FoldLast.j5
   repeat' first
   | (with_reducible exact ih0 _ _ _ _ _ _ _ _ _ _)
   | (with_reducible exact ih1 _ _ _ _ _ _ _ _ _ _ _)
   | (with_reducible exact ih2 _ _ _ _ _ _ _ _ _ _ _)
   | (with_reducible exact ih3 _ _ _ _ _ _ _ _ _ _ _)
   | (with_reducible exact ih4 _ _ _ _ _ _ _ _ _ _ _)
   | (with_reducible exact ih5 _ _ _ _ _ _ _ _ _ _ _ _ _ _)
   | (with_reducible exact ih6 _ _ _ _ _ _ _ _ _ _ _ _ _)
   | (with_reducible exact fold_Rows.mono _ _ _ _ _ _)
   | (with_reducible exact thresherlaw13_made.mono _ _ _ _ _ _ _ _ _ _ _ _ _)
   | (with_reducible exact thresherlaw13_shown.mono _)
   | (with_reducible exact thresherref04_Compare.mono _ _ _ _ _ _ _)
   | (with_reducible exact thresherref04_Fits.mono _ _ _ _ _ _ _)
   | (with_reducible exact thresherref09_Sort.mono _ _ _ _ _ _)
   | (with_reducible exact LeO.refl _)
   | (with_reducible exact LeO.none _)
   | (with_reducible refine LeO.ite ?_ ?_)
   | (with_reducible refine LeO.bind ?_ (fun _=>?_))
   | exact ih0 _ _ _ _ _ _ _ _ _ _
   | exact ih1 _ _ _ _ _ _ _ _ _ _ _
   | exact ih2 _ _ _ _ _ _ _ _ _ _ _
   | exact ih3 _ _ _ _ _ _ _ _ _ _ _
   | exact ih4 _ _ _ _ _ _ _ _ _ _ _
   | exact ih5 _ _ _ _ _ _ _ _ _ _ _ _ _ _
   | exact ih6 _ _ _ _ _ _ _ _ _ _ _ _ _
   | exact fold_Rows.mono _ _ _ _ _ _
   | exact thresherlaw13_made.mono _ _ _ _ _ _ _ _ _ _ _ _ _
   | exact thresherlaw13_shown.mono _
   | exact thresherref04_Compare.mono _ _ _ _ _ _ _
   | exact thresherref04_Fits.mono _ _ _ _ _ _ _
   | exact thresherref09_Sort.mono _ _ _ _ _ _
   | exact LeO.none _
   | refine LeO.ite ?_ ?_
   | refine LeO.bind ?_ (fun _=>?_)
  ·intro y0 y1 y2 y3 y4 y5 y6 y7 y8 y9 y10 y11 y12
   unfold thresherlaw13_FoldLast.j6
   repeat' first
   | (with_reducible exact ih0 _ _ _ _ _ _ _ _ _ _)
   | (with_reducible exact ih1 _ _ _ _ _ _ _ _ _ _ _)
   | (with_reducible exact ih2 _ _ _ _ _ _ _ _ _ _ _)
   | (with_reducible exact ih3 _ _ _ _ _ _ _ _ _ _ _)
   | (with_reducible exact ih4 _ _ _ _ _ _ _ _ _ _ _)
   | (with_reducible exact ih5 _ _ _ _ _ _ _ _ _ _ _ _ _ _)
   | (with_reducible exact ih6 _ _ _ _ _ _ _ _ _ _ _ _ _)
   | (with_reducible exact fold_Rows.mono _ _ _ _ _ _)
   | (with_reducible exact thresherlaw13_made.mono _ _ _ _ _ _ _ _ _ _ _ _ _)
   | (with_reducible exact thresherlaw13_shown.mono _)
   | (with_reducible exact thresherref04_Compare.mono _ _ _ _ _ _ _)
   | (with_reducible exact thresherref04_Fits.mono _ _ _ _ _ _ _)
   | (with_reducible exact thresherref09_Sort.mono _ _ _ _ _ _)
   | (with_reducible exact LeO.refl _)
   | (with_reducible exact LeO.none _)
   | (with_reducible refine LeO.ite ?_ ?_)
   | (with_reducible refine LeO.bind ?_ (fun _=>?_))
   | exact ih0 _ _ _ _ _ _ _ _ _ _
   | exact ih1 _ _ _ _ _ _ _ _ _ _ _
   | exact ih2 _ _ _ _ _ _ _ _ _ _ _
   | exact ih3 _ _ _ _ _ _ _ _ _ _ _
   | exact ih4 _ _ _ _ _ _ _ _ _ _ _
   | exact ih5 _ _ _ _ _ _ _ _ _ _ _ _ _ _
   | exact ih6 _ _ _ _ _ _ _ _ _ _ _ _ _
   | exact fold_Rows.mono _ _ _ _ _ _
   | exact thresherlaw13_made.mono _ _ _ _ _ _ _ _ _ _ _ _ _
   | exact thresherlaw13_shown.mono _
   | exact thresherref04_Compare.mono _ _ _ _ _ _ _
   | exact thresherref04_Fits.mono _ _ _ _ _ _ _
   | exact thresherref09_Sort.mono _ _ _ _ _ _
   | exact LeO.none _
   | refine LeO.ite ?_ ?_
   | refine LeO.bind ?_ (fun _=>?_)
theorem thresherlaw13_FoldLast.mono : ∀ a0 a1 a2 a3 a4 a5 a6 a7 a8 a9 a10 a11 a12 k,LeO (thresherlaw13_FoldLast.f k a0 a1 a2 a3 a4 a5 a6 a7 a8 a9 a10 a11 a12) (thresherlaw13_FoldLast.f (k + 1) a0 a1 a2 a3 a4 a5 a6 a7 a8 a9 a10 a11 a12):=by
 intro a0 a1 a2 a3 a4 a5 a6 a7 a8 a9 a10 a11 a12 k
 obtain ⟨ih0,ih1,ih2,ih3,ih4,ih5,ih6⟩:=thresherlaw13_FoldLast.mono_l k
 unfold thresherlaw13_FoldLast.f
 repeat' first
   | (with_reducible exact ih0 _ _ _ _ _ _ _ _ _ _)
   | (with_reducible exact ih1 _ _ _ _ _ _ _ _ _ _ _)
   | (with_reducible exact ih2 _ _ _ _ _ _ _ _ _ _ _)
   | (with_reducible exact ih3 _ _ _ _ _ _ _ _ _ _ _)
   | (with_reducible exact ih4 _ _ _ _ _ _ _ _ _ _ _)
   | (with_reducible exact ih5 _ _ _ _ _ _ _ _ _ _ _ _ _ _)
   | (with_reducible exact ih6 _ _ _ _ _ _ _ _ _ _ _ _ _)
   | (with_reducible exact fold_Rows.mono _ _ _ _ _ _)
   | (with_reducible exact thresherlaw13_made.mono _ _ _ _ _ _ _ _ _ _ _ _ _)
   | (with_reducible exact thresherlaw13_shown.mono _)
   | (with_reducible exact thresherref04_Compare.mono _ _ _ _ _ _ _)
   | (with_reducible exact thresherref04_Fits.mono _ _ _ _ _ _ _)
   | (with_reducible exact thresherref09_Sort.mono _ _ _ _ _ _)
   | (with_reducible exact LeO.refl _)
   | (with_reducible exact LeO.none _)
   | (with_reducible refine LeO.ite ?_ ?_)
   | (with_reducible refine LeO.bind ?_ (fun _=>?_))
   | exact ih0 _ _ _ _ _ _ _ _ _ _
   | exact ih1 _ _ _ _ _ _ _ _ _ _ _
   | exact ih2 _ _ _ _ _ _ _ _ _ _ _
   | exact ih3 _ _ _ _ _ _ _ _ _ _ _
   | exact ih4 _ _ _ _ _ _ _ _ _ _ _
   | exact ih5 _ _ _ _ _ _ _ _ _ _ _ _ _ _
   | exact ih6 _ _ _ _ _ _ _ _ _ _ _ _ _
   | exact fold_Rows.mono _ _ _ _ _ _
   | exact thresherlaw13_made.mono _ _ _ _ _ _ _ _ _ _ _ _ _
   | exact thresherlaw13_shown.mono _
   | exact thresherref04_Compare.mono _ _ _ _ _ _ _
   | exact thresherref04_Fits.mono _ _ _ _ _ _ _
   | exact thresherref09_Sort.mono _ _ _ _ _ _
   | exact LeO.none _
   | refine LeO.ite ?_ ?_
   | refine LeO.bind ?_ (fun _=>?_)
def thresherlaw13_FoldLast.T15 : Bool × List (List Nat × List Nat):=(true,[([],[]),([],[]),([],[]),([],[]),([2,3],[2,3]),([4],[4]),([],[]),([],[]),([6,7],[6,7]),([8],[8]),([],[]),([9,10],[9,10]),([11],[11]),([12],[12]),([5,13],[5,13]),([0,1,0,1,2,3,4,5,6,7,8,9,10,11,12,13,14],[0,1]),([15,14,0,1,2,3,4,5,6,7,8,9,10,11,12,13,14],[14,15])])
def thresherlaw13_FoldLast.B15 : List Nat:=[0,0,0,0,12,28,0,0,192,448,0,1984,4032,8128,16380,32767,65535]
theorem thresherlaw13_FoldLast.tab15 : rtab .any (opsOf Try.f7 15)=thresherlaw13_FoldLast.T15:=by kernel_rfl
theorem thresherlaw13_FoldLast.bits15 : waitsOk thresherlaw13_FoldLast.T15.2 thresherlaw13_FoldLast.B15=true:=by kernel_rfl
def thresherlaw13_FoldLast.T16 : Bool × List (List Nat × List Nat):=(true,[([],[]),([0],[0]),([],[]),([2],[2]),([1,3],[1,3]),([4],[4]),([5],[5]),([5],[5]),([5],[5]),([7,8,5],[5,7,8]),([9,5],[5,9]),([5],[5]),([5],[5]),([12,5],[5,12]),([11,13,5],[5,11,13]),([14,5],[5,14]),([6,10,15,5,5],[5,6,10,15]),([16,5],[5,16]),([5,17],[5,17])])
def thresherlaw13_FoldLast.B16 : List Nat:=[0,1,0,4,15,31,63,63,63,447,959,63,63,4159,14399,30783,65535,131071,262143]
theorem thresherlaw13_FoldLast.tab16 : rtab .any (opsOf Try.f7 16)=thresherlaw13_FoldLast.T16:=by kernel_rfl
theorem thresherlaw13_FoldLast.bits16 : waitsOk thresherlaw13_FoldLast.T16.2 thresherlaw13_FoldLast.B16=true:=by kernel_rfl
def thresherlaw13_FoldLast.T17 : Bool × List (List Nat × List Nat):=(true,[([],[]),([],[]),([1],[1]),([0,2],[0,2]),([3],[3]),([4],[4]),([4],[4]),([5,6,4],[4,5,6]),([7,4],[4,7]),([8,4],[4,8]),([4],[4]),([10,4],[4,10]),([11,4],[4,11]),([9,12,4],[4,9,12]),([4,13],[4,13])])
def thresherlaw13_FoldLast.B17 : List Nat:=[0,0,2,7,15,31,31,127,255,511,31,1055,3103,8191,16383]
theorem thresherlaw13_FoldLast.tab17 : rtab .any (opsOf Try.f7 17)=thresherlaw13_FoldLast.T17:=by kernel_rfl
theorem thresherlaw13_FoldLast.bits17 : waitsOk thresherlaw13_FoldLast.T17.2 thresherlaw13_FoldLast.B17=true:=by kernel_rfl
def thresherlaw13_FoldLast.T25 : Bool × List (List Nat × List Nat):=(true,[([],[]),([],[]),([0,1],[0,1]),([2],[2]),([],[]),([3,4],[3,4]),([5],[5]),([],[]),([6,7],[6,7])])
def thresherlaw13_FoldLast.B25 : List Nat:=[0,0,3,7,0,31,63,0,255]
theorem thresherlaw13_FoldLast.tab25 : rtab .any (opsOf Try.f7 25)=thresherlaw13_FoldLast.T25:=by kernel_rfl
theorem thresherlaw13_FoldLast.bits25 : waitsOk thresherlaw13_FoldLast.T25.2 thresherlaw13_FoldLast.B25=true:=by kernel_rfl
set_option maxHeartbeats 8000000 in
set_option maxRecDepth 100000 in
theorem thresherlaw13_FoldLast.calls (k : Nat) (a0_0 : Int) (a0_1 : Int) (a0_2 : Int) (a0_3 : Int) (a0_4 : Int) (a0_5 : Int) (a0_6 : Int) (a0_7 : Int) (a0_8 : Int) (a0_9 : Int) (a0_10 : Int) (a0_11 : Int) (A1 : Option Addr) (c1 : Nat) (l1 : List (List (S45))) (r : Bool) (w : World) (hr1 : Kd.C (Kd.slice 45 k45) w A1 l1.length l1) (hc1 : l1.length≤c1) (h : thresherlaw13_FoldLast.f k a0_0 a0_1 a0_2 a0_3 a0_4 a0_5 a0_6 a0_7 a0_8 a0_9 a0_10 a0_11 l1=some r) :
  Calls Try.prog 7 #[.agg #[.int .u8 a0_0,.int .u8 a0_1,.int .u8 a0_2,.int .u8 a0_3,.int .u8 a0_4,.int .u8 a0_5,.int .u8 a0_6,.int .u8 a0_7,.int .u8 a0_8,.int .u8 a0_9,.int .u8 a0_10,.int .u8 a0_11],.slice A1 l1.length c1] w fun e w'=>e=.returned (.bool r)∧Below w.heap.size w w':=by
 have hu24:=Try.underlying24
 have hu29:=Try.underlying29
 have hu45:=Try.underlying45
 have HR1:=Aside0.mk hr1
 have HC1:=Aside0.mk hc1
 clear hr1 hc1
 have HB:=Aside0.mk (Below.refl w.heap.size w)
 have H : ((thresherlaw13_shown.f k).bind fun t465=>((thresherlaw13_made.f k a0_0 a0_1 a0_2 a0_3 a0_4 a0_5 a0_6 a0_7 a0_8 a0_9 a0_10 a0_11).bind fun bt466=>((thresherref04_Fits.f k bt466.1 bt466.2.1 bt466.2.2.1 bt466.2.2.2 l1 60).bind fun t473=>((thresherref09_Sort.f k bt466.1 bt466.2.1 bt466.2.2.1 bt466.2.2.2 t473).bind fun t476=>((fold_Rows.f k bt466.1 bt466.2.1 bt466.2.2.1 bt466.2.2.2 t476).bind fun t479=>(if bt466.2.2.1=1 then (if t465=true then (some ((t479.length : Int) == (t476.length : Int))) else (some false)) else (if 0≤(bt466.1.length : Int) then (if ((bt466.1.length : Int) : Int).toNat≤35184372088832 then (thresherlaw13_FoldLast.l0 k t465 t476 t479 0 (List.replicate ((bt466.1.length : Int) : Int).toNat 0) 0 bt466.1 bt466.2.1 bt466.2.2.1 bt466.2.2.2) else (none)) else (none))))))))=some r:=h
 clear h
 replace H:=Option.bind_eq_some_iff.mp H
 obtain ⟨t465,A30,H⟩:=H
 replace H : ((thresherlaw13_made.f k a0_0 a0_1 a0_2 a0_3 a0_4 a0_5 a0_6 a0_7 a0_8 a0_9 a0_10 a0_11).bind fun bt466=>((thresherref04_Fits.f k bt466.1 bt466.2.1 bt466.2.2.1 bt466.2.2.2 l1 60).bind fun t473=>((thresherref09_Sort.f k bt466.1 bt466.2.1 bt466.2.2.1 bt466.2.2.2 t473).bind fun t476=>((fold_Rows.f k bt466.1 bt466.2.1 bt466.2.2.1 bt466.2.2.2 t476).bind fun t479=>(if bt466.2.2.1=1 then (if t465=true then (some ((t479.length : Int) == (t476.length : Int))) else (some false)) else (if 0≤(bt466.1.length : Int) then (if ((bt466.1.length : Int) : Int).toNat≤35184372088832 then (thresherlaw13_FoldLast.l0 k t465 t476 t479 0 (List.replicate ((bt466.1.length : Int) : Int).toNat 0) 0 bt466.1 bt466.2.1 bt466.2.2.1 bt466.2.2.2) else (none)) else (none)))))))=some r:=H
 have A3:=Aside0.mk A30
 clear A30
 replace H:=Option.bind_eq_some_iff.mp H
 obtain ⟨⟨t466,t469,t470,t471⟩,A40,H⟩:=H
 replace H : ((thresherref04_Fits.f k t466 t469 t470 t471 l1 60).bind fun t473=>((thresherref09_Sort.f k t466 t469 t470 t471 t473).bind fun t476=>((fold_Rows.f k t466 t469 t470 t471 t476).bind fun t479=>(if t470=1 then (if t465=true then (some ((t479.length : Int) == (t476.length : Int))) else (some false)) else (if 0≤(t466.length : Int) then (if ((t466.length : Int) : Int).toNat≤35184372088832 then (thresherlaw13_FoldLast.l0 k t465 t476 t479 0 (List.replicate ((t466.length : Int) : Int).toNat 0) 0 t466 t469 t470 t471) else (none)) else (none))))))=some r:=H
 have A4:=Aside0.mk A40
 clear A40
 replace H:=Option.bind_eq_some_iff.mp H
 obtain ⟨t473,A50,H⟩:=H
 replace H : ((thresherref09_Sort.f k t466 t469 t470 t471 t473).bind fun t476=>((fold_Rows.f k t466 t469 t470 t471 t476).bind fun t479=>(if t470=1 then (if t465=true then (some ((t479.length : Int) == (t476.length : Int))) else (some false)) else (if 0≤(t466.length : Int) then (if ((t466.length : Int) : Int).toNat≤35184372088832 then (thresherlaw13_FoldLast.l0 k t465 t476 t479 0 (List.replicate ((t466.length : Int) : Int).toNat 0) 0 t466 t469 t470 t471) else (none)) else (none)))))=some r:=H
 have A5:=Aside0.mk A50
 clear A50
 replace H:=Option.bind_eq_some_iff.mp H
 obtain ⟨t476,A60,H⟩:=H
 replace H : ((fold_Rows.f k t466 t469 t470 t471 t476).bind fun t479=>(if t470=1 then (if t465=true then (some ((t479.length : Int) == (t476.length : Int))) else (some false)) else (if 0≤(t466.length : Int) then (if ((t466.length : Int) : Int).toNat≤35184372088832 then (thresherlaw13_FoldLast.l0 k t465 t476 t479 0 (List.replicate ((t466.length : Int) : Int).toNat 0) 0 t466 t469 t470 t471) else (none)) else (none))))=some r:=H
 have A6:=Aside0.mk A60
 clear A60
 replace H:=Option.bind_eq_some_iff.mp H
 obtain ⟨t479,A70,H⟩:=H
 replace H : (if t470=1 then (if t465=true then (some ((t479.length : Int) == (t476.length : Int))) else (some false)) else (if 0≤(t466.length : Int) then (if ((t466.length : Int) : Int).toNat≤35184372088832 then (thresherlaw13_FoldLast.l0 k t465 t476 t479 0 (List.replicate ((t466.length : Int) : Int).toNat 0) 0 t466 t469 t470 t471) else (none)) else (none)))=some r:=H
 have A7:=Aside0.mk A70
 clear A70
 by_cases c8 : t470=1
 ·rw [if_pos c8] at H
  have c8b0 : (t470 == 1)=true:=beq_iff_eq.mpr c8
  have c8b1 : (t470 != 1)=false:=bne_eq_false_iff_eq.mpr c8
  clear c8
  by_cases c9 : t465=true
  ·subst c9
   have H1 : (some ((t479.length : Int) == (t476.length : Int)))=some r:=by rw [if_pos rfl] at H;exact H
   clear H
   have H:=H1
   clear H1
   obtain rfl:=Option.some.inj H
   go_enter Try.func7,Try.ntmps7
   try go_wp2_with (first|((with_reducible refine gate_dst (N:=2) rfl ?_);(try (refine gate_guard (by rfl) ?_;dsimp only));refine box_event ?hg (N:=2) ?hd (cs:=#[.int .u8 a0_0,.int .u8 a0_1,.int .u8 a0_2,.int .u8 a0_3,.int .u8 a0_4,.int .u8 a0_5,.int .u8 a0_6,.int .u8 a0_7,.int .u8 a0_8,.int .u8 a0_9,.int .u8 a0_10,.int .u8 a0_11]) (t:=24) ?hr ?_;(case hd=>rfl);(case hg=>rfl);(case hr=>first|(go_simp;done)|(go_simp;rfl));intro gb464 hg w10 hbox hb;have n0_:=Aside0.mk (below_step (by repeat (first|(with_reducible first|exact HB.out|apply below_alloc|apply pw_below_drewN|apply below_drew1)|exact HB.out)) hb);have n1_:=Aside0.mk (hbox);have n2_:=Aside0.mk ((by rw [hg];exact (below_size (by repeat (first|(with_reducible first|exact HB.out|apply below_alloc|apply pw_below_drewN|apply below_drew1)|exact HB.out))) : w.heap.size≤gb464));have n3_:=Aside0.mk ((by rw [hg];exact (below_size (by repeat (first|(with_reducible first|exact HB.out|apply below_alloc|apply pw_below_drewN|apply below_drew1)|exact HB.out))) : w.heap.size≤gb464));clear HB;have HB:=n0_;have BK464:=n1_;have GW464:=n2_;have GE464:=n3_;clear n0_ n1_ n2_ n3_;clear hb hbox hg)|((with_reducible refine gate_callee (f:=8) rfl ?_);refine goesL_ (some 15) rfl rfl Try.func8 (by kernel_rfl) rfl #[] rfl (by (try simp only [List.map_toArray,List.map_cons,List.map_nil]);first|done|rfl|(simp only [List.length_drop,List.length_take];rfl)) ?_;(with_reducible refine (thresherlaw13_shown.calls k  true _ A3.out).mono ?_);rintro e w11 ⟨rfl,hb⟩;refine ⟨_,rfl,?_⟩;have n0_:=Aside0.mk (blk_below (g:=gb464) (o:=.cells #[.int .u8 a0_0,.int .u8 a0_1,.int .u8 a0_2,.int .u8 a0_3,.int .u8 a0_4,.int .u8 a0_5,.int .u8 a0_6,.int .u8 a0_7,.int .u8 a0_8,.int .u8 a0_9,.int .u8 a0_10,.int .u8 a0_11] 24 (0,0)) (by (with_reducible repeat (first|refine blk_drewN ?_ _|refine blk_drew ?_|refine blk_alloc ?_ _));exact BK464.out) hb);have n1_:=Aside0.mk (below_step (by repeat (first|(with_reducible first|exact HB.out|apply below_alloc|apply pw_below_drewN|apply below_drew1|refine below_set ?_ GE464.out)|exact HB.out)) hb);clear BK464;clear HB;have BK464:=n0_;have HB:=n1_;clear n0_ n1_;(try clear hb);(try clear hb2);(try clear hk);(try clear hi);have hcz12_0 : w11.cell? ⟨gb464,0,none⟩=some (.int .u8 a0_0):=(blk_cell BK464.out 0).trans rfl;have hcz12_1 : w11.cell? ⟨gb464,1,none⟩=some (.int .u8 a0_1):=(blk_cell BK464.out 1).trans rfl;have hcz12_2 : w11.cell? ⟨gb464,2,none⟩=some (.int .u8 a0_2):=(blk_cell BK464.out 2).trans rfl;have hcz12_3 : w11.cell? ⟨gb464,3,none⟩=some (.int .u8 a0_3):=(blk_cell BK464.out 3).trans rfl;have hcz12_4 : w11.cell? ⟨gb464,4,none⟩=some (.int .u8 a0_4):=(blk_cell BK464.out 4).trans rfl;have hcz12_5 : w11.cell? ⟨gb464,5,none⟩=some (.int .u8 a0_5):=(blk_cell BK464.out 5).trans rfl;have hcz12_6 : w11.cell? ⟨gb464,6,none⟩=some (.int .u8 a0_6):=(blk_cell BK464.out 6).trans rfl;have hcz12_7 : w11.cell? ⟨gb464,7,none⟩=some (.int .u8 a0_7):=(blk_cell BK464.out 7).trans rfl;have hcz12_8 : w11.cell? ⟨gb464,8,none⟩=some (.int .u8 a0_8):=(blk_cell BK464.out 8).trans rfl;have hcz12_9 : w11.cell? ⟨gb464,9,none⟩=some (.int .u8 a0_9):=(blk_cell BK464.out 9).trans rfl;have hcz12_10 : w11.cell? ⟨gb464,10,none⟩=some (.int .u8 a0_10):=(blk_cell BK464.out 10).trans rfl;have hcz12_11 : w11.cell? ⟨gb464,11,none⟩=some (.int .u8 a0_11):=(blk_cell BK464.out 11).trans rfl;have hfz12_0:=blk_frozen BK464.out 0;have hfz12_1:=blk_frozen BK464.out 1;have hfz12_2:=blk_frozen BK464.out 2;have hfz12_3:=blk_frozen BK464.out 3;have hfz12_4:=blk_frozen BK464.out 4;have hfz12_5:=blk_frozen BK464.out 5;have hfz12_6:=blk_frozen BK464.out 6;have hfz12_7:=blk_frozen BK464.out 7;have hfz12_8:=blk_frozen BK464.out 8;have hfz12_9:=blk_frozen BK464.out 9;have hfz12_10:=blk_frozen BK464.out 10;have hfz12_11:=blk_frozen BK464.out 11)|((with_reducible refine gate_callee (f:=9) rfl ?_);refine goesL_ (some 17) rfl rfl Try.func9 (by kernel_rfl) rfl #[.agg #[.int .u8 a0_0,.int .u8 a0_1,.int .u8 a0_2,.int .u8 a0_3,.int .u8 a0_4,.int .u8 a0_5,.int .u8 a0_6,.int .u8 a0_7,.int .u8 a0_8,.int .u8 a0_9,.int .u8 a0_10,.int .u8 a0_11]] rfl (by (try simp only [List.map_toArray,List.map_cons,List.map_nil]);first|done|rfl|(simp only [List.length_drop,List.length_take];rfl)) ?_;(with_reducible refine (thresherlaw13_made.calls k a0_0 a0_1 a0_2 a0_3 a0_4 a0_5 a0_6 a0_7 a0_8 a0_9 a0_10 a0_11 t466 t469 t470 t471 _ A4.out).mono ?_);rintro e w13 ⟨v467,rfl,ho0,hb⟩;refine ⟨_,rfl,?_⟩;have n0_:=Aside0.mk (Kd.R_lower ho0 (below_size (by repeat (first|(with_reducible first|exact HB.out|apply below_alloc|apply pw_below_drewN|apply below_drew1|refine below_set ?_ GE464.out)|exact HB.out))));have n1_:=Aside0.mk (blk_below (g:=gb464) (o:=.cells #[.int .u8 a0_0,.int .u8 a0_1,.int .u8 a0_2,.int .u8 a0_3,.int .u8 a0_4,.int .u8 a0_5,.int .u8 a0_6,.int .u8 a0_7,.int .u8 a0_8,.int .u8 a0_9,.int .u8 a0_10,.int .u8 a0_11] 24 (0,0)) (by (with_reducible repeat (first|refine blk_drewN ?_ _|refine blk_drew ?_|refine blk_alloc ?_ _));exact BK464.out) hb);have n2_:=Aside0.mk (below_step (by repeat (first|(with_reducible first|exact HB.out|apply below_alloc|apply pw_below_drewN|apply below_drew1|refine below_set ?_ GE464.out)|exact HB.out)) hb);clear BK464;clear HB;have HO468:=n0_;have BK464:=n1_;have HB:=n2_;clear n0_ n1_ n2_;(try clear hb);(try clear hb2);(try clear hk);(try clear hi);(try clear ho0))|((with_reducible refine gate_dst (N:=6) rfl ?_);(try (refine gate_guard (by rfl) ?_;dsimp only));refine box_event ?hg (N:=6) ?hd (cs:=#[.slice none 0 0,.int .i64 0,.int .i64 0,.int .i64 0]) (t:=29) ?hr ?_;(case hd=>rfl);(case hg=>rfl);(case hr=>first|(go_simp;done)|(go_simp;rfl));intro gb472 hg w14 hbox hb;have n0_:=Aside0.mk (Kd.R_below (by (with_reducible repeat (first|apply Kd.R_alloc|apply Kd.R_drewN|apply Kd.R_drew));exact HO468.out) hb);have n1_:=Aside0.mk (blk_below (g:=gb464) (o:=.cells #[.int .u8 a0_0,.int .u8 a0_1,.int .u8 a0_2,.int .u8 a0_3,.int .u8 a0_4,.int .u8 a0_5,.int .u8 a0_6,.int .u8 a0_7,.int .u8 a0_8,.int .u8 a0_9,.int .u8 a0_10,.int .u8 a0_11] 24 (0,0)) (by (with_reducible repeat (first|refine blk_drewN ?_ _|refine blk_drew ?_|refine blk_alloc ?_ _));exact BK464.out) hb);have n2_:=Aside0.mk (below_step (by repeat (first|(with_reducible first|exact HB.out|apply below_alloc|apply pw_below_drewN|apply below_drew1|refine below_set ?_ GE464.out)|exact HB.out)) hb);have n3_:=Aside0.mk (hbox);have n4_:=Aside0.mk ((by rw [hg];exact (below_size (by repeat (first|(with_reducible first|exact HB.out|apply below_alloc|apply pw_below_drewN|apply below_drew1|refine below_set ?_ GE464.out)|exact HB.out))) : w.heap.size≤gb472));have n5_:=Aside0.mk ((by rw [hg];exact (below_size (by repeat (first|(with_reducible first|exact HB.out|apply below_alloc|apply pw_below_drewN|apply below_drew1|refine below_set ?_ GE464.out)|exact HB.out))) : w.heap.size≤gb472));have n6_:=Aside0.mk ((by rw [hg];exact Nat.ne_of_lt (blk_lt (g:=gb464) (o:=.cells #[.int .u8 a0_0,.int .u8 a0_1,.int .u8 a0_2,.int .u8 a0_3,.int .u8 a0_4,.int .u8 a0_5,.int .u8 a0_6,.int .u8 a0_7,.int .u8 a0_8,.int .u8 a0_9,.int .u8 a0_10,.int .u8 a0_11] 24 (0,0)) (by (with_reducible repeat (first|refine blk_drewN ?_ _|refine blk_drew ?_|refine blk_alloc ?_ _));exact BK464.out)) : gb464≠gb472));have n7_:=Aside0.mk ((by rw [hg];exact Nat.ne_of_gt (blk_lt (g:=gb464) (o:=.cells #[.int .u8 a0_0,.int .u8 a0_1,.int .u8 a0_2,.int .u8 a0_3,.int .u8 a0_4,.int .u8 a0_5,.int .u8 a0_6,.int .u8 a0_7,.int .u8 a0_8,.int .u8 a0_9,.int .u8 a0_10,.int .u8 a0_11] 24 (0,0)) (by (with_reducible repeat (first|refine blk_drewN ?_ _|refine blk_drew ?_|refine blk_alloc ?_ _));exact BK464.out)) : gb472≠gb464));clear HO468;clear BK464;clear HB;have HO468:=n0_;have BK464:=n1_;have HB:=n2_;have BK472:=n3_;have GW472:=n4_;have GE472:=n5_;have NB464_472:=n6_;have NB472_464:=n7_;clear n0_ n1_ n2_ n3_ n4_ n5_ n6_ n7_;clear hb hbox hg;obtain ⟨Ao15,co15,eo15⟩:=Kd.R_slice HO468.out;subst eo15;have hnb16:=NB472_464.out;have hnc16:=NB464_472.out;have hcz17_0 : w14.cell? ⟨gb472,0,none⟩=some (.slice none 0 0):=(blk_cell BK472.out 0).trans rfl;have hcz17_1 : w14.cell? ⟨gb472,1,none⟩=some (.int .i64 0):=(blk_cell BK472.out 1).trans rfl;have hcz17_2 : w14.cell? ⟨gb472,2,none⟩=some (.int .i64 0):=(blk_cell BK472.out 2).trans rfl;have hcz17_3 : w14.cell? ⟨gb472,3,none⟩=some (.int .i64 0):=(blk_cell BK472.out 3).trans rfl;have hfz17_0:=blk_frozen BK472.out 0;have hfz17_1:=blk_frozen BK472.out 1;have hfz17_2:=blk_frozen BK472.out 2;have hfz17_3:=blk_frozen BK472.out 3))
   have n0_ : Aside0 (Kd.R (Kd.int .i64) 3 ((((w14.setCell ⟨gb472,0,none⟩ (.slice Ao15 t466.length co15)).setCell ⟨gb472,1,none⟩ (.int .i64 t469)).setCell ⟨gb472,2,none⟩ (.int .i64 t470)).setCell ⟨gb472,3,none⟩ (.int .i64 t471)) w.heap.size (fun _=>True) (.slice Ao15 t466.length co15) t466):=⟨by (with_reducible repeat (first|apply Kd.R_alloc|apply Kd.R_drewN|apply Kd.R_drew));exact Kd.R_mono (Kd.R_far (p:=⟨gb472,3,none⟩) (Kd.R_far (p:=⟨gb472,2,none⟩) (Kd.R_far (p:=⟨gb472,1,none⟩) (Kd.R_far (p:=⟨gb472,0,none⟩) (Kd.R_types HO468.out BK472.out (by decide)) (fun _ hk=>hk.2) (.slice Ao15 t466.length co15)) (fun _ hk=>hk.2) (.int .i64 t469)) (fun _ hk=>hk.2) (.int .i64 t470)) (fun _ hk=>hk.2) (.int .i64 t471)) (fun _ hk=>trivial)⟩
   have n1_ : Aside0 (((((w14.setCell ⟨gb472,0,none⟩ (.slice Ao15 t466.length co15)).setCell ⟨gb472,1,none⟩ (.int .i64 t469)).setCell ⟨gb472,2,none⟩ (.int .i64 t470)).setCell ⟨gb472,3,none⟩ (.int .i64 t471)).heap[gb464]?=some (.cells #[.int .u8 a0_0,.int .u8 a0_1,.int .u8 a0_2,.int .u8 a0_3,.int .u8 a0_4,.int .u8 a0_5,.int .u8 a0_6,.int .u8 a0_7,.int .u8 a0_8,.int .u8 a0_9,.int .u8 a0_10,.int .u8 a0_11] 24 (0,0))):=⟨by (with_reducible repeat (first|refine blk_drewN ?_ _|refine blk_drew ?_|refine blk_alloc ?_ _));refine blk_far ?_ NB464_472.out _;(with_reducible repeat (first|refine blk_drewN ?_ _|refine blk_drew ?_|refine blk_alloc ?_ _));refine blk_far ?_ NB464_472.out _;(with_reducible repeat (first|refine blk_drewN ?_ _|refine blk_drew ?_|refine blk_alloc ?_ _));refine blk_far ?_ NB464_472.out _;(with_reducible repeat (first|refine blk_drewN ?_ _|refine blk_drew ?_|refine blk_alloc ?_ _));refine blk_far ?_ NB464_472.out _;(with_reducible repeat (first|refine blk_drewN ?_ _|refine blk_drew ?_|refine blk_alloc ?_ _));exact BK464.out⟩
   have n2_ : Aside0 (((((w14.setCell ⟨gb472,0,none⟩ (.slice Ao15 t466.length co15)).setCell ⟨gb472,1,none⟩ (.int .i64 t469)).setCell ⟨gb472,2,none⟩ (.int .i64 t470)).setCell ⟨gb472,3,none⟩ (.int .i64 t471)).heap[gb472]?=some (.cells #[.slice Ao15 t466.length co15,.int .i64 t469,.int .i64 t470,.int .i64 t471] 29 (0,0))):=⟨by (with_reducible repeat (first|refine blk_drewN ?_ _|refine blk_drew ?_|refine blk_alloc ?_ _));refine blk_put (cs:=#[.slice Ao15 t466.length co15,.int .i64 t469,.int .i64 t470,.int .i64 0]) ?_ 3 _ rfl;(with_reducible repeat (first|refine blk_drewN ?_ _|refine blk_drew ?_|refine blk_alloc ?_ _));refine blk_put (cs:=#[.slice Ao15 t466.length co15,.int .i64 t469,.int .i64 0,.int .i64 0]) ?_ 2 _ rfl;(with_reducible repeat (first|refine blk_drewN ?_ _|refine blk_drew ?_|refine blk_alloc ?_ _));refine blk_put (cs:=#[.slice Ao15 t466.length co15,.int .i64 0,.int .i64 0,.int .i64 0]) ?_ 1 _ rfl;(with_reducible repeat (first|refine blk_drewN ?_ _|refine blk_drew ?_|refine blk_alloc ?_ _));refine blk_put (cs:=#[.slice none 0 0,.int .i64 0,.int .i64 0,.int .i64 0]) ?_ 0 _ rfl;(with_reducible repeat (first|refine blk_drewN ?_ _|refine blk_drew ?_|refine blk_alloc ?_ _));exact BK472.out⟩
   have n3_ : Aside0 (Below w.heap.size w ((((w14.setCell ⟨gb472,0,none⟩ (.slice Ao15 t466.length co15)).setCell ⟨gb472,1,none⟩ (.int .i64 t469)).setCell ⟨gb472,2,none⟩ (.int .i64 t470)).setCell ⟨gb472,3,none⟩ (.int .i64 t471))):=⟨by repeat (first|(with_reducible first|exact HB.out|apply below_alloc|apply pw_below_drewN|apply below_drew1|refine below_set ?_ GE464.out|refine below_set ?_ GE472.out)|exact HB.out)⟩
   (try clear HO468)
   (try clear BK464)
   (try clear BK472)
   (try clear HB)
   generalize ((((w14.setCell ⟨gb472,0,none⟩ (.slice Ao15 t466.length co15)).setCell ⟨gb472,1,none⟩ (.int .i64 t469)).setCell ⟨gb472,2,none⟩ (.int .i64 t470)).setCell ⟨gb472,3,none⟩ (.int .i64 t471))=w18 at n0_ n1_ n2_ n3_ ⊢
   have HO468:=n0_
   have BK464:=n1_
   have BK472:=n2_
   have HB:=n3_
   clear n0_ n1_ n2_ n3_
   have n0_:=Aside0.mk (Kd.R_drew HO468.out)
   have n1_:=Aside0.mk (blk_drew BK464.out)
   have n2_:=Aside0.mk (blk_drew BK472.out)
   have n3_:=Aside0.mk (below_drew1 HB.out)
   clear HO468
   clear BK464
   clear BK472
   clear HB
   have HO468:=n0_
   have BK464:=n1_
   have BK472:=n2_
   have HB:=n3_
   clear n0_ n1_ n2_ n3_
   refine start_ (n:=6) (S:=fun w'=>w'.cell? ⟨gb472,0,none⟩=some (.slice Ao15 t466.length co15)∧w'.cell? ⟨gb472,1,none⟩=some (.int .i64 t469)∧w'.cell? ⟨gb472,2,none⟩=some (.int .i64 t470)∧w'.cell? ⟨gb472,3,none⟩=some (.int .i64 t471)) (ds:=[]) #[false,false,false,false,false,false] (by kernel_rfl) rfl rfl ⟨(blk_cell BK472.out 0).trans rfl,(blk_cell BK472.out 1).trans rfl,(blk_cell BK472.out 2).trans rfl,(blk_cell BK472.out 3).trans rfl⟩ (fun hHeld=>?_)
   generalize w18.drew=w19 at HO468 BK464 BK472 HB hHeld ⊢
   refine pure_ (i:=2) (N:=some 20) (v:=?_) (a':=?_) #[false,false,true,false,false,false] rfl rfl (by kernel_rfl) (fun _ _ _ h=>h) (Or.inl ⟨by rfl,?_⟩) ?_ ?_
   rotate_left;(intro w';go_simp;with_reducible rfl);rotate_left;(simp only [Act.put,List.setIfInBounds_toArray,List.set_cons_zero,List.set_cons_succ,i64_w,i32_w];rfl)
   refine take_ (i:=0) (N:=some 18) (v:=?_) (a':=?_) #[true,false,true,false,false,false] rfl rfl (by kernel_rfl) (fun _ _ _ h=>h) (Or.inl ⟨by rfl,?_⟩) hHeld ?_ ?_
   rotate_left;(rintro w' ⟨s0,s1,s2,s3⟩;go_simp;with_reducible rfl);rotate_left;(simp only [Act.put,List.setIfInBounds_toArray,List.set_cons_zero,List.set_cons_succ,i64_w,i32_w];rfl)
   refine take_ (i:=1) (N:=some 19) (v:=?_) (a':=?_) #[true,true,true,false,false,false] rfl rfl (by kernel_rfl) (fun _ _ _ h=>h) (Or.inl ⟨by rfl,?_⟩) hHeld ?_ ?_
   rotate_left;(rintro w' ⟨s0,s1,s2,s3⟩;go_simp;with_reducible rfl);rotate_left;(simp only [Act.put,List.setIfInBounds_toArray,List.set_cons_zero,List.set_cons_succ,i64_w,i32_w];rfl)
   refine one_ (i:=3) (N:=some 21) #[true,true,true,true,false,false] rfl rfl (by kernel_rfl) (by decide) (fun K hK=>?_)
   refine goes_ Try.func11 (by kernel_rfl) rfl #[.agg #[.slice Ao15 t466.length co15,.int .i64 t469,.int .i64 t470,.int .i64 t471],.slice A1 l1.length c1,.int .i64 60] (by rfl) rfl rfl (by (try simp only [List.map_toArray,List.map_cons,List.map_nil]);first|done|rfl|(simp only [List.length_drop,List.length_take];rfl)) ?_
   with_reducible refine (thresherref04_Fits.calls k _ _ t466 t469 t470 t471 _ _ l1 60 t473 _ ?side1 ?side2 ?side3 ?side4 A5.out).mono ?_
   (case side1=>repeat (first|exact (Kd.R_reads' HO468.out).2.2|(with_reducible refine Kd.C_alloc ?_ _)|(with_reducible refine Kd.C_drewN ?_ _)|(with_reducible refine Kd.C_drew ?_)))
   (case side2=>exact (Kd.R_reads' HO468.out).2.1)
   (case side3=>repeat (first|exact (Kd.C_below HR1.out HB.out)|(with_reducible refine Kd.C_alloc ?_ _)|(with_reducible refine Kd.C_drewN ?_ _)|(with_reducible refine Kd.C_drew ?_)))
   (case side4=>exact HC1.out)
   rintro e w20 ⟨v474,rfl,ho0,hb⟩
   refine ⟨_,rfl,?_⟩
   have n0_:=Aside0.mk (Kd.R_below (by (with_reducible repeat (first|apply Kd.R_alloc|apply Kd.R_drewN|apply Kd.R_drew));exact HO468.out) hb)
   have n1_:=Aside0.mk (Kd.N_lower (Kd.N_mono (ok':=fun k_=>some k_≠(.slice Ao15 t466.length co15 : Value).ownBlock∧k_≠gb464∧k_≠gb472) (Kd.S_N (Kd.S_bound ho0)) (fun k_ hk_=>⟨(Kd.fresh' (Kd.R_lt (by (with_reducible repeat (first|apply Kd.R_alloc|apply Kd.R_drewN|apply Kd.R_drew));exact HO468.out)) k_ hk_.2.1),(Kd.freshB (g:=gb464) (o:=.cells #[.int .u8 a0_0,.int .u8 a0_1,.int .u8 a0_2,.int .u8 a0_3,.int .u8 a0_4,.int .u8 a0_5,.int .u8 a0_6,.int .u8 a0_7,.int .u8 a0_8,.int .u8 a0_9,.int .u8 a0_10,.int .u8 a0_11] 24 (0,0)) (by (with_reducible repeat (first|refine blk_drewN ?_ _|refine blk_drew ?_|refine blk_alloc ?_ _));exact BK464.out) k_ hk_.2.1),(Kd.freshB (g:=gb472) (o:=.cells #[.slice Ao15 t466.length co15,.int .i64 t469,.int .i64 t470,.int .i64 t471] 29 (0,0)) (by (with_reducible repeat (first|refine blk_drewN ?_ _|refine blk_drew ?_|refine blk_alloc ?_ _));exact BK472.out) k_ hk_.2.1)⟩)) (below_size (by repeat (first|(with_reducible first|exact HB.out|apply below_alloc|apply pw_below_drewN|apply below_drew1|refine below_set ?_ GE464.out|refine below_set ?_ GE472.out)|exact HB.out))))
   have n2_:=Aside0.mk (blk_below (g:=gb464) (o:=.cells #[.int .u8 a0_0,.int .u8 a0_1,.int .u8 a0_2,.int .u8 a0_3,.int .u8 a0_4,.int .u8 a0_5,.int .u8 a0_6,.int .u8 a0_7,.int .u8 a0_8,.int .u8 a0_9,.int .u8 a0_10,.int .u8 a0_11] 24 (0,0)) (by (with_reducible repeat (first|refine blk_drewN ?_ _|refine blk_drew ?_|refine blk_alloc ?_ _));exact BK464.out) hb)
   have n3_:=Aside0.mk (blk_below (g:=gb472) (o:=.cells #[.slice Ao15 t466.length co15,.int .i64 t469,.int .i64 t470,.int .i64 t471] 29 (0,0)) (by (with_reducible repeat (first|refine blk_drewN ?_ _|refine blk_drew ?_|refine blk_alloc ?_ _));exact BK472.out) hb)
   have n4_:=Aside0.mk (below_step (by repeat (first|(with_reducible first|exact HB.out|apply below_alloc|apply pw_below_drewN|apply below_drew1|refine below_set ?_ GE464.out|refine below_set ?_ GE472.out)|exact HB.out)) hb)
   clear HO468
   clear BK464
   clear BK472
   clear HB
   have HO468:=n0_
   have HO475:=n1_
   have BK464:=n2_
   have BK472:=n3_
   have HB:=n4_
   clear n0_ n1_ n2_ n3_ n4_
   (try clear hb)
   (try clear hb2)
   (try clear hk)
   (try clear hi)
   (try clear ho0)
   obtain ⟨Ao21,co21,eo21⟩:=Kd.N_slice HO475.out
   (first|subst eo21|(injection eo21 with f1_ f2_ f3_;have f4_:=f1_.symm;have f5_:=f3_.symm;clear f1_ f2_ f3_;subst f4_;subst f5_))
   refine hK.out _ _ ⟨(blk_cell BK472.out 0).trans rfl,(blk_cell BK472.out 1).trans rfl,(blk_cell BK472.out 2).trans rfl,(blk_cell BK472.out 3).trans rfl⟩ (fun hHeld=>?_)
   clear hK K
   refine norm_ (a':=?_) ?_ ?_
   rotate_left
   ·show Act.put _ (some 21) _=_
    simp only [Act.put,List.setIfInBounds_toArray,List.set_cons_zero,List.set_cons_succ,i64_w,i32_w]
    rfl
   refine one_ (i:=4) (N:=some 22) #[true,true,true,true,true,false] rfl rfl (by kernel_rfl) (by decide) (fun K hK=>?_)
   refine goes_ Try.func10 (by kernel_rfl) rfl #[.agg #[.slice Ao15 t466.length co15,.int .i64 t469,.int .i64 t470,.int .i64 t471],.slice Ao21 t473.length co21] (by rfl) rfl rfl (by (try simp only [List.map_toArray,List.map_cons,List.map_nil]);first|done|rfl|(simp only [List.length_drop,List.length_take];rfl)) ?_
   with_reducible refine (thresherref09_Sort.calls k _ _ t466 t469 t470 t471 (fun k_=>(some k_≠(.slice Ao15 t466.length co15 : Value).ownBlock∧(k_≠gb464∧k_≠gb472))) _ _ t473 t476 _ ?side1 ?side2 ?side3 A6.out).mono ?_
   (case side1=>repeat (first|exact (Kd.R_reads' HO468.out).2.2|(with_reducible refine Kd.C_alloc ?_ _)|(with_reducible refine Kd.C_drewN ?_ _)|(with_reducible refine Kd.C_drew ?_)))
   (case side2=>exact (Kd.R_reads' HO468.out).2.1)
   (case side3=>exact Kd.N_V (HO475.out))
   rintro e w22 ⟨v477,rfl,ho0,hb⟩
   refine ⟨_,rfl,?_⟩
   have n0_:=Aside0.mk (Kd.R_below (by (with_reducible repeat (first|apply Kd.R_alloc|apply Kd.R_drewN|apply Kd.R_drew));exact HO468.out) hb)
   have n1_:=Aside0.mk (Kd.N_elder' (by (with_reducible repeat (first|apply Kd.N_alloc|apply Kd.N_drewN|apply Kd.N_drew));exact HO475.out) (by first | exact Kd.N_base ho0 | exact Kd.S_base ho0) hb)
   have n2_:=Aside0.mk (Kd.N_lower (Kd.N_mono (ok':=fun k_=>some k_≠(.slice Ao15 t466.length co15 : Value).ownBlock∧k_≠gb464∧k_≠gb472) ho0 (fun k_ hk_=>⟨Or.elim hk_ (fun hs_=>hs_.1) (fun hn_=>(Kd.fresh' (Kd.R_lt (by (with_reducible repeat (first|apply Kd.R_alloc|apply Kd.R_drewN|apply Kd.R_drew));exact HO468.out)) k_ hn_)),Or.elim hk_ (fun hs_=>hs_.2.1) (fun hn_=>(Kd.freshB (g:=gb464) (o:=.cells #[.int .u8 a0_0,.int .u8 a0_1,.int .u8 a0_2,.int .u8 a0_3,.int .u8 a0_4,.int .u8 a0_5,.int .u8 a0_6,.int .u8 a0_7,.int .u8 a0_8,.int .u8 a0_9,.int .u8 a0_10,.int .u8 a0_11] 24 (0,0)) (by (with_reducible repeat (first|refine blk_drewN ?_ _|refine blk_drew ?_|refine blk_alloc ?_ _));exact BK464.out) k_ hn_)),Or.elim hk_ (fun hs_=>hs_.2.2) (fun hn_=>(Kd.freshB (g:=gb472) (o:=.cells #[.slice Ao15 t466.length co15,.int .i64 t469,.int .i64 t470,.int .i64 t471] 29 (0,0)) (by (with_reducible repeat (first|refine blk_drewN ?_ _|refine blk_drew ?_|refine blk_alloc ?_ _));exact BK472.out) k_ hn_))⟩)) (below_size (by repeat (first|(with_reducible first|exact HB.out|apply below_alloc|apply pw_below_drewN|apply below_drew1|refine below_set ?_ GE464.out|refine below_set ?_ GE472.out)|exact HB.out))))
   have n3_:=Aside0.mk (blk_below (g:=gb464) (o:=.cells #[.int .u8 a0_0,.int .u8 a0_1,.int .u8 a0_2,.int .u8 a0_3,.int .u8 a0_4,.int .u8 a0_5,.int .u8 a0_6,.int .u8 a0_7,.int .u8 a0_8,.int .u8 a0_9,.int .u8 a0_10,.int .u8 a0_11] 24 (0,0)) (by (with_reducible repeat (first|refine blk_drewN ?_ _|refine blk_drew ?_|refine blk_alloc ?_ _));exact BK464.out) hb)
   have n4_:=Aside0.mk (blk_below (g:=gb472) (o:=.cells #[.slice Ao15 t466.length co15,.int .i64 t469,.int .i64 t470,.int .i64 t471] 29 (0,0)) (by (with_reducible repeat (first|refine blk_drewN ?_ _|refine blk_drew ?_|refine blk_alloc ?_ _));exact BK472.out) hb)
   have n5_:=Aside0.mk (below_step (by repeat (first|(with_reducible first|exact HB.out|apply below_alloc|apply pw_below_drewN|apply below_drew1|refine below_set ?_ GE464.out|refine below_set ?_ GE472.out)|exact HB.out)) hb)
   clear HO468
   clear HO475
   clear BK464
   clear BK472
   clear HB
   have HO468:=n0_
   have HO475:=n1_
   have HO478:=n2_
   have BK464:=n3_
   have BK472:=n4_
   have HB:=n5_
   clear n0_ n1_ n2_ n3_ n4_ n5_
   (try clear hb)
   (try clear hb2)
   (try clear hk)
   (try clear hi)
   (try clear ho0)
   refine hK.out _ _ ⟨(blk_cell BK472.out 0).trans rfl,(blk_cell BK472.out 1).trans rfl,(blk_cell BK472.out 2).trans rfl,(blk_cell BK472.out 3).trans rfl⟩ (fun hHeld=>?_)
   clear hK K
   refine norm_ (a':=?_) ?_ ?_
   rotate_left
   ·show Act.put _ (some 22) _=_
    simp only [Act.put,List.setIfInBounds_toArray,List.set_cons_zero,List.set_cons_succ,i64_w,i32_w]
    rfl
   refine pure_ (i:=5) (N:=some 7) (v:=?_) (a':=?_) #[true,true,true,true,true,true] rfl rfl (by kernel_rfl) (fun _ _ _ h=>h) (Or.inl ⟨by rfl,?_⟩) ?_ ?_
   rotate_left;(intro w';go_simp;with_reducible rfl);rotate_left;(simp only [Act.put,List.setIfInBounds_toArray,List.set_cons_zero,List.set_cons_succ,i64_w,i32_w];rfl)
   refine done_ (by kernel_rfl) ?_
   have hcz23_0 : w22.cell? ⟨gb472,0,none⟩=some (.slice Ao15 t466.length co15):=(blk_cell BK472.out 0).trans rfl
   have hcz23_1 : w22.cell? ⟨gb472,1,none⟩=some (.int .i64 t469):=(blk_cell BK472.out 1).trans rfl
   have hcz23_2 : w22.cell? ⟨gb472,2,none⟩=some (.int .i64 t470):=(blk_cell BK472.out 2).trans rfl
   have hcz23_3 : w22.cell? ⟨gb472,3,none⟩=some (.int .i64 t471):=(blk_cell BK472.out 3).trans rfl
   have hfz23_0:=blk_frozen BK472.out 0
   have hfz23_1:=blk_frozen BK472.out 1
   have hfz23_2:=blk_frozen BK472.out 2
   have hfz23_3:=blk_frozen BK472.out 3
   obtain ⟨Ao24,co24,eo24⟩:=Kd.N_slice HO478.out
   subst eo24
   try go_wp2_with (first|((with_reducible refine gate_callee (f:=13) rfl ?_);refine goesL_ (some 25) rfl rfl Try.func13 (by kernel_rfl) rfl #[.agg #[.slice Ao15 t466.length co15,.int .i64 t469,.int .i64 t470,.int .i64 t471],.slice Ao24 t476.length co24] rfl (by (try simp only [List.map_toArray,List.map_cons,List.map_nil]);first|done|rfl|(simp only [List.length_drop,List.length_take];rfl)) ?_;(with_reducible refine (fold_Rows.calls k _ _ t466 t469 t470 t471 (fun k_=>(some k_≠(.slice Ao15 t466.length co15 : Value).ownBlock∧(k_≠gb464∧k_≠gb472))) _ _ t476 t479 _ ?side1 ?side2 ?side3 A7.out).mono ?_);(case side1=>repeat (first|exact (Kd.R_reads' HO468.out).2.2|(with_reducible refine Kd.C_alloc ?_ _)|(with_reducible refine Kd.C_drewN ?_ _)|(with_reducible refine Kd.C_drew ?_)));(case side2=>exact (Kd.R_reads' HO468.out).2.1);(case side3=>exact Kd.N_V (HO478.out));rintro e w25 ⟨v480,rfl,ho0,hb⟩;refine ⟨_,rfl,?_⟩;have n0_:=Aside0.mk (Kd.R_below (by (with_reducible repeat (first|apply Kd.R_alloc|apply Kd.R_drewN|apply Kd.R_drew));exact HO468.out) hb);have n1_:=Aside0.mk (Kd.N_elder' (by (with_reducible repeat (first|apply Kd.N_alloc|apply Kd.N_drewN|apply Kd.N_drew));exact HO475.out) (by first | exact Kd.N_base ho0 | exact Kd.S_base ho0) hb);have n2_:=Aside0.mk (Kd.N_elder' (by (with_reducible repeat (first|apply Kd.N_alloc|apply Kd.N_drewN|apply Kd.N_drew));exact HO478.out) (by first | exact Kd.N_base ho0 | exact Kd.S_base ho0) hb);have n3_:=Aside0.mk (Kd.N_lower (Kd.N_mono (ok':=fun k_=>some k_≠(.slice Ao15 t466.length co15 : Value).ownBlock∧k_≠gb464∧k_≠gb472) ho0 (fun k_ hk_=>⟨Or.elim hk_ (fun hs_=>hs_.1) (fun hn_=>(Kd.fresh' (Kd.R_lt (by (with_reducible repeat (first|apply Kd.R_alloc|apply Kd.R_drewN|apply Kd.R_drew));exact HO468.out)) k_ hn_)),Or.elim hk_ (fun hs_=>hs_.2.1) (fun hn_=>(Kd.freshB (g:=gb464) (o:=.cells #[.int .u8 a0_0,.int .u8 a0_1,.int .u8 a0_2,.int .u8 a0_3,.int .u8 a0_4,.int .u8 a0_5,.int .u8 a0_6,.int .u8 a0_7,.int .u8 a0_8,.int .u8 a0_9,.int .u8 a0_10,.int .u8 a0_11] 24 (0,0)) (by (with_reducible repeat (first|refine blk_drewN ?_ _|refine blk_drew ?_|refine blk_alloc ?_ _));exact BK464.out) k_ hn_)),Or.elim hk_ (fun hs_=>hs_.2.2) (fun hn_=>(Kd.freshB (g:=gb472) (o:=.cells #[.slice Ao15 t466.length co15,.int .i64 t469,.int .i64 t470,.int .i64 t471] 29 (0,0)) (by (with_reducible repeat (first|refine blk_drewN ?_ _|refine blk_drew ?_|refine blk_alloc ?_ _));exact BK472.out) k_ hn_))⟩)) (below_size (by repeat (first|(with_reducible first|exact HB.out|apply below_alloc|apply pw_below_drewN|apply below_drew1|refine below_set ?_ GE464.out|refine below_set ?_ GE472.out)|exact HB.out))));have n4_:=Aside0.mk (blk_below (g:=gb464) (o:=.cells #[.int .u8 a0_0,.int .u8 a0_1,.int .u8 a0_2,.int .u8 a0_3,.int .u8 a0_4,.int .u8 a0_5,.int .u8 a0_6,.int .u8 a0_7,.int .u8 a0_8,.int .u8 a0_9,.int .u8 a0_10,.int .u8 a0_11] 24 (0,0)) (by (with_reducible repeat (first|refine blk_drewN ?_ _|refine blk_drew ?_|refine blk_alloc ?_ _));exact BK464.out) hb);have n5_:=Aside0.mk (blk_below (g:=gb472) (o:=.cells #[.slice Ao15 t466.length co15,.int .i64 t469,.int .i64 t470,.int .i64 t471] 29 (0,0)) (by (with_reducible repeat (first|refine blk_drewN ?_ _|refine blk_drew ?_|refine blk_alloc ?_ _));exact BK472.out) hb);have n6_:=Aside0.mk (below_step (by repeat (first|(with_reducible first|exact HB.out|apply below_alloc|apply pw_below_drewN|apply below_drew1|refine below_set ?_ GE464.out|refine below_set ?_ GE472.out)|exact HB.out)) hb);clear HO468;clear HO475;clear HO478;clear BK464;clear BK472;clear HB;have HO468:=n0_;have HO475:=n1_;have HO478:=n2_;have HO481:=n3_;have BK464:=n4_;have BK472:=n5_;have HB:=n6_;clear n0_ n1_ n2_ n3_ n4_ n5_ n6_;(try clear hb);(try clear hb2);(try clear hk);(try clear hi);(try clear ho0);have hcz26_0 : w25.cell? ⟨gb472,0,none⟩=some (.slice Ao15 t466.length co15):=(blk_cell BK472.out 0).trans rfl;have hcz26_1 : w25.cell? ⟨gb472,1,none⟩=some (.int .i64 t469):=(blk_cell BK472.out 1).trans rfl;have hcz26_2 : w25.cell? ⟨gb472,2,none⟩=some (.int .i64 t470):=(blk_cell BK472.out 2).trans rfl;have hcz26_3 : w25.cell? ⟨gb472,3,none⟩=some (.int .i64 t471):=(blk_cell BK472.out 3).trans rfl;have hfz26_0:=blk_frozen BK472.out 0;have hfz26_1:=blk_frozen BK472.out 1;have hfz26_2:=blk_frozen BK472.out 2;have hfz26_3:=blk_frozen BK472.out 3;obtain ⟨Ao27,co27,eo27⟩:=Kd.N_slice HO481.out;subst eo27))
   go_ret
   exact ⟨by first|rfl|(simp [errW_none,errW_some] <;> rfl)|(simp [*,errW_none,errW_some] <;> rfl),by repeat (first|(with_reducible first|exact HB.out|apply below_alloc|apply pw_below_drewN|apply below_drew1|refine below_set ?_ GE464.out|refine below_set ?_ GE472.out)|exact HB.out)⟩
  ·replace c9:=Bool.eq_false_iff.mpr c9
   subst c9
   have H1 : (some false)=some r:=by rw [if_neg (show ¬ (false=true) by decide)] at H;exact H
   clear H
   have H:=H1
   clear H1
   obtain rfl:=Option.some.inj H
   go_enter Try.func7,Try.ntmps7
   try go_wp2_with (first|((with_reducible refine gate_dst (N:=2) rfl ?_);(try (refine gate_guard (by rfl) ?_;dsimp only));refine box_event ?hg (N:=2) ?hd (cs:=#[.int .u8 a0_0,.int .u8 a0_1,.int .u8 a0_2,.int .u8 a0_3,.int .u8 a0_4,.int .u8 a0_5,.int .u8 a0_6,.int .u8 a0_7,.int .u8 a0_8,.int .u8 a0_9,.int .u8 a0_10,.int .u8 a0_11]) (t:=24) ?hr ?_;(case hd=>rfl);(case hg=>rfl);(case hr=>first|(go_simp;done)|(go_simp;rfl));intro gb464 hg w28 hbox hb;have n0_:=Aside0.mk (below_step (by repeat (first|(with_reducible first|exact HB.out|apply below_alloc|apply pw_below_drewN|apply below_drew1)|exact HB.out)) hb);have n1_:=Aside0.mk (hbox);have n2_:=Aside0.mk ((by rw [hg];exact (below_size (by repeat (first|(with_reducible first|exact HB.out|apply below_alloc|apply pw_below_drewN|apply below_drew1)|exact HB.out))) : w.heap.size≤gb464));have n3_:=Aside0.mk ((by rw [hg];exact (below_size (by repeat (first|(with_reducible first|exact HB.out|apply below_alloc|apply pw_below_drewN|apply below_drew1)|exact HB.out))) : w.heap.size≤gb464));clear HB;have HB:=n0_;have BK464:=n1_;have GW464:=n2_;have GE464:=n3_;clear n0_ n1_ n2_ n3_;clear hb hbox hg)|((with_reducible refine gate_callee (f:=8) rfl ?_);refine goesL_ (some 15) rfl rfl Try.func8 (by kernel_rfl) rfl #[] rfl (by (try simp only [List.map_toArray,List.map_cons,List.map_nil]);first|done|rfl|(simp only [List.length_drop,List.length_take];rfl)) ?_;(with_reducible refine (thresherlaw13_shown.calls k  false _ A3.out).mono ?_);rintro e w29 ⟨rfl,hb⟩;refine ⟨_,rfl,?_⟩;have n0_:=Aside0.mk (blk_below (g:=gb464) (o:=.cells #[.int .u8 a0_0,.int .u8 a0_1,.int .u8 a0_2,.int .u8 a0_3,.int .u8 a0_4,.int .u8 a0_5,.int .u8 a0_6,.int .u8 a0_7,.int .u8 a0_8,.int .u8 a0_9,.int .u8 a0_10,.int .u8 a0_11] 24 (0,0)) (by (with_reducible repeat (first|refine blk_drewN ?_ _|refine blk_drew ?_|refine blk_alloc ?_ _));exact BK464.out) hb);have n1_:=Aside0.mk (below_step (by repeat (first|(with_reducible first|exact HB.out|apply below_alloc|apply pw_below_drewN|apply below_drew1|refine below_set ?_ GE464.out)|exact HB.out)) hb);clear BK464;clear HB;have BK464:=n0_;have HB:=n1_;clear n0_ n1_;(try clear hb);(try clear hb2);(try clear hk);(try clear hi);have hcz30_0 : w29.cell? ⟨gb464,0,none⟩=some (.int .u8 a0_0):=(blk_cell BK464.out 0).trans rfl;have hcz30_1 : w29.cell? ⟨gb464,1,none⟩=some (.int .u8 a0_1):=(blk_cell BK464.out 1).trans rfl;have hcz30_2 : w29.cell? ⟨gb464,2,none⟩=some (.int .u8 a0_2):=(blk_cell BK464.out 2).trans rfl;have hcz30_3 : w29.cell? ⟨gb464,3,none⟩=some (.int .u8 a0_3):=(blk_cell BK464.out 3).trans rfl;have hcz30_4 : w29.cell? ⟨gb464,4,none⟩=some (.int .u8 a0_4):=(blk_cell BK464.out 4).trans rfl;have hcz30_5 : w29.cell? ⟨gb464,5,none⟩=some (.int .u8 a0_5):=(blk_cell BK464.out 5).trans rfl;have hcz30_6 : w29.cell? ⟨gb464,6,none⟩=some (.int .u8 a0_6):=(blk_cell BK464.out 6).trans rfl;have hcz30_7 : w29.cell? ⟨gb464,7,none⟩=some (.int .u8 a0_7):=(blk_cell BK464.out 7).trans rfl;have hcz30_8 : w29.cell? ⟨gb464,8,none⟩=some (.int .u8 a0_8):=(blk_cell BK464.out 8).trans rfl;have hcz30_9 : w29.cell? ⟨gb464,9,none⟩=some (.int .u8 a0_9):=(blk_cell BK464.out 9).trans rfl;have hcz30_10 : w29.cell? ⟨gb464,10,none⟩=some (.int .u8 a0_10):=(blk_cell BK464.out 10).trans rfl;have hcz30_11 : w29.cell? ⟨gb464,11,none⟩=some (.int .u8 a0_11):=(blk_cell BK464.out 11).trans rfl;have hfz30_0:=blk_frozen BK464.out 0;have hfz30_1:=blk_frozen BK464.out 1;have hfz30_2:=blk_frozen BK464.out 2;have hfz30_3:=blk_frozen BK464.out 3;have hfz30_4:=blk_frozen BK464.out 4;have hfz30_5:=blk_frozen BK464.out 5;have hfz30_6:=blk_frozen BK464.out 6;have hfz30_7:=blk_frozen BK464.out 7;have hfz30_8:=blk_frozen BK464.out 8;have hfz30_9:=blk_frozen BK464.out 9;have hfz30_10:=blk_frozen BK464.out 10;have hfz30_11:=blk_frozen BK464.out 11)|((with_reducible refine gate_callee (f:=9) rfl ?_);refine goesL_ (some 17) rfl rfl Try.func9 (by kernel_rfl) rfl #[.agg #[.int .u8 a0_0,.int .u8 a0_1,.int .u8 a0_2,.int .u8 a0_3,.int .u8 a0_4,.int .u8 a0_5,.int .u8 a0_6,.int .u8 a0_7,.int .u8 a0_8,.int .u8 a0_9,.int .u8 a0_10,.int .u8 a0_11]] rfl (by (try simp only [List.map_toArray,List.map_cons,List.map_nil]);first|done|rfl|(simp only [List.length_drop,List.length_take];rfl)) ?_;(with_reducible refine (thresherlaw13_made.calls k a0_0 a0_1 a0_2 a0_3 a0_4 a0_5 a0_6 a0_7 a0_8 a0_9 a0_10 a0_11 t466 t469 t470 t471 _ A4.out).mono ?_);rintro e w31 ⟨v467,rfl,ho0,hb⟩;refine ⟨_,rfl,?_⟩;have n0_:=Aside0.mk (Kd.R_lower ho0 (below_size (by repeat (first|(with_reducible first|exact HB.out|apply below_alloc|apply pw_below_drewN|apply below_drew1|refine below_set ?_ GE464.out)|exact HB.out))));have n1_:=Aside0.mk (blk_below (g:=gb464) (o:=.cells #[.int .u8 a0_0,.int .u8 a0_1,.int .u8 a0_2,.int .u8 a0_3,.int .u8 a0_4,.int .u8 a0_5,.int .u8 a0_6,.int .u8 a0_7,.int .u8 a0_8,.int .u8 a0_9,.int .u8 a0_10,.int .u8 a0_11] 24 (0,0)) (by (with_reducible repeat (first|refine blk_drewN ?_ _|refine blk_drew ?_|refine blk_alloc ?_ _));exact BK464.out) hb);have n2_:=Aside0.mk (below_step (by repeat (first|(with_reducible first|exact HB.out|apply below_alloc|apply pw_below_drewN|apply below_drew1|refine below_set ?_ GE464.out)|exact HB.out)) hb);clear BK464;clear HB;have HO468:=n0_;have BK464:=n1_;have HB:=n2_;clear n0_ n1_ n2_;(try clear hb);(try clear hb2);(try clear hk);(try clear hi);(try clear ho0))|((with_reducible refine gate_dst (N:=6) rfl ?_);(try (refine gate_guard (by rfl) ?_;dsimp only));refine box_event ?hg (N:=6) ?hd (cs:=#[.slice none 0 0,.int .i64 0,.int .i64 0,.int .i64 0]) (t:=29) ?hr ?_;(case hd=>rfl);(case hg=>rfl);(case hr=>first|(go_simp;done)|(go_simp;rfl));intro gb472 hg w32 hbox hb;have n0_:=Aside0.mk (Kd.R_below (by (with_reducible repeat (first|apply Kd.R_alloc|apply Kd.R_drewN|apply Kd.R_drew));exact HO468.out) hb);have n1_:=Aside0.mk (blk_below (g:=gb464) (o:=.cells #[.int .u8 a0_0,.int .u8 a0_1,.int .u8 a0_2,.int .u8 a0_3,.int .u8 a0_4,.int .u8 a0_5,.int .u8 a0_6,.int .u8 a0_7,.int .u8 a0_8,.int .u8 a0_9,.int .u8 a0_10,.int .u8 a0_11] 24 (0,0)) (by (with_reducible repeat (first|refine blk_drewN ?_ _|refine blk_drew ?_|refine blk_alloc ?_ _));exact BK464.out) hb);have n2_:=Aside0.mk (below_step (by repeat (first|(with_reducible first|exact HB.out|apply below_alloc|apply pw_below_drewN|apply below_drew1|refine below_set ?_ GE464.out)|exact HB.out)) hb);have n3_:=Aside0.mk (hbox);have n4_:=Aside0.mk ((by rw [hg];exact (below_size (by repeat (first|(with_reducible first|exact HB.out|apply below_alloc|apply pw_below_drewN|apply below_drew1|refine below_set ?_ GE464.out)|exact HB.out))) : w.heap.size≤gb472));have n5_:=Aside0.mk ((by rw [hg];exact (below_size (by repeat (first|(with_reducible first|exact HB.out|apply below_alloc|apply pw_below_drewN|apply below_drew1|refine below_set ?_ GE464.out)|exact HB.out))) : w.heap.size≤gb472));have n6_:=Aside0.mk ((by rw [hg];exact Nat.ne_of_lt (blk_lt (g:=gb464) (o:=.cells #[.int .u8 a0_0,.int .u8 a0_1,.int .u8 a0_2,.int .u8 a0_3,.int .u8 a0_4,.int .u8 a0_5,.int .u8 a0_6,.int .u8 a0_7,.int .u8 a0_8,.int .u8 a0_9,.int .u8 a0_10,.int .u8 a0_11] 24 (0,0)) (by (with_reducible repeat (first|refine blk_drewN ?_ _|refine blk_drew ?_|refine blk_alloc ?_ _));exact BK464.out)) : gb464≠gb472));have n7_:=Aside0.mk ((by rw [hg];exact Nat.ne_of_gt (blk_lt (g:=gb464) (o:=.cells #[.int .u8 a0_0,.int .u8 a0_1,.int .u8 a0_2,.int .u8 a0_3,.int .u8 a0_4,.int .u8 a0_5,.int .u8 a0_6,.int .u8 a0_7,.int .u8 a0_8,.int .u8 a0_9,.int .u8 a0_10,.int .u8 a0_11] 24 (0,0)) (by (with_reducible repeat (first|refine blk_drewN ?_ _|refine blk_drew ?_|refine blk_alloc ?_ _));exact BK464.out)) : gb472≠gb464));clear HO468;clear BK464;clear HB;have HO468:=n0_;have BK464:=n1_;have HB:=n2_;have BK472:=n3_;have GW472:=n4_;have GE472:=n5_;have NB464_472:=n6_;have NB472_464:=n7_;clear n0_ n1_ n2_ n3_ n4_ n5_ n6_ n7_;clear hb hbox hg;obtain ⟨Ao33,co33,eo33⟩:=Kd.R_slice HO468.out;subst eo33;have hnb34:=NB472_464.out;have hnc34:=NB464_472.out;have hcz35_0 : w32.cell? ⟨gb472,0,none⟩=some (.slice none 0 0):=(blk_cell BK472.out 0).trans rfl;have hcz35_1 : w32.cell? ⟨gb472,1,none⟩=some (.int .i64 0):=(blk_cell BK472.out 1).trans rfl;have hcz35_2 : w32.cell? ⟨gb472,2,none⟩=some (.int .i64 0):=(blk_cell BK472.out 2).trans rfl;have hcz35_3 : w32.cell? ⟨gb472,3,none⟩=some (.int .i64 0):=(blk_cell BK472.out 3).trans rfl;have hfz35_0:=blk_frozen BK472.out 0;have hfz35_1:=blk_frozen BK472.out 1;have hfz35_2:=blk_frozen BK472.out 2;have hfz35_3:=blk_frozen BK472.out 3))
   have n0_ : Aside0 (Kd.R (Kd.int .i64) 3 ((((w32.setCell ⟨gb472,0,none⟩ (.slice Ao33 t466.length co33)).setCell ⟨gb472,1,none⟩ (.int .i64 t469)).setCell ⟨gb472,2,none⟩ (.int .i64 t470)).setCell ⟨gb472,3,none⟩ (.int .i64 t471)) w.heap.size (fun _=>True) (.slice Ao33 t466.length co33) t466):=⟨by (with_reducible repeat (first|apply Kd.R_alloc|apply Kd.R_drewN|apply Kd.R_drew));exact Kd.R_mono (Kd.R_far (p:=⟨gb472,3,none⟩) (Kd.R_far (p:=⟨gb472,2,none⟩) (Kd.R_far (p:=⟨gb472,1,none⟩) (Kd.R_far (p:=⟨gb472,0,none⟩) (Kd.R_types HO468.out BK472.out (by decide)) (fun _ hk=>hk.2) (.slice Ao33 t466.length co33)) (fun _ hk=>hk.2) (.int .i64 t469)) (fun _ hk=>hk.2) (.int .i64 t470)) (fun _ hk=>hk.2) (.int .i64 t471)) (fun _ hk=>trivial)⟩
   have n1_ : Aside0 (((((w32.setCell ⟨gb472,0,none⟩ (.slice Ao33 t466.length co33)).setCell ⟨gb472,1,none⟩ (.int .i64 t469)).setCell ⟨gb472,2,none⟩ (.int .i64 t470)).setCell ⟨gb472,3,none⟩ (.int .i64 t471)).heap[gb464]?=some (.cells #[.int .u8 a0_0,.int .u8 a0_1,.int .u8 a0_2,.int .u8 a0_3,.int .u8 a0_4,.int .u8 a0_5,.int .u8 a0_6,.int .u8 a0_7,.int .u8 a0_8,.int .u8 a0_9,.int .u8 a0_10,.int .u8 a0_11] 24 (0,0))):=⟨by (with_reducible repeat (first|refine blk_drewN ?_ _|refine blk_drew ?_|refine blk_alloc ?_ _));refine blk_far ?_ NB464_472.out _;(with_reducible repeat (first|refine blk_drewN ?_ _|refine blk_drew ?_|refine blk_alloc ?_ _));refine blk_far ?_ NB464_472.out _;(with_reducible repeat (first|refine blk_drewN ?_ _|refine blk_drew ?_|refine blk_alloc ?_ _));refine blk_far ?_ NB464_472.out _;(with_reducible repeat (first|refine blk_drewN ?_ _|refine blk_drew ?_|refine blk_alloc ?_ _));refine blk_far ?_ NB464_472.out _;(with_reducible repeat (first|refine blk_drewN ?_ _|refine blk_drew ?_|refine blk_alloc ?_ _));exact BK464.out⟩
   have n2_ : Aside0 (((((w32.setCell ⟨gb472,0,none⟩ (.slice Ao33 t466.length co33)).setCell ⟨gb472,1,none⟩ (.int .i64 t469)).setCell ⟨gb472,2,none⟩ (.int .i64 t470)).setCell ⟨gb472,3,none⟩ (.int .i64 t471)).heap[gb472]?=some (.cells #[.slice Ao33 t466.length co33,.int .i64 t469,.int .i64 t470,.int .i64 t471] 29 (0,0))):=⟨by (with_reducible repeat (first|refine blk_drewN ?_ _|refine blk_drew ?_|refine blk_alloc ?_ _));refine blk_put (cs:=#[.slice Ao33 t466.length co33,.int .i64 t469,.int .i64 t470,.int .i64 0]) ?_ 3 _ rfl;(with_reducible repeat (first|refine blk_drewN ?_ _|refine blk_drew ?_|refine blk_alloc ?_ _));refine blk_put (cs:=#[.slice Ao33 t466.length co33,.int .i64 t469,.int .i64 0,.int .i64 0]) ?_ 2 _ rfl;(with_reducible repeat (first|refine blk_drewN ?_ _|refine blk_drew ?_|refine blk_alloc ?_ _));refine blk_put (cs:=#[.slice Ao33 t466.length co33,.int .i64 0,.int .i64 0,.int .i64 0]) ?_ 1 _ rfl;(with_reducible repeat (first|refine blk_drewN ?_ _|refine blk_drew ?_|refine blk_alloc ?_ _));refine blk_put (cs:=#[.slice none 0 0,.int .i64 0,.int .i64 0,.int .i64 0]) ?_ 0 _ rfl;(with_reducible repeat (first|refine blk_drewN ?_ _|refine blk_drew ?_|refine blk_alloc ?_ _));exact BK472.out⟩
   have n3_ : Aside0 (Below w.heap.size w ((((w32.setCell ⟨gb472,0,none⟩ (.slice Ao33 t466.length co33)).setCell ⟨gb472,1,none⟩ (.int .i64 t469)).setCell ⟨gb472,2,none⟩ (.int .i64 t470)).setCell ⟨gb472,3,none⟩ (.int .i64 t471))):=⟨by repeat (first|(with_reducible first|exact HB.out|apply below_alloc|apply pw_below_drewN|apply below_drew1|refine below_set ?_ GE464.out|refine below_set ?_ GE472.out)|exact HB.out)⟩
   (try clear HO468)
   (try clear BK464)
   (try clear BK472)
   (try clear HB)
   generalize ((((w32.setCell ⟨gb472,0,none⟩ (.slice Ao33 t466.length co33)).setCell ⟨gb472,1,none⟩ (.int .i64 t469)).setCell ⟨gb472,2,none⟩ (.int .i64 t470)).setCell ⟨gb472,3,none⟩ (.int .i64 t471))=w36 at n0_ n1_ n2_ n3_ ⊢
   have HO468:=n0_
   have BK464:=n1_
   have BK472:=n2_
   have HB:=n3_
   clear n0_ n1_ n2_ n3_
   have n0_:=Aside0.mk (Kd.R_drew HO468.out)
   have n1_:=Aside0.mk (blk_drew BK464.out)
   have n2_:=Aside0.mk (blk_drew BK472.out)
   have n3_:=Aside0.mk (below_drew1 HB.out)
   clear HO468
   clear BK464
   clear BK472
   clear HB
   have HO468:=n0_
   have BK464:=n1_
   have BK472:=n2_
   have HB:=n3_
   clear n0_ n1_ n2_ n3_
   refine start_ (n:=6) (S:=fun w'=>w'.cell? ⟨gb472,0,none⟩=some (.slice Ao33 t466.length co33)∧w'.cell? ⟨gb472,1,none⟩=some (.int .i64 t469)∧w'.cell? ⟨gb472,2,none⟩=some (.int .i64 t470)∧w'.cell? ⟨gb472,3,none⟩=some (.int .i64 t471)) (ds:=[]) #[false,false,false,false,false,false] (by kernel_rfl) rfl rfl ⟨(blk_cell BK472.out 0).trans rfl,(blk_cell BK472.out 1).trans rfl,(blk_cell BK472.out 2).trans rfl,(blk_cell BK472.out 3).trans rfl⟩ (fun hHeld=>?_)
   generalize w36.drew=w37 at HO468 BK464 BK472 HB hHeld ⊢
   refine pure_ (i:=2) (N:=some 20) (v:=?_) (a':=?_) #[false,false,true,false,false,false] rfl rfl (by kernel_rfl) (fun _ _ _ h=>h) (Or.inl ⟨by rfl,?_⟩) ?_ ?_
   rotate_left;(intro w';go_simp;with_reducible rfl);rotate_left;(simp only [Act.put,List.setIfInBounds_toArray,List.set_cons_zero,List.set_cons_succ,i64_w,i32_w];rfl)
   refine take_ (i:=0) (N:=some 18) (v:=?_) (a':=?_) #[true,false,true,false,false,false] rfl rfl (by kernel_rfl) (fun _ _ _ h=>h) (Or.inl ⟨by rfl,?_⟩) hHeld ?_ ?_
   rotate_left;(rintro w' ⟨s0,s1,s2,s3⟩;go_simp;with_reducible rfl);rotate_left;(simp only [Act.put,List.setIfInBounds_toArray,List.set_cons_zero,List.set_cons_succ,i64_w,i32_w];rfl)
   refine take_ (i:=1) (N:=some 19) (v:=?_) (a':=?_) #[true,true,true,false,false,false] rfl rfl (by kernel_rfl) (fun _ _ _ h=>h) (Or.inl ⟨by rfl,?_⟩) hHeld ?_ ?_
   rotate_left;(rintro w' ⟨s0,s1,s2,s3⟩;go_simp;with_reducible rfl);rotate_left;(simp only [Act.put,List.setIfInBounds_toArray,List.set_cons_zero,List.set_cons_succ,i64_w,i32_w];rfl)
   refine one_ (i:=3) (N:=some 21) #[true,true,true,true,false,false] rfl rfl (by kernel_rfl) (by decide) (fun K hK=>?_)
   refine goes_ Try.func11 (by kernel_rfl) rfl #[.agg #[.slice Ao33 t466.length co33,.int .i64 t469,.int .i64 t470,.int .i64 t471],.slice A1 l1.length c1,.int .i64 60] (by rfl) rfl rfl (by (try simp only [List.map_toArray,List.map_cons,List.map_nil]);first|done|rfl|(simp only [List.length_drop,List.length_take];rfl)) ?_
   with_reducible refine (thresherref04_Fits.calls k _ _ t466 t469 t470 t471 _ _ l1 60 t473 _ ?side1 ?side2 ?side3 ?side4 A5.out).mono ?_
   (case side1=>repeat (first|exact (Kd.R_reads' HO468.out).2.2|(with_reducible refine Kd.C_alloc ?_ _)|(with_reducible refine Kd.C_drewN ?_ _)|(with_reducible refine Kd.C_drew ?_)))
   (case side2=>exact (Kd.R_reads' HO468.out).2.1)
   (case side3=>repeat (first|exact (Kd.C_below HR1.out HB.out)|(with_reducible refine Kd.C_alloc ?_ _)|(with_reducible refine Kd.C_drewN ?_ _)|(with_reducible refine Kd.C_drew ?_)))
   (case side4=>exact HC1.out)
   rintro e w38 ⟨v474,rfl,ho0,hb⟩
   refine ⟨_,rfl,?_⟩
   have n0_:=Aside0.mk (Kd.R_below (by (with_reducible repeat (first|apply Kd.R_alloc|apply Kd.R_drewN|apply Kd.R_drew));exact HO468.out) hb)
   have n1_:=Aside0.mk (Kd.N_lower (Kd.N_mono (ok':=fun k_=>some k_≠(.slice Ao33 t466.length co33 : Value).ownBlock∧k_≠gb464∧k_≠gb472) (Kd.S_N (Kd.S_bound ho0)) (fun k_ hk_=>⟨(Kd.fresh' (Kd.R_lt (by (with_reducible repeat (first|apply Kd.R_alloc|apply Kd.R_drewN|apply Kd.R_drew));exact HO468.out)) k_ hk_.2.1),(Kd.freshB (g:=gb464) (o:=.cells #[.int .u8 a0_0,.int .u8 a0_1,.int .u8 a0_2,.int .u8 a0_3,.int .u8 a0_4,.int .u8 a0_5,.int .u8 a0_6,.int .u8 a0_7,.int .u8 a0_8,.int .u8 a0_9,.int .u8 a0_10,.int .u8 a0_11] 24 (0,0)) (by (with_reducible repeat (first|refine blk_drewN ?_ _|refine blk_drew ?_|refine blk_alloc ?_ _));exact BK464.out) k_ hk_.2.1),(Kd.freshB (g:=gb472) (o:=.cells #[.slice Ao33 t466.length co33,.int .i64 t469,.int .i64 t470,.int .i64 t471] 29 (0,0)) (by (with_reducible repeat (first|refine blk_drewN ?_ _|refine blk_drew ?_|refine blk_alloc ?_ _));exact BK472.out) k_ hk_.2.1)⟩)) (below_size (by repeat (first|(with_reducible first|exact HB.out|apply below_alloc|apply pw_below_drewN|apply below_drew1|refine below_set ?_ GE464.out|refine below_set ?_ GE472.out)|exact HB.out))))
   have n2_:=Aside0.mk (blk_below (g:=gb464) (o:=.cells #[.int .u8 a0_0,.int .u8 a0_1,.int .u8 a0_2,.int .u8 a0_3,.int .u8 a0_4,.int .u8 a0_5,.int .u8 a0_6,.int .u8 a0_7,.int .u8 a0_8,.int .u8 a0_9,.int .u8 a0_10,.int .u8 a0_11] 24 (0,0)) (by (with_reducible repeat (first|refine blk_drewN ?_ _|refine blk_drew ?_|refine blk_alloc ?_ _));exact BK464.out) hb)
   have n3_:=Aside0.mk (blk_below (g:=gb472) (o:=.cells #[.slice Ao33 t466.length co33,.int .i64 t469,.int .i64 t470,.int .i64 t471] 29 (0,0)) (by (with_reducible repeat (first|refine blk_drewN ?_ _|refine blk_drew ?_|refine blk_alloc ?_ _));exact BK472.out) hb)
   have n4_:=Aside0.mk (below_step (by repeat (first|(with_reducible first|exact HB.out|apply below_alloc|apply pw_below_drewN|apply below_drew1|refine below_set ?_ GE464.out|refine below_set ?_ GE472.out)|exact HB.out)) hb)
   clear HO468
   clear BK464
   clear BK472
   clear HB
   have HO468:=n0_
   have HO475:=n1_
   have BK464:=n2_
   have BK472:=n3_
   have HB:=n4_
   clear n0_ n1_ n2_ n3_ n4_
   (try clear hb)
   (try clear hb2)
   (try clear hk)
   (try clear hi)
   (try clear ho0)
   obtain ⟨Ao39,co39,eo39⟩:=Kd.N_slice HO475.out
   (first|subst eo39|(injection eo39 with f1_ f2_ f3_;have f4_:=f1_.symm;have f5_:=f3_.symm;clear f1_ f2_ f3_;subst f4_;subst f5_))
   refine hK.out _ _ ⟨(blk_cell BK472.out 0).trans rfl,(blk_cell BK472.out 1).trans rfl,(blk_cell BK472.out 2).trans rfl,(blk_cell BK472.out 3).trans rfl⟩ (fun hHeld=>?_)
   clear hK K
   refine norm_ (a':=?_) ?_ ?_
   rotate_left
   ·show Act.put _ (some 21) _=_
    simp only [Act.put,List.setIfInBounds_toArray,List.set_cons_zero,List.set_cons_succ,i64_w,i32_w]
    rfl
   refine one_ (i:=4) (N:=some 22) #[true,true,true,true,true,false] rfl rfl (by kernel_rfl) (by decide) (fun K hK=>?_)
   refine goes_ Try.func10 (by kernel_rfl) rfl #[.agg #[.slice Ao33 t466.length co33,.int .i64 t469,.int .i64 t470,.int .i64 t471],.slice Ao39 t473.length co39] (by rfl) rfl rfl (by (try simp only [List.map_toArray,List.map_cons,List.map_nil]);first|done|rfl|(simp only [List.length_drop,List.length_take];rfl)) ?_
   with_reducible refine (thresherref09_Sort.calls k _ _ t466 t469 t470 t471 (fun k_=>(some k_≠(.slice Ao33 t466.length co33 : Value).ownBlock∧(k_≠gb464∧k_≠gb472))) _ _ t473 t476 _ ?side1 ?side2 ?side3 A6.out).mono ?_
   (case side1=>repeat (first|exact (Kd.R_reads' HO468.out).2.2|(with_reducible refine Kd.C_alloc ?_ _)|(with_reducible refine Kd.C_drewN ?_ _)|(with_reducible refine Kd.C_drew ?_)))
   (case side2=>exact (Kd.R_reads' HO468.out).2.1)
   (case side3=>exact Kd.N_V (HO475.out))
   rintro e w40 ⟨v477,rfl,ho0,hb⟩
   refine ⟨_,rfl,?_⟩
   have n0_:=Aside0.mk (Kd.R_below (by (with_reducible repeat (first|apply Kd.R_alloc|apply Kd.R_drewN|apply Kd.R_drew));exact HO468.out) hb)
   have n1_:=Aside0.mk (Kd.N_elder' (by (with_reducible repeat (first|apply Kd.N_alloc|apply Kd.N_drewN|apply Kd.N_drew));exact HO475.out) (by first | exact Kd.N_base ho0 | exact Kd.S_base ho0) hb)
   have n2_:=Aside0.mk (Kd.N_lower (Kd.N_mono (ok':=fun k_=>some k_≠(.slice Ao33 t466.length co33 : Value).ownBlock∧k_≠gb464∧k_≠gb472) ho0 (fun k_ hk_=>⟨Or.elim hk_ (fun hs_=>hs_.1) (fun hn_=>(Kd.fresh' (Kd.R_lt (by (with_reducible repeat (first|apply Kd.R_alloc|apply Kd.R_drewN|apply Kd.R_drew));exact HO468.out)) k_ hn_)),Or.elim hk_ (fun hs_=>hs_.2.1) (fun hn_=>(Kd.freshB (g:=gb464) (o:=.cells #[.int .u8 a0_0,.int .u8 a0_1,.int .u8 a0_2,.int .u8 a0_3,.int .u8 a0_4,.int .u8 a0_5,.int .u8 a0_6,.int .u8 a0_7,.int .u8 a0_8,.int .u8 a0_9,.int .u8 a0_10,.int .u8 a0_11] 24 (0,0)) (by (with_reducible repeat (first|refine blk_drewN ?_ _|refine blk_drew ?_|refine blk_alloc ?_ _));exact BK464.out) k_ hn_)),Or.elim hk_ (fun hs_=>hs_.2.2) (fun hn_=>(Kd.freshB (g:=gb472) (o:=.cells #[.slice Ao33 t466.length co33,.int .i64 t469,.int .i64 t470,.int .i64 t471] 29 (0,0)) (by (with_reducible repeat (first|refine blk_drewN ?_ _|refine blk_drew ?_|refine blk_alloc ?_ _));exact BK472.out) k_ hn_))⟩)) (below_size (by repeat (first|(with_reducible first|exact HB.out|apply below_alloc|apply pw_below_drewN|apply below_drew1|refine below_set ?_ GE464.out|refine below_set ?_ GE472.out)|exact HB.out))))
   have n3_:=Aside0.mk (blk_below (g:=gb464) (o:=.cells #[.int .u8 a0_0,.int .u8 a0_1,.int .u8 a0_2,.int .u8 a0_3,.int .u8 a0_4,.int .u8 a0_5,.int .u8 a0_6,.int .u8 a0_7,.int .u8 a0_8,.int .u8 a0_9,.int .u8 a0_10,.int .u8 a0_11] 24 (0,0)) (by (with_reducible repeat (first|refine blk_drewN ?_ _|refine blk_drew ?_|refine blk_alloc ?_ _));exact BK464.out) hb)
   have n4_:=Aside0.mk (blk_below (g:=gb472) (o:=.cells #[.slice Ao33 t466.length co33,.int .i64 t469,.int .i64 t470,.int .i64 t471] 29 (0,0)) (by (with_reducible repeat (first|refine blk_drewN ?_ _|refine blk_drew ?_|refine blk_alloc ?_ _));exact BK472.out) hb)
   have n5_:=Aside0.mk (below_step (by repeat (first|(with_reducible first|exact HB.out|apply below_alloc|apply pw_below_drewN|apply below_drew1|refine below_set ?_ GE464.out|refine below_set ?_ GE472.out)|exact HB.out)) hb)
   clear HO468
   clear HO475
   clear BK464
   clear BK472
   clear HB
   have HO468:=n0_
   have HO475:=n1_
   have HO478:=n2_
   have BK464:=n3_
   have BK472:=n4_
   have HB:=n5_
   clear n0_ n1_ n2_ n3_ n4_ n5_
   (try clear hb)
   (try clear hb2)
   (try clear hk)
   (try clear hi)
   (try clear ho0)
   refine hK.out _ _ ⟨(blk_cell BK472.out 0).trans rfl,(blk_cell BK472.out 1).trans rfl,(blk_cell BK472.out 2).trans rfl,(blk_cell BK472.out 3).trans rfl⟩ (fun hHeld=>?_)
   clear hK K
   refine norm_ (a':=?_) ?_ ?_
   rotate_left
   ·show Act.put _ (some 22) _=_
    simp only [Act.put,List.setIfInBounds_toArray,List.set_cons_zero,List.set_cons_succ,i64_w,i32_w]
    rfl
   refine pure_ (i:=5) (N:=some 7) (v:=?_) (a':=?_) #[true,true,true,true,true,true] rfl rfl (by kernel_rfl) (fun _ _ _ h=>h) (Or.inl ⟨by rfl,?_⟩) ?_ ?_
   rotate_left;(intro w';go_simp;with_reducible rfl);rotate_left;(simp only [Act.put,List.setIfInBounds_toArray,List.set_cons_zero,List.set_cons_succ,i64_w,i32_w];rfl)
   refine done_ (by kernel_rfl) ?_
   have hcz41_0 : w40.cell? ⟨gb472,0,none⟩=some (.slice Ao33 t466.length co33):=(blk_cell BK472.out 0).trans rfl
   have hcz41_1 : w40.cell? ⟨gb472,1,none⟩=some (.int .i64 t469):=(blk_cell BK472.out 1).trans rfl
   have hcz41_2 : w40.cell? ⟨gb472,2,none⟩=some (.int .i64 t470):=(blk_cell BK472.out 2).trans rfl
   have hcz41_3 : w40.cell? ⟨gb472,3,none⟩=some (.int .i64 t471):=(blk_cell BK472.out 3).trans rfl
   have hfz41_0:=blk_frozen BK472.out 0
   have hfz41_1:=blk_frozen BK472.out 1
   have hfz41_2:=blk_frozen BK472.out 2
   have hfz41_3:=blk_frozen BK472.out 3
   obtain ⟨Ao42,co42,eo42⟩:=Kd.N_slice HO478.out
   subst eo42
   try go_wp2_with (first|((with_reducible refine gate_callee (f:=13) rfl ?_);refine goesL_ (some 25) rfl rfl Try.func13 (by kernel_rfl) rfl #[.agg #[.slice Ao33 t466.length co33,.int .i64 t469,.int .i64 t470,.int .i64 t471],.slice Ao42 t476.length co42] rfl (by (try simp only [List.map_toArray,List.map_cons,List.map_nil]);first|done|rfl|(simp only [List.length_drop,List.length_take];rfl)) ?_;(with_reducible refine (fold_Rows.calls k _ _ t466 t469 t470 t471 (fun k_=>(some k_≠(.slice Ao33 t466.length co33 : Value).ownBlock∧(k_≠gb464∧k_≠gb472))) _ _ t476 t479 _ ?side1 ?side2 ?side3 A7.out).mono ?_);(case side1=>repeat (first|exact (Kd.R_reads' HO468.out).2.2|(with_reducible refine Kd.C_alloc ?_ _)|(with_reducible refine Kd.C_drewN ?_ _)|(with_reducible refine Kd.C_drew ?_)));(case side2=>exact (Kd.R_reads' HO468.out).2.1);(case side3=>exact Kd.N_V (HO478.out));rintro e w43 ⟨v480,rfl,ho0,hb⟩;refine ⟨_,rfl,?_⟩;have n0_:=Aside0.mk (Kd.R_below (by (with_reducible repeat (first|apply Kd.R_alloc|apply Kd.R_drewN|apply Kd.R_drew));exact HO468.out) hb);have n1_:=Aside0.mk (Kd.N_elder' (by (with_reducible repeat (first|apply Kd.N_alloc|apply Kd.N_drewN|apply Kd.N_drew));exact HO475.out) (by first | exact Kd.N_base ho0 | exact Kd.S_base ho0) hb);have n2_:=Aside0.mk (Kd.N_elder' (by (with_reducible repeat (first|apply Kd.N_alloc|apply Kd.N_drewN|apply Kd.N_drew));exact HO478.out) (by first | exact Kd.N_base ho0 | exact Kd.S_base ho0) hb);have n3_:=Aside0.mk (Kd.N_lower (Kd.N_mono (ok':=fun k_=>some k_≠(.slice Ao33 t466.length co33 : Value).ownBlock∧k_≠gb464∧k_≠gb472) ho0 (fun k_ hk_=>⟨Or.elim hk_ (fun hs_=>hs_.1) (fun hn_=>(Kd.fresh' (Kd.R_lt (by (with_reducible repeat (first|apply Kd.R_alloc|apply Kd.R_drewN|apply Kd.R_drew));exact HO468.out)) k_ hn_)),Or.elim hk_ (fun hs_=>hs_.2.1) (fun hn_=>(Kd.freshB (g:=gb464) (o:=.cells #[.int .u8 a0_0,.int .u8 a0_1,.int .u8 a0_2,.int .u8 a0_3,.int .u8 a0_4,.int .u8 a0_5,.int .u8 a0_6,.int .u8 a0_7,.int .u8 a0_8,.int .u8 a0_9,.int .u8 a0_10,.int .u8 a0_11] 24 (0,0)) (by (with_reducible repeat (first|refine blk_drewN ?_ _|refine blk_drew ?_|refine blk_alloc ?_ _));exact BK464.out) k_ hn_)),Or.elim hk_ (fun hs_=>hs_.2.2) (fun hn_=>(Kd.freshB (g:=gb472) (o:=.cells #[.slice Ao33 t466.length co33,.int .i64 t469,.int .i64 t470,.int .i64 t471] 29 (0,0)) (by (with_reducible repeat (first|refine blk_drewN ?_ _|refine blk_drew ?_|refine blk_alloc ?_ _));exact BK472.out) k_ hn_))⟩)) (below_size (by repeat (first|(with_reducible first|exact HB.out|apply below_alloc|apply pw_below_drewN|apply below_drew1|refine below_set ?_ GE464.out|refine below_set ?_ GE472.out)|exact HB.out))));have n4_:=Aside0.mk (blk_below (g:=gb464) (o:=.cells #[.int .u8 a0_0,.int .u8 a0_1,.int .u8 a0_2,.int .u8 a0_3,.int .u8 a0_4,.int .u8 a0_5,.int .u8 a0_6,.int .u8 a0_7,.int .u8 a0_8,.int .u8 a0_9,.int .u8 a0_10,.int .u8 a0_11] 24 (0,0)) (by (with_reducible repeat (first|refine blk_drewN ?_ _|refine blk_drew ?_|refine blk_alloc ?_ _));exact BK464.out) hb);have n5_:=Aside0.mk (blk_below (g:=gb472) (o:=.cells #[.slice Ao33 t466.length co33,.int .i64 t469,.int .i64 t470,.int .i64 t471] 29 (0,0)) (by (with_reducible repeat (first|refine blk_drewN ?_ _|refine blk_drew ?_|refine blk_alloc ?_ _));exact BK472.out) hb);have n6_:=Aside0.mk (below_step (by repeat (first|(with_reducible first|exact HB.out|apply below_alloc|apply pw_below_drewN|apply below_drew1|refine below_set ?_ GE464.out|refine below_set ?_ GE472.out)|exact HB.out)) hb);clear HO468;clear HO475;clear HO478;clear BK464;clear BK472;clear HB;have HO468:=n0_;have HO475:=n1_;have HO478:=n2_;have HO481:=n3_;have BK464:=n4_;have BK472:=n5_;have HB:=n6_;clear n0_ n1_ n2_ n3_ n4_ n5_ n6_;(try clear hb);(try clear hb2);(try clear hk);(try clear hi);(try clear ho0);have hcz44_0 : w43.cell? ⟨gb472,0,none⟩=some (.slice Ao33 t466.length co33):=(blk_cell BK472.out 0).trans rfl;have hcz44_1 : w43.cell? ⟨gb472,1,none⟩=some (.int .i64 t469):=(blk_cell BK472.out 1).trans rfl;have hcz44_2 : w43.cell? ⟨gb472,2,none⟩=some (.int .i64 t470):=(blk_cell BK472.out 2).trans rfl;have hcz44_3 : w43.cell? ⟨gb472,3,none⟩=some (.int .i64 t471):=(blk_cell BK472.out 3).trans rfl;have hfz44_0:=blk_frozen BK472.out 0;have hfz44_1:=blk_frozen BK472.out 1;have hfz44_2:=blk_frozen BK472.out 2;have hfz44_3:=blk_frozen BK472.out 3))
   go_ret
   exact ⟨by first|rfl|(simp [errW_none,errW_some] <;> rfl)|(simp [*,errW_none,errW_some] <;> rfl),by repeat (first|(with_reducible first|exact HB.out|apply below_alloc|apply pw_below_drewN|apply below_drew1|refine below_set ?_ GE464.out|refine below_set ?_ GE472.out)|exact HB.out)⟩
 ·rw [if_neg c8] at H
  have c8b0 : (t470 == 1)=false:=beq_eq_false_iff_ne.mpr c8
  have c8b1 : (t470 != 1)=true:=bne_iff_ne.mpr c8
  by_cases c45 : 0≤(t466.length : Int)
  ·rw [if_pos c45] at H
   have c45b0:=eq_true c45
   have c45b1 : decide (0≤(t466.length : Int))=true:=decide_eq_true c45
   clear c45
   by_cases c46 : ((t466.length : Int) : Int).toNat≤35184372088832
   ·rw [if_pos c46] at H
    have c46b0:=eq_true c46
    have c46b1 : decide (((t466.length : Int) : Int).toNat≤35184372088832)=true:=decide_eq_true c46
    clear c46
    obtain ⟨y482,hy482⟩ : ∃ y_ : List Int,y_=(List.replicate ((t466.length : Int) : Int).toNat 0):=⟨_,rfl⟩
    replace H : (thresherlaw13_FoldLast.l0 k t465 t476 t479 0 y482 0 t466 t469 t470 t471)=some r:=by first|(rw [hy482];with_reducible exact H)|(have H2_:=(Option.bind_some _ _).symm.trans H;rw [hy482];with_reducible exact H2_)|(have H2_:=(Option.bind_some _ _).symm.trans H;with_reducible exact H2_)|with_reducible exact H|(rw [hy482];exact H)|exact H
    have Ny482:=Aside0.mk hy482
    clear hy482
    have H':=Aside0.mk H
    clear H
    go_enter Try.func7,Try.ntmps7
    try go_wp2_with (first|((with_reducible refine gate_dst (N:=2) rfl ?_);(try (refine gate_guard (by rfl) ?_;dsimp only));refine box_event ?hg (N:=2) ?hd (cs:=#[.int .u8 a0_0,.int .u8 a0_1,.int .u8 a0_2,.int .u8 a0_3,.int .u8 a0_4,.int .u8 a0_5,.int .u8 a0_6,.int .u8 a0_7,.int .u8 a0_8,.int .u8 a0_9,.int .u8 a0_10,.int .u8 a0_11]) (t:=24) ?hr ?_;(case hd=>rfl);(case hg=>rfl);(case hr=>first|(go_simp;done)|(go_simp;rfl));intro gb464 hg w47 hbox hb;have n0_:=Aside0.mk (below_step (by repeat (first|(with_reducible first|exact HB.out|apply below_alloc|apply pw_below_drewN|apply below_drew1)|exact HB.out)) hb);have n1_:=Aside0.mk (hbox);have n2_:=Aside0.mk ((by rw [hg];exact (below_size (by repeat (first|(with_reducible first|exact HB.out|apply below_alloc|apply pw_below_drewN|apply below_drew1)|exact HB.out))) : w.heap.size≤gb464));have n3_:=Aside0.mk ((by rw [hg];exact (below_size (by repeat (first|(with_reducible first|exact HB.out|apply below_alloc|apply pw_below_drewN|apply below_drew1)|exact HB.out))) : w.heap.size≤gb464));clear HB;have HB:=n0_;have BK464:=n1_;have GW464:=n2_;have GE464:=n3_;clear n0_ n1_ n2_ n3_;clear hb hbox hg)|((with_reducible refine gate_callee (f:=8) rfl ?_);refine goesL_ (some 15) rfl rfl Try.func8 (by kernel_rfl) rfl #[] rfl (by (try simp only [List.map_toArray,List.map_cons,List.map_nil]);first|done|rfl|(simp only [List.length_drop,List.length_take];rfl)) ?_;(with_reducible refine (thresherlaw13_shown.calls k  t465 _ A3.out).mono ?_);rintro e w48 ⟨rfl,hb⟩;refine ⟨_,rfl,?_⟩;have n0_:=Aside0.mk (blk_below (g:=gb464) (o:=.cells #[.int .u8 a0_0,.int .u8 a0_1,.int .u8 a0_2,.int .u8 a0_3,.int .u8 a0_4,.int .u8 a0_5,.int .u8 a0_6,.int .u8 a0_7,.int .u8 a0_8,.int .u8 a0_9,.int .u8 a0_10,.int .u8 a0_11] 24 (0,0)) (by (with_reducible repeat (first|refine blk_drewN ?_ _|refine blk_drew ?_|refine blk_alloc ?_ _));exact BK464.out) hb);have n1_:=Aside0.mk (below_step (by repeat (first|(with_reducible first|exact HB.out|apply below_alloc|apply pw_below_drewN|apply below_drew1|refine below_set ?_ GE464.out)|exact HB.out)) hb);clear BK464;clear HB;have BK464:=n0_;have HB:=n1_;clear n0_ n1_;(try clear hb);(try clear hb2);(try clear hk);(try clear hi);have hcz49_0 : w48.cell? ⟨gb464,0,none⟩=some (.int .u8 a0_0):=(blk_cell BK464.out 0).trans rfl;have hcz49_1 : w48.cell? ⟨gb464,1,none⟩=some (.int .u8 a0_1):=(blk_cell BK464.out 1).trans rfl;have hcz49_2 : w48.cell? ⟨gb464,2,none⟩=some (.int .u8 a0_2):=(blk_cell BK464.out 2).trans rfl;have hcz49_3 : w48.cell? ⟨gb464,3,none⟩=some (.int .u8 a0_3):=(blk_cell BK464.out 3).trans rfl;have hcz49_4 : w48.cell? ⟨gb464,4,none⟩=some (.int .u8 a0_4):=(blk_cell BK464.out 4).trans rfl;have hcz49_5 : w48.cell? ⟨gb464,5,none⟩=some (.int .u8 a0_5):=(blk_cell BK464.out 5).trans rfl;have hcz49_6 : w48.cell? ⟨gb464,6,none⟩=some (.int .u8 a0_6):=(blk_cell BK464.out 6).trans rfl;have hcz49_7 : w48.cell? ⟨gb464,7,none⟩=some (.int .u8 a0_7):=(blk_cell BK464.out 7).trans rfl;have hcz49_8 : w48.cell? ⟨gb464,8,none⟩=some (.int .u8 a0_8):=(blk_cell BK464.out 8).trans rfl;have hcz49_9 : w48.cell? ⟨gb464,9,none⟩=some (.int .u8 a0_9):=(blk_cell BK464.out 9).trans rfl;have hcz49_10 : w48.cell? ⟨gb464,10,none⟩=some (.int .u8 a0_10):=(blk_cell BK464.out 10).trans rfl;have hcz49_11 : w48.cell? ⟨gb464,11,none⟩=some (.int .u8 a0_11):=(blk_cell BK464.out 11).trans rfl;have hfz49_0:=blk_frozen BK464.out 0;have hfz49_1:=blk_frozen BK464.out 1;have hfz49_2:=blk_frozen BK464.out 2;have hfz49_3:=blk_frozen BK464.out 3;have hfz49_4:=blk_frozen BK464.out 4;have hfz49_5:=blk_frozen BK464.out 5;have hfz49_6:=blk_frozen BK464.out 6;have hfz49_7:=blk_frozen BK464.out 7;have hfz49_8:=blk_frozen BK464.out 8;have hfz49_9:=blk_frozen BK464.out 9;have hfz49_10:=blk_frozen BK464.out 10;have hfz49_11:=blk_frozen BK464.out 11)|((with_reducible refine gate_callee (f:=9) rfl ?_);refine goesL_ (some 17) rfl rfl Try.func9 (by kernel_rfl) rfl #[.agg #[.int .u8 a0_0,.int .u8 a0_1,.int .u8 a0_2,.int .u8 a0_3,.int .u8 a0_4,.int .u8 a0_5,.int .u8 a0_6,.int .u8 a0_7,.int .u8 a0_8,.int .u8 a0_9,.int .u8 a0_10,.int .u8 a0_11]] rfl (by (try simp only [List.map_toArray,List.map_cons,List.map_nil]);first|done|rfl|(simp only [List.length_drop,List.length_take];rfl)) ?_;(with_reducible refine (thresherlaw13_made.calls k a0_0 a0_1 a0_2 a0_3 a0_4 a0_5 a0_6 a0_7 a0_8 a0_9 a0_10 a0_11 t466 t469 t470 t471 _ A4.out).mono ?_);rintro e w50 ⟨v467,rfl,ho0,hb⟩;refine ⟨_,rfl,?_⟩;have n0_:=Aside0.mk (Kd.R_lower ho0 (below_size (by repeat (first|(with_reducible first|exact HB.out|apply below_alloc|apply pw_below_drewN|apply below_drew1|refine below_set ?_ GE464.out)|exact HB.out))));have n1_:=Aside0.mk (blk_below (g:=gb464) (o:=.cells #[.int .u8 a0_0,.int .u8 a0_1,.int .u8 a0_2,.int .u8 a0_3,.int .u8 a0_4,.int .u8 a0_5,.int .u8 a0_6,.int .u8 a0_7,.int .u8 a0_8,.int .u8 a0_9,.int .u8 a0_10,.int .u8 a0_11] 24 (0,0)) (by (with_reducible repeat (first|refine blk_drewN ?_ _|refine blk_drew ?_|refine blk_alloc ?_ _));exact BK464.out) hb);have n2_:=Aside0.mk (below_step (by repeat (first|(with_reducible first|exact HB.out|apply below_alloc|apply pw_below_drewN|apply below_drew1|refine below_set ?_ GE464.out)|exact HB.out)) hb);clear BK464;clear HB;have HO468:=n0_;have BK464:=n1_;have HB:=n2_;clear n0_ n1_ n2_;(try clear hb);(try clear hb2);(try clear hk);(try clear hi);(try clear ho0))|((with_reducible refine gate_dst (N:=6) rfl ?_);(try (refine gate_guard (by rfl) ?_;dsimp only));refine box_event ?hg (N:=6) ?hd (cs:=#[.slice none 0 0,.int .i64 0,.int .i64 0,.int .i64 0]) (t:=29) ?hr ?_;(case hd=>rfl);(case hg=>rfl);(case hr=>first|(go_simp;done)|(go_simp;rfl));intro gb472 hg w51 hbox hb;have n0_:=Aside0.mk (Kd.R_below (by (with_reducible repeat (first|apply Kd.R_alloc|apply Kd.R_drewN|apply Kd.R_drew));exact HO468.out) hb);have n1_:=Aside0.mk (blk_below (g:=gb464) (o:=.cells #[.int .u8 a0_0,.int .u8 a0_1,.int .u8 a0_2,.int .u8 a0_3,.int .u8 a0_4,.int .u8 a0_5,.int .u8 a0_6,.int .u8 a0_7,.int .u8 a0_8,.int .u8 a0_9,.int .u8 a0_10,.int .u8 a0_11] 24 (0,0)) (by (with_reducible repeat (first|refine blk_drewN ?_ _|refine blk_drew ?_|refine blk_alloc ?_ _));exact BK464.out) hb);have n2_:=Aside0.mk (below_step (by repeat (first|(with_reducible first|exact HB.out|apply below_alloc|apply pw_below_drewN|apply below_drew1|refine below_set ?_ GE464.out)|exact HB.out)) hb);have n3_:=Aside0.mk (hbox);have n4_:=Aside0.mk ((by rw [hg];exact (below_size (by repeat (first|(with_reducible first|exact HB.out|apply below_alloc|apply pw_below_drewN|apply below_drew1|refine below_set ?_ GE464.out)|exact HB.out))) : w.heap.size≤gb472));have n5_:=Aside0.mk ((by rw [hg];exact (below_size (by repeat (first|(with_reducible first|exact HB.out|apply below_alloc|apply pw_below_drewN|apply below_drew1|refine below_set ?_ GE464.out)|exact HB.out))) : w.heap.size≤gb472));have n6_:=Aside0.mk ((by rw [hg];exact Nat.ne_of_lt (blk_lt (g:=gb464) (o:=.cells #[.int .u8 a0_0,.int .u8 a0_1,.int .u8 a0_2,.int .u8 a0_3,.int .u8 a0_4,.int .u8 a0_5,.int .u8 a0_6,.int .u8 a0_7,.int .u8 a0_8,.int .u8 a0_9,.int .u8 a0_10,.int .u8 a0_11] 24 (0,0)) (by (with_reducible repeat (first|refine blk_drewN ?_ _|refine blk_drew ?_|refine blk_alloc ?_ _));exact BK464.out)) : gb464≠gb472));have n7_:=Aside0.mk ((by rw [hg];exact Nat.ne_of_gt (blk_lt (g:=gb464) (o:=.cells #[.int .u8 a0_0,.int .u8 a0_1,.int .u8 a0_2,.int .u8 a0_3,.int .u8 a0_4,.int .u8 a0_5,.int .u8 a0_6,.int .u8 a0_7,.int .u8 a0_8,.int .u8 a0_9,.int .u8 a0_10,.int .u8 a0_11] 24 (0,0)) (by (with_reducible repeat (first|refine blk_drewN ?_ _|refine blk_drew ?_|refine blk_alloc ?_ _));exact BK464.out)) : gb472≠gb464));clear HO468;clear BK464;clear HB;have HO468:=n0_;have BK464:=n1_;have HB:=n2_;have BK472:=n3_;have GW472:=n4_;have GE472:=n5_;have NB464_472:=n6_;have NB472_464:=n7_;clear n0_ n1_ n2_ n3_ n4_ n5_ n6_ n7_;clear hb hbox hg;obtain ⟨Ao52,co52,eo52⟩:=Kd.R_slice HO468.out;subst eo52;have hnb53:=NB472_464.out;have hnc53:=NB464_472.out;have hcz54_0 : w51.cell? ⟨gb472,0,none⟩=some (.slice none 0 0):=(blk_cell BK472.out 0).trans rfl;have hcz54_1 : w51.cell? ⟨gb472,1,none⟩=some (.int .i64 0):=(blk_cell BK472.out 1).trans rfl;have hcz54_2 : w51.cell? ⟨gb472,2,none⟩=some (.int .i64 0):=(blk_cell BK472.out 2).trans rfl;have hcz54_3 : w51.cell? ⟨gb472,3,none⟩=some (.int .i64 0):=(blk_cell BK472.out 3).trans rfl;have hfz54_0:=blk_frozen BK472.out 0;have hfz54_1:=blk_frozen BK472.out 1;have hfz54_2:=blk_frozen BK472.out 2;have hfz54_3:=blk_frozen BK472.out 3))
    have n0_ : Aside0 (Kd.R (Kd.int .i64) 3 ((((w51.setCell ⟨gb472,0,none⟩ (.slice Ao52 t466.length co52)).setCell ⟨gb472,1,none⟩ (.int .i64 t469)).setCell ⟨gb472,2,none⟩ (.int .i64 t470)).setCell ⟨gb472,3,none⟩ (.int .i64 t471)) w.heap.size (fun _=>True) (.slice Ao52 t466.length co52) t466):=⟨by (with_reducible repeat (first|apply Kd.R_alloc|apply Kd.R_drewN|apply Kd.R_drew));exact Kd.R_mono (Kd.R_far (p:=⟨gb472,3,none⟩) (Kd.R_far (p:=⟨gb472,2,none⟩) (Kd.R_far (p:=⟨gb472,1,none⟩) (Kd.R_far (p:=⟨gb472,0,none⟩) (Kd.R_types HO468.out BK472.out (by decide)) (fun _ hk=>hk.2) (.slice Ao52 t466.length co52)) (fun _ hk=>hk.2) (.int .i64 t469)) (fun _ hk=>hk.2) (.int .i64 t470)) (fun _ hk=>hk.2) (.int .i64 t471)) (fun _ hk=>trivial)⟩
    have n1_ : Aside0 (((((w51.setCell ⟨gb472,0,none⟩ (.slice Ao52 t466.length co52)).setCell ⟨gb472,1,none⟩ (.int .i64 t469)).setCell ⟨gb472,2,none⟩ (.int .i64 t470)).setCell ⟨gb472,3,none⟩ (.int .i64 t471)).heap[gb464]?=some (.cells #[.int .u8 a0_0,.int .u8 a0_1,.int .u8 a0_2,.int .u8 a0_3,.int .u8 a0_4,.int .u8 a0_5,.int .u8 a0_6,.int .u8 a0_7,.int .u8 a0_8,.int .u8 a0_9,.int .u8 a0_10,.int .u8 a0_11] 24 (0,0))):=⟨by (with_reducible repeat (first|refine blk_drewN ?_ _|refine blk_drew ?_|refine blk_alloc ?_ _));refine blk_far ?_ NB464_472.out _;(with_reducible repeat (first|refine blk_drewN ?_ _|refine blk_drew ?_|refine blk_alloc ?_ _));refine blk_far ?_ NB464_472.out _;(with_reducible repeat (first|refine blk_drewN ?_ _|refine blk_drew ?_|refine blk_alloc ?_ _));refine blk_far ?_ NB464_472.out _;(with_reducible repeat (first|refine blk_drewN ?_ _|refine blk_drew ?_|refine blk_alloc ?_ _));refine blk_far ?_ NB464_472.out _;(with_reducible repeat (first|refine blk_drewN ?_ _|refine blk_drew ?_|refine blk_alloc ?_ _));exact BK464.out⟩
    have n2_ : Aside0 (((((w51.setCell ⟨gb472,0,none⟩ (.slice Ao52 t466.length co52)).setCell ⟨gb472,1,none⟩ (.int .i64 t469)).setCell ⟨gb472,2,none⟩ (.int .i64 t470)).setCell ⟨gb472,3,none⟩ (.int .i64 t471)).heap[gb472]?=some (.cells #[.slice Ao52 t466.length co52,.int .i64 t469,.int .i64 t470,.int .i64 t471] 29 (0,0))):=⟨by (with_reducible repeat (first|refine blk_drewN ?_ _|refine blk_drew ?_|refine blk_alloc ?_ _));refine blk_put (cs:=#[.slice Ao52 t466.length co52,.int .i64 t469,.int .i64 t470,.int .i64 0]) ?_ 3 _ rfl;(with_reducible repeat (first|refine blk_drewN ?_ _|refine blk_drew ?_|refine blk_alloc ?_ _));refine blk_put (cs:=#[.slice Ao52 t466.length co52,.int .i64 t469,.int .i64 0,.int .i64 0]) ?_ 2 _ rfl;(with_reducible repeat (first|refine blk_drewN ?_ _|refine blk_drew ?_|refine blk_alloc ?_ _));refine blk_put (cs:=#[.slice Ao52 t466.length co52,.int .i64 0,.int .i64 0,.int .i64 0]) ?_ 1 _ rfl;(with_reducible repeat (first|refine blk_drewN ?_ _|refine blk_drew ?_|refine blk_alloc ?_ _));refine blk_put (cs:=#[.slice none 0 0,.int .i64 0,.int .i64 0,.int .i64 0]) ?_ 0 _ rfl;(with_reducible repeat (first|refine blk_drewN ?_ _|refine blk_drew ?_|refine blk_alloc ?_ _));exact BK472.out⟩
    have n3_ : Aside0 (Below w.heap.size w ((((w51.setCell ⟨gb472,0,none⟩ (.slice Ao52 t466.length co52)).setCell ⟨gb472,1,none⟩ (.int .i64 t469)).setCell ⟨gb472,2,none⟩ (.int .i64 t470)).setCell ⟨gb472,3,none⟩ (.int .i64 t471))):=⟨by repeat (first|(with_reducible first|exact HB.out|apply below_alloc|apply pw_below_drewN|apply below_drew1|refine below_set ?_ GE464.out|refine below_set ?_ GE472.out)|exact HB.out)⟩
    (try clear HO468)
    (try clear BK464)
    (try clear BK472)
    (try clear HB)
    generalize ((((w51.setCell ⟨gb472,0,none⟩ (.slice Ao52 t466.length co52)).setCell ⟨gb472,1,none⟩ (.int .i64 t469)).setCell ⟨gb472,2,none⟩ (.int .i64 t470)).setCell ⟨gb472,3,none⟩ (.int .i64 t471))=w55 at n0_ n1_ n2_ n3_ ⊢
    have HO468:=n0_
    have BK464:=n1_
    have BK472:=n2_
    have HB:=n3_
    clear n0_ n1_ n2_ n3_
    have n0_:=Aside0.mk (Kd.R_drew HO468.out)
    have n1_:=Aside0.mk (blk_drew BK464.out)
    have n2_:=Aside0.mk (blk_drew BK472.out)
    have n3_:=Aside0.mk (below_drew1 HB.out)
    clear HO468
    clear BK464
    clear BK472
    clear HB
    have HO468:=n0_
    have BK464:=n1_
    have BK472:=n2_
    have HB:=n3_
    clear n0_ n1_ n2_ n3_
    refine start_ (n:=6) (S:=fun w'=>w'.cell? ⟨gb472,0,none⟩=some (.slice Ao52 t466.length co52)∧w'.cell? ⟨gb472,1,none⟩=some (.int .i64 t469)∧w'.cell? ⟨gb472,2,none⟩=some (.int .i64 t470)∧w'.cell? ⟨gb472,3,none⟩=some (.int .i64 t471)) (ds:=[]) #[false,false,false,false,false,false] (by kernel_rfl) rfl rfl ⟨(blk_cell BK472.out 0).trans rfl,(blk_cell BK472.out 1).trans rfl,(blk_cell BK472.out 2).trans rfl,(blk_cell BK472.out 3).trans rfl⟩ (fun hHeld=>?_)
    generalize w55.drew=w56 at HO468 BK464 BK472 HB hHeld ⊢
    refine pure_ (i:=2) (N:=some 20) (v:=?_) (a':=?_) #[false,false,true,false,false,false] rfl rfl (by kernel_rfl) (fun _ _ _ h=>h) (Or.inl ⟨by rfl,?_⟩) ?_ ?_
    rotate_left;(intro w';go_simp;with_reducible rfl);rotate_left;(simp only [Act.put,List.setIfInBounds_toArray,List.set_cons_zero,List.set_cons_succ,i64_w,i32_w];rfl)
    refine take_ (i:=0) (N:=some 18) (v:=?_) (a':=?_) #[true,false,true,false,false,false] rfl rfl (by kernel_rfl) (fun _ _ _ h=>h) (Or.inl ⟨by rfl,?_⟩) hHeld ?_ ?_
    rotate_left;(rintro w' ⟨s0,s1,s2,s3⟩;go_simp;with_reducible rfl);rotate_left;(simp only [Act.put,List.setIfInBounds_toArray,List.set_cons_zero,List.set_cons_succ,i64_w,i32_w];rfl)
    refine take_ (i:=1) (N:=some 19) (v:=?_) (a':=?_) #[true,true,true,false,false,false] rfl rfl (by kernel_rfl) (fun _ _ _ h=>h) (Or.inl ⟨by rfl,?_⟩) hHeld ?_ ?_
    rotate_left;(rintro w' ⟨s0,s1,s2,s3⟩;go_simp;with_reducible rfl);rotate_left;(simp only [Act.put,List.setIfInBounds_toArray,List.set_cons_zero,List.set_cons_succ,i64_w,i32_w];rfl)
    refine one_ (i:=3) (N:=some 21) #[true,true,true,true,false,false] rfl rfl (by kernel_rfl) (by decide) (fun K hK=>?_)
    refine goes_ Try.func11 (by kernel_rfl) rfl #[.agg #[.slice Ao52 t466.length co52,.int .i64 t469,.int .i64 t470,.int .i64 t471],.slice A1 l1.length c1,.int .i64 60] (by rfl) rfl rfl (by (try simp only [List.map_toArray,List.map_cons,List.map_nil]);first|done|rfl|(simp only [List.length_drop,List.length_take];rfl)) ?_
    with_reducible refine (thresherref04_Fits.calls k _ _ t466 t469 t470 t471 _ _ l1 60 t473 _ ?side1 ?side2 ?side3 ?side4 A5.out).mono ?_
    (case side1=>repeat (first|exact (Kd.R_reads' HO468.out).2.2|(with_reducible refine Kd.C_alloc ?_ _)|(with_reducible refine Kd.C_drewN ?_ _)|(with_reducible refine Kd.C_drew ?_)))
    (case side2=>exact (Kd.R_reads' HO468.out).2.1)
    (case side3=>repeat (first|exact (Kd.C_below HR1.out HB.out)|(with_reducible refine Kd.C_alloc ?_ _)|(with_reducible refine Kd.C_drewN ?_ _)|(with_reducible refine Kd.C_drew ?_)))
    (case side4=>exact HC1.out)
    rintro e w57 ⟨v474,rfl,ho0,hb⟩
    refine ⟨_,rfl,?_⟩
    have n0_:=Aside0.mk (Kd.R_below (by (with_reducible repeat (first|apply Kd.R_alloc|apply Kd.R_drewN|apply Kd.R_drew));exact HO468.out) hb)
    have n1_:=Aside0.mk (Kd.N_lower (Kd.N_mono (ok':=fun k_=>some k_≠(.slice Ao52 t466.length co52 : Value).ownBlock∧k_≠gb464∧k_≠gb472) (Kd.S_N (Kd.S_bound ho0)) (fun k_ hk_=>⟨(Kd.fresh' (Kd.R_lt (by (with_reducible repeat (first|apply Kd.R_alloc|apply Kd.R_drewN|apply Kd.R_drew));exact HO468.out)) k_ hk_.2.1),(Kd.freshB (g:=gb464) (o:=.cells #[.int .u8 a0_0,.int .u8 a0_1,.int .u8 a0_2,.int .u8 a0_3,.int .u8 a0_4,.int .u8 a0_5,.int .u8 a0_6,.int .u8 a0_7,.int .u8 a0_8,.int .u8 a0_9,.int .u8 a0_10,.int .u8 a0_11] 24 (0,0)) (by (with_reducible repeat (first|refine blk_drewN ?_ _|refine blk_drew ?_|refine blk_alloc ?_ _));exact BK464.out) k_ hk_.2.1),(Kd.freshB (g:=gb472) (o:=.cells #[.slice Ao52 t466.length co52,.int .i64 t469,.int .i64 t470,.int .i64 t471] 29 (0,0)) (by (with_reducible repeat (first|refine blk_drewN ?_ _|refine blk_drew ?_|refine blk_alloc ?_ _));exact BK472.out) k_ hk_.2.1)⟩)) (below_size (by repeat (first|(with_reducible first|exact HB.out|apply below_alloc|apply pw_below_drewN|apply below_drew1|refine below_set ?_ GE464.out|refine below_set ?_ GE472.out)|exact HB.out))))
    have n2_:=Aside0.mk (blk_below (g:=gb464) (o:=.cells #[.int .u8 a0_0,.int .u8 a0_1,.int .u8 a0_2,.int .u8 a0_3,.int .u8 a0_4,.int .u8 a0_5,.int .u8 a0_6,.int .u8 a0_7,.int .u8 a0_8,.int .u8 a0_9,.int .u8 a0_10,.int .u8 a0_11] 24 (0,0)) (by (with_reducible repeat (first|refine blk_drewN ?_ _|refine blk_drew ?_|refine blk_alloc ?_ _));exact BK464.out) hb)
    have n3_:=Aside0.mk (blk_below (g:=gb472) (o:=.cells #[.slice Ao52 t466.length co52,.int .i64 t469,.int .i64 t470,.int .i64 t471] 29 (0,0)) (by (with_reducible repeat (first|refine blk_drewN ?_ _|refine blk_drew ?_|refine blk_alloc ?_ _));exact BK472.out) hb)
    have n4_:=Aside0.mk (below_step (by repeat (first|(with_reducible first|exact HB.out|apply below_alloc|apply pw_below_drewN|apply below_drew1|refine below_set ?_ GE464.out|refine below_set ?_ GE472.out)|exact HB.out)) hb)
    clear HO468
    clear BK464
    clear BK472
    clear HB
    have HO468:=n0_
    have HO475:=n1_
    have BK464:=n2_
    have BK472:=n3_
    have HB:=n4_
    clear n0_ n1_ n2_ n3_ n4_
    (try clear hb)
    (try clear hb2)
    (try clear hk)
    (try clear hi)
    (try clear ho0)
    obtain ⟨Ao58,co58,eo58⟩:=Kd.N_slice HO475.out
    (first|subst eo58|(injection eo58 with f1_ f2_ f3_;have f4_:=f1_.symm;have f5_:=f3_.symm;clear f1_ f2_ f3_;subst f4_;subst f5_))
    refine hK.out _ _ ⟨(blk_cell BK472.out 0).trans rfl,(blk_cell BK472.out 1).trans rfl,(blk_cell BK472.out 2).trans rfl,(blk_cell BK472.out 3).trans rfl⟩ (fun hHeld=>?_)
    clear hK K
    refine norm_ (a':=?_) ?_ ?_
    rotate_left
    ·show Act.put _ (some 21) _=_
     simp only [Act.put,List.setIfInBounds_toArray,List.set_cons_zero,List.set_cons_succ,i64_w,i32_w]
     rfl
    refine one_ (i:=4) (N:=some 22) #[true,true,true,true,true,false] rfl rfl (by kernel_rfl) (by decide) (fun K hK=>?_)
    refine goes_ Try.func10 (by kernel_rfl) rfl #[.agg #[.slice Ao52 t466.length co52,.int .i64 t469,.int .i64 t470,.int .i64 t471],.slice Ao58 t473.length co58] (by rfl) rfl rfl (by (try simp only [List.map_toArray,List.map_cons,List.map_nil]);first|done|rfl|(simp only [List.length_drop,List.length_take];rfl)) ?_
    with_reducible refine (thresherref09_Sort.calls k _ _ t466 t469 t470 t471 (fun k_=>(some k_≠(.slice Ao52 t466.length co52 : Value).ownBlock∧(k_≠gb464∧k_≠gb472))) _ _ t473 t476 _ ?side1 ?side2 ?side3 A6.out).mono ?_
    (case side1=>repeat (first|exact (Kd.R_reads' HO468.out).2.2|(with_reducible refine Kd.C_alloc ?_ _)|(with_reducible refine Kd.C_drewN ?_ _)|(with_reducible refine Kd.C_drew ?_)))
    (case side2=>exact (Kd.R_reads' HO468.out).2.1)
    (case side3=>exact Kd.N_V (HO475.out))
    rintro e w59 ⟨v477,rfl,ho0,hb⟩
    refine ⟨_,rfl,?_⟩
    have n0_:=Aside0.mk (Kd.R_below (by (with_reducible repeat (first|apply Kd.R_alloc|apply Kd.R_drewN|apply Kd.R_drew));exact HO468.out) hb)
    have n1_:=Aside0.mk (Kd.N_elder' (by (with_reducible repeat (first|apply Kd.N_alloc|apply Kd.N_drewN|apply Kd.N_drew));exact HO475.out) (by first | exact Kd.N_base ho0 | exact Kd.S_base ho0) hb)
    have n2_:=Aside0.mk (Kd.N_lower (Kd.N_mono (ok':=fun k_=>some k_≠(.slice Ao52 t466.length co52 : Value).ownBlock∧k_≠gb464∧k_≠gb472) ho0 (fun k_ hk_=>⟨Or.elim hk_ (fun hs_=>hs_.1) (fun hn_=>(Kd.fresh' (Kd.R_lt (by (with_reducible repeat (first|apply Kd.R_alloc|apply Kd.R_drewN|apply Kd.R_drew));exact HO468.out)) k_ hn_)),Or.elim hk_ (fun hs_=>hs_.2.1) (fun hn_=>(Kd.freshB (g:=gb464) (o:=.cells #[.int .u8 a0_0,.int .u8 a0_1,.int .u8 a0_2,.int .u8 a0_3,.int .u8 a0_4,.int .u8 a0_5,.int .u8 a0_6,.int .u8 a0_7,.int .u8 a0_8,.int .u8 a0_9,.int .u8 a0_10,.int .u8 a0_11] 24 (0,0)) (by (with_reducible repeat (first|refine blk_drewN ?_ _|refine blk_drew ?_|refine blk_alloc ?_ _));exact BK464.out) k_ hn_)),Or.elim hk_ (fun hs_=>hs_.2.2) (fun hn_=>(Kd.freshB (g:=gb472) (o:=.cells #[.slice Ao52 t466.length co52,.int .i64 t469,.int .i64 t470,.int .i64 t471] 29 (0,0)) (by (with_reducible repeat (first|refine blk_drewN ?_ _|refine blk_drew ?_|refine blk_alloc ?_ _));exact BK472.out) k_ hn_))⟩)) (below_size (by repeat (first|(with_reducible first|exact HB.out|apply below_alloc|apply pw_below_drewN|apply below_drew1|refine below_set ?_ GE464.out|refine below_set ?_ GE472.out)|exact HB.out))))
    have n3_:=Aside0.mk (blk_below (g:=gb464) (o:=.cells #[.int .u8 a0_0,.int .u8 a0_1,.int .u8 a0_2,.int .u8 a0_3,.int .u8 a0_4,.int .u8 a0_5,.int .u8 a0_6,.int .u8 a0_7,.int .u8 a0_8,.int .u8 a0_9,.int .u8 a0_10,.int .u8 a0_11] 24 (0,0)) (by (with_reducible repeat (first|refine blk_drewN ?_ _|refine blk_drew ?_|refine blk_alloc ?_ _));exact BK464.out) hb)
    have n4_:=Aside0.mk (blk_below (g:=gb472) (o:=.cells #[.slice Ao52 t466.length co52,.int .i64 t469,.int .i64 t470,.int .i64 t471] 29 (0,0)) (by (with_reducible repeat (first|refine blk_drewN ?_ _|refine blk_drew ?_|refine blk_alloc ?_ _));exact BK472.out) hb)
    have n5_:=Aside0.mk (below_step (by repeat (first|(with_reducible first|exact HB.out|apply below_alloc|apply pw_below_drewN|apply below_drew1|refine below_set ?_ GE464.out|refine below_set ?_ GE472.out)|exact HB.out)) hb)
    clear HO468
    clear HO475
    clear BK464
    clear BK472
    clear HB
    have HO468:=n0_
    have HO475:=n1_
    have HO478:=n2_
    have BK464:=n3_
    have BK472:=n4_
    have HB:=n5_
    clear n0_ n1_ n2_ n3_ n4_ n5_
    (try clear hb)
    (try clear hb2)
    (try clear hk)
    (try clear hi)
    (try clear ho0)
    refine hK.out _ _ ⟨(blk_cell BK472.out 0).trans rfl,(blk_cell BK472.out 1).trans rfl,(blk_cell BK472.out 2).trans rfl,(blk_cell BK472.out 3).trans rfl⟩ (fun hHeld=>?_)
    clear hK K
    refine norm_ (a':=?_) ?_ ?_
    rotate_left
    ·show Act.put _ (some 22) _=_
     simp only [Act.put,List.setIfInBounds_toArray,List.set_cons_zero,List.set_cons_succ,i64_w,i32_w]
     rfl
    refine pure_ (i:=5) (N:=some 7) (v:=?_) (a':=?_) #[true,true,true,true,true,true] rfl rfl (by kernel_rfl) (fun _ _ _ h=>h) (Or.inl ⟨by rfl,?_⟩) ?_ ?_
    rotate_left;(intro w';go_simp;with_reducible rfl);rotate_left;(simp only [Act.put,List.setIfInBounds_toArray,List.set_cons_zero,List.set_cons_succ,i64_w,i32_w];rfl)
    refine done_ (by kernel_rfl) ?_
    have hcz60_0 : w59.cell? ⟨gb472,0,none⟩=some (.slice Ao52 t466.length co52):=(blk_cell BK472.out 0).trans rfl
    have hcz60_1 : w59.cell? ⟨gb472,1,none⟩=some (.int .i64 t469):=(blk_cell BK472.out 1).trans rfl
    have hcz60_2 : w59.cell? ⟨gb472,2,none⟩=some (.int .i64 t470):=(blk_cell BK472.out 2).trans rfl
    have hcz60_3 : w59.cell? ⟨gb472,3,none⟩=some (.int .i64 t471):=(blk_cell BK472.out 3).trans rfl
    have hfz60_0:=blk_frozen BK472.out 0
    have hfz60_1:=blk_frozen BK472.out 1
    have hfz60_2:=blk_frozen BK472.out 2
    have hfz60_3:=blk_frozen BK472.out 3
    obtain ⟨Ao61,co61,eo61⟩:=Kd.N_slice HO478.out
    subst eo61
    try go_wp2_with (first|((with_reducible refine gate_callee (f:=13) rfl ?_);refine goesL_ (some 25) rfl rfl Try.func13 (by kernel_rfl) rfl #[.agg #[.slice Ao52 t466.length co52,.int .i64 t469,.int .i64 t470,.int .i64 t471],.slice Ao61 t476.length co61] rfl (by (try simp only [List.map_toArray,List.map_cons,List.map_nil]);first|done|rfl|(simp only [List.length_drop,List.length_take];rfl)) ?_;(with_reducible refine (fold_Rows.calls k _ _ t466 t469 t470 t471 (fun k_=>(some k_≠(.slice Ao52 t466.length co52 : Value).ownBlock∧(k_≠gb464∧k_≠gb472))) _ _ t476 t479 _ ?side1 ?side2 ?side3 A7.out).mono ?_);(case side1=>repeat (first|exact (Kd.R_reads' HO468.out).2.2|(with_reducible refine Kd.C_alloc ?_ _)|(with_reducible refine Kd.C_drewN ?_ _)|(with_reducible refine Kd.C_drew ?_)));(case side2=>exact (Kd.R_reads' HO468.out).2.1);(case side3=>exact Kd.N_V (HO478.out));rintro e w62 ⟨v480,rfl,ho0,hb⟩;refine ⟨_,rfl,?_⟩;have n0_:=Aside0.mk (Kd.R_below (by (with_reducible repeat (first|apply Kd.R_alloc|apply Kd.R_drewN|apply Kd.R_drew));exact HO468.out) hb);have n1_:=Aside0.mk (Kd.N_elder' (by (with_reducible repeat (first|apply Kd.N_alloc|apply Kd.N_drewN|apply Kd.N_drew));exact HO475.out) (by first | exact Kd.N_base ho0 | exact Kd.S_base ho0) hb);have n2_:=Aside0.mk (Kd.N_elder' (by (with_reducible repeat (first|apply Kd.N_alloc|apply Kd.N_drewN|apply Kd.N_drew));exact HO478.out) (by first | exact Kd.N_base ho0 | exact Kd.S_base ho0) hb);have n3_:=Aside0.mk (Kd.N_lower (Kd.N_mono (ok':=fun k_=>some k_≠(.slice Ao52 t466.length co52 : Value).ownBlock∧k_≠gb464∧k_≠gb472) ho0 (fun k_ hk_=>⟨Or.elim hk_ (fun hs_=>hs_.1) (fun hn_=>(Kd.fresh' (Kd.R_lt (by (with_reducible repeat (first|apply Kd.R_alloc|apply Kd.R_drewN|apply Kd.R_drew));exact HO468.out)) k_ hn_)),Or.elim hk_ (fun hs_=>hs_.2.1) (fun hn_=>(Kd.freshB (g:=gb464) (o:=.cells #[.int .u8 a0_0,.int .u8 a0_1,.int .u8 a0_2,.int .u8 a0_3,.int .u8 a0_4,.int .u8 a0_5,.int .u8 a0_6,.int .u8 a0_7,.int .u8 a0_8,.int .u8 a0_9,.int .u8 a0_10,.int .u8 a0_11] 24 (0,0)) (by (with_reducible repeat (first|refine blk_drewN ?_ _|refine blk_drew ?_|refine blk_alloc ?_ _));exact BK464.out) k_ hn_)),Or.elim hk_ (fun hs_=>hs_.2.2) (fun hn_=>(Kd.freshB (g:=gb472) (o:=.cells #[.slice Ao52 t466.length co52,.int .i64 t469,.int .i64 t470,.int .i64 t471] 29 (0,0)) (by (with_reducible repeat (first|refine blk_drewN ?_ _|refine blk_drew ?_|refine blk_alloc ?_ _));exact BK472.out) k_ hn_))⟩)) (below_size (by repeat (first|(with_reducible first|exact HB.out|apply below_alloc|apply pw_below_drewN|apply below_drew1|refine below_set ?_ GE464.out|refine below_set ?_ GE472.out)|exact HB.out))));have n4_:=Aside0.mk (blk_below (g:=gb464) (o:=.cells #[.int .u8 a0_0,.int .u8 a0_1,.int .u8 a0_2,.int .u8 a0_3,.int .u8 a0_4,.int .u8 a0_5,.int .u8 a0_6,.int .u8 a0_7,.int .u8 a0_8,.int .u8 a0_9,.int .u8 a0_10,.int .u8 a0_11] 24 (0,0)) (by (with_reducible repeat (first|refine blk_drewN ?_ _|refine blk_drew ?_|refine blk_alloc ?_ _));exact BK464.out) hb);have n5_:=Aside0.mk (blk_below (g:=gb472) (o:=.cells #[.slice Ao52 t466.length co52,.int .i64 t469,.int .i64 t470,.int .i64 t471] 29 (0,0)) (by (with_reducible repeat (first|refine blk_drewN ?_ _|refine blk_drew ?_|refine blk_alloc ?_ _));exact BK472.out) hb);have n6_:=Aside0.mk (below_step (by repeat (first|(with_reducible first|exact HB.out|apply below_alloc|apply pw_below_drewN|apply below_drew1|refine below_set ?_ GE464.out|refine below_set ?_ GE472.out)|exact HB.out)) hb);clear HO468;clear HO475;clear HO478;clear BK464;clear BK472;clear HB;have HO468:=n0_;have HO475:=n1_;have HO478:=n2_;have HO481:=n3_;have BK464:=n4_;have BK472:=n5_;have HB:=n6_;clear n0_ n1_ n2_ n3_ n4_ n5_ n6_;(try clear hb);(try clear hb2);(try clear hk);(try clear hi);(try clear ho0);have hcz63_0 : w62.cell? ⟨gb472,0,none⟩=some (.slice Ao52 t466.length co52):=(blk_cell BK472.out 0).trans rfl;have hcz63_1 : w62.cell? ⟨gb472,1,none⟩=some (.int .i64 t469):=(blk_cell BK472.out 1).trans rfl;have hcz63_2 : w62.cell? ⟨gb472,2,none⟩=some (.int .i64 t470):=(blk_cell BK472.out 2).trans rfl;have hcz63_3 : w62.cell? ⟨gb472,3,none⟩=some (.int .i64 t471):=(blk_cell BK472.out 3).trans rfl;have hfz63_0:=blk_frozen BK472.out 0;have hfz63_1:=blk_frozen BK472.out 1;have hfz63_2:=blk_frozen BK472.out 2;have hfz63_3:=blk_frozen BK472.out 3)|((with_reducible refine gate_dst (N:=40) rfl ?_);(try (refine gate_guard (by rfl) ?_;dsimp only));refine Kd.R_make (Kd.int .i64) _ 2 rfl (N:=40) rfl 42 _ _ rfl (t466.length : Int) rfl rfl Try.underlying42 (.int .i64 0) 8 info2 rfl (by decide) (by omega) 0 (ok:=fun _=>True) (okp:=fun _=>True) rfl (fun _ hk=>hk) trivial (of_decide_eq_true (by first|(with_reducible assumption)|assumption)) (Nat.le_trans (Nat.mul_le_mul_right _ (of_decide_eq_true (by first|(with_reducible assumption)|assumption) : (t466.length : Int).toNat≤35184372088832)) (by omega)) (Below.refl _ _) (Nat.le_refl _) ?_;intro v483 w64 ho65 hb hg_ hnew_;clear hg_ hnew_;(first|rw [← Ny482.out] at ho65|(simp only [Int.reduceToNat] at ho65;rw [← Ny482.out] at ho65));have n0_:=Aside0.mk (Kd.R_below (by (with_reducible repeat (first|apply Kd.R_alloc|apply Kd.R_drewN|apply Kd.R_drew));exact HO468.out) hb);have n1_:=Aside0.mk (Kd.N_elder' (by (with_reducible repeat (first|apply Kd.N_alloc|apply Kd.N_drewN|apply Kd.N_drew));exact HO475.out) (Kd.R_base ho65) hb);have n2_:=Aside0.mk (Kd.N_elder' (by (with_reducible repeat (first|apply Kd.N_alloc|apply Kd.N_drewN|apply Kd.N_drew));exact HO478.out) (Kd.R_base ho65) hb);have n3_:=Aside0.mk (Kd.N_elder' (by (with_reducible repeat (first|apply Kd.N_alloc|apply Kd.N_drewN|apply Kd.N_drew));exact HO481.out) (Kd.R_base ho65) hb);have n4_:=Aside0.mk (Kd.R_lower ho65 (below_size (by repeat (first|(with_reducible first|exact HB.out|apply below_alloc|apply pw_below_drewN|apply below_drew1|refine below_set ?_ GE464.out|refine below_set ?_ GE472.out)|exact HB.out))));have n5_:=Aside0.mk (blk_below (g:=gb464) (o:=.cells #[.int .u8 a0_0,.int .u8 a0_1,.int .u8 a0_2,.int .u8 a0_3,.int .u8 a0_4,.int .u8 a0_5,.int .u8 a0_6,.int .u8 a0_7,.int .u8 a0_8,.int .u8 a0_9,.int .u8 a0_10,.int .u8 a0_11] 24 (0,0)) (by (with_reducible repeat (first|refine blk_drewN ?_ _|refine blk_drew ?_|refine blk_alloc ?_ _));exact BK464.out) hb);have n6_:=Aside0.mk (blk_below (g:=gb472) (o:=.cells #[.slice Ao52 t466.length co52,.int .i64 t469,.int .i64 t470,.int .i64 t471] 29 (0,0)) (by (with_reducible repeat (first|refine blk_drewN ?_ _|refine blk_drew ?_|refine blk_alloc ?_ _));exact BK472.out) hb);have n7_:=Aside0.mk (below_step (by repeat (first|(with_reducible first|exact HB.out|apply below_alloc|apply pw_below_drewN|apply below_drew1|refine below_set ?_ GE464.out|refine below_set ?_ GE472.out)|exact HB.out)) hb);clear HO468;clear HO475;clear HO478;clear HO481;clear BK464;clear BK472;clear HB;have HO468:=n0_;have HO475:=n1_;have HO478:=n2_;have HO481:=n3_;have HO484:=n4_;have BK464:=n5_;have BK472:=n6_;have HB:=n7_;clear n0_ n1_ n2_ n3_ n4_ n5_ n6_ n7_;clear hb ho65))
    go_loopg [9,10,11] k (fun kq v9 v10 v11 w'=>∃ (x9_1 : Int) (x10_1 : List Int) (x11_1 : Int),v9=.int .i64 x9_1∧v11=.int .i64 x11_1∧Aside0 (thresherlaw13_FoldLast.l0 kq t465 t476 t479 x9_1 x10_1 x11_1 t466 t469 t470 t471=some r)∧Aside0 (kq≤k)∧Aside0 (Kd.N (Kd.slice 45 k45) 36 w' w.heap.size (fun k_=>some k_≠(v480 : Value).ownBlock∧some k_≠(v10 : Value).ownBlock∧some k_≠((.slice Ao52 t466.length co52) : Value).ownBlock∧k_≠gb464∧k_≠gb472) (.slice Ao61 t476.length co61) t476)∧Aside0 (Kd.N (Kd.slice 45 k45) 36 w' w.heap.size (fun k_=>some k_≠(v10 : Value).ownBlock∧some k_≠((.slice Ao52 t466.length co52) : Value).ownBlock∧k_≠gb464∧k_≠gb472) v480 t479)∧Aside0 (Kd.R (Kd.int .i64) 2 w' w.heap.size (fun _=>True) v10 x10_1)∧Aside0 (Kd.R (Kd.int .i64) 3 w' w.heap.size (fun _=>True) (.slice Ao52 t466.length co52) t466)∧Aside0 (w'.heap[gb464]?=some (.cells #[.int .u8 a0_0,.int .u8 a0_1,.int .u8 a0_2,.int .u8 a0_3,.int .u8 a0_4,.int .u8 a0_5,.int .u8 a0_6,.int .u8 a0_7,.int .u8 a0_8,.int .u8 a0_9,.int .u8 a0_10,.int .u8 a0_11] 24 (0,0)))∧Aside0 (w'.heap[gb472]?=some (.cells #[(.slice Ao52 t466.length co52),.int .i64 t469,.int .i64 t470,.int .i64 t471] 29 (0,0)))∧Aside0 (Below w.heap.size w w'))
    case atStart=>exact ⟨(0),(y482),(0),(by first|rfl|(simp;done)|(simp [*];done)),(by first|rfl|(simp;done)|(simp [*];done)),H',⟨Nat.le_refl _⟩,⟨by (with_reducible repeat (first|apply Kd.N_alloc|apply Kd.N_drewN|apply Kd.N_drew));exact Kd.N_mono HO478.out (fun _ hk=>⟨hk.1.2,⟨hk.2,⟨hk.1.1.1,⟨hk.1.1.2.1,hk.1.1.2.2⟩⟩⟩⟩)⟩,⟨by (with_reducible repeat (first|apply Kd.N_alloc|apply Kd.N_drewN|apply Kd.N_drew));exact Kd.N_mono HO481.out (fun _ hk=>⟨hk.2,⟨hk.1.1,⟨hk.1.2.1,hk.1.2.2⟩⟩⟩)⟩,⟨by (with_reducible repeat (first|apply Kd.R_alloc|apply Kd.R_drewN|apply Kd.R_drew));exact HO484.out⟩,⟨by (with_reducible repeat (first|apply Kd.R_alloc|apply Kd.R_drewN|apply Kd.R_drew));exact HO468.out⟩,⟨by (with_reducible repeat (first|refine blk_drewN ?_ _|refine blk_drew ?_|refine blk_alloc ?_ _));exact BK464.out⟩,⟨by (with_reducible repeat (first|refine blk_drewN ?_ _|refine blk_drew ?_|refine blk_alloc ?_ _));exact BK472.out⟩,⟨by repeat (first|(with_reducible first|exact HB.out|apply below_alloc|apply pw_below_drewN|apply below_drew1|refine below_set ?_ GE464.out|refine below_set ?_ GE472.out)|exact HB.out)⟩⟩
    case round =>
     clear H'
     try clear c1
     try clear p2
     try clear c3
     try clear c4
     try clear c5
     try clear c7
     try clear c8
     try clear c8b0
     try clear c8b1
     try clear c9
     try clear c10
     try clear c11
     try clear c13
     try clear c16
     try clear c34
     try clear c45
     try clear c45b0
     try clear c45b1
     try clear c46
     try clear c46b0
     try clear c46b1
     try clear c53
     try clear hcz12_0
     try clear hcz12_1
     try clear hcz12_10
     try clear hcz12_11
     try clear hcz12_2
     try clear hcz12_3
     try clear hcz12_4
     try clear hcz12_5
     try clear hcz12_6
     try clear hcz12_7
     try clear hcz12_8
     try clear hcz12_9
     try clear hcz17_0
     try clear hcz17_1
     try clear hcz17_2
     try clear hcz17_3
     try clear hcz23_0
     try clear hcz23_1
     try clear hcz23_2
     try clear hcz23_3
     try clear hcz26_0
     try clear hcz26_1
     try clear hcz26_2
     try clear hcz26_3
     try clear hcz30_0
     try clear hcz30_1
     try clear hcz30_10
     try clear hcz30_11
     try clear hcz30_2
     try clear hcz30_3
     try clear hcz30_4
     try clear hcz30_5
     try clear hcz30_6
     try clear hcz30_7
     try clear hcz30_8
     try clear hcz30_9
     try clear hcz35_0
     try clear hcz35_1
     try clear hcz35_2
     try clear hcz35_3
     try clear hcz41_0
     try clear hcz41_1
     try clear hcz41_2
     try clear hcz41_3
     try clear hcz44_0
     try clear hcz44_1
     try clear hcz44_2
     try clear hcz44_3
     try clear hcz49_0
     try clear hcz49_1
     try clear hcz49_10
     try clear hcz49_11
     try clear hcz49_2
     try clear hcz49_3
     try clear hcz49_4
     try clear hcz49_5
     try clear hcz49_6
     try clear hcz49_7
     try clear hcz49_8
     try clear hcz49_9
     try clear hcz54_0
     try clear hcz54_1
     try clear hcz54_2
     try clear hcz54_3
     try clear hcz60_0
     try clear hcz60_1
     try clear hcz60_2
     try clear hcz60_3
     try clear hcz63_0
     try clear hcz63_1
     try clear hcz63_2
     try clear hcz63_3
     try clear hfz12_0
     try clear hfz12_1
     try clear hfz12_10
     try clear hfz12_11
     try clear hfz12_2
     try clear hfz12_3
     try clear hfz12_4
     try clear hfz12_5
     try clear hfz12_6
     try clear hfz12_7
     try clear hfz12_8
     try clear hfz12_9
     try clear hfz17_0
     try clear hfz17_1
     try clear hfz17_2
     try clear hfz17_3
     try clear hfz23_0
     try clear hfz23_1
     try clear hfz23_2
     try clear hfz23_3
     try clear hfz26_0
     try clear hfz26_1
     try clear hfz26_2
     try clear hfz26_3
     try clear hfz30_0
     try clear hfz30_1
     try clear hfz30_10
     try clear hfz30_11
     try clear hfz30_2
     try clear hfz30_3
     try clear hfz30_4
     try clear hfz30_5
     try clear hfz30_6
     try clear hfz30_7
     try clear hfz30_8
     try clear hfz30_9
     try clear hfz35_0
     try clear hfz35_1
     try clear hfz35_2
     try clear hfz35_3
     try clear hfz41_0
     try clear hfz41_1
     try clear hfz41_2
     try clear hfz41_3
     try clear hfz44_0
     try clear hfz44_1
     try clear hfz44_2
     try clear hfz44_3
     try clear hfz49_0
     try clear hfz49_1
     try clear hfz49_10
     try clear hfz49_11
     try clear hfz49_2
     try clear hfz49_3
     try clear hfz49_4
     try clear hfz49_5
     try clear hfz49_6
     try clear hfz49_7
     try clear hfz49_8
     try clear hfz49_9
     try clear hfz54_0
     try clear hfz54_1
     try clear hfz54_2
     try clear hfz54_3
     try clear hfz60_0
     try clear hfz60_1
     try clear hfz60_2
     try clear hfz60_3
     try clear hfz63_0
     try clear hfz63_1
     try clear hfz63_2
     try clear hfz63_3
     obtain ⟨x9_1,x10_1,x11_1,rfl,rfl,HA,HK1,HO_7,HO_8,HO_10,HO_473000,BK464,BK472,HB⟩:=hrel
     cases gk with
     | zero=>exact absurd HA.out (by simp [thresherlaw13_FoldLast.l0])
     | succ k1 =>
      have H:=HA.out
      clear HA
      simp only [thresherlaw13_FoldLast.l0] at H
      by_cases c66 : x11_1 < (t476.length : Int)
      ·rw [if_pos c66] at H
       have c66b0 : decide (x11_1 < (t476.length : Int))=true:=decide_eq_true c66
       clear c66
       have H':=Aside0.mk H
       clear H
       go_wp2
       go_loopg [12] k1 (fun kq v12 w'=>∃ (x10_2 : List Int) (x12_2 : Int),v12=.int .i64 x12_2∧Aside0 (thresherlaw13_FoldLast.l1 kq t465 t476 t479 x9_1 x10_2 x11_1 x12_2 t466 t469 t470 t471=some r)∧Aside0 (kq≤k1)∧Aside0 (Kd.N (Kd.slice 45 k45) 36 w' w.heap.size (fun k_=>some k_≠(v480 : Value).ownBlock∧some k_≠(u10 : Value).ownBlock∧some k_≠((.slice Ao52 t466.length co52) : Value).ownBlock∧k_≠gb464∧k_≠gb472) (.slice Ao61 t476.length co61) t476)∧Aside0 (Kd.N (Kd.slice 45 k45) 36 w' w.heap.size (fun k_=>some k_≠(u10 : Value).ownBlock∧some k_≠((.slice Ao52 t466.length co52) : Value).ownBlock∧k_≠gb464∧k_≠gb472) v480 t479)∧Aside0 (Kd.R (Kd.int .i64) 2 w' w.heap.size (fun _=>True) u10 x10_2)∧Aside0 (Kd.R (Kd.int .i64) 3 w' w.heap.size (fun _=>True) (.slice Ao52 t466.length co52) t466)∧Aside0 (w'.heap[gb464]?=some (.cells #[.int .u8 a0_0,.int .u8 a0_1,.int .u8 a0_2,.int .u8 a0_3,.int .u8 a0_4,.int .u8 a0_5,.int .u8 a0_6,.int .u8 a0_7,.int .u8 a0_8,.int .u8 a0_9,.int .u8 a0_10,.int .u8 a0_11] 24 (0,0)))∧Aside0 (w'.heap[gb472]?=some (.cells #[(.slice Ao52 t466.length co52),.int .i64 t469,.int .i64 t470,.int .i64 t471] 29 (0,0)))∧Aside0 (Below w.heap.size w w'))
       case atStart=>exact ⟨(x10_1),(0),(by first|rfl|(simp;done)|(simp [*];done)),H',⟨Nat.le_refl _⟩,⟨by (with_reducible repeat (first|apply Kd.N_alloc|apply Kd.N_drewN|apply Kd.N_drew));exact HO_7.out⟩,⟨by (with_reducible repeat (first|apply Kd.N_alloc|apply Kd.N_drewN|apply Kd.N_drew));exact HO_8.out⟩,⟨by (with_reducible repeat (first|apply Kd.R_alloc|apply Kd.R_drewN|apply Kd.R_drew));exact HO_10.out⟩,⟨by (with_reducible repeat (first|apply Kd.R_alloc|apply Kd.R_drewN|apply Kd.R_drew));exact HO_473000.out⟩,⟨by (with_reducible repeat (first|refine blk_drewN ?_ _|refine blk_drew ?_|refine blk_alloc ?_ _));exact BK464.out⟩,⟨by (with_reducible repeat (first|refine blk_drewN ?_ _|refine blk_drew ?_|refine blk_alloc ?_ _));exact BK472.out⟩,⟨by repeat (first|(with_reducible first|exact HB.out|apply below_alloc|apply pw_below_drewN|apply below_drew1|refine below_set ?_ GE464.out|refine below_set ?_ GE472.out)|exact HB.out)⟩⟩
       case round =>
        clear H'
        try clear c1
        try clear p2
        try clear c3
        try clear c4
        try clear c5
        try clear c6
        try clear c7
        try clear c8
        try clear c8b0
        try clear c8b1
        try clear c9
        try clear c10
        try clear c11
        try clear c13
        try clear c16
        try clear c34
        try clear c45
        try clear c45b0
        try clear c45b1
        try clear c46
        try clear c46b0
        try clear c46b1
        try clear c53
        try clear c66
        try clear c66b0
        try clear hcz12_0
        try clear hcz12_1
        try clear hcz12_10
        try clear hcz12_11
        try clear hcz12_2
        try clear hcz12_3
        try clear hcz12_4
        try clear hcz12_5
        try clear hcz12_6
        try clear hcz12_7
        try clear hcz12_8
        try clear hcz12_9
        try clear hcz17_0
        try clear hcz17_1
        try clear hcz17_2
        try clear hcz17_3
        try clear hcz23_0
        try clear hcz23_1
        try clear hcz23_2
        try clear hcz23_3
        try clear hcz26_0
        try clear hcz26_1
        try clear hcz26_2
        try clear hcz26_3
        try clear hcz30_0
        try clear hcz30_1
        try clear hcz30_10
        try clear hcz30_11
        try clear hcz30_2
        try clear hcz30_3
        try clear hcz30_4
        try clear hcz30_5
        try clear hcz30_6
        try clear hcz30_7
        try clear hcz30_8
        try clear hcz30_9
        try clear hcz35_0
        try clear hcz35_1
        try clear hcz35_2
        try clear hcz35_3
        try clear hcz41_0
        try clear hcz41_1
        try clear hcz41_2
        try clear hcz41_3
        try clear hcz44_0
        try clear hcz44_1
        try clear hcz44_2
        try clear hcz44_3
        try clear hcz49_0
        try clear hcz49_1
        try clear hcz49_10
        try clear hcz49_11
        try clear hcz49_2
        try clear hcz49_3
        try clear hcz49_4
        try clear hcz49_5
        try clear hcz49_6
        try clear hcz49_7
        try clear hcz49_8
        try clear hcz49_9
        try clear hcz54_0
        try clear hcz54_1
        try clear hcz54_2
        try clear hcz54_3
        try clear hcz60_0
        try clear hcz60_1
        try clear hcz60_2
        try clear hcz60_3
        try clear hcz63_0
        try clear hcz63_1
        try clear hcz63_2
        try clear hcz63_3
        try clear hfz12_0
        try clear hfz12_1
        try clear hfz12_10
        try clear hfz12_11
        try clear hfz12_2
        try clear hfz12_3
        try clear hfz12_4
        try clear hfz12_5
        try clear hfz12_6
        try clear hfz12_7
        try clear hfz12_8
        try clear hfz12_9
        try clear hfz17_0
        try clear hfz17_1
        try clear hfz17_2
        try clear hfz17_3
        try clear hfz23_0
        try clear hfz23_1
        try clear hfz23_2
        try clear hfz23_3
        try clear hfz26_0
        try clear hfz26_1
        try clear hfz26_2
        try clear hfz26_3
        try clear hfz30_0
        try clear hfz30_1
        try clear hfz30_10
        try clear hfz30_11
        try clear hfz30_2
        try clear hfz30_3
        try clear hfz30_4
        try clear hfz30_5
        try clear hfz30_6
        try clear hfz30_7
        try clear hfz30_8
        try clear hfz30_9
        try clear hfz35_0
        try clear hfz35_1
        try clear hfz35_2
        try clear hfz35_3
        try clear hfz41_0
        try clear hfz41_1
        try clear hfz41_2
        try clear hfz41_3
        try clear hfz44_0
        try clear hfz44_1
        try clear hfz44_2
        try clear hfz44_3
        try clear hfz49_0
        try clear hfz49_1
        try clear hfz49_10
        try clear hfz49_11
        try clear hfz49_2
        try clear hfz49_3
        try clear hfz49_4
        try clear hfz49_5
        try clear hfz49_6
        try clear hfz49_7
        try clear hfz49_8
        try clear hfz49_9
        try clear hfz54_0
        try clear hfz54_1
        try clear hfz54_2
        try clear hfz54_3
        try clear hfz60_0
        try clear hfz60_1
        try clear hfz60_2
        try clear hfz60_3
        try clear hfz63_0
        try clear hfz63_1
        try clear hfz63_2
        try clear hfz63_3
        try clear p2
        obtain ⟨x10_2,x12_2,rfl,HA,HK2,HO_7,HO_8,HO_10,HO_473000,BK464,BK472,HB⟩:=hrel
        cases gk with
        | zero=>exact absurd HA.out (by simp [thresherlaw13_FoldLast.l1])
        | succ k2 =>
         have H:=HA.out
         clear HA
         simp only [thresherlaw13_FoldLast.l1] at H
         by_cases c67 : x12_2 < (x10_2.length : Int)
         ·rw [if_pos c67] at H
          have c67b0 : decide (x12_2 < (x10_2.length : Int))=true:=decide_eq_true c67
          clear c67
          by_cases c68 : 0≤x12_2
          ·rw [if_pos c68] at H
           have c68b0 : decide (0≤x12_2)=true:=decide_eq_true c68
           clear c68
           by_cases c69 : 0≤x11_1
           ·rw [if_pos c69] at H
            have c69b0 : decide (0≤x11_1)=true:=decide_eq_true c69
            clear c69
            by_cases c70 : x11_1 < (t476.length : Int)
            ·rw [if_pos c70] at H
             have c70b0 : decide (x11_1 < (t476.length : Int))=true:=decide_eq_true c70
             clear c70
             by_cases c71 : x12_2 < ((rd_L5 t476 x11_1).length : Int)
             ·rw [if_pos c71] at H
              have c71b0 : decide (x12_2 < ((rd_L5 t476 x11_1).length : Int))=true:=decide_eq_true c71
              clear c71
              obtain ⟨y488,hy488⟩ : ∃ y_ : List Int,y_=(x10_2.set (x12_2 : Int).toNat (wrap64 ((rd x10_2 x12_2) + ((rd_T45 (rd_L5 t476 x11_1) x12_2).f0)))):=⟨_,rfl⟩
              replace H : (thresherlaw13_FoldLast.l1 k2 t465 t476 t479 x9_1 y488 x11_1 (wrap64 (x12_2 + 1)) t466 t469 t470 t471)=some r:=by first|(rw [hy488];with_reducible exact H)|(have H2_:=(Option.bind_some _ _).symm.trans H;rw [hy488];with_reducible exact H2_)|(have H2_:=(Option.bind_some _ _).symm.trans H;with_reducible exact H2_)|with_reducible exact H|(rw [hy488];exact H)|exact H
              have Ny488:=Aside0.mk hy488
              clear hy488
              have H':=Aside0.mk H
              clear H
              obtain ⟨Ao73,co73,eo73⟩:=Kd.R_slice HO_10.out
              subst eo73
              try go_wp2
              have n0_:=Aside0.mk (Kd.N_drew HO_7.out)
              have n1_:=Aside0.mk (Kd.N_drew HO_8.out)
              have n2_:=Aside0.mk (Kd.R_drew HO_10.out)
              have n3_:=Aside0.mk (Kd.R_drew HO_473000.out)
              have n4_:=Aside0.mk (blk_drew BK464.out)
              have n5_:=Aside0.mk (blk_drew BK472.out)
              have n6_:=Aside0.mk (below_drew1 HB.out)
              clear HO_7
              clear HO_8
              clear HO_10
              clear HO_473000
              clear BK464
              clear BK472
              clear HB
              have HO_7:=n0_
              have HO_8:=n1_
              have HO_10:=n2_
              have HO_473000:=n3_
              have BK464:=n4_
              have BK472:=n5_
              have HB:=n6_
              clear n0_ n1_ n2_ n3_ n4_ n5_ n6_
              have p485 : 0≤(x12_2 : Int):=of_decide_eq_true (by first|(with_reducible assumption)|assumption)
              have q485 : x12_2 < (x10_2.length : Int):=of_decide_eq_true (by first|(with_reducible assumption)|assumption)
              obtain ⟨ad485,e485,hx485_0⟩:=Kd.at_int (Kd.R_reads' HO_10.out).2.2 x12_2 p485 q485
              cases e485
              replace p485:=eq_true p485
              replace q485:=eq_true q485
              have p486 : 0≤(x11_1 : Int):=of_decide_eq_true (by first|(with_reducible assumption)|assumption)
              have q486 : x11_1 < (t476.length : Int):=of_decide_eq_true (by first|(with_reducible assumption)|assumption)
              obtain ⟨ad486,A486_0,c486_0,e486,hx486_0,hl486_0,hi486_0⟩:=at_L5 (Kd.N_reads' HO_7.out).2.2 x11_1 p486 q486
              cases e486
              obtain ⟨ce486,hce486,hMe486,hcc486⟩:=Kd.N_get HO_7.out [] x11_1 p486 (by first|exact q486|exact of_decide_eq_true (by first|(with_reducible assumption)|assumption)|(have e_:=(Kd.N_reads' HO_7.out).1;omega))
              obtain ⟨ua486_0,uc486_0,rfl,ul486_0,ge486_0⟩:=Kd.FK_slice_open hMe486
              have hv486_0:=hcc486 0 _ rfl
              rw [Nat.add_zero,show ((Kd.slice 45 k45)).sz=1 from rfl,Nat.mul_one] at hv486_0
              replace hv486_0:=Option.some.inj (hv486_0.symm.trans hx486_0)
              injection hv486_0 with hva_ hvn_ hvc_
              rw [hva_] at ge486_0
              rw [hvc_] at ul486_0
              have HL486_0:=Aside0.mk (show Kd.V k45 45 _ w.heap.size _ _ (rd_L5 t476 x11_1) from Kd.V_mk ul486_0 ge486_0)
              clear hva_ hvn_ hvc_ ge486_0 ul486_0
              clear hcc486 hce486
              have HR486_0:=Aside0.mk hi486_0
              have HC486_0:=Aside0.mk hl486_0
              clear hi486_0 hl486_0
              replace p486:=eq_true p486
              replace q486:=eq_true q486
              have p487 : 0≤(x12_2 : Int):=of_decide_eq_true (by first|(with_reducible assumption)|assumption)
              have q487 : x12_2 < ((rd_L5 t476 x11_1).length : Int):=of_decide_eq_true (by first|(with_reducible assumption)|assumption)
              obtain ⟨ad487,e487,hx487_0,hx487_1⟩:=at_T45 (by repeat (first|(with_reducible exact HR486_0.out)|(with_reducible refine Kd.C_alloc ?_ _)|(with_reducible refine Kd.C_drewN ?_ _)|(with_reducible refine Kd.C_drew ?_)|exact HR486_0.out)) x12_2 p487 q487
              cases e487
              replace p487:=eq_true p487
              replace q487:=eq_true q487
              have p72 : 0≤(x12_2 : Int):=of_decide_eq_true (by first|(with_reducible assumption)|assumption)
              have q72 : (x12_2 : Int) < ((x10_2.length : Int) : Int):=of_decide_eq_true (by first|(with_reducible assumption)|assumption)
              obtain ⟨go72,co72,eo72,gb72,gl72,cl72,HG72⟩:=Kd.R_form HO_10.out (by omega)
              (first|cases eo72|(injection eo72 with ea_ en_ ec_;(first|subst ea_|(injection ea_ with ea_;subst ea_));subst ec_;clear en_))
              have GB72:=Aside0.mk gb72
              have GG72:=Aside0.mk HG72
              clear gb72 gl72 HG72
              (first|simp only [add_plain] at hx485_0|skip)
              obtain ⟨hx72_0,hf72_0⟩:=Kd.R_celln 0 HO_10.out (x12_2 : Int) p72 q72
              replace p72:=eq_true p72
              replace q72:=eq_true q72
              have HP75:=Kd.R_putn HO_10.out (x12_2 : Int) (wrap64 ((rd x10_2 x12_2) + ((rd_T45 (rd_L5 t476 x11_1) x12_2).f0)))
              rw [← Ny488.out] at HP75
              have HQ75:=Aside0.mk HP75
              clear HP75
              refine start_ (n:=17) (S:=fun w'=>w'.cell? ⟨go72,(x12_2).toNat,none⟩=some (.int .i64 (rd x10_2 x12_2))∧w'.cell? (ad486.add (x11_1).toNat)=some (.slice (some ad487) (rd_L5 t476 x11_1).length c486_0)∧w'.cell? (ad487.add ((x12_2).toNat * 2))=some (.int .i64 ((rd_T45 (rd_L5 t476 x11_1) x12_2).f0))∧w'.cell? ⟨(ad487.add ((x12_2).toNat * 2)).block,(ad487.add ((x12_2).toNat * 2)).off + 1,none⟩=some (.string ((rd_T45 (rd_L5 t476 x11_1) x12_2).f1))) (ds:=[16]) #[false,false,false,false,false,false,false,false,false,false,false,false,false,false,false,false,false] (by kernel_rfl) rfl rfl ⟨hx485_0,hx486_0,hx487_0,hx487_1⟩ (fun hHeld=>?_);refine with_tabW thresherlaw13_FoldLast.tab15 thresherlaw13_FoldLast.bits15 (fun HT_ HW_=>?_)
              generalize wr.drew=w74 at HO_7 HO_8 HO_10 HO_473000 BK464 BK472 HB GG72 HL486_0 HQ75 HR486_0 hf72_0 hx485_0 hx486_0 hx487_0 hx487_1 hx72_0 hHeld ⊢
              refine pure_ (i:=0) (N:=some 53) (v:=?_) (a':=?_) #[true,false,false,false,false,false,false,false,false,false,false,false,false,false,false,false,false] rfl rfl (any_of HT_.out (by kernel_rfl)) (fun _ _ _ h=>h) (Or.inl ⟨by rfl,?_⟩) ?_ ?_
              rotate_left;(intro w';go_simp;with_reducible rfl);rotate_left;(simp only [Act.put,List.setIfInBounds_toArray,List.set_cons_zero,List.set_cons_succ,i64_w,i32_w];rfl)
              refine pure_ (i:=1) (N:=some 54) (v:=?_) (a':=?_) #[true,true,false,false,false,false,false,false,false,false,false,false,false,false,false,false,false] rfl rfl (any_of HT_.out (by kernel_rfl)) (fun _ _ _ h=>h) (Or.inl ⟨by rfl,?_⟩) ?_ ?_
              rotate_left;(intro w';go_simp;with_reducible rfl);rotate_left;(simp only [Act.put,List.setIfInBounds_toArray,List.set_cons_zero,List.set_cons_succ,i64_w,i32_w];rfl)
              refine pure_ (i:=2) (N:=some 55) (v:=?_) (a':=?_) #[true,true,true,false,false,false,false,false,false,false,false,false,false,false,false,false,false] rfl rfl (any_of HT_.out (by kernel_rfl)) (fun _ _ _ h=>h) (Or.inl ⟨by rfl,?_⟩) ?_ ?_
              rotate_left;(intro w';go_simp;with_reducible rfl);rotate_left;(simp only [Act.put,List.setIfInBounds_toArray,List.set_cons_zero,List.set_cons_succ,i64_w,i32_w];rfl)
              refine pure_ (i:=3) (N:=some 56) (v:=?_) (a':=?_) #[true,true,true,true,false,false,false,false,false,false,false,false,false,false,false,false,false] rfl rfl (any_of HT_.out (by kernel_rfl)) (fun _ _ _ h=>h) (Or.inl ⟨by rfl,?_⟩) ?_ ?_
              rotate_left;(intro w';go_simp;with_reducible rfl);rotate_left;(simp only [Act.put,List.setIfInBounds_toArray,List.set_cons_zero,List.set_cons_succ,i64_w,i32_w];rfl)
              refine pure_ (i:=4) (N:=some 57) (v:=?_) (a':=?_) #[true,true,true,true,true,false,false,false,false,false,false,false,false,false,false,false,false] rfl rfl (any_of HT_.out (by kernel_rfl)) (fun _ _ _ h=>h) (Or.inl ⟨by rfl,?_⟩) ?_ ?_
              rotate_left;(intro w';go_simp;with_reducible rfl);rotate_left;(simp only [Act.put,List.setIfInBounds_toArray,List.set_cons_zero,List.set_cons_succ,i64_w,i32_w];rfl)
              refine pure_ (i:=6) (N:=some 59) (v:=?_) (a':=?_) #[true,true,true,true,true,false,true,false,false,false,false,false,false,false,false,false,false] rfl rfl (any_of HT_.out (by kernel_rfl)) (fun _ _ _ h=>h) (Or.inl ⟨by rfl,?_⟩) ?_ ?_
              rotate_left;(intro w';go_simp;with_reducible rfl);rotate_left;(simp only [Act.put,List.setIfInBounds_toArray,List.set_cons_zero,List.set_cons_succ,i64_w,i32_w];rfl)
              refine pure_ (i:=7) (N:=some 60) (v:=?_) (a':=?_) #[true,true,true,true,true,false,true,true,false,false,false,false,false,false,false,false,false] rfl rfl (any_of HT_.out (by kernel_rfl)) (fun _ _ _ h=>h) (Or.inl ⟨by rfl,?_⟩) ?_ ?_
              rotate_left;(intro w';go_simp;with_reducible rfl);rotate_left;(simp only [Act.put,List.setIfInBounds_toArray,List.set_cons_zero,List.set_cons_succ,i64_w,i32_w];rfl)
              refine pure_ (i:=8) (N:=some 61) (v:=?_) (a':=?_) #[true,true,true,true,true,false,true,true,true,false,false,false,false,false,false,false,false] rfl rfl (any_of HT_.out (by kernel_rfl)) (fun _ _ _ h=>h) (Or.inl ⟨by rfl,?_⟩) ?_ ?_
              rotate_left;(intro w';go_simp;with_reducible rfl);rotate_left;(simp only [Act.put,List.setIfInBounds_toArray,List.set_cons_zero,List.set_cons_succ,i64_w,i32_w];rfl)
              refine pure_ (i:=10) (N:=some 63) (v:=?_) (a':=?_) #[true,true,true,true,true,false,true,true,true,false,true,false,false,false,false,false,false] rfl rfl (any_of HT_.out (by kernel_rfl)) (fun _ _ _ h=>h) (Or.inl ⟨by rfl,?_⟩) ?_ ?_
              rotate_left;(intro w';go_simp;with_reducible rfl);rotate_left;(simp only [Act.put,List.setIfInBounds_toArray,List.set_cons_zero,List.set_cons_succ,i64_w,i32_w];rfl)
              refine take_ (i:=5) (N:=some 58) (v:=?_) (a':=?_) #[true,true,true,true,true,true,true,true,true,false,true,false,false,false,false,false,false] rfl rfl (take_ofW HT_.out HW_.out (by kernel_rfl)) (fun _ _ _ h=>h) (Or.inl ⟨by rfl,?_⟩) hHeld ?_ ?_
              rotate_left;(rintro w' ⟨s0,s1,s2,s3⟩;go_simp;with_reducible rfl);rotate_left;(simp only [Act.put,List.setIfInBounds_toArray,List.set_cons_zero,List.set_cons_succ,i64_w,i32_w];rfl)
              refine take_ (i:=9) (N:=some 62) (v:=?_) (a':=?_) #[true,true,true,true,true,true,true,true,true,true,true,false,false,false,false,false,false] rfl rfl (take_ofW HT_.out HW_.out (by kernel_rfl)) (fun _ _ _ h=>h) (Or.inl ⟨by rfl,?_⟩) hHeld ?_ ?_
              rotate_left;(rintro w' ⟨s0,s1,s2,s3⟩;go_simp;with_reducible rfl);rotate_left;(simp only [Act.put,List.setIfInBounds_toArray,List.set_cons_zero,List.set_cons_succ,i64_w,i32_w];rfl)
              refine pure_ (i:=11) (N:=some 64) (v:=?_) (a':=?_) #[true,true,true,true,true,true,true,true,true,true,true,true,false,false,false,false,false] rfl rfl (any_of HT_.out (by kernel_rfl)) (fun _ _ _ h=>h) (Or.inl ⟨by rfl,?_⟩) ?_ ?_
              rotate_left;(intro w';go_simp;with_reducible rfl);rotate_left;(simp only [Act.put,List.setIfInBounds_toArray,List.set_cons_zero,List.set_cons_succ,i64_w,i32_w];rfl)
              refine pure_ (i:=12) (N:=some 65) (v:=?_) (a':=?_) #[true,true,true,true,true,true,true,true,true,true,true,true,true,false,false,false,false] rfl rfl (any_of HT_.out (by kernel_rfl)) (fun _ _ _ h=>h) (Or.inl ⟨by rfl,?_⟩) ?_ ?_
              rotate_left;(intro w';go_simp;with_reducible rfl);rotate_left;(simp only [Act.put,List.setIfInBounds_toArray,List.set_cons_zero,List.set_cons_succ,i64_w,i32_w];rfl)
              refine take_ (i:=13) (N:=some 66) (v:=?_) (a':=?_) #[true,true,true,true,true,true,true,true,true,true,true,true,true,true,false,false,false] rfl rfl (take_ofW HT_.out HW_.out (by kernel_rfl)) (fun _ _ _ h=>h) (Or.inl ⟨by rfl,?_⟩) hHeld ?_ ?_
              rotate_left;(rintro w' ⟨s0,s1,s2,s3⟩;go_simp;with_reducible rfl);rotate_left;(simp only [Act.put,List.setIfInBounds_toArray,List.set_cons_zero,List.set_cons_succ,i64_w,i32_w];rfl)
              refine pure_ (i:=14) (N:=some 67) (v:=?_) (a':=?_) #[true,true,true,true,true,true,true,true,true,true,true,true,true,true,true,false,false] rfl rfl (any_of HT_.out (by kernel_rfl)) (fun _ _ _ h=>h) (Or.inl ⟨by rfl,?_⟩) ?_ ?_
              rotate_left;(intro w';go_simp;with_reducible rfl);rotate_left;(simp only [Act.put,List.setIfInBounds_toArray,List.set_cons_zero,List.set_cons_succ,i64_w,i32_w];rfl)
              refine pure_ (i:=15) (N:=some 68) (v:=?_) (a':=?_) #[true,true,true,true,true,true,true,true,true,true,true,true,true,true,true,true,false] rfl rfl (any_of HT_.out (by kernel_rfl)) (fun _ _ _ h=>h) (Or.inl ⟨by rfl,?_⟩) ?_ ?_
              rotate_left;(intro w';go_simp;with_reducible rfl);rotate_left;(simp only [Act.put,List.setIfInBounds_toArray,List.set_cons_zero,List.set_cons_succ,i64_w,i32_w];rfl)
              refine last_ (i:=16) (N:=none) #[true,true,true,true,true,true,true,true,true,true,true,true,true,true,true,true,true] rfl rfl (one_of HT_.out (by kernel_rfl)) (by decide) (fun K hK=>?_)
              refine skip_ (w1:=?_) (by rfl) rfl ?_ ?_
              rotate_left
              ·go_simp
               rfl
              refine hK.out _ _ ?_
              clear hK K
              refine done_ (done_of HT_.out (by kernel_rfl)) ?_
              (try clear hHeld)
              try go_wp2
              go_roundg k2
              case measure=>have:=HK1.out;have:=HK2.out;omega
              case rel=>exact ⟨(y488),(wrap64 (x12_2 + 1)),(by first|rfl|(simp;done)|(simp [*];done)),(by first|exact H'|(subst_vars;exact H')),⟨by have:=HK1.out;have:=HK2.out;omega⟩,⟨by (with_reducible repeat (first|apply Kd.N_alloc|apply Kd.N_drewN|apply Kd.N_drew));exact Kd.N_mono (Kd.N_far (p:=⟨go72,(x12_2 : Int).toNat,none⟩) (Kd.N_mono HO_7.out (fun k_ hk=>(⟨hk,fun e_=>hk.2.1 (by rw [e_];rfl)⟩ : _∧k_≠go72))) (fun _ hk=>hk.2) (.int .i64 (wrap64 ((rd x10_2 x12_2) + ((rd_T45 (rd_L5 t476 x11_1) x12_2).f0))))) (fun _ hk=>⟨hk.1.1,⟨hk.1.2.1,⟨hk.1.2.2.1,⟨hk.1.2.2.2.1,hk.1.2.2.2.2⟩⟩⟩⟩)⟩,⟨by (with_reducible repeat (first|apply Kd.N_alloc|apply Kd.N_drewN|apply Kd.N_drew));exact Kd.N_mono (Kd.N_far (p:=⟨go72,(x12_2 : Int).toNat,none⟩) (Kd.N_mono HO_8.out (fun k_ hk=>(⟨hk,fun e_=>hk.1 (by rw [e_];rfl)⟩ : _∧k_≠go72))) (fun _ hk=>hk.2) (.int .i64 (wrap64 ((rd x10_2 x12_2) + ((rd_T45 (rd_L5 t476 x11_1) x12_2).f0))))) (fun _ hk=>⟨hk.1.1,⟨hk.1.2.1,⟨hk.1.2.2.1,hk.1.2.2.2⟩⟩⟩)⟩,⟨by (with_reducible repeat (first|apply Kd.R_alloc|apply Kd.R_drewN|apply Kd.R_drew));exact HQ75.out⟩,⟨by (with_reducible repeat (first|apply Kd.R_alloc|apply Kd.R_drewN|apply Kd.R_drew));exact Kd.R_mono (Kd.R_far (p:=⟨go72,(x12_2 : Int).toNat,none⟩) (Kd.R_types HO_473000.out GG72.out (by decide)) (fun _ hk=>hk.2) (.int .i64 (wrap64 ((rd x10_2 x12_2) + ((rd_T45 (rd_L5 t476 x11_1) x12_2).f0))))) (fun _ hk=>trivial)⟩,⟨by (with_reducible repeat (first|refine blk_drewN ?_ _|refine blk_drew ?_|refine blk_alloc ?_ _));refine blk_far ?_ (by have h_:=Kd.R_ne HO_10.out BK464.out (by decide);intro e_;exact h_ (by rw [e_];rfl)) _;(with_reducible repeat (first|refine blk_drewN ?_ _|refine blk_drew ?_|refine blk_alloc ?_ _));exact BK464.out⟩,⟨by (with_reducible repeat (first|refine blk_drewN ?_ _|refine blk_drew ?_|refine blk_alloc ?_ _));refine blk_far ?_ (by have h_:=Kd.R_ne HO_10.out BK472.out (by decide);intro e_;exact h_ (by rw [e_];rfl)) _;(with_reducible repeat (first|refine blk_drewN ?_ _|refine blk_drew ?_|refine blk_alloc ?_ _));exact BK472.out⟩,⟨by repeat (first|(with_reducible first|exact HB.out|apply below_alloc|apply pw_below_drewN|apply below_drew1|refine below_set ?_ GB72.out|refine below_set ?_ GE464.out|refine below_set ?_ GE472.out)|exact HB.out)⟩⟩
             ·rw [if_neg c71] at H
              exact absurd H (by simp)
            ·rw [if_neg c70] at H
             exact absurd H (by simp)
           ·rw [if_neg c69] at H
            exact absurd H (by simp)
          ·rw [if_neg c68] at H
           exact absurd H (by simp)
         ·rw [if_neg c67] at H
          have c67b0 : decide (x12_2 < (x10_2.length : Int))=false:=decide_eq_false c67
          clear c67
          have HC76:=Aside0.mk H
          clear H
          obtain ⟨Ao77,co77,eo77⟩:=Kd.R_slice HO_10.out
          subst eo77
          go_upto_region 16 with (fail)
          go_cut [87] (fun v87 wc=>∃ (kq : Nat) (x87_75 : Bool),v87=.bool x87_75∧Aside0 (thresherlaw13_FoldLast.j2 kq t465 t476 t479 x9_1 x10_2 x11_1 x87_75 t466 t469 t470 t471=some r)∧Aside0 (kq≤k2)∧Aside0 (Kd.N (Kd.slice 45 k45) 36 wc w.heap.size (fun k_=>some k_≠(v480 : Value).ownBlock∧some k_≠((.slice Ao77 x10_2.length co77) : Value).ownBlock∧some k_≠((.slice Ao52 t466.length co52) : Value).ownBlock∧k_≠gb464∧k_≠gb472) (.slice Ao61 t476.length co61) t476)∧Aside0 (Kd.N (Kd.slice 45 k45) 36 wc w.heap.size (fun k_=>some k_≠((.slice Ao77 x10_2.length co77) : Value).ownBlock∧some k_≠((.slice Ao52 t466.length co52) : Value).ownBlock∧k_≠gb464∧k_≠gb472) v480 t479)∧Aside0 (Kd.R (Kd.int .i64) 2 wc w.heap.size (fun _=>True) (.slice Ao77 x10_2.length co77) x10_2)∧Aside0 (Kd.R (Kd.int .i64) 3 wc w.heap.size (fun _=>True) (.slice Ao52 t466.length co52) t466)∧Aside0 (wc.heap[gb464]?=some (.cells #[.int .u8 a0_0,.int .u8 a0_1,.int .u8 a0_2,.int .u8 a0_3,.int .u8 a0_4,.int .u8 a0_5,.int .u8 a0_6,.int .u8 a0_7,.int .u8 a0_8,.int .u8 a0_9,.int .u8 a0_10,.int .u8 a0_11] 24 (0,0)))∧Aside0 (wc.heap[gb472]?=some (.cells #[(.slice Ao52 t466.length co52),.int .i64 t469,.int .i64 t470,.int .i64 t471] 29 (0,0)))∧Aside0 (Below w.heap.size w wc))
          case first =>
           have H:=HC76.out
           clear HC76
           by_cases c78 : (wrap64 (x11_1 + 1)) < (t476.length : Int)
           ·rw [if_pos c78] at H
            have c78b0 : decide ((wrap64 (x11_1 + 1)) < (t476.length : Int))=true:=decide_eq_true c78
            clear c78
            (first|rw [c78b0]|(simp only [i64_w,i32_w];rw [c78b0])|skip)
            by_cases c79 : 0≤x11_1
            ·rw [if_pos c79] at H
             have c79b0 : decide (0≤x11_1)=true:=decide_eq_true c79
             clear c79
             by_cases c80 : x11_1 < (t476.length : Int)
             ·rw [if_pos c80] at H
              have c80b0 : decide (x11_1 < (t476.length : Int))=true:=decide_eq_true c80
              clear c80
              obtain ⟨ji81,hji81⟩ : ∃ j_ : Int,(wrap64 (x11_1 + 1))=j_:=⟨_,rfl⟩
              replace H : (if 0≤(ji81) then ((thresherref04_Compare.f k2 t466 t469 t470 t471 (rd_L5 t476 x11_1) (rd_L5 t476 (ji81))).bind fun t491=>(thresherlaw13_FoldLast.j2 k2 t465 t476 t479 x9_1 x10_2 x11_1 (t491 == 0) t466 t469 t470 t471)) else (none))=some r:=by first|(rw [hji81] at H;exact H)|(simp only [hji81] at H ⊢;exact H)
              (try rw [hji81] at c78b0)
              have hji81w : (IntKind.i64.wrap (x11_1 + 1))=ji81:=(i64_w _).trans hji81
              by_cases c82 : 0≤(ji81)
              ·rw [if_pos c82] at H
               have c82b0 : decide (0≤(ji81))=true:=decide_eq_true c82
               clear c82
               replace H:=Option.bind_eq_some_iff.mp H
               obtain ⟨t491,A830,H⟩:=H
               replace H : (thresherlaw13_FoldLast.j2 k2 t465 t476 t479 x9_1 x10_2 x11_1 (t491 == 0) t466 t469 t470 t471)=some r:=H
               have A83:=Aside0.mk A830
               clear A830
               have H':=Aside0.mk H
               clear H
               try go_wp2
               have n0_:=Aside0.mk (Kd.N_drew HO_7.out)
               have n1_:=Aside0.mk (Kd.N_drew HO_8.out)
               have n2_:=Aside0.mk (Kd.R_drew HO_10.out)
               have n3_:=Aside0.mk (Kd.R_drew HO_473000.out)
               have n4_:=Aside0.mk (blk_drew BK464.out)
               have n5_:=Aside0.mk (blk_drew BK472.out)
               have n6_:=Aside0.mk (below_drew1 HB.out)
               clear HO_7
               clear HO_8
               clear HO_10
               clear HO_473000
               clear BK464
               clear BK472
               clear HB
               have HO_7:=n0_
               have HO_8:=n1_
               have HO_10:=n2_
               have HO_473000:=n3_
               have BK464:=n4_
               have BK472:=n5_
               have HB:=n6_
               clear n0_ n1_ n2_ n3_ n4_ n5_ n6_
               have p489 : 0≤(x11_1 : Int):=of_decide_eq_true (by first|(with_reducible assumption)|assumption)
               have q489 : x11_1 < (t476.length : Int):=of_decide_eq_true (by first|(with_reducible assumption)|assumption)
               obtain ⟨ad489,A489_0,c489_0,e489,hx489_0,hl489_0,hi489_0⟩:=at_L5 (Kd.N_reads' HO_7.out).2.2 x11_1 p489 q489
               cases e489
               obtain ⟨ce489,hce489,hMe489,hcc489⟩:=Kd.N_get HO_7.out [] x11_1 p489 (by first|exact q489|exact of_decide_eq_true (by first|(with_reducible assumption)|assumption)|(have e_:=(Kd.N_reads' HO_7.out).1;omega))
               obtain ⟨ua489_0,uc489_0,rfl,ul489_0,ge489_0⟩:=Kd.FK_slice_open hMe489
               have hv489_0:=hcc489 0 _ rfl
               rw [Nat.add_zero,show ((Kd.slice 45 k45)).sz=1 from rfl,Nat.mul_one] at hv489_0
               replace hv489_0:=Option.some.inj (hv489_0.symm.trans hx489_0)
               injection hv489_0 with hva_ hvn_ hvc_
               rw [hva_] at ge489_0
               rw [hvc_] at ul489_0
               have HL489_0:=Aside0.mk (show Kd.V k45 45 _ w.heap.size _ _ (rd_L5 t476 x11_1) from Kd.V_mk ul489_0 ge489_0)
               clear hva_ hvn_ hvc_ ge489_0 ul489_0
               clear hcc489 hce489
               have HR489_0:=Aside0.mk hi489_0
               have HC489_0:=Aside0.mk hl489_0
               clear hi489_0 hl489_0
               replace p489:=eq_true p489
               replace q489:=eq_true q489
               have p490 : 0≤((ji81) : Int):=of_decide_eq_true (by first|(with_reducible assumption)|assumption)
               have q490 : (ji81) < (t476.length : Int):=of_decide_eq_true (by first|(with_reducible assumption)|assumption)
               obtain ⟨ad490,A490_0,c490_0,e490,hx490_0,hl490_0,hi490_0⟩:=at_L5 (Kd.N_reads' HO_7.out).2.2 (ji81) p490 q490
               obtain rfl : ad489=ad490:=(by injection e490)
               obtain ⟨ce490,hce490,hMe490,hcc490⟩:=Kd.N_get HO_7.out [] (ji81) p490 (by first|exact q490|exact of_decide_eq_true (by first|(with_reducible assumption)|assumption)|(have e_:=(Kd.N_reads' HO_7.out).1;omega))
               obtain ⟨ua490_0,uc490_0,rfl,ul490_0,ge490_0⟩:=Kd.FK_slice_open hMe490
               have hv490_0:=hcc490 0 _ rfl
               rw [Nat.add_zero,show ((Kd.slice 45 k45)).sz=1 from rfl,Nat.mul_one] at hv490_0
               replace hv490_0:=Option.some.inj (hv490_0.symm.trans hx490_0)
               injection hv490_0 with hva_ hvn_ hvc_
               rw [hva_] at ge490_0
               rw [hvc_] at ul490_0
               have HL490_0:=Aside0.mk (show Kd.V k45 45 _ w.heap.size _ _ (rd_L5 t476 (ji81)) from Kd.V_mk ul490_0 ge490_0)
               clear hva_ hvn_ hvc_ ge490_0 ul490_0
               clear hcc490 hce490
               have HR490_0:=Aside0.mk hi490_0
               have HC490_0:=Aside0.mk hl490_0
               clear hi490_0 hl490_0
               replace p490:=eq_true p490
               replace q490:=eq_true q490
               refine start_ (n:=19) (S:=fun w'=>w'.cell? ⟨gb472,0,none⟩=some (.slice Ao52 t466.length co52)∧w'.cell? ⟨gb472,1,none⟩=some (.int .i64 t469)∧w'.cell? ⟨gb472,2,none⟩=some (.int .i64 t470)∧w'.cell? ⟨gb472,3,none⟩=some (.int .i64 t471)∧w'.cell? (ad489.add (x11_1).toNat)=some (.slice A489_0 (rd_L5 t476 x11_1).length c489_0)∧w'.cell? (ad489.add ((ji81)).toNat)=some (.slice A490_0 (rd_L5 t476 (ji81)).length c490_0)) (ds:=[]) #[false,false,false,false,false,false,false,false,false,false,false,false,false,false,false,false,false,false,false] (by kernel_rfl) rfl rfl ⟨(blk_cell BK472.out 0).trans rfl,(blk_cell BK472.out 1).trans rfl,(blk_cell BK472.out 2).trans rfl,(blk_cell BK472.out 3).trans rfl,hx489_0,hx490_0⟩ (fun hHeld=>?_);refine with_tabW thresherlaw13_FoldLast.tab16 thresherlaw13_FoldLast.bits16 (fun HT_ HW_=>?_)
               generalize wr.drew=w84 at HO_7 HO_8 HO_10 HO_473000 BK464 BK472 HB HL489_0 HL490_0 HR489_0 HR490_0 hx489_0 hx490_0 hHeld ⊢
               refine pure_ (i:=0) (N:=some 69) (v:=?_) (a':=?_) #[true,false,false,false,false,false,false,false,false,false,false,false,false,false,false,false,false,false,false] rfl rfl (any_of HT_.out (by kernel_rfl)) (fun _ _ _ h=>h) (Or.inl ⟨by rfl,?_⟩) ?_ ?_
               rotate_left;(intro w';go_simp;with_reducible rfl);rotate_left;(simp only [Act.put,List.setIfInBounds_toArray,List.set_cons_zero,List.set_cons_succ,i64_w,i32_w];rfl)
               refine pure_ (i:=1) (N:=some 70) (v:=?_) (a':=?_) #[true,true,false,false,false,false,false,false,false,false,false,false,false,false,false,false,false,false,false] rfl rfl (any_of HT_.out (by kernel_rfl)) (fun _ _ _ h=>h) (Or.inl ⟨by rfl,?_⟩) ?_ ?_
               rotate_left;(intro w';go_simp;with_reducible rfl);rotate_left;(simp only [Act.put,List.setIfInBounds_toArray,List.set_cons_zero,List.set_cons_succ,i64_w,i32_w];rfl)
               refine pure_ (i:=2) (N:=some 71) (v:=?_) (a':=?_) #[true,true,true,false,false,false,false,false,false,false,false,false,false,false,false,false,false,false,false] rfl rfl (any_of HT_.out (by kernel_rfl)) (fun _ _ _ h=>h) (Or.inl ⟨by rfl,?_⟩) ?_ ?_
               rotate_left;(intro w';go_simp;with_reducible rfl);rotate_left;(simp only [Act.put,List.setIfInBounds_toArray,List.set_cons_zero,List.set_cons_succ,i64_w,i32_w];rfl)
               refine pure_ (i:=3) (N:=some 72) (v:=?_) (a':=?_) #[true,true,true,true,false,false,false,false,false,false,false,false,false,false,false,false,false,false,false] rfl rfl (any_of HT_.out (by kernel_rfl)) (fun _ _ _ h=>h) (Or.inl ⟨by rfl,?_⟩) ?_ ?_
               rotate_left;(intro w';go_simp;with_reducible rfl);rotate_left;(simp only [Act.put,List.setIfInBounds_toArray,List.set_cons_zero,List.set_cons_succ,i64_w,i32_w];rfl)
               refine pure_ (i:=4) (N:=some 73) (v:=?_) (a':=?_) #[true,true,true,true,true,false,false,false,false,false,false,false,false,false,false,false,false,false,false] rfl rfl (any_of HT_.out (by kernel_rfl)) (fun _ _ _ h=>h) (Or.inl ⟨by rfl,?_⟩) ?_ ?_
               rotate_left;(intro w';go_simp;with_reducible rfl);rotate_left;(simp only [Act.put,List.setIfInBounds_toArray,List.set_cons_zero,List.set_cons_succ,i64_w,i32_w];rfl)
               refine pure_ (i:=5) (N:=some 74) (v:=?_) (a':=?_) #[true,true,true,true,true,true,false,false,false,false,false,false,false,false,false,false,false,false,false] rfl rfl (any_of HT_.out (by kernel_rfl)) (fun _ _ _ h=>h) (Or.inl ⟨by rfl,?_⟩) ?_ ?_
               rotate_left;(intro w';go_simp;with_reducible rfl);rotate_left;(simp only [Act.put,List.setIfInBounds_toArray,List.set_cons_zero,List.set_cons_succ,i64_w,i32_w];rfl)
               refine pure_ (i:=7) (N:=some 76) (v:=?_) (a':=?_) #[true,true,true,true,true,true,false,true,false,false,false,false,false,false,false,false,false,false,false] rfl rfl (any_of HT_.out (by kernel_rfl)) (fun _ _ _ h=>h) (Or.inl ⟨by rfl,?_⟩) ?_ ?_
               rotate_left;(intro w';go_simp;with_reducible rfl);rotate_left;(simp only [Act.put,List.setIfInBounds_toArray,List.set_cons_zero,List.set_cons_succ,i64_w,i32_w];rfl)
               refine pure_ (i:=8) (N:=some 77) (v:=?_) (a':=?_) #[true,true,true,true,true,true,false,true,true,false,false,false,false,false,false,false,false,false,false] rfl rfl (any_of HT_.out (by kernel_rfl)) (fun _ _ _ h=>h) (Or.inl ⟨by rfl,?_⟩) ?_ ?_
               rotate_left;(intro w';go_simp;with_reducible rfl);rotate_left;(simp only [Act.put,List.setIfInBounds_toArray,List.set_cons_zero,List.set_cons_succ,i64_w,i32_w];rfl)
               refine pure_ (i:=9) (N:=some 78) (v:=?_) (a':=?_) #[true,true,true,true,true,true,false,true,true,true,false,false,false,false,false,false,false,false,false] rfl rfl (any_of HT_.out (by kernel_rfl)) (fun _ _ _ h=>h) (Or.inl ⟨by rfl,?_⟩) ?_ ?_
               rotate_left;(intro w';go_simp;with_reducible rfl);rotate_left;(simp only [Act.put,List.setIfInBounds_toArray,List.set_cons_zero,List.set_cons_succ,i64_w,i32_w];rfl)
               refine pure_ (i:=11) (N:=some 80) (v:=?_) (a':=?_) #[true,true,true,true,true,true,false,true,true,true,false,true,false,false,false,false,false,false,false] rfl rfl (any_of HT_.out (by kernel_rfl)) (fun _ _ _ h=>h) (Or.inl ⟨by rfl,?_⟩) ?_ ?_
               rotate_left;(intro w';go_simp;with_reducible rfl);rotate_left;(simp only [Act.put,List.setIfInBounds_toArray,List.set_cons_zero,List.set_cons_succ,i64_w,i32_w];rfl)
               refine pure_ (i:=12) (N:=some 81) (v:=?_) (a':=?_) #[true,true,true,true,true,true,false,true,true,true,false,true,true,false,false,false,false,false,false] rfl rfl (any_of HT_.out (by kernel_rfl)) (fun _ _ _ h=>h) (Or.inl ⟨by rfl,?_⟩) ?_ ?_
               rotate_left;(intro w';go_simp;with_reducible rfl);rotate_left;(simp only [Act.put,List.setIfInBounds_toArray,List.set_cons_zero,List.set_cons_succ,i64_w,i32_w];rfl)
               refine pure_ (i:=13) (N:=some 82) (v:=?_) (a':=?_) #[true,true,true,true,true,true,false,true,true,true,false,true,true,true,false,false,false,false,false] rfl rfl (any_of HT_.out (by kernel_rfl)) (fun _ _ _ h=>h) (Or.inl ⟨by rfl,?_⟩) ?_ ?_
               rotate_left;(intro w';go_simp;with_reducible rfl);rotate_left;(simp only [Act.put,List.setIfInBounds_toArray,List.set_cons_zero,List.set_cons_succ,i64_w,i32_w];rfl)
               refine pure_ (i:=14) (N:=some 83) (v:=?_) (a':=?_) #[true,true,true,true,true,true,false,true,true,true,false,true,true,true,true,false,false,false,false] rfl rfl (any_of HT_.out (by kernel_rfl)) (fun _ _ _ h=>h) (Or.inl ⟨by rfl,?_⟩) ?_ ?_
               rotate_left;(intro w';go_simp;with_reducible rfl);rotate_left;(simp only [Act.put,List.setIfInBounds_toArray,List.set_cons_zero,List.set_cons_succ,i64_w,i32_w];rfl)
               refine take_ (i:=6) (N:=some 75) (v:=?_) (a':=?_) #[true,true,true,true,true,true,true,true,true,true,false,true,true,true,true,false,false,false,false] rfl rfl (take_ofW HT_.out HW_.out (by kernel_rfl)) (fun _ _ _ h=>h) (Or.inl ⟨by rfl,?_⟩) hHeld ?_ ?_
               rotate_left;(rintro w' ⟨s0,s1,s2,s3,s4,s5⟩;go_simp;with_reducible rfl);rotate_left;(simp only [Act.put,List.setIfInBounds_toArray,List.set_cons_zero,List.set_cons_succ,i64_w,i32_w];rfl)
               refine take_ (i:=10) (N:=some 79) (v:=?_) (a':=?_) #[true,true,true,true,true,true,true,true,true,true,true,true,true,true,true,false,false,false,false] rfl rfl (take_ofW HT_.out HW_.out (by kernel_rfl)) (fun _ _ _ h=>h) (Or.inl ⟨by rfl,?_⟩) hHeld ?_ ?_
               rotate_left;(rintro w' ⟨s0,s1,s2,s3,s4,s5⟩;go_simp;with_reducible rfl);rotate_left;(simp only [Act.put,List.setIfInBounds_toArray,List.set_cons_zero,List.set_cons_succ,i64_w,i32_w];rfl)
               refine take_ (i:=15) (N:=some 84) (v:=?_) (a':=?_) #[true,true,true,true,true,true,true,true,true,true,true,true,true,true,true,true,false,false,false] rfl rfl (take_ofW HT_.out HW_.out (by kernel_rfl)) (fun _ _ _ h=>h) (Or.inl ⟨by rfl,?_⟩) hHeld ?_ ?_
               rotate_left;(rintro w' ⟨s0,s1,s2,s3,s4,s5⟩;go_simp;with_reducible rfl);rotate_left;(simp only [Act.put,List.setIfInBounds_toArray,List.set_cons_zero,List.set_cons_succ,i64_w,i32_w];rfl)
               refine one_ (i:=16) (N:=some 85) #[true,true,true,true,true,true,true,true,true,true,true,true,true,true,true,true,true,false,false] rfl rfl (one_of HT_.out (by kernel_rfl)) (by decide) (fun K hK=>?_)
               refine goes_ Try.func15 (by kernel_rfl) rfl #[.agg #[.slice Ao52 t466.length co52,.int .i64 t469,.int .i64 t470,.int .i64 t471],.slice A489_0 (rd_L5 t476 x11_1).length c489_0,.slice A490_0 (rd_L5 t476 (ji81)).length c490_0] (by rfl) rfl rfl (by (try simp only [List.map_toArray,List.map_cons,List.map_nil]);first|done|(simp only [hji81];rfl)|rfl|(simp only [List.length_drop,List.length_take];rfl)) ?_
               with_reducible refine (thresherref04_Compare.calls k2 _ _ t466 t469 t470 t471 _ _ (rd_L5 t476 x11_1) _ _ (rd_L5 t476 (ji81)) t491 _ ?side1 ?side2 ?side3 ?side4 ?side5 ?side6 A83.out).mono ?_
               (case side1=>repeat (first|exact (Kd.R_reads' HO_473000.out).2.2|(with_reducible refine Kd.C_alloc ?_ _)|(with_reducible refine Kd.C_drewN ?_ _)|(with_reducible refine Kd.C_drew ?_)))
               (case side2=>exact (Kd.R_reads' HO_473000.out).2.1)
               (case side3=>repeat (first|exact (by repeat (first|(with_reducible exact HR489_0.out)|(with_reducible refine Kd.C_alloc ?_ _)|(with_reducible refine Kd.C_drewN ?_ _)|(with_reducible refine Kd.C_drew ?_)|exact HR489_0.out))|(with_reducible refine Kd.C_alloc ?_ _)|(with_reducible refine Kd.C_drewN ?_ _)|(with_reducible refine Kd.C_drew ?_)))
               (case side4=>exact HC489_0.out)
               (case side5=>repeat (first|exact (by repeat (first|(with_reducible exact HR490_0.out)|(with_reducible refine Kd.C_alloc ?_ _)|(with_reducible refine Kd.C_drewN ?_ _)|(with_reducible refine Kd.C_drew ?_)|exact HR490_0.out))|(with_reducible refine Kd.C_alloc ?_ _)|(with_reducible refine Kd.C_drewN ?_ _)|(with_reducible refine Kd.C_drew ?_)))
               (case side6=>exact HC490_0.out)
               rintro e w85 ⟨rfl,hb⟩
               have HS4_:=(hb.cell (World.block_lt_of_cell? _ _ (hHeld.2.2.2.2.1))).trans (hHeld.2.2.2.2.1)
               have HS5_:=(hb.cell (World.block_lt_of_cell? _ _ (hHeld.2.2.2.2.2))).trans (hHeld.2.2.2.2.2)
               refine ⟨_,rfl,?_⟩
               have n0_:=Aside0.mk (Kd.N_below (by (with_reducible repeat (first|apply Kd.N_alloc|apply Kd.N_drewN|apply Kd.N_drew));exact HO_7.out) hb)
               have n1_:=Aside0.mk (Kd.N_below (by (with_reducible repeat (first|apply Kd.N_alloc|apply Kd.N_drewN|apply Kd.N_drew));exact HO_8.out) hb)
               have n2_:=Aside0.mk (Kd.R_below (by (with_reducible repeat (first|apply Kd.R_alloc|apply Kd.R_drewN|apply Kd.R_drew));exact HO_10.out) hb)
               have n3_:=Aside0.mk (Kd.R_below (by (with_reducible repeat (first|apply Kd.R_alloc|apply Kd.R_drewN|apply Kd.R_drew));exact HO_473000.out) hb)
               have n4_:=Aside0.mk (Kd.V_below (by (with_reducible repeat (first|apply Kd.V_alloc|apply Kd.V_drewN|apply Kd.V_drew));exact HL489_0.out) hb)
               have n5_:=Aside0.mk (Kd.V_below (by (with_reducible repeat (first|apply Kd.V_alloc|apply Kd.V_drewN|apply Kd.V_drew));exact HL490_0.out) hb)
               have n6_:=Aside0.mk (blk_below (g:=gb464) (o:=.cells #[.int .u8 a0_0,.int .u8 a0_1,.int .u8 a0_2,.int .u8 a0_3,.int .u8 a0_4,.int .u8 a0_5,.int .u8 a0_6,.int .u8 a0_7,.int .u8 a0_8,.int .u8 a0_9,.int .u8 a0_10,.int .u8 a0_11] 24 (0,0)) (by (with_reducible repeat (first|refine blk_drewN ?_ _|refine blk_drew ?_|refine blk_alloc ?_ _));exact BK464.out) hb)
               have n7_:=Aside0.mk (blk_below (g:=gb472) (o:=.cells #[.slice Ao52 t466.length co52,.int .i64 t469,.int .i64 t470,.int .i64 t471] 29 (0,0)) (by (with_reducible repeat (first|refine blk_drewN ?_ _|refine blk_drew ?_|refine blk_alloc ?_ _));exact BK472.out) hb)
               have n8_:=Aside0.mk (Kd.C_below (by repeat (first|(with_reducible exact HR489_0.out)|(with_reducible refine Kd.C_alloc ?_ _)|(with_reducible refine Kd.C_drewN ?_ _)|(with_reducible refine Kd.C_drew ?_)|exact HR489_0.out)) hb)
               have n9_:=Aside0.mk (Kd.C_below (by repeat (first|(with_reducible exact HR490_0.out)|(with_reducible refine Kd.C_alloc ?_ _)|(with_reducible refine Kd.C_drewN ?_ _)|(with_reducible refine Kd.C_drew ?_)|exact HR490_0.out)) hb)
               have n10_:=Aside0.mk (below_step (by repeat (first|(with_reducible first|exact HB.out|apply below_alloc|apply pw_below_drewN|apply below_drew1|refine below_set ?_ GE464.out|refine below_set ?_ GE472.out)|exact HB.out)) hb)
               clear HO_7
               clear HO_8
               clear HO_10
               clear HO_473000
               clear HL489_0
               clear HL490_0
               clear BK464
               clear BK472
               clear HR489_0
               clear HR490_0
               clear HB
               have HO_7:=n0_
               have HO_8:=n1_
               have HO_10:=n2_
               have HO_473000:=n3_
               have HL489_0:=n4_
               have HL490_0:=n5_
               have BK464:=n6_
               have BK472:=n7_
               have HR489_0:=n8_
               have HR490_0:=n9_
               have HB:=n10_
               clear n0_ n1_ n2_ n3_ n4_ n5_ n6_ n7_ n8_ n9_ n10_
               (try clear hb)
               (try clear hb2)
               (try clear hk)
               (try clear hi)
               refine hK.out _ _ ⟨(blk_cell BK472.out 0).trans rfl,(blk_cell BK472.out 1).trans rfl,(blk_cell BK472.out 2).trans rfl,(blk_cell BK472.out 3).trans rfl,HS4_,HS5_⟩ (fun hHeld=>?_)
               clear hK K
               refine norm_ (a':=?_) ?_ ?_
               rotate_left
               ·show Act.put _ (some 85) _=_
                simp only [Act.put,List.setIfInBounds_toArray,List.set_cons_zero,List.set_cons_succ,i64_w,i32_w]
                rfl
               refine pure_ (i:=17) (N:=some 86) (v:=?_) (a':=?_) #[true,true,true,true,true,true,true,true,true,true,true,true,true,true,true,true,true,true,false] rfl rfl (any_of HT_.out (by kernel_rfl)) (fun _ _ _ h=>h) (Or.inl ⟨by rfl,?_⟩) ?_ ?_
               rotate_left;(intro w';go_simp;with_reducible rfl);rotate_left;(simp only [Act.put,List.setIfInBounds_toArray,List.set_cons_zero,List.set_cons_succ,i64_w,i32_w];rfl)
               refine pure_ (i:=18) (N:=some 87) (v:=?_) (a':=?_) #[true,true,true,true,true,true,true,true,true,true,true,true,true,true,true,true,true,true,true] rfl rfl (any_of HT_.out (by kernel_rfl)) (fun _ _ _ h=>h) (Or.inl ⟨by rfl,?_⟩) ?_ ?_
               rotate_left;(intro w';go_simp;with_reducible rfl);rotate_left;(simp only [Act.put,List.setIfInBounds_toArray,List.set_cons_zero,List.set_cons_succ,i64_w,i32_w];rfl)
               refine done_ (done_of HT_.out (by kernel_rfl)) ?_
               (try clear hHeld)
               try go_wp2
               go_meet
               case rel=>exact ⟨_,((t491 == 0)),(by first|rfl|(simp;done)|(simp [*];done)),(by first|exact H'|(subst_vars;exact H')),⟨by have:=HK1.out;have:=HK2.out;first|omega|exact Nat.le_refl _⟩,⟨by (with_reducible repeat (first|apply Kd.N_alloc|apply Kd.N_drewN|apply Kd.N_drew));exact HO_7.out⟩,⟨by (with_reducible repeat (first|apply Kd.N_alloc|apply Kd.N_drewN|apply Kd.N_drew));exact HO_8.out⟩,⟨by (with_reducible repeat (first|apply Kd.R_alloc|apply Kd.R_drewN|apply Kd.R_drew));exact HO_10.out⟩,⟨by (with_reducible repeat (first|apply Kd.R_alloc|apply Kd.R_drewN|apply Kd.R_drew));exact HO_473000.out⟩,⟨by (with_reducible repeat (first|refine blk_drewN ?_ _|refine blk_drew ?_|refine blk_alloc ?_ _));exact BK464.out⟩,⟨by (with_reducible repeat (first|refine blk_drewN ?_ _|refine blk_drew ?_|refine blk_alloc ?_ _));exact BK472.out⟩,⟨by repeat (first|(with_reducible first|exact HB.out|apply below_alloc|apply pw_below_drewN|apply below_drew1|refine below_set ?_ GE464.out|refine below_set ?_ GE472.out)|exact HB.out)⟩⟩
              ·rw [if_neg c82] at H
               exact absurd H (by simp)
             ·rw [if_neg c80] at H
              exact absurd H (by simp)
            ·rw [if_neg c79] at H
             exact absurd H (by simp)
           ·rw [if_neg c78] at H
            have c78b0 : decide ((wrap64 (x11_1 + 1)) < (t476.length : Int))=false:=decide_eq_false c78
            clear c78
            (first|rw [c78b0]|(simp only [i64_w,i32_w];rw [c78b0])|skip)
            have H':=Aside0.mk H
            clear H
            try go_wp2
            have n0_:=Aside0.mk (Kd.N_drew HO_7.out)
            have n1_:=Aside0.mk (Kd.N_drew HO_8.out)
            have n2_:=Aside0.mk (Kd.R_drew HO_10.out)
            have n3_:=Aside0.mk (Kd.R_drew HO_473000.out)
            have n4_:=Aside0.mk (blk_drew BK464.out)
            have n5_:=Aside0.mk (blk_drew BK472.out)
            have n6_:=Aside0.mk (below_drew1 HB.out)
            clear HO_7
            clear HO_8
            clear HO_10
            clear HO_473000
            clear BK464
            clear BK472
            clear HB
            have HO_7:=n0_
            have HO_8:=n1_
            have HO_10:=n2_
            have HO_473000:=n3_
            have BK464:=n4_
            have BK472:=n5_
            have HB:=n6_
            clear n0_ n1_ n2_ n3_ n4_ n5_ n6_
            refine start_ (n:=19) (S:=fun w'=>True) (ds:=[]) #[false,false,false,false,false,false,false,false,false,false,false,false,false,false,false,false,false,false,false] (by kernel_rfl) rfl rfl trivial (fun hHeld=>?_);refine with_tabW thresherlaw13_FoldLast.tab16 thresherlaw13_FoldLast.bits16 (fun HT_ HW_=>?_)
            generalize wr.drew=w86 at HO_7 HO_8 HO_10 HO_473000 BK464 BK472 HB hHeld ⊢
            refine pure_ (i:=0) (N:=some 69) (v:=?_) (a':=?_) #[true,false,false,false,false,false,false,false,false,false,false,false,false,false,false,false,false,false,false] rfl rfl (any_of HT_.out (by kernel_rfl)) (fun _ _ _ h=>h) (Or.inl ⟨by rfl,?_⟩) ?_ ?_
            rotate_left;(intro w';go_simp;with_reducible rfl);rotate_left;(simp only [Act.put,List.setIfInBounds_toArray,List.set_cons_zero,List.set_cons_succ,i64_w,i32_w];rfl)
            refine pure_ (i:=1) (N:=some 70) (v:=?_) (a':=?_) #[true,true,false,false,false,false,false,false,false,false,false,false,false,false,false,false,false,false,false] rfl rfl (any_of HT_.out (by kernel_rfl)) (fun _ _ _ h=>h) (Or.inl ⟨by rfl,?_⟩) ?_ ?_
            rotate_left;(intro w';go_simp;with_reducible rfl);rotate_left;(simp only [Act.put,List.setIfInBounds_toArray,List.set_cons_zero,List.set_cons_succ,i64_w,i32_w];rfl)
            refine pure_ (i:=2) (N:=some 71) (v:=?_) (a':=?_) #[true,true,true,false,false,false,false,false,false,false,false,false,false,false,false,false,false,false,false] rfl rfl (any_of HT_.out (by kernel_rfl)) (fun _ _ _ h=>h) (Or.inl ⟨by rfl,?_⟩) ?_ ?_
            rotate_left;(intro w';go_simp;with_reducible rfl);rotate_left;(simp only [Act.put,List.setIfInBounds_toArray,List.set_cons_zero,List.set_cons_succ,i64_w,i32_w];rfl)
            refine pure_ (i:=3) (N:=some 72) (v:=?_) (a':=?_) #[true,true,true,true,false,false,false,false,false,false,false,false,false,false,false,false,false,false,false] rfl rfl (any_of HT_.out (by kernel_rfl)) (fun _ _ _ h=>h) (Or.inl ⟨by rfl,?_⟩) ?_ ?_
            rotate_left;(intro w';go_simp;with_reducible rfl);rotate_left;(simp only [Act.put,List.setIfInBounds_toArray,List.set_cons_zero,List.set_cons_succ,i64_w,i32_w];rfl)
            refine pure_ (i:=4) (N:=some 73) (v:=?_) (a':=?_) #[true,true,true,true,true,false,false,false,false,false,false,false,false,false,false,false,false,false,false] rfl rfl (any_of HT_.out (by kernel_rfl)) (fun _ _ _ h=>h) (Or.inl ⟨by rfl,?_⟩) ?_ ?_
            rotate_left;(intro w';go_simp;with_reducible rfl);rotate_left;(simp only [Act.put,List.setIfInBounds_toArray,List.set_cons_zero,List.set_cons_succ,i64_w,i32_w];rfl)
            refine pure_ (i:=5) (N:=some 74) (v:=?_) (a':=?_) #[true,true,true,true,true,true,false,false,false,false,false,false,false,false,false,false,false,false,false] rfl rfl (any_of HT_.out (by kernel_rfl)) (fun _ _ _ h=>h) (Or.inl ⟨by rfl,?_⟩) ?_ ?_
            rotate_left;(intro w';go_simp;with_reducible rfl);rotate_left;(simp only [Act.put,List.setIfInBounds_toArray,List.set_cons_zero,List.set_cons_succ,i64_w,i32_w];rfl)
            refine pure_ (i:=6) (N:=some 75) (v:=undef) (a':=?_) #[true,true,true,true,true,true,true,false,false,false,false,false,false,false,false,false,false,false,false] rfl rfl (any_of HT_.out (by kernel_rfl)) (fun _ _ _ h=>h) (Or.inr ⟨by rfl,rfl⟩) ?_ ?_
            rotate_left
            ·simp only [Act.put,List.setIfInBounds_toArray,List.set_cons_zero,List.set_cons_succ,i64_w,i32_w]
             rfl
            refine pure_ (i:=7) (N:=some 76) (v:=undef) (a':=?_) #[true,true,true,true,true,true,true,true,false,false,false,false,false,false,false,false,false,false,false] rfl rfl (any_of HT_.out (by kernel_rfl)) (fun _ _ _ h=>h) (Or.inr ⟨by rfl,rfl⟩) ?_ ?_
            rotate_left
            ·simp only [Act.put,List.setIfInBounds_toArray,List.set_cons_zero,List.set_cons_succ,i64_w,i32_w]
             rfl
            refine pure_ (i:=8) (N:=some 77) (v:=undef) (a':=?_) #[true,true,true,true,true,true,true,true,true,false,false,false,false,false,false,false,false,false,false] rfl rfl (any_of HT_.out (by kernel_rfl)) (fun _ _ _ h=>h) (Or.inr ⟨by rfl,rfl⟩) ?_ ?_
            rotate_left
            ·simp only [Act.put,List.setIfInBounds_toArray,List.set_cons_zero,List.set_cons_succ,i64_w,i32_w]
             rfl
            refine pure_ (i:=9) (N:=some 78) (v:=undef) (a':=?_) #[true,true,true,true,true,true,true,true,true,true,false,false,false,false,false,false,false,false,false] rfl rfl (any_of HT_.out (by kernel_rfl)) (fun _ _ _ h=>h) (Or.inr ⟨by rfl,rfl⟩) ?_ ?_
            rotate_left
            ·simp only [Act.put,List.setIfInBounds_toArray,List.set_cons_zero,List.set_cons_succ,i64_w,i32_w]
             rfl
            refine pure_ (i:=10) (N:=some 79) (v:=undef) (a':=?_) #[true,true,true,true,true,true,true,true,true,true,true,false,false,false,false,false,false,false,false] rfl rfl (any_of HT_.out (by kernel_rfl)) (fun _ _ _ h=>h) (Or.inr ⟨by rfl,rfl⟩) ?_ ?_
            rotate_left
            ·simp only [Act.put,List.setIfInBounds_toArray,List.set_cons_zero,List.set_cons_succ,i64_w,i32_w]
             rfl
            refine pure_ (i:=11) (N:=some 80) (v:=undef) (a':=?_) #[true,true,true,true,true,true,true,true,true,true,true,true,false,false,false,false,false,false,false] rfl rfl (any_of HT_.out (by kernel_rfl)) (fun _ _ _ h=>h) (Or.inr ⟨by rfl,rfl⟩) ?_ ?_
            rotate_left
            ·simp only [Act.put,List.setIfInBounds_toArray,List.set_cons_zero,List.set_cons_succ,i64_w,i32_w]
             rfl
            refine pure_ (i:=12) (N:=some 81) (v:=undef) (a':=?_) #[true,true,true,true,true,true,true,true,true,true,true,true,true,false,false,false,false,false,false] rfl rfl (any_of HT_.out (by kernel_rfl)) (fun _ _ _ h=>h) (Or.inr ⟨by rfl,rfl⟩) ?_ ?_
            rotate_left
            ·simp only [Act.put,List.setIfInBounds_toArray,List.set_cons_zero,List.set_cons_succ,i64_w,i32_w]
             rfl
            refine pure_ (i:=13) (N:=some 82) (v:=undef) (a':=?_) #[true,true,true,true,true,true,true,true,true,true,true,true,true,true,false,false,false,false,false] rfl rfl (any_of HT_.out (by kernel_rfl)) (fun _ _ _ h=>h) (Or.inr ⟨by rfl,rfl⟩) ?_ ?_
            rotate_left
            ·simp only [Act.put,List.setIfInBounds_toArray,List.set_cons_zero,List.set_cons_succ,i64_w,i32_w]
             rfl
            refine pure_ (i:=14) (N:=some 83) (v:=undef) (a':=?_) #[true,true,true,true,true,true,true,true,true,true,true,true,true,true,true,false,false,false,false] rfl rfl (any_of HT_.out (by kernel_rfl)) (fun _ _ _ h=>h) (Or.inr ⟨by rfl,rfl⟩) ?_ ?_
            rotate_left
            ·simp only [Act.put,List.setIfInBounds_toArray,List.set_cons_zero,List.set_cons_succ,i64_w,i32_w]
             rfl
            refine pure_ (i:=15) (N:=some 84) (v:=undef) (a':=?_) #[true,true,true,true,true,true,true,true,true,true,true,true,true,true,true,true,false,false,false] rfl rfl (any_of HT_.out (by kernel_rfl)) (fun _ _ _ h=>h) (Or.inr ⟨by rfl,rfl⟩) ?_ ?_
            rotate_left
            ·simp only [Act.put,List.setIfInBounds_toArray,List.set_cons_zero,List.set_cons_succ,i64_w,i32_w]
             rfl
            refine pure_ (i:=16) (N:=some 85) (v:=undef) (a':=?_) #[true,true,true,true,true,true,true,true,true,true,true,true,true,true,true,true,true,false,false] rfl rfl (any_of HT_.out (by kernel_rfl)) (fun _ _ _ h=>h) (Or.inr ⟨by rfl,rfl⟩) ?_ ?_
            rotate_left
            ·simp only [Act.put,List.setIfInBounds_toArray,List.set_cons_zero,List.set_cons_succ,i64_w,i32_w]
             rfl
            refine pure_ (i:=17) (N:=some 86) (v:=undef) (a':=?_) #[true,true,true,true,true,true,true,true,true,true,true,true,true,true,true,true,true,true,false] rfl rfl (any_of HT_.out (by kernel_rfl)) (fun _ _ _ h=>h) (Or.inr ⟨by rfl,rfl⟩) ?_ ?_
            rotate_left
            ·simp only [Act.put,List.setIfInBounds_toArray,List.set_cons_zero,List.set_cons_succ,i64_w,i32_w]
             rfl
            refine pure_ (i:=18) (N:=some 87) (v:=?_) (a':=?_) #[true,true,true,true,true,true,true,true,true,true,true,true,true,true,true,true,true,true,true] rfl rfl (any_of HT_.out (by kernel_rfl)) (fun _ _ _ h=>h) (Or.inl ⟨by rfl,?_⟩) ?_ ?_
            rotate_left;(intro w';go_simp;with_reducible rfl);rotate_left;(simp only [Act.put,List.setIfInBounds_toArray,List.set_cons_zero,List.set_cons_succ,i64_w,i32_w];rfl)
            refine done_ (done_of HT_.out (by kernel_rfl)) ?_
            (try clear hHeld)
            try go_wp2
            go_meet
            case rel=>exact ⟨_,(false),(by first|rfl|(simp;done)|(simp [*];done)),(by first|exact H'|(subst_vars;exact H')),⟨by have:=HK1.out;have:=HK2.out;first|omega|exact Nat.le_refl _⟩,⟨by (with_reducible repeat (first|apply Kd.N_alloc|apply Kd.N_drewN|apply Kd.N_drew));exact HO_7.out⟩,⟨by (with_reducible repeat (first|apply Kd.N_alloc|apply Kd.N_drewN|apply Kd.N_drew));exact HO_8.out⟩,⟨by (with_reducible repeat (first|apply Kd.R_alloc|apply Kd.R_drewN|apply Kd.R_drew));exact HO_10.out⟩,⟨by (with_reducible repeat (first|apply Kd.R_alloc|apply Kd.R_drewN|apply Kd.R_drew));exact HO_473000.out⟩,⟨by (with_reducible repeat (first|refine blk_drewN ?_ _|refine blk_drew ?_|refine blk_alloc ?_ _));exact BK464.out⟩,⟨by (with_reducible repeat (first|refine blk_drewN ?_ _|refine blk_drew ?_|refine blk_alloc ?_ _));exact BK472.out⟩,⟨by repeat (first|(with_reducible first|exact HB.out|apply below_alloc|apply pw_below_drewN|apply below_drew1|refine below_set ?_ GE464.out|refine below_set ?_ GE472.out)|exact HB.out)⟩⟩
          case rest =>
           clear HC76
           try clear c1
           try clear p2
           try clear c4
           try clear p4
           try clear q4
           try clear hx4
           try clear c6
           try clear p6
           try clear c7
           try clear c8
           try clear c15
           try clear c48
           try clear p48
           try clear q48
           try clear hx48
           try clear c49
           try clear p49
           try clear q49
           try clear hx49
           try clear p64
           try clear c67
           try clear c67b0
           try clear c68
           try clear c69
           try clear c70
           try clear c71
           try clear c78
           try clear c78b0
           try clear c79
           try clear c79b0
           try clear c80
           try clear c80b0
           try clear c82
           try clear c82b0
           try clear hx489_0
           try clear hx490_0
           try clear p489
           try clear p490
           try clear q489
           try clear q490
           obtain ⟨kq,x87_75,rfl,HA,HJ75,HO_7,HO_8,HO_10,HO_473000,BK464,BK472,HB⟩:=hcut
           cases kq with
           | zero=>exact absurd HA.out (by simp [thresherlaw13_FoldLast.j2])
           | succ kj75 =>
            have H:=HA.out
            clear HA
            simp only [thresherlaw13_FoldLast.j2] at H
            by_cases c87 : x87_75=true
            ·subst c87
             have H1 : (thresherlaw13_FoldLast.l0 kj75 t465 t476 t479 x9_1 x10_2 (wrap64 (x11_1 + 1)) t466 t469 t470 t471)=some r:=by rw [if_pos rfl] at H;exact H
             clear H
             have H:=H1
             clear H1
             have H':=Aside0.mk H
             clear H
             go_wp2
             go_roundg kj75
             case measure=>have:=HK1.out;have:=HK2.out;have:=HJ75.out;omega
             case rel=>exact ⟨(x9_1),(x10_2),(wrap64 (x11_1 + 1)),(by first|rfl|(simp;done)|(simp [*];done)),(by first|rfl|(simp;done)|(simp [*];done)),(by first|exact H'|(subst_vars;exact H')),⟨by have:=HK1.out;have:=HK2.out;have:=HJ75.out;omega⟩,⟨by (with_reducible repeat (first|apply Kd.N_alloc|apply Kd.N_drewN|apply Kd.N_drew));exact HO_7.out⟩,⟨by (with_reducible repeat (first|apply Kd.N_alloc|apply Kd.N_drewN|apply Kd.N_drew));exact HO_8.out⟩,⟨by (with_reducible repeat (first|apply Kd.R_alloc|apply Kd.R_drewN|apply Kd.R_drew));exact HO_10.out⟩,⟨by (with_reducible repeat (first|apply Kd.R_alloc|apply Kd.R_drewN|apply Kd.R_drew));exact HO_473000.out⟩,⟨by (with_reducible repeat (first|refine blk_drewN ?_ _|refine blk_drew ?_|refine blk_alloc ?_ _));exact BK464.out⟩,⟨by (with_reducible repeat (first|refine blk_drewN ?_ _|refine blk_drew ?_|refine blk_alloc ?_ _));exact BK472.out⟩,⟨by repeat (first|(with_reducible first|exact HB.out|apply below_alloc|apply pw_below_drewN|apply below_drew1|refine below_set ?_ GE464.out|refine below_set ?_ GE472.out)|exact HB.out)⟩⟩
            ·replace c87:=Bool.eq_false_iff.mpr c87
             subst c87
             have H1 : (if x9_1 ≥ (t479.length : Int) then (thresherlaw13_FoldLast.j3 kj75 t465 t476 t479 x9_1 x10_2 x11_1 true t466 t469 t470 t471) else (if 0≤x9_1 then (if x9_1 < (t479.length : Int) then (thresherlaw13_FoldLast.j3 kj75 t465 t476 t479 x9_1 x10_2 x11_1 (((rd_L5 t479 x9_1).length : Int) != (t466.length : Int)) t466 t469 t470 t471) else (none)) else (none)))=some r:=by rw [if_neg (show ¬ (false=true) by decide)] at H;exact H
             clear H
             have H:=H1
             clear H1
             have HC88:=Aside0.mk H
             clear H
             go_upto_region 17 with (fail)
             go_cut [102] (fun v102 wc=>∃ (kq : Nat) (x102_87 : Bool),v102=.bool x102_87∧Aside0 (thresherlaw13_FoldLast.j3 kq t465 t476 t479 x9_1 x10_2 x11_1 x102_87 t466 t469 t470 t471=some r)∧Aside0 (kq≤kj75)∧Aside0 (Kd.N (Kd.slice 45 k45) 36 wc w.heap.size (fun k_=>some k_≠(v480 : Value).ownBlock∧some k_≠((.slice Ao77 x10_2.length co77) : Value).ownBlock∧some k_≠((.slice Ao52 t466.length co52) : Value).ownBlock∧k_≠gb464∧k_≠gb472) (.slice Ao61 t476.length co61) t476)∧Aside0 (Kd.N (Kd.slice 45 k45) 36 wc w.heap.size (fun k_=>some k_≠((.slice Ao77 x10_2.length co77) : Value).ownBlock∧some k_≠((.slice Ao52 t466.length co52) : Value).ownBlock∧k_≠gb464∧k_≠gb472) v480 t479)∧Aside0 (Kd.R (Kd.int .i64) 2 wc w.heap.size (fun _=>True) (.slice Ao77 x10_2.length co77) x10_2)∧Aside0 (Kd.R (Kd.int .i64) 3 wc w.heap.size (fun _=>True) (.slice Ao52 t466.length co52) t466)∧Aside0 (wc.heap[gb464]?=some (.cells #[.int .u8 a0_0,.int .u8 a0_1,.int .u8 a0_2,.int .u8 a0_3,.int .u8 a0_4,.int .u8 a0_5,.int .u8 a0_6,.int .u8 a0_7,.int .u8 a0_8,.int .u8 a0_9,.int .u8 a0_10,.int .u8 a0_11] 24 (0,0)))∧Aside0 (wc.heap[gb472]?=some (.cells #[(.slice Ao52 t466.length co52),.int .i64 t469,.int .i64 t470,.int .i64 t471] 29 (0,0)))∧Aside0 (Below w.heap.size w wc))
             case first =>
              have H:=HC88.out
              clear HC88
              by_cases c89 : x9_1 ≥ (t479.length : Int)
              ·rw [if_pos c89] at H
               have c89b0 : decide ((t479.length : Int)≤x9_1)=true:=decide_eq_true c89
               clear c89
               (first|rw [c89b0]|(simp only [i64_w,i32_w];rw [c89b0])|skip)
               have H':=Aside0.mk H
               clear H
               try go_wp2
               have n0_:=Aside0.mk (Kd.N_drew HO_7.out)
               have n1_:=Aside0.mk (Kd.N_drew HO_8.out)
               have n2_:=Aside0.mk (Kd.R_drew HO_10.out)
               have n3_:=Aside0.mk (Kd.R_drew HO_473000.out)
               have n4_:=Aside0.mk (blk_drew BK464.out)
               have n5_:=Aside0.mk (blk_drew BK472.out)
               have n6_:=Aside0.mk (below_drew1 HB.out)
               clear HO_7
               clear HO_8
               clear HO_10
               clear HO_473000
               clear BK464
               clear BK472
               clear HB
               have HO_7:=n0_
               have HO_8:=n1_
               have HO_10:=n2_
               have HO_473000:=n3_
               have BK464:=n4_
               have BK472:=n5_
               have HB:=n6_
               clear n0_ n1_ n2_ n3_ n4_ n5_ n6_
               obtain ⟨Ao91,co91,eo91⟩:=Kd.N_slice HO_8.out
               (first|subst eo91|(injection eo91 with f1_ f2_ f3_;have f4_:=f1_.symm;have f5_:=f3_.symm;clear f1_ f2_ f3_;subst f4_;subst f5_))
               refine start_ (n:=15) (S:=fun w'=>True) (ds:=[]) #[false,false,false,false,false,false,false,false,false,false,false,false,false,false,false] (by kernel_rfl) rfl rfl trivial (fun hHeld=>?_);refine with_tabW thresherlaw13_FoldLast.tab17 thresherlaw13_FoldLast.bits17 (fun HT_ HW_=>?_)
               generalize wc.drew=w90 at HO_7 HO_8 HO_10 HO_473000 BK464 BK472 HB hHeld ⊢
               refine pure_ (i:=0) (N:=some 88) (v:=?_) (a':=?_) #[true,false,false,false,false,false,false,false,false,false,false,false,false,false,false] rfl rfl (any_of HT_.out (by kernel_rfl)) (fun _ _ _ h=>h) (Or.inl ⟨by rfl,?_⟩) ?_ ?_
               rotate_left;(intro w';go_simp;with_reducible rfl);rotate_left;(simp only [Act.put,List.setIfInBounds_toArray,List.set_cons_zero,List.set_cons_succ,i64_w,i32_w];rfl)
               refine pure_ (i:=1) (N:=some 89) (v:=?_) (a':=?_) #[true,true,false,false,false,false,false,false,false,false,false,false,false,false,false] rfl rfl (any_of HT_.out (by kernel_rfl)) (fun _ _ _ h=>h) (Or.inl ⟨by rfl,?_⟩) ?_ ?_
               rotate_left;(intro w';go_simp;with_reducible rfl);rotate_left;(simp only [Act.put,List.setIfInBounds_toArray,List.set_cons_zero,List.set_cons_succ,i64_w,i32_w];rfl)
               refine pure_ (i:=2) (N:=some 90) (v:=?_) (a':=?_) #[true,true,true,false,false,false,false,false,false,false,false,false,false,false,false] rfl rfl (any_of HT_.out (by kernel_rfl)) (fun _ _ _ h=>h) (Or.inl ⟨by rfl,?_⟩) ?_ ?_
               rotate_left;(intro w';go_simp;with_reducible rfl);rotate_left;(simp only [Act.put,List.setIfInBounds_toArray,List.set_cons_zero,List.set_cons_succ,i64_w,i32_w];rfl)
               refine pure_ (i:=3) (N:=some 91) (v:=?_) (a':=?_) #[true,true,true,true,false,false,false,false,false,false,false,false,false,false,false] rfl rfl (any_of HT_.out (by kernel_rfl)) (fun _ _ _ h=>h) (Or.inl ⟨by rfl,?_⟩) ?_ ?_
               rotate_left;(intro w';go_simp;with_reducible rfl);rotate_left;(simp only [Act.put,List.setIfInBounds_toArray,List.set_cons_zero,List.set_cons_succ,i64_w,i32_w];rfl)
               refine pure_ (i:=4) (N:=some 92) (v:=?_) (a':=?_) #[true,true,true,true,true,false,false,false,false,false,false,false,false,false,false] rfl rfl (any_of HT_.out (by kernel_rfl)) (fun _ _ _ h=>h) (Or.inl ⟨by rfl,?_⟩) ?_ ?_
               rotate_left;(intro w';go_simp;with_reducible rfl);rotate_left;(simp only [Act.put,List.setIfInBounds_toArray,List.set_cons_zero,List.set_cons_succ,i64_w,i32_w];rfl)
               refine pure_ (i:=5) (N:=some 93) (v:=undef) (a':=?_) #[true,true,true,true,true,true,false,false,false,false,false,false,false,false,false] rfl rfl (any_of HT_.out (by kernel_rfl)) (fun _ _ _ h=>h) (Or.inr ⟨by rfl,rfl⟩) ?_ ?_
               rotate_left
               ·simp only [Act.put,List.setIfInBounds_toArray,List.set_cons_zero,List.set_cons_succ,i64_w,i32_w]
                rfl
               refine pure_ (i:=6) (N:=some 94) (v:=undef) (a':=?_) #[true,true,true,true,true,true,true,false,false,false,false,false,false,false,false] rfl rfl (any_of HT_.out (by kernel_rfl)) (fun _ _ _ h=>h) (Or.inr ⟨by rfl,rfl⟩) ?_ ?_
               rotate_left
               ·simp only [Act.put,List.setIfInBounds_toArray,List.set_cons_zero,List.set_cons_succ,i64_w,i32_w]
                rfl
               refine pure_ (i:=7) (N:=some 95) (v:=undef) (a':=?_) #[true,true,true,true,true,true,true,true,false,false,false,false,false,false,false] rfl rfl (any_of HT_.out (by kernel_rfl)) (fun _ _ _ h=>h) (Or.inr ⟨by rfl,rfl⟩) ?_ ?_
               rotate_left
               ·simp only [Act.put,List.setIfInBounds_toArray,List.set_cons_zero,List.set_cons_succ,i64_w,i32_w]
                rfl
               refine pure_ (i:=8) (N:=some 96) (v:=undef) (a':=?_) #[true,true,true,true,true,true,true,true,true,false,false,false,false,false,false] rfl rfl (any_of HT_.out (by kernel_rfl)) (fun _ _ _ h=>h) (Or.inr ⟨by rfl,rfl⟩) ?_ ?_
               rotate_left
               ·simp only [Act.put,List.setIfInBounds_toArray,List.set_cons_zero,List.set_cons_succ,i64_w,i32_w]
                rfl
               refine pure_ (i:=9) (N:=some 97) (v:=undef) (a':=?_) #[true,true,true,true,true,true,true,true,true,true,false,false,false,false,false] rfl rfl (any_of HT_.out (by kernel_rfl)) (fun _ _ _ h=>h) (Or.inr ⟨by rfl,rfl⟩) ?_ ?_
               rotate_left
               ·simp only [Act.put,List.setIfInBounds_toArray,List.set_cons_zero,List.set_cons_succ,i64_w,i32_w]
                rfl
               refine pure_ (i:=10) (N:=some 98) (v:=undef) (a':=?_) #[true,true,true,true,true,true,true,true,true,true,true,false,false,false,false] rfl rfl (any_of HT_.out (by kernel_rfl)) (fun _ _ _ h=>h) (Or.inr ⟨by rfl,rfl⟩) ?_ ?_
               rotate_left
               ·simp only [Act.put,List.setIfInBounds_toArray,List.set_cons_zero,List.set_cons_succ,i64_w,i32_w]
                rfl
               refine pure_ (i:=11) (N:=some 99) (v:=undef) (a':=?_) #[true,true,true,true,true,true,true,true,true,true,true,true,false,false,false] rfl rfl (any_of HT_.out (by kernel_rfl)) (fun _ _ _ h=>h) (Or.inr ⟨by rfl,rfl⟩) ?_ ?_
               rotate_left
               ·simp only [Act.put,List.setIfInBounds_toArray,List.set_cons_zero,List.set_cons_succ,i64_w,i32_w]
                rfl
               refine pure_ (i:=12) (N:=some 100) (v:=undef) (a':=?_) #[true,true,true,true,true,true,true,true,true,true,true,true,true,false,false] rfl rfl (any_of HT_.out (by kernel_rfl)) (fun _ _ _ h=>h) (Or.inr ⟨by rfl,rfl⟩) ?_ ?_
               rotate_left
               ·simp only [Act.put,List.setIfInBounds_toArray,List.set_cons_zero,List.set_cons_succ,i64_w,i32_w]
                rfl
               refine pure_ (i:=13) (N:=some 101) (v:=undef) (a':=?_) #[true,true,true,true,true,true,true,true,true,true,true,true,true,true,false] rfl rfl (any_of HT_.out (by kernel_rfl)) (fun _ _ _ h=>h) (Or.inr ⟨by rfl,rfl⟩) ?_ ?_
               rotate_left
               ·simp only [Act.put,List.setIfInBounds_toArray,List.set_cons_zero,List.set_cons_succ,i64_w,i32_w]
                rfl
               refine pure_ (i:=14) (N:=some 102) (v:=?_) (a':=?_) #[true,true,true,true,true,true,true,true,true,true,true,true,true,true,true] rfl rfl (any_of HT_.out (by kernel_rfl)) (fun _ _ _ h=>h) (Or.inl ⟨by rfl,?_⟩) ?_ ?_
               rotate_left;(intro w';go_simp;with_reducible rfl);rotate_left;(simp only [Act.put,List.setIfInBounds_toArray,List.set_cons_zero,List.set_cons_succ,i64_w,i32_w];rfl)
               refine done_ (done_of HT_.out (by kernel_rfl)) ?_
               (try clear hHeld)
               try go_wp2
               go_meet
               case rel=>exact ⟨_,(true),(by first|rfl|(simp;done)|(simp [*];done)),(by first|exact H'|(subst_vars;exact H')),⟨by have:=HK1.out;have:=HK2.out;have:=HJ75.out;first|omega|exact Nat.le_refl _⟩,⟨by (with_reducible repeat (first|apply Kd.N_alloc|apply Kd.N_drewN|apply Kd.N_drew));exact HO_7.out⟩,⟨by (with_reducible repeat (first|apply Kd.N_alloc|apply Kd.N_drewN|apply Kd.N_drew));exact HO_8.out⟩,⟨by (with_reducible repeat (first|apply Kd.R_alloc|apply Kd.R_drewN|apply Kd.R_drew));exact HO_10.out⟩,⟨by (with_reducible repeat (first|apply Kd.R_alloc|apply Kd.R_drewN|apply Kd.R_drew));exact HO_473000.out⟩,⟨by (with_reducible repeat (first|refine blk_drewN ?_ _|refine blk_drew ?_|refine blk_alloc ?_ _));exact BK464.out⟩,⟨by (with_reducible repeat (first|refine blk_drewN ?_ _|refine blk_drew ?_|refine blk_alloc ?_ _));exact BK472.out⟩,⟨by repeat (first|(with_reducible first|exact HB.out|apply below_alloc|apply pw_below_drewN|apply below_drew1|refine below_set ?_ GE464.out|refine below_set ?_ GE472.out)|exact HB.out)⟩⟩
              ·rw [if_neg c89] at H
               have c89b0 : decide ((t479.length : Int)≤x9_1)=false:=decide_eq_false c89
               clear c89
               (first|rw [c89b0]|(simp only [i64_w,i32_w];rw [c89b0])|skip)
               by_cases c92 : 0≤x9_1
               ·rw [if_pos c92] at H
                have c92b0 : decide (0≤x9_1)=true:=decide_eq_true c92
                clear c92
                by_cases c93 : x9_1 < (t479.length : Int)
                ·rw [if_pos c93] at H
                 have c93b0 : decide (x9_1 < (t479.length : Int))=true:=decide_eq_true c93
                 clear c93
                 have H':=Aside0.mk H
                 clear H
                 try go_wp2
                 have n0_:=Aside0.mk (Kd.N_drew HO_7.out)
                 have n1_:=Aside0.mk (Kd.N_drew HO_8.out)
                 have n2_:=Aside0.mk (Kd.R_drew HO_10.out)
                 have n3_:=Aside0.mk (Kd.R_drew HO_473000.out)
                 have n4_:=Aside0.mk (blk_drew BK464.out)
                 have n5_:=Aside0.mk (blk_drew BK472.out)
                 have n6_:=Aside0.mk (below_drew1 HB.out)
                 clear HO_7
                 clear HO_8
                 clear HO_10
                 clear HO_473000
                 clear BK464
                 clear BK472
                 clear HB
                 have HO_7:=n0_
                 have HO_8:=n1_
                 have HO_10:=n2_
                 have HO_473000:=n3_
                 have BK464:=n4_
                 have BK472:=n5_
                 have HB:=n6_
                 clear n0_ n1_ n2_ n3_ n4_ n5_ n6_
                 obtain ⟨Ao95,co95,eo95⟩:=Kd.N_slice HO_8.out
                 (first|subst eo95|(injection eo95 with f1_ f2_ f3_;have f4_:=f1_.symm;have f5_:=f3_.symm;clear f1_ f2_ f3_;subst f4_;subst f5_))
                 have p492 : 0≤(x9_1 : Int):=of_decide_eq_true (by first|(with_reducible assumption)|assumption)
                 have q492 : x9_1 < (t479.length : Int):=of_decide_eq_true (by first|(with_reducible assumption)|assumption)
                 obtain ⟨ad492,A492_0,c492_0,e492,hx492_0,hl492_0,hi492_0⟩:=at_L5 (Kd.N_reads' HO_8.out).2.2 x9_1 p492 q492
                 cases e492
                 obtain ⟨ce492,hce492,hMe492,hcc492⟩:=Kd.N_get HO_8.out [] x9_1 p492 (by first|exact q492|exact of_decide_eq_true (by first|(with_reducible assumption)|assumption)|(have e_:=(Kd.N_reads' HO_8.out).1;omega))
                 obtain ⟨ua492_0,uc492_0,rfl,ul492_0,ge492_0⟩:=Kd.FK_slice_open hMe492
                 have hv492_0:=hcc492 0 _ rfl
                 rw [Nat.add_zero,show ((Kd.slice 45 k45)).sz=1 from rfl,Nat.mul_one] at hv492_0
                 replace hv492_0:=Option.some.inj (hv492_0.symm.trans hx492_0)
                 injection hv492_0 with hva_ hvn_ hvc_
                 rw [hva_] at ge492_0
                 rw [hvc_] at ul492_0
                 have HL492_0:=Aside0.mk (show Kd.V k45 45 _ w.heap.size _ _ (rd_L5 t479 x9_1) from Kd.V_mk ul492_0 ge492_0)
                 clear hva_ hvn_ hvc_ ge492_0 ul492_0
                 clear hcc492 hce492
                 have HR492_0:=Aside0.mk hi492_0
                 have HC492_0:=Aside0.mk hl492_0
                 clear hi492_0 hl492_0
                 replace p492:=eq_true p492
                 replace q492:=eq_true q492
                 refine start_ (n:=15) (S:=fun w'=>w'.cell? ⟨gb472,0,none⟩=some (.slice Ao52 t466.length co52)∧w'.cell? ⟨gb472,1,none⟩=some (.int .i64 t469)∧w'.cell? ⟨gb472,2,none⟩=some (.int .i64 t470)∧w'.cell? ⟨gb472,3,none⟩=some (.int .i64 t471)∧w'.cell? (ad492.add (x9_1).toNat)=some (.slice A492_0 (rd_L5 t479 x9_1).length c492_0)) (ds:=[]) #[false,false,false,false,false,false,false,false,false,false,false,false,false,false,false] (by kernel_rfl) rfl rfl ⟨(blk_cell BK472.out 0).trans rfl,(blk_cell BK472.out 1).trans rfl,(blk_cell BK472.out 2).trans rfl,(blk_cell BK472.out 3).trans rfl,hx492_0⟩ (fun hHeld=>?_);refine with_tabW thresherlaw13_FoldLast.tab17 thresherlaw13_FoldLast.bits17 (fun HT_ HW_=>?_)
                 generalize wc.drew=w94 at HO_7 HO_8 HO_10 HO_473000 BK464 BK472 HB HL492_0 HR492_0 hx492_0 hHeld ⊢
                 refine pure_ (i:=0) (N:=some 88) (v:=?_) (a':=?_) #[true,false,false,false,false,false,false,false,false,false,false,false,false,false,false] rfl rfl (any_of HT_.out (by kernel_rfl)) (fun _ _ _ h=>h) (Or.inl ⟨by rfl,?_⟩) ?_ ?_
                 rotate_left;(intro w';go_simp;with_reducible rfl);rotate_left;(simp only [Act.put,List.setIfInBounds_toArray,List.set_cons_zero,List.set_cons_succ,i64_w,i32_w];rfl)
                 refine pure_ (i:=1) (N:=some 89) (v:=?_) (a':=?_) #[true,true,false,false,false,false,false,false,false,false,false,false,false,false,false] rfl rfl (any_of HT_.out (by kernel_rfl)) (fun _ _ _ h=>h) (Or.inl ⟨by rfl,?_⟩) ?_ ?_
                 rotate_left;(intro w';go_simp;with_reducible rfl);rotate_left;(simp only [Act.put,List.setIfInBounds_toArray,List.set_cons_zero,List.set_cons_succ,i64_w,i32_w];rfl)
                 refine pure_ (i:=2) (N:=some 90) (v:=?_) (a':=?_) #[true,true,true,false,false,false,false,false,false,false,false,false,false,false,false] rfl rfl (any_of HT_.out (by kernel_rfl)) (fun _ _ _ h=>h) (Or.inl ⟨by rfl,?_⟩) ?_ ?_
                 rotate_left;(intro w';go_simp;with_reducible rfl);rotate_left;(simp only [Act.put,List.setIfInBounds_toArray,List.set_cons_zero,List.set_cons_succ,i64_w,i32_w];rfl)
                 refine pure_ (i:=3) (N:=some 91) (v:=?_) (a':=?_) #[true,true,true,true,false,false,false,false,false,false,false,false,false,false,false] rfl rfl (any_of HT_.out (by kernel_rfl)) (fun _ _ _ h=>h) (Or.inl ⟨by rfl,?_⟩) ?_ ?_
                 rotate_left;(intro w';go_simp;with_reducible rfl);rotate_left;(simp only [Act.put,List.setIfInBounds_toArray,List.set_cons_zero,List.set_cons_succ,i64_w,i32_w];rfl)
                 refine pure_ (i:=4) (N:=some 92) (v:=?_) (a':=?_) #[true,true,true,true,true,false,false,false,false,false,false,false,false,false,false] rfl rfl (any_of HT_.out (by kernel_rfl)) (fun _ _ _ h=>h) (Or.inl ⟨by rfl,?_⟩) ?_ ?_
                 rotate_left;(intro w';go_simp;with_reducible rfl);rotate_left;(simp only [Act.put,List.setIfInBounds_toArray,List.set_cons_zero,List.set_cons_succ,i64_w,i32_w];rfl)
                 refine pure_ (i:=5) (N:=some 93) (v:=?_) (a':=?_) #[true,true,true,true,true,true,false,false,false,false,false,false,false,false,false] rfl rfl (any_of HT_.out (by kernel_rfl)) (fun _ _ _ h=>h) (Or.inl ⟨by rfl,?_⟩) ?_ ?_
                 rotate_left;(intro w';go_simp;with_reducible rfl);rotate_left;(simp only [Act.put,List.setIfInBounds_toArray,List.set_cons_zero,List.set_cons_succ,i64_w,i32_w];rfl)
                 refine pure_ (i:=6) (N:=some 94) (v:=?_) (a':=?_) #[true,true,true,true,true,true,true,false,false,false,false,false,false,false,false] rfl rfl (any_of HT_.out (by kernel_rfl)) (fun _ _ _ h=>h) (Or.inl ⟨by rfl,?_⟩) ?_ ?_
                 rotate_left;(intro w';go_simp;with_reducible rfl);rotate_left;(simp only [Act.put,List.setIfInBounds_toArray,List.set_cons_zero,List.set_cons_succ,i64_w,i32_w];rfl)
                 refine pure_ (i:=7) (N:=some 95) (v:=?_) (a':=?_) #[true,true,true,true,true,true,true,true,false,false,false,false,false,false,false] rfl rfl (any_of HT_.out (by kernel_rfl)) (fun _ _ _ h=>h) (Or.inl ⟨by rfl,?_⟩) ?_ ?_
                 rotate_left;(intro w';go_simp;with_reducible rfl);rotate_left;(simp only [Act.put,List.setIfInBounds_toArray,List.set_cons_zero,List.set_cons_succ,i64_w,i32_w];rfl)
                 refine pure_ (i:=10) (N:=some 98) (v:=?_) (a':=?_) #[true,true,true,true,true,true,true,true,false,false,true,false,false,false,false] rfl rfl (any_of HT_.out (by kernel_rfl)) (fun _ _ _ h=>h) (Or.inl ⟨by rfl,?_⟩) ?_ ?_
                 rotate_left;(intro w';go_simp;with_reducible rfl);rotate_left;(simp only [Act.put,List.setIfInBounds_toArray,List.set_cons_zero,List.set_cons_succ,i64_w,i32_w];rfl)
                 refine take_ (i:=8) (N:=some 96) (v:=?_) (a':=?_) #[true,true,true,true,true,true,true,true,true,false,true,false,false,false,false] rfl rfl (take_ofW HT_.out HW_.out (by kernel_rfl)) (fun _ _ _ h=>h) (Or.inl ⟨by rfl,?_⟩) hHeld ?_ ?_
                 rotate_left;(rintro w' ⟨s0,s1,s2,s3,s4⟩;go_simp;with_reducible rfl);rotate_left;(simp only [Act.put,List.setIfInBounds_toArray,List.set_cons_zero,List.set_cons_succ,i64_w,i32_w];rfl)
                 refine pure_ (i:=9) (N:=some 97) (v:=?_) (a':=?_) #[true,true,true,true,true,true,true,true,true,true,true,false,false,false,false] rfl rfl (any_of HT_.out (by kernel_rfl)) (fun _ _ _ h=>h) (Or.inl ⟨by rfl,?_⟩) ?_ ?_
                 rotate_left;(intro w';go_simp;with_reducible rfl);rotate_left;(simp only [Act.put,List.setIfInBounds_toArray,List.set_cons_zero,List.set_cons_succ,i64_w,i32_w];rfl)
                 refine take_ (i:=11) (N:=some 99) (v:=?_) (a':=?_) #[true,true,true,true,true,true,true,true,true,true,true,true,false,false,false] rfl rfl (take_ofW HT_.out HW_.out (by kernel_rfl)) (fun _ _ _ h=>h) (Or.inl ⟨by rfl,?_⟩) hHeld ?_ ?_
                 rotate_left;(rintro w' ⟨s0,s1,s2,s3,s4⟩;go_simp;with_reducible rfl);rotate_left;(simp only [Act.put,List.setIfInBounds_toArray,List.set_cons_zero,List.set_cons_succ,i64_w,i32_w];rfl)
                 refine pure_ (i:=12) (N:=some 100) (v:=?_) (a':=?_) #[true,true,true,true,true,true,true,true,true,true,true,true,true,false,false] rfl rfl (any_of HT_.out (by kernel_rfl)) (fun _ _ _ h=>h) (Or.inl ⟨by rfl,?_⟩) ?_ ?_
                 rotate_left;(intro w';go_simp;with_reducible rfl);rotate_left;(simp only [Act.put,List.setIfInBounds_toArray,List.set_cons_zero,List.set_cons_succ,i64_w,i32_w];rfl)
                 refine pure_ (i:=13) (N:=some 101) (v:=?_) (a':=?_) #[true,true,true,true,true,true,true,true,true,true,true,true,true,true,false] rfl rfl (any_of HT_.out (by kernel_rfl)) (fun _ _ _ h=>h) (Or.inl ⟨by rfl,?_⟩) ?_ ?_
                 rotate_left;(intro w';go_simp;with_reducible rfl);rotate_left;(simp only [Act.put,List.setIfInBounds_toArray,List.set_cons_zero,List.set_cons_succ,i64_w,i32_w];rfl)
                 refine pure_ (i:=14) (N:=some 102) (v:=?_) (a':=?_) #[true,true,true,true,true,true,true,true,true,true,true,true,true,true,true] rfl rfl (any_of HT_.out (by kernel_rfl)) (fun _ _ _ h=>h) (Or.inl ⟨by rfl,?_⟩) ?_ ?_
                 rotate_left;(intro w';go_simp;with_reducible rfl);rotate_left;(simp only [Act.put,List.setIfInBounds_toArray,List.set_cons_zero,List.set_cons_succ,i64_w,i32_w];rfl)
                 refine done_ (done_of HT_.out (by kernel_rfl)) ?_
                 (try clear hHeld)
                 try go_wp2
                 go_meet
                 case rel=>exact ⟨_,((((rd_L5 t479 x9_1).length : Int) != (t466.length : Int))),(by first|rfl|(simp;done)|(simp [*];done)),(by first|exact H'|(subst_vars;exact H')),⟨by have:=HK1.out;have:=HK2.out;have:=HJ75.out;first|omega|exact Nat.le_refl _⟩,⟨by (with_reducible repeat (first|apply Kd.N_alloc|apply Kd.N_drewN|apply Kd.N_drew));exact HO_7.out⟩,⟨by (with_reducible repeat (first|apply Kd.N_alloc|apply Kd.N_drewN|apply Kd.N_drew));exact HO_8.out⟩,⟨by (with_reducible repeat (first|apply Kd.R_alloc|apply Kd.R_drewN|apply Kd.R_drew));exact HO_10.out⟩,⟨by (with_reducible repeat (first|apply Kd.R_alloc|apply Kd.R_drewN|apply Kd.R_drew));exact HO_473000.out⟩,⟨by (with_reducible repeat (first|refine blk_drewN ?_ _|refine blk_drew ?_|refine blk_alloc ?_ _));exact BK464.out⟩,⟨by (with_reducible repeat (first|refine blk_drewN ?_ _|refine blk_drew ?_|refine blk_alloc ?_ _));exact BK472.out⟩,⟨by repeat (first|(with_reducible first|exact HB.out|apply below_alloc|apply pw_below_drewN|apply below_drew1|refine below_set ?_ GE464.out|refine below_set ?_ GE472.out)|exact HB.out)⟩⟩
                ·rw [if_neg c93] at H
                 exact absurd H (by simp)
               ·rw [if_neg c92] at H
                exact absurd H (by simp)
             case rest =>
              clear HC88
              try clear c1
              try clear p2
              try clear c4
              try clear p4
              try clear q4
              try clear hx4
              try clear c6
              try clear p6
              try clear c7
              try clear c8
              try clear c9
              try clear c15
              try clear c48
              try clear p48
              try clear q48
              try clear hx48
              try clear c49
              try clear p49
              try clear q49
              try clear hx49
              try clear p64
              try clear c67
              try clear c67b0
              try clear c68
              try clear c69
              try clear c70
              try clear c71
              try clear c78
              try clear c78b0
              try clear c79
              try clear c79b0
              try clear c80
              try clear c80b0
              try clear c82
              try clear c82b0
              try clear c87
              try clear c89
              try clear c89b0
              try clear c92
              try clear c92b0
              try clear c93
              try clear c93b0
              try clear hx489_0
              try clear hx490_0
              try clear hx492_0
              try clear p2
              try clear p4
              try clear p48
              try clear p489
              try clear p49
              try clear p490
              try clear p492
              try clear p6
              try clear p64
              try clear q4
              try clear q48
              try clear q489
              try clear q49
              try clear q490
              try clear q492
              obtain ⟨kq,x102_87,rfl,HA,HJ87,HO_7,HO_8,HO_10,HO_473000,BK464,BK472,HB⟩:=hcut
              cases kq with
              | zero=>exact absurd HA.out (by simp [thresherlaw13_FoldLast.j3])
              | succ kj87 =>
               have H:=HA.out
               clear HA
               simp only [thresherlaw13_FoldLast.j3] at H
               by_cases c96 : x102_87=true
               ·subst c96
                have H1 : (some false)=some r:=by rw [if_pos rfl] at H;exact H
                clear H
                have H:=H1
                clear H1
                obtain rfl:=Option.some.inj H
                go_wp2
                go_ret
                exact ⟨by first|rfl|(simp [errW_none,errW_some] <;> rfl)|(simp [*,errW_none,errW_some] <;> rfl),by repeat (first|(with_reducible first|exact HB.out|apply below_alloc|apply pw_below_drewN|apply below_drew1|refine below_set ?_ GE464.out|refine below_set ?_ GE472.out)|exact HB.out)⟩
               ·replace c96:=Bool.eq_false_iff.mpr c96
                subst c96
                have H1 : (thresherlaw13_FoldLast.l2 kj87 t465 t476 t479 x9_1 x10_2 x11_1 0 t466 t469 t470 t471)=some r:=by rw [if_neg (show ¬ (false=true) by decide)] at H;exact H
                clear H
                have H:=H1
                clear H1
                have H':=Aside0.mk H
                clear H
                go_wp2
                go_loopg [13] kj87 (fun kq v13 w'=>∃ (x13_5 : Int),v13=.int .i64 x13_5∧Aside0 (thresherlaw13_FoldLast.l2 kq t465 t476 t479 x9_1 x10_2 x11_1 x13_5 t466 t469 t470 t471=some r)∧Aside0 (kq≤kj87)∧Aside0 (Kd.N (Kd.slice 45 k45) 36 w' w.heap.size (fun k_=>some k_≠(v480 : Value).ownBlock∧some k_≠((.slice Ao77 x10_2.length co77) : Value).ownBlock∧some k_≠((.slice Ao52 t466.length co52) : Value).ownBlock∧k_≠gb464∧k_≠gb472) (.slice Ao61 t476.length co61) t476)∧Aside0 (Kd.N (Kd.slice 45 k45) 36 w' w.heap.size (fun k_=>some k_≠((.slice Ao77 x10_2.length co77) : Value).ownBlock∧some k_≠((.slice Ao52 t466.length co52) : Value).ownBlock∧k_≠gb464∧k_≠gb472) v480 t479)∧Aside0 (Kd.R (Kd.int .i64) 2 w' w.heap.size (fun _=>True) (.slice Ao77 x10_2.length co77) x10_2)∧Aside0 (Kd.R (Kd.int .i64) 3 w' w.heap.size (fun _=>True) (.slice Ao52 t466.length co52) t466)∧Aside0 (w'.heap[gb464]?=some (.cells #[.int .u8 a0_0,.int .u8 a0_1,.int .u8 a0_2,.int .u8 a0_3,.int .u8 a0_4,.int .u8 a0_5,.int .u8 a0_6,.int .u8 a0_7,.int .u8 a0_8,.int .u8 a0_9,.int .u8 a0_10,.int .u8 a0_11] 24 (0,0)))∧Aside0 (w'.heap[gb472]?=some (.cells #[(.slice Ao52 t466.length co52),.int .i64 t469,.int .i64 t470,.int .i64 t471] 29 (0,0)))∧Aside0 (Below w.heap.size w w'))
                case atStart=>exact ⟨(0),(by first|rfl|(simp;done)|(simp [*];done)),H',⟨Nat.le_refl _⟩,⟨by (with_reducible repeat (first|apply Kd.N_alloc|apply Kd.N_drewN|apply Kd.N_drew));exact HO_7.out⟩,⟨by (with_reducible repeat (first|apply Kd.N_alloc|apply Kd.N_drewN|apply Kd.N_drew));exact HO_8.out⟩,⟨by (with_reducible repeat (first|apply Kd.R_alloc|apply Kd.R_drewN|apply Kd.R_drew));exact HO_10.out⟩,⟨by (with_reducible repeat (first|apply Kd.R_alloc|apply Kd.R_drewN|apply Kd.R_drew));exact HO_473000.out⟩,⟨by (with_reducible repeat (first|refine blk_drewN ?_ _|refine blk_drew ?_|refine blk_alloc ?_ _));exact BK464.out⟩,⟨by (with_reducible repeat (first|refine blk_drewN ?_ _|refine blk_drew ?_|refine blk_alloc ?_ _));exact BK472.out⟩,⟨by repeat (first|(with_reducible first|exact HB.out|apply below_alloc|apply pw_below_drewN|apply below_drew1|refine below_set ?_ GE464.out|refine below_set ?_ GE472.out)|exact HB.out)⟩⟩
                case round =>
                 clear H'
                 try clear c1
                 try clear p2
                 try clear c4
                 try clear p4
                 try clear q4
                 try clear hx4
                 try clear c6
                 try clear p6
                 try clear c7
                 try clear c8
                 try clear c9
                 try clear c15
                 try clear c48
                 try clear p48
                 try clear q48
                 try clear hx48
                 try clear c49
                 try clear p49
                 try clear q49
                 try clear hx49
                 try clear p64
                 try clear c67
                 try clear c67b0
                 try clear c68
                 try clear c69
                 try clear c70
                 try clear c71
                 try clear c78
                 try clear c78b0
                 try clear c79
                 try clear c79b0
                 try clear c80
                 try clear c80b0
                 try clear c82
                 try clear c82b0
                 try clear c87
                 try clear c89
                 try clear c89b0
                 try clear c92
                 try clear c92b0
                 try clear c93
                 try clear c93b0
                 try clear c96
                 try clear hx489_0
                 try clear hx490_0
                 try clear hx492_0
                 try clear p2
                 try clear p4
                 try clear p48
                 try clear p489
                 try clear p49
                 try clear p490
                 try clear p492
                 try clear p6
                 try clear p64
                 try clear q4
                 try clear q48
                 try clear q489
                 try clear q49
                 try clear q490
                 try clear q492
                 obtain ⟨x13_5,rfl,HA,HK5,HO_7,HO_8,HO_10,HO_473000,BK464,BK472,HB⟩:=hrel
                 cases gk with
                 | zero=>exact absurd HA.out (by simp [thresherlaw13_FoldLast.l2])
                 | succ k5 =>
                  have H:=HA.out
                  clear HA
                  simp only [thresherlaw13_FoldLast.l2] at H
                  by_cases c97 : x13_5 < (x10_2.length : Int)
                  ·rw [if_pos c97] at H
                   have c97b0 : decide (x13_5 < (x10_2.length : Int))=true:=decide_eq_true c97
                   clear c97
                   by_cases c98 : 0≤x11_1
                   ·rw [if_pos c98] at H
                    have c98b0 : decide (0≤x11_1)=true:=decide_eq_true c98
                    clear c98
                    by_cases c99 : x11_1 < (t476.length : Int)
                    ·rw [if_pos c99] at H
                     have c99b0 : decide (x11_1 < (t476.length : Int))=true:=decide_eq_true c99
                     clear c99
                     by_cases c100 : 0≤x13_5
                     ·rw [if_pos c100] at H
                      have c100b0 : decide (0≤x13_5)=true:=decide_eq_true c100
                      clear c100
                      by_cases c101 : x13_5 < ((rd_L5 t476 x11_1).length : Int)
                      ·rw [if_pos c101] at H
                       have c101b0 : decide (x13_5 < ((rd_L5 t476 x11_1).length : Int))=true:=decide_eq_true c101
                       clear c101
                       have HC102:=Aside0.mk H
                       clear H
                       have p496 : 0≤(x11_1 : Int):=of_decide_eq_true (by first|(with_reducible assumption)|assumption)
                       have q496 : x11_1 < (t476.length : Int):=of_decide_eq_true (by first|(with_reducible assumption)|assumption)
                       obtain ⟨ad496,A496_0,c496_0,e496,hx496_0,hl496_0,hi496_0⟩:=at_L5 (Kd.N_reads' HO_7.out).2.2 x11_1 p496 q496
                       cases e496
                       obtain ⟨ce496,hce496,hMe496,hcc496⟩:=Kd.N_get HO_7.out [] x11_1 p496 (by first|exact q496|exact of_decide_eq_true (by first|(with_reducible assumption)|assumption)|(have e_:=(Kd.N_reads' HO_7.out).1;omega))
                       obtain ⟨ua496_0,uc496_0,rfl,ul496_0,ge496_0⟩:=Kd.FK_slice_open hMe496
                       have hv496_0:=hcc496 0 _ rfl
                       rw [Nat.add_zero,show ((Kd.slice 45 k45)).sz=1 from rfl,Nat.mul_one] at hv496_0
                       replace hv496_0:=Option.some.inj (hv496_0.symm.trans hx496_0)
                       injection hv496_0 with hva_ hvn_ hvc_
                       rw [hva_] at ge496_0
                       rw [hvc_] at ul496_0
                       have HL496_0:=Aside0.mk (show Kd.V k45 45 _ w.heap.size _ _ (rd_L5 t476 x11_1) from Kd.V_mk ul496_0 ge496_0)
                       clear hva_ hvn_ hvc_ ge496_0 ul496_0
                       clear hcc496 hce496
                       have HR496_0:=Aside0.mk hi496_0
                       have HC496_0:=Aside0.mk hl496_0
                       clear hi496_0 hl496_0
                       replace p496:=eq_true p496
                       replace q496:=eq_true q496
                       have p497 : 0≤(x13_5 : Int):=of_decide_eq_true (by first|(with_reducible assumption)|assumption)
                       have q497 : x13_5 < ((rd_L5 t476 x11_1).length : Int):=of_decide_eq_true (by first|(with_reducible assumption)|assumption)
                       obtain ⟨ad497,e497,hx497_0,hx497_1⟩:=at_T45 (by repeat (first|(with_reducible exact HR496_0.out)|(with_reducible refine Kd.C_alloc ?_ _)|(with_reducible refine Kd.C_drewN ?_ _)|(with_reducible refine Kd.C_drew ?_)|exact HR496_0.out)) x13_5 p497 q497
                       cases e497
                       replace p497:=eq_true p497
                       replace q497:=eq_true q497
                       go_upto_region 23 with (first|((with_reducible refine gate_dst (N:=14) rfl ?_);(try (refine gate_guard (by rfl) ?_;dsimp only));refine box_event ?hg (N:=14) ?hd (cs:=#[.int .i64 0,.string (⟨#[]⟩ : ByteArray)]) (t:=45) ?hr ?_;(case hd=>rfl);(case hg=>rfl);(case hr=>first|(go_simp;done)|(go_simp;rfl));intro gb498 hg w103 hbox hb;have n0_:=Aside0.mk (Kd.N_below (Kd.N_elderB (by (with_reducible repeat (first|apply Kd.N_alloc|apply Kd.N_drewN|apply Kd.N_drew));exact HO_7.out) gb498 (Nat.le_of_eq hg.symm)) hb);have n1_:=Aside0.mk (Kd.N_below (Kd.N_elderB (by (with_reducible repeat (first|apply Kd.N_alloc|apply Kd.N_drewN|apply Kd.N_drew));exact HO_8.out) gb498 (Nat.le_of_eq hg.symm)) hb);have n2_:=Aside0.mk (Kd.R_below (by (with_reducible repeat (first|apply Kd.R_alloc|apply Kd.R_drewN|apply Kd.R_drew));exact HO_10.out) hb);have n3_:=Aside0.mk (Kd.R_below (by (with_reducible repeat (first|apply Kd.R_alloc|apply Kd.R_drewN|apply Kd.R_drew));exact HO_473000.out) hb);have n4_:=Aside0.mk (Kd.V_below (Kd.V_elderB (by (with_reducible repeat (first|apply Kd.V_alloc|apply Kd.V_drewN|apply Kd.V_drew));exact HL496_0.out) gb498 (Nat.le_of_eq hg.symm)) hb);have n5_:=Aside0.mk (blk_below (g:=gb464) (o:=.cells #[.int .u8 a0_0,.int .u8 a0_1,.int .u8 a0_2,.int .u8 a0_3,.int .u8 a0_4,.int .u8 a0_5,.int .u8 a0_6,.int .u8 a0_7,.int .u8 a0_8,.int .u8 a0_9,.int .u8 a0_10,.int .u8 a0_11] 24 (0,0)) (by (with_reducible repeat (first|refine blk_drewN ?_ _|refine blk_drew ?_|refine blk_alloc ?_ _));exact BK464.out) hb);have n6_:=Aside0.mk (blk_below (g:=gb472) (o:=.cells #[.slice Ao52 t466.length co52,.int .i64 t469,.int .i64 t470,.int .i64 t471] 29 (0,0)) (by (with_reducible repeat (first|refine blk_drewN ?_ _|refine blk_drew ?_|refine blk_alloc ?_ _));exact BK472.out) hb);have n7_:=Aside0.mk (Kd.C_below (by repeat (first|(with_reducible exact HR496_0.out)|(with_reducible refine Kd.C_alloc ?_ _)|(with_reducible refine Kd.C_drewN ?_ _)|(with_reducible refine Kd.C_drew ?_)|exact HR496_0.out)) hb);have n8_:=Aside0.mk (below_step (by repeat (first|(with_reducible first|exact HB.out|apply below_alloc|apply pw_below_drewN|apply below_drew1|refine below_set ?_ GE464.out|refine below_set ?_ GE472.out)|exact HB.out)) hb);have n9_:=Aside0.mk (hbox);have n10_:=Aside0.mk ((by rw [hg];exact (below_size (by repeat (first|(with_reducible first|exact HB.out|apply below_alloc|apply pw_below_drewN|apply below_drew1|refine below_set ?_ GE464.out|refine below_set ?_ GE472.out)|exact HB.out))) : w.heap.size≤gb498));have n11_:=Aside0.mk ((by rw [hg];exact (below_size (by repeat (first|(with_reducible first|exact HB.out|apply below_alloc|apply pw_below_drewN|apply below_drew1|refine below_set ?_ GE464.out|refine below_set ?_ GE472.out)|exact HB.out))) : w.heap.size≤gb498));have n12_:=Aside0.mk ((by rw [hg];exact Nat.ne_of_lt (blk_lt (g:=gb464) (o:=.cells #[.int .u8 a0_0,.int .u8 a0_1,.int .u8 a0_2,.int .u8 a0_3,.int .u8 a0_4,.int .u8 a0_5,.int .u8 a0_6,.int .u8 a0_7,.int .u8 a0_8,.int .u8 a0_9,.int .u8 a0_10,.int .u8 a0_11] 24 (0,0)) (by (with_reducible repeat (first|refine blk_drewN ?_ _|refine blk_drew ?_|refine blk_alloc ?_ _));exact BK464.out)) : gb464≠gb498));have n13_:=Aside0.mk ((by rw [hg];exact Nat.ne_of_gt (blk_lt (g:=gb464) (o:=.cells #[.int .u8 a0_0,.int .u8 a0_1,.int .u8 a0_2,.int .u8 a0_3,.int .u8 a0_4,.int .u8 a0_5,.int .u8 a0_6,.int .u8 a0_7,.int .u8 a0_8,.int .u8 a0_9,.int .u8 a0_10,.int .u8 a0_11] 24 (0,0)) (by (with_reducible repeat (first|refine blk_drewN ?_ _|refine blk_drew ?_|refine blk_alloc ?_ _));exact BK464.out)) : gb498≠gb464));have n14_:=Aside0.mk ((by rw [hg];exact Nat.ne_of_lt (blk_lt (g:=gb472) (o:=.cells #[.slice Ao52 t466.length co52,.int .i64 t469,.int .i64 t470,.int .i64 t471] 29 (0,0)) (by (with_reducible repeat (first|refine blk_drewN ?_ _|refine blk_drew ?_|refine blk_alloc ?_ _));exact BK472.out)) : gb472≠gb498));have n15_:=Aside0.mk ((by rw [hg];exact Nat.ne_of_gt (blk_lt (g:=gb472) (o:=.cells #[.slice Ao52 t466.length co52,.int .i64 t469,.int .i64 t470,.int .i64 t471] 29 (0,0)) (by (with_reducible repeat (first|refine blk_drewN ?_ _|refine blk_drew ?_|refine blk_alloc ?_ _));exact BK472.out)) : gb498≠gb472));clear HO_7;clear HO_8;clear HO_10;clear HO_473000;clear HL496_0;clear BK464;clear BK472;clear HR496_0;clear HB;have HO_7:=n0_;have HO_8:=n1_;have HO_10:=n2_;have HO_473000:=n3_;have HL496_0:=n4_;have BK464:=n5_;have BK472:=n6_;have HR496_0:=n7_;have HB:=n8_;have BK498:=n9_;have GW498:=n10_;have GE498:=n11_;have NB464_498:=n12_;have NB498_464:=n13_;have NB472_498:=n14_;have NB498_472:=n15_;clear n0_ n1_ n2_ n3_ n4_ n5_ n6_ n7_ n8_ n9_ n10_ n11_ n12_ n13_ n14_ n15_;clear hb hbox hg;have hnb104:=NB498_464.out;have hnc104:=NB464_498.out;have hnb105:=NB498_472.out;have hnc105:=NB472_498.out;have hcz106_0 : w103.cell? ⟨gb498,0,none⟩=some (.int .i64 0):=(blk_cell BK498.out 0).trans rfl;have hcz106_1 : w103.cell? ⟨gb498,1,none⟩=some (.string (⟨#[]⟩ : ByteArray)):=(blk_cell BK498.out 1).trans rfl;have hfz106_0:=blk_frozen BK498.out 0;have hfz106_1:=blk_frozen BK498.out 1))
                       (try simp only [Act.put,List.setIfInBounds_toArray,List.set_cons_zero,List.set_cons_succ])
                       go_cut [132] (fun v132 wc=>∃ (kq : Nat) (x132_101 : Bool),v132=.bool x132_101∧Aside0 (thresherlaw13_FoldLast.j5 kq t465 t476 t479 x9_1 x10_2 x11_1 x13_5 x132_101 t466 t469 t470 t471 ((rd_T45 (rd_L5 t476 x11_1) x13_5).f0) ((rd_T45 (rd_L5 t476 x11_1) x13_5).f1)=some r)∧Aside0 (kq≤k5)∧Aside0 (Kd.N (Kd.slice 45 k45) 36 wc w.heap.size (fun k_=>some k_≠(v480 : Value).ownBlock∧some k_≠((.slice Ao77 x10_2.length co77) : Value).ownBlock∧some k_≠((.slice Ao52 t466.length co52) : Value).ownBlock∧k_≠gb464∧k_≠gb472∧k_≠gb498) (.slice (some ad496) t476.length co61) t476)∧Aside0 (Kd.N (Kd.slice 45 k45) 36 wc w.heap.size (fun k_=>some k_≠((.slice Ao77 x10_2.length co77) : Value).ownBlock∧some k_≠((.slice Ao52 t466.length co52) : Value).ownBlock∧k_≠gb464∧k_≠gb472∧k_≠gb498) v480 t479)∧Aside0 (Kd.R (Kd.int .i64) 2 wc w.heap.size (fun _=>True) (.slice Ao77 x10_2.length co77) x10_2)∧Aside0 (Kd.R (Kd.int .i64) 3 wc w.heap.size (fun _=>True) (.slice Ao52 t466.length co52) t466)∧Aside0 (wc.heap[gb464]?=some (.cells #[.int .u8 a0_0,.int .u8 a0_1,.int .u8 a0_2,.int .u8 a0_3,.int .u8 a0_4,.int .u8 a0_5,.int .u8 a0_6,.int .u8 a0_7,.int .u8 a0_8,.int .u8 a0_9,.int .u8 a0_10,.int .u8 a0_11] 24 (0,0)))∧Aside0 (wc.heap[gb472]?=some (.cells #[(.slice Ao52 t466.length co52),.int .i64 t469,.int .i64 t470,.int .i64 t471] 29 (0,0)))∧Aside0 (wc.heap[gb498]?=some (.cells #[.int .i64 ((rd_T45 (rd_L5 t476 x11_1) x13_5).f0),.string ((rd_T45 (rd_L5 t476 x11_1) x13_5).f1)] 45 (0,0)))∧Aside0 (Below w.heap.size w wc))
                       case first =>
                        have H:=HC102.out
                        clear HC102
                        by_cases c107 : t470=3
                        ·rw [if_pos c107] at H
                         have c107b0 : (t470 == 3)=true:=beq_iff_eq.mpr c107
                         have c107b1 : (t470 != 3)=false:=bne_eq_false_iff_eq.mpr c107
                         clear c107
                         (first|rw [c107b0]|(simp only [i64_w,i32_w];rw [c107b0])|skip)
                         by_cases c108 : x13_5 ≥ t469
                         ·rw [if_pos c108] at H
                          have c108b0 : decide (t469≤x13_5)=true:=decide_eq_true c108
                          clear c108
                          by_cases c109 : x13_5 < (t466.length : Int)
                          ·rw [if_pos c109] at H
                           have c109b0 : decide (x13_5 < (t466.length : Int))=true:=decide_eq_true c109
                           clear c109
                           have H':=Aside0.mk H
                           clear H
                           have hnb110:=NB472_464.out
                           have hnc110:=NB464_472.out
                           have hnb111:=NB472_498.out
                           have hnc111:=NB498_472.out
                           have hcz112_0 : w103.cell? ⟨gb472,0,none⟩=some (.slice Ao52 t466.length co52):=(blk_cell BK472.out 0).trans rfl
                           have hcz112_1 : w103.cell? ⟨gb472,1,none⟩=some (.int .i64 t469):=(blk_cell BK472.out 1).trans rfl
                           have hcz112_2 : w103.cell? ⟨gb472,2,none⟩=some (.int .i64 t470):=(blk_cell BK472.out 2).trans rfl
                           have hcz112_3 : w103.cell? ⟨gb472,3,none⟩=some (.int .i64 t471):=(blk_cell BK472.out 3).trans rfl
                           have hfz112_0:=blk_frozen BK472.out 0
                           have hfz112_1:=blk_frozen BK472.out 1
                           have hfz112_2:=blk_frozen BK472.out 2
                           have hfz112_3:=blk_frozen BK472.out 3
                           have p499 : 0≤(x13_5 : Int):=of_decide_eq_true (by first|(with_reducible assumption)|assumption)
                           have q499 : x13_5 < (t466.length : Int):=of_decide_eq_true (by first|(with_reducible assumption)|assumption)
                           obtain ⟨ad499,e499,hx499_0⟩:=Kd.at_int (Kd.R_reads' HO_473000.out).2.2 x13_5 p499 q499
                           cases e499
                           have hn499_0 : ad499.block≠gb498:=Kd.own_blk (Kd.R_ne HO_473000.out BK498.out (by decide))
                           have hn499_1 : ad499.block≠gb498:=Kd.own_blk (Kd.R_ne HO_473000.out BK498.out (by decide))
                           replace hx499_0:=(cell_far (p:=⟨gb498,0,none⟩) (by first|(rw [add_block];exact hn499_0)|(show (Addr.add _ _).block≠_;rw [add_block];exact hn499_0)|exact hn499_0) (.int .i64 ((rd_T45 (rd_L5 t476 x11_1) x13_5).f0))).trans hx499_0
                           replace hx499_0:=(cell_far (p:=⟨gb498,1,none⟩) (by first|(rw [add_block];exact hn499_1)|(show (Addr.add _ _).block≠_;rw [add_block];exact hn499_1)|exact hn499_1) (.string ((rd_T45 (rd_L5 t476 x11_1) x13_5).f1))).trans hx499_0
                           clear hn499_0
                           clear hn499_1
                           replace p499:=eq_true p499
                           replace q499:=eq_true q499
                           go_wp2
                           go_meet
                           case rel=>exact ⟨_,(((rd t466 x13_5) != 3)),(by first|rfl|(simp;done)|(simp [*];done)),(by first|exact H'|(subst_vars;exact H')),⟨by have:=HK1.out;have:=HK2.out;have:=HJ75.out;have:=HJ87.out;have:=HK5.out;first|omega|exact Nat.le_refl _⟩,⟨by (with_reducible repeat (first|apply Kd.N_alloc|apply Kd.N_drewN|apply Kd.N_drew));exact Kd.N_mono (Kd.N_far (p:=⟨gb498,1,none⟩) (Kd.N_far (p:=⟨gb498,0,none⟩) (Kd.N_mono HO_7.out (fun k_ hk=>(⟨hk,hk.2⟩ : _∧k_≠gb498))) (fun _ hk=>hk.2) (.int .i64 ((rd_T45 (rd_L5 t476 x11_1) x13_5).f0))) (fun _ hk=>hk.2) (.string ((rd_T45 (rd_L5 t476 x11_1) x13_5).f1))) (fun _ hk=>⟨hk.1.1.1,⟨hk.1.1.2.1,⟨hk.1.1.2.2.1,⟨hk.1.1.2.2.2.1,⟨hk.1.1.2.2.2.2,hk.1.2⟩⟩⟩⟩⟩)⟩,⟨by (with_reducible repeat (first|apply Kd.N_alloc|apply Kd.N_drewN|apply Kd.N_drew));exact Kd.N_mono (Kd.N_far (p:=⟨gb498,1,none⟩) (Kd.N_far (p:=⟨gb498,0,none⟩) (Kd.N_mono HO_8.out (fun k_ hk=>(⟨hk,hk.2⟩ : _∧k_≠gb498))) (fun _ hk=>hk.2) (.int .i64 ((rd_T45 (rd_L5 t476 x11_1) x13_5).f0))) (fun _ hk=>hk.2) (.string ((rd_T45 (rd_L5 t476 x11_1) x13_5).f1))) (fun _ hk=>⟨hk.1.1.1,⟨hk.1.1.2.1,⟨hk.1.1.2.2.1,⟨hk.1.1.2.2.2,hk.1.2⟩⟩⟩⟩)⟩,⟨by (with_reducible repeat (first|apply Kd.R_alloc|apply Kd.R_drewN|apply Kd.R_drew));exact Kd.R_mono (Kd.R_far (p:=⟨gb498,1,none⟩) (Kd.R_far (p:=⟨gb498,0,none⟩) (Kd.R_types HO_10.out BK498.out (by decide)) (fun _ hk=>hk.2) (.int .i64 ((rd_T45 (rd_L5 t476 x11_1) x13_5).f0))) (fun _ hk=>hk.2) (.string ((rd_T45 (rd_L5 t476 x11_1) x13_5).f1))) (fun _ hk=>trivial)⟩,⟨by (with_reducible repeat (first|apply Kd.R_alloc|apply Kd.R_drewN|apply Kd.R_drew));exact Kd.R_mono (Kd.R_far (p:=⟨gb498,1,none⟩) (Kd.R_far (p:=⟨gb498,0,none⟩) (Kd.R_types HO_473000.out BK498.out (by decide)) (fun _ hk=>hk.2) (.int .i64 ((rd_T45 (rd_L5 t476 x11_1) x13_5).f0))) (fun _ hk=>hk.2) (.string ((rd_T45 (rd_L5 t476 x11_1) x13_5).f1))) (fun _ hk=>trivial)⟩,⟨by (with_reducible repeat (first|refine blk_drewN ?_ _|refine blk_drew ?_|refine blk_alloc ?_ _));refine blk_far ?_ NB464_498.out _;(with_reducible repeat (first|refine blk_drewN ?_ _|refine blk_drew ?_|refine blk_alloc ?_ _));refine blk_far ?_ NB464_498.out _;(with_reducible repeat (first|refine blk_drewN ?_ _|refine blk_drew ?_|refine blk_alloc ?_ _));exact BK464.out⟩,⟨by (with_reducible repeat (first|refine blk_drewN ?_ _|refine blk_drew ?_|refine blk_alloc ?_ _));refine blk_far ?_ NB472_498.out _;(with_reducible repeat (first|refine blk_drewN ?_ _|refine blk_drew ?_|refine blk_alloc ?_ _));refine blk_far ?_ NB472_498.out _;(with_reducible repeat (first|refine blk_drewN ?_ _|refine blk_drew ?_|refine blk_alloc ?_ _));exact BK472.out⟩,⟨by (with_reducible repeat (first|refine blk_drewN ?_ _|refine blk_drew ?_|refine blk_alloc ?_ _));refine blk_put (cs:=#[.int .i64 ((rd_T45 (rd_L5 t476 x11_1) x13_5).f0),.string (⟨#[]⟩ : ByteArray)]) ?_ 1 _ rfl;(with_reducible repeat (first|refine blk_drewN ?_ _|refine blk_drew ?_|refine blk_alloc ?_ _));refine blk_put (cs:=#[.int .i64 0,.string (⟨#[]⟩ : ByteArray)]) ?_ 0 _ rfl;(with_reducible repeat (first|refine blk_drewN ?_ _|refine blk_drew ?_|refine blk_alloc ?_ _));exact BK498.out⟩,⟨by repeat (first|(with_reducible first|exact HB.out|apply below_alloc|apply pw_below_drewN|apply below_drew1|refine below_set ?_ GE464.out|refine below_set ?_ GE472.out|refine below_set ?_ GE498.out)|exact HB.out)⟩⟩
                          ·rw [if_neg c109] at H
                           exact absurd H (by simp)
                         ·rw [if_neg c108] at H
                          have c108b0 : decide (t469≤x13_5)=false:=decide_eq_false c108
                          clear c108
                          have H':=Aside0.mk H
                          clear H
                          have hnb113:=NB472_464.out
                          have hnc113:=NB464_472.out
                          have hnb114:=NB472_498.out
                          have hnc114:=NB498_472.out
                          have hcz115_0 : w103.cell? ⟨gb472,0,none⟩=some (.slice Ao52 t466.length co52):=(blk_cell BK472.out 0).trans rfl
                          have hcz115_1 : w103.cell? ⟨gb472,1,none⟩=some (.int .i64 t469):=(blk_cell BK472.out 1).trans rfl
                          have hcz115_2 : w103.cell? ⟨gb472,2,none⟩=some (.int .i64 t470):=(blk_cell BK472.out 2).trans rfl
                          have hcz115_3 : w103.cell? ⟨gb472,3,none⟩=some (.int .i64 t471):=(blk_cell BK472.out 3).trans rfl
                          have hfz115_0:=blk_frozen BK472.out 0
                          have hfz115_1:=blk_frozen BK472.out 1
                          have hfz115_2:=blk_frozen BK472.out 2
                          have hfz115_3:=blk_frozen BK472.out 3
                          go_wp2
                          go_meet
                          case rel=>exact ⟨_,(false),(by first|rfl|(simp;done)|(simp [*];done)),(by first|exact H'|(subst_vars;exact H')),⟨by have:=HK1.out;have:=HK2.out;have:=HJ75.out;have:=HJ87.out;have:=HK5.out;first|omega|exact Nat.le_refl _⟩,⟨by (with_reducible repeat (first|apply Kd.N_alloc|apply Kd.N_drewN|apply Kd.N_drew));exact Kd.N_mono (Kd.N_far (p:=⟨gb498,1,none⟩) (Kd.N_far (p:=⟨gb498,0,none⟩) (Kd.N_mono HO_7.out (fun k_ hk=>(⟨hk,hk.2⟩ : _∧k_≠gb498))) (fun _ hk=>hk.2) (.int .i64 ((rd_T45 (rd_L5 t476 x11_1) x13_5).f0))) (fun _ hk=>hk.2) (.string ((rd_T45 (rd_L5 t476 x11_1) x13_5).f1))) (fun _ hk=>⟨hk.1.1.1,⟨hk.1.1.2.1,⟨hk.1.1.2.2.1,⟨hk.1.1.2.2.2.1,⟨hk.1.1.2.2.2.2,hk.1.2⟩⟩⟩⟩⟩)⟩,⟨by (with_reducible repeat (first|apply Kd.N_alloc|apply Kd.N_drewN|apply Kd.N_drew));exact Kd.N_mono (Kd.N_far (p:=⟨gb498,1,none⟩) (Kd.N_far (p:=⟨gb498,0,none⟩) (Kd.N_mono HO_8.out (fun k_ hk=>(⟨hk,hk.2⟩ : _∧k_≠gb498))) (fun _ hk=>hk.2) (.int .i64 ((rd_T45 (rd_L5 t476 x11_1) x13_5).f0))) (fun _ hk=>hk.2) (.string ((rd_T45 (rd_L5 t476 x11_1) x13_5).f1))) (fun _ hk=>⟨hk.1.1.1,⟨hk.1.1.2.1,⟨hk.1.1.2.2.1,⟨hk.1.1.2.2.2,hk.1.2⟩⟩⟩⟩)⟩,⟨by (with_reducible repeat (first|apply Kd.R_alloc|apply Kd.R_drewN|apply Kd.R_drew));exact Kd.R_mono (Kd.R_far (p:=⟨gb498,1,none⟩) (Kd.R_far (p:=⟨gb498,0,none⟩) (Kd.R_types HO_10.out BK498.out (by decide)) (fun _ hk=>hk.2) (.int .i64 ((rd_T45 (rd_L5 t476 x11_1) x13_5).f0))) (fun _ hk=>hk.2) (.string ((rd_T45 (rd_L5 t476 x11_1) x13_5).f1))) (fun _ hk=>trivial)⟩,⟨by (with_reducible repeat (first|apply Kd.R_alloc|apply Kd.R_drewN|apply Kd.R_drew));exact Kd.R_mono (Kd.R_far (p:=⟨gb498,1,none⟩) (Kd.R_far (p:=⟨gb498,0,none⟩) (Kd.R_types HO_473000.out BK498.out (by decide)) (fun _ hk=>hk.2) (.int .i64 ((rd_T45 (rd_L5 t476 x11_1) x13_5).f0))) (fun _ hk=>hk.2) (.string ((rd_T45 (rd_L5 t476 x11_1) x13_5).f1))) (fun _ hk=>trivial)⟩,⟨by (with_reducible repeat (first|refine blk_drewN ?_ _|refine blk_drew ?_|refine blk_alloc ?_ _));refine blk_far ?_ NB464_498.out _;(with_reducible repeat (first|refine blk_drewN ?_ _|refine blk_drew ?_|refine blk_alloc ?_ _));refine blk_far ?_ NB464_498.out _;(with_reducible repeat (first|refine blk_drewN ?_ _|refine blk_drew ?_|refine blk_alloc ?_ _));exact BK464.out⟩,⟨by (with_reducible repeat (first|refine blk_drewN ?_ _|refine blk_drew ?_|refine blk_alloc ?_ _));refine blk_far ?_ NB472_498.out _;(with_reducible repeat (first|refine blk_drewN ?_ _|refine blk_drew ?_|refine blk_alloc ?_ _));refine blk_far ?_ NB472_498.out _;(with_reducible repeat (first|refine blk_drewN ?_ _|refine blk_drew ?_|refine blk_alloc ?_ _));exact BK472.out⟩,⟨by (with_reducible repeat (first|refine blk_drewN ?_ _|refine blk_drew ?_|refine blk_alloc ?_ _));refine blk_put (cs:=#[.int .i64 ((rd_T45 (rd_L5 t476 x11_1) x13_5).f0),.string (⟨#[]⟩ : ByteArray)]) ?_ 1 _ rfl;(with_reducible repeat (first|refine blk_drewN ?_ _|refine blk_drew ?_|refine blk_alloc ?_ _));refine blk_put (cs:=#[.int .i64 0,.string (⟨#[]⟩ : ByteArray)]) ?_ 0 _ rfl;(with_reducible repeat (first|refine blk_drewN ?_ _|refine blk_drew ?_|refine blk_alloc ?_ _));exact BK498.out⟩,⟨by repeat (first|(with_reducible first|exact HB.out|apply below_alloc|apply pw_below_drewN|apply below_drew1|refine below_set ?_ GE464.out|refine below_set ?_ GE472.out|refine below_set ?_ GE498.out)|exact HB.out)⟩⟩
                        ·rw [if_neg c107] at H
                         have c107b0 : (t470 == 3)=false:=beq_eq_false_iff_ne.mpr c107
                         have c107b1 : (t470 != 3)=true:=bne_iff_ne.mpr c107
                         (first|rw [c107b0]|(simp only [i64_w,i32_w];rw [c107b0])|skip)
                         have H':=Aside0.mk H
                         clear H
                         have hnb116:=NB472_464.out
                         have hnc116:=NB464_472.out
                         have hnb117:=NB472_498.out
                         have hnc117:=NB498_472.out
                         have hcz118_0 : w103.cell? ⟨gb472,0,none⟩=some (.slice Ao52 t466.length co52):=(blk_cell BK472.out 0).trans rfl
                         have hcz118_1 : w103.cell? ⟨gb472,1,none⟩=some (.int .i64 t469):=(blk_cell BK472.out 1).trans rfl
                         have hcz118_2 : w103.cell? ⟨gb472,2,none⟩=some (.int .i64 t470):=(blk_cell BK472.out 2).trans rfl
                         have hcz118_3 : w103.cell? ⟨gb472,3,none⟩=some (.int .i64 t471):=(blk_cell BK472.out 3).trans rfl
                         have hfz118_0:=blk_frozen BK472.out 0
                         have hfz118_1:=blk_frozen BK472.out 1
                         have hfz118_2:=blk_frozen BK472.out 2
                         have hfz118_3:=blk_frozen BK472.out 3
                         go_wp2
                         go_meet
                         case rel=>exact ⟨_,(false),(by first|rfl|(simp;done)|(simp [*];done)),(by first|exact H'|(subst_vars;exact H')),⟨by have:=HK1.out;have:=HK2.out;have:=HJ75.out;have:=HJ87.out;have:=HK5.out;first|omega|exact Nat.le_refl _⟩,⟨by (with_reducible repeat (first|apply Kd.N_alloc|apply Kd.N_drewN|apply Kd.N_drew));exact Kd.N_mono (Kd.N_far (p:=⟨gb498,1,none⟩) (Kd.N_far (p:=⟨gb498,0,none⟩) (Kd.N_mono HO_7.out (fun k_ hk=>(⟨hk,hk.2⟩ : _∧k_≠gb498))) (fun _ hk=>hk.2) (.int .i64 ((rd_T45 (rd_L5 t476 x11_1) x13_5).f0))) (fun _ hk=>hk.2) (.string ((rd_T45 (rd_L5 t476 x11_1) x13_5).f1))) (fun _ hk=>⟨hk.1.1.1,⟨hk.1.1.2.1,⟨hk.1.1.2.2.1,⟨hk.1.1.2.2.2.1,⟨hk.1.1.2.2.2.2,hk.1.2⟩⟩⟩⟩⟩)⟩,⟨by (with_reducible repeat (first|apply Kd.N_alloc|apply Kd.N_drewN|apply Kd.N_drew));exact Kd.N_mono (Kd.N_far (p:=⟨gb498,1,none⟩) (Kd.N_far (p:=⟨gb498,0,none⟩) (Kd.N_mono HO_8.out (fun k_ hk=>(⟨hk,hk.2⟩ : _∧k_≠gb498))) (fun _ hk=>hk.2) (.int .i64 ((rd_T45 (rd_L5 t476 x11_1) x13_5).f0))) (fun _ hk=>hk.2) (.string ((rd_T45 (rd_L5 t476 x11_1) x13_5).f1))) (fun _ hk=>⟨hk.1.1.1,⟨hk.1.1.2.1,⟨hk.1.1.2.2.1,⟨hk.1.1.2.2.2,hk.1.2⟩⟩⟩⟩)⟩,⟨by (with_reducible repeat (first|apply Kd.R_alloc|apply Kd.R_drewN|apply Kd.R_drew));exact Kd.R_mono (Kd.R_far (p:=⟨gb498,1,none⟩) (Kd.R_far (p:=⟨gb498,0,none⟩) (Kd.R_types HO_10.out BK498.out (by decide)) (fun _ hk=>hk.2) (.int .i64 ((rd_T45 (rd_L5 t476 x11_1) x13_5).f0))) (fun _ hk=>hk.2) (.string ((rd_T45 (rd_L5 t476 x11_1) x13_5).f1))) (fun _ hk=>trivial)⟩,⟨by (with_reducible repeat (first|apply Kd.R_alloc|apply Kd.R_drewN|apply Kd.R_drew));exact Kd.R_mono (Kd.R_far (p:=⟨gb498,1,none⟩) (Kd.R_far (p:=⟨gb498,0,none⟩) (Kd.R_types HO_473000.out BK498.out (by decide)) (fun _ hk=>hk.2) (.int .i64 ((rd_T45 (rd_L5 t476 x11_1) x13_5).f0))) (fun _ hk=>hk.2) (.string ((rd_T45 (rd_L5 t476 x11_1) x13_5).f1))) (fun _ hk=>trivial)⟩,⟨by (with_reducible repeat (first|refine blk_drewN ?_ _|refine blk_drew ?_|refine blk_alloc ?_ _));refine blk_far ?_ NB464_498.out _;(with_reducible repeat (first|refine blk_drewN ?_ _|refine blk_drew ?_|refine blk_alloc ?_ _));refine blk_far ?_ NB464_498.out _;(with_reducible repeat (first|refine blk_drewN ?_ _|refine blk_drew ?_|refine blk_alloc ?_ _));exact BK464.out⟩,⟨by (with_reducible repeat (first|refine blk_drewN ?_ _|refine blk_drew ?_|refine blk_alloc ?_ _));refine blk_far ?_ NB472_498.out _;(with_reducible repeat (first|refine blk_drewN ?_ _|refine blk_drew ?_|refine blk_alloc ?_ _));refine blk_far ?_ NB472_498.out _;(with_reducible repeat (first|refine blk_drewN ?_ _|refine blk_drew ?_|refine blk_alloc ?_ _));exact BK472.out⟩,⟨by (with_reducible repeat (first|refine blk_drewN ?_ _|refine blk_drew ?_|refine blk_alloc ?_ _));refine blk_put (cs:=#[.int .i64 ((rd_T45 (rd_L5 t476 x11_1) x13_5).f0),.string (⟨#[]⟩ : ByteArray)]) ?_ 1 _ rfl;(with_reducible repeat (first|refine blk_drewN ?_ _|refine blk_drew ?_|refine blk_alloc ?_ _));refine blk_put (cs:=#[.int .i64 0,.string (⟨#[]⟩ : ByteArray)]) ?_ 0 _ rfl;(with_reducible repeat (first|refine blk_drewN ?_ _|refine blk_drew ?_|refine blk_alloc ?_ _));exact BK498.out⟩,⟨by repeat (first|(with_reducible first|exact HB.out|apply below_alloc|apply pw_below_drewN|apply below_drew1|refine below_set ?_ GE464.out|refine below_set ?_ GE472.out|refine below_set ?_ GE498.out)|exact HB.out)⟩⟩
                       case rest =>
                        clear HC102
                        try clear c1
                        try clear p2
                        try clear c4
                        try clear p4
                        try clear q4
                        try clear hx4
                        try clear c6
                        try clear p6
                        try clear c7
                        try clear c8
                        try clear c9
                        try clear c10
                        try clear c11
                        try clear c15
                        try clear c48
                        try clear p48
                        try clear q48
                        try clear hx48
                        try clear c49
                        try clear p49
                        try clear q49
                        try clear hx49
                        try clear p64
                        try clear c67
                        try clear c67b0
                        try clear c68
                        try clear c69
                        try clear c70
                        try clear c71
                        try clear c78
                        try clear c78b0
                        try clear c79
                        try clear c79b0
                        try clear c80
                        try clear c80b0
                        try clear c82
                        try clear c82b0
                        try clear c87
                        try clear c89
                        try clear c89b0
                        try clear c92
                        try clear c92b0
                        try clear c93
                        try clear c93b0
                        try clear c96
                        try clear c97
                        try clear c97b0
                        try clear c98
                        try clear c98b0
                        try clear c99
                        try clear c99b0
                        try clear c100
                        try clear c100b0
                        try clear c101
                        try clear c101b0
                        try clear c104
                        try clear c105
                        try clear c107
                        try clear c107b0
                        try clear c107b1
                        try clear c108
                        try clear c108b0
                        try clear c109
                        try clear c109b0
                        try clear c110
                        try clear c111
                        try clear c113
                        try clear c114
                        try clear c116
                        try clear c117
                        try clear hcz106_0
                        try clear hcz106_1
                        try clear hcz112_0
                        try clear hcz112_1
                        try clear hcz112_2
                        try clear hcz112_3
                        try clear hcz115_0
                        try clear hcz115_1
                        try clear hcz115_2
                        try clear hcz115_3
                        try clear hcz118_0
                        try clear hcz118_1
                        try clear hcz118_2
                        try clear hcz118_3
                        try clear hfz106_0
                        try clear hfz106_1
                        try clear hfz112_0
                        try clear hfz112_1
                        try clear hfz112_2
                        try clear hfz112_3
                        try clear hfz115_0
                        try clear hfz115_1
                        try clear hfz115_2
                        try clear hfz115_3
                        try clear hfz118_0
                        try clear hfz118_1
                        try clear hfz118_2
                        try clear hfz118_3
                        try clear hx489_0
                        try clear hx490_0
                        try clear hx492_0
                        try clear hx496_0
                        try clear hx497_0
                        try clear hx497_1
                        try clear hx499_0
                        try clear p2
                        try clear p4
                        try clear p48
                        try clear p489
                        try clear p49
                        try clear p490
                        try clear p492
                        try clear p496
                        try clear p497
                        try clear p499
                        try clear p6
                        try clear p64
                        try clear q4
                        try clear q48
                        try clear q489
                        try clear q49
                        try clear q490
                        try clear q492
                        try clear q496
                        try clear q497
                        try clear q499
                        obtain ⟨kq,x132_101,rfl,HA,HJ101,HO_7,HO_8,HO_10,HO_473000,BK464,BK472,BK498,HB⟩:=hcut
                        cases kq with
                        | zero=>exact absurd HA.out (by simp [thresherlaw13_FoldLast.j5])
                        | succ kj101 =>
                         have H:=HA.out
                         clear HA
                         simp only [thresherlaw13_FoldLast.j5] at H
                         have HC119:=Aside0.mk H
                         clear H
                         go_upto_if 132 with (fail)
                         go_cut [] (fun wc=>∃ (kq : Nat) (x499000_118 : Int) (x499001_118 : ByteArray),Aside0 (thresherlaw13_FoldLast.j6 kq t465 t476 t479 x9_1 x10_2 x11_1 x13_5 t466 t469 t470 t471 x499000_118 x499001_118=some r)∧Aside0 (kq≤kj101)∧Aside0 (Kd.N (Kd.slice 45 k45) 36 wc w.heap.size (fun k_=>some k_≠(v480 : Value).ownBlock∧some k_≠((.slice Ao77 x10_2.length co77) : Value).ownBlock∧some k_≠((.slice Ao52 t466.length co52) : Value).ownBlock∧k_≠gb464∧k_≠gb472∧k_≠gb498) (.slice (some ad496) t476.length co61) t476)∧Aside0 (Kd.N (Kd.slice 45 k45) 36 wc w.heap.size (fun k_=>some k_≠((.slice Ao77 x10_2.length co77) : Value).ownBlock∧some k_≠((.slice Ao52 t466.length co52) : Value).ownBlock∧k_≠gb464∧k_≠gb472∧k_≠gb498) v480 t479)∧Aside0 (Kd.R (Kd.int .i64) 2 wc w.heap.size (fun _=>True) (.slice Ao77 x10_2.length co77) x10_2)∧Aside0 (Kd.R (Kd.int .i64) 3 wc w.heap.size (fun _=>True) (.slice Ao52 t466.length co52) t466)∧Aside0 (wc.heap[gb464]?=some (.cells #[.int .u8 a0_0,.int .u8 a0_1,.int .u8 a0_2,.int .u8 a0_3,.int .u8 a0_4,.int .u8 a0_5,.int .u8 a0_6,.int .u8 a0_7,.int .u8 a0_8,.int .u8 a0_9,.int .u8 a0_10,.int .u8 a0_11] 24 (0,0)))∧Aside0 (wc.heap[gb472]?=some (.cells #[(.slice Ao52 t466.length co52),.int .i64 t469,.int .i64 t470,.int .i64 t471] 29 (0,0)))∧Aside0 (wc.heap[gb498]?=some (.cells #[.int .i64 x499000_118,.string x499001_118] 45 (0,0)))∧Aside0 (Below w.heap.size w wc))
                         case first =>
                          have H:=HC119.out
                          clear HC119
                          by_cases c120 : x132_101=true
                          ·subst c120
                           have H1 : (if 0≤x13_5 then (if x13_5 < (x10_2.length : Int) then (thresherlaw13_FoldLast.j6 kj101 t465 t476 t479 x9_1 x10_2 x11_1 x13_5 t466 t469 t470 t471 (rd x10_2 x13_5) (⟨#[]⟩ : ByteArray)) else (none)) else (none))=some r:=by rw [if_pos rfl] at H;exact H
                           clear H
                           have H:=H1
                           clear H1
                           by_cases c121 : 0≤x13_5
                           ·rw [if_pos c121] at H
                            have c121b0 : decide (0≤x13_5)=true:=decide_eq_true c121
                            clear c121
                            (first|rw [c121b0]|(simp only [i64_w,i32_w];rw [c121b0])|skip)
                            by_cases c122 : x13_5 < (x10_2.length : Int)
                            ·rw [if_pos c122] at H
                             have c122b0 : decide (x13_5 < (x10_2.length : Int))=true:=decide_eq_true c122
                             clear c122
                             have H':=Aside0.mk H
                             clear H
                             have p500 : 0≤(x13_5 : Int):=of_decide_eq_true (by first|(with_reducible assumption)|assumption)
                             have q500 : x13_5 < (x10_2.length : Int):=of_decide_eq_true (by first|(with_reducible assumption)|assumption)
                             obtain ⟨ad500,e500,hx500_0⟩:=Kd.at_int (Kd.R_reads' HO_10.out).2.2 x13_5 p500 q500
                             cases e500
                             replace p500:=eq_true p500
                             replace q500:=eq_true q500
                             have hnb123:=NB498_464.out
                             have hnc123:=NB464_498.out
                             have hnb124:=NB498_472.out
                             have hnc124:=NB472_498.out
                             have hcz125_0 : wc.cell? ⟨gb498,0,none⟩=some (.int .i64 ((rd_T45 (rd_L5 t476 x11_1) x13_5).f0)):=(blk_cell BK498.out 0).trans rfl
                             have hcz125_1 : wc.cell? ⟨gb498,1,none⟩=some (.string ((rd_T45 (rd_L5 t476 x11_1) x13_5).f1)):=(blk_cell BK498.out 1).trans rfl
                             have hfz125_0:=blk_frozen BK498.out 0
                             have hfz125_1:=blk_frozen BK498.out 1
                             go_wp2
                             go_meet
                             case rel=>exact ⟨_,(rd x10_2 x13_5),((⟨#[]⟩ : ByteArray)),(by first|exact H'|(subst_vars;exact H')),⟨by have:=HK1.out;have:=HK2.out;have:=HJ75.out;have:=HJ87.out;have:=HK5.out;have:=HJ101.out;first|omega|exact Nat.le_refl _⟩,⟨by (with_reducible repeat (first|apply Kd.N_alloc|apply Kd.N_drewN|apply Kd.N_drew));exact Kd.N_mono (Kd.N_far (p:=⟨gb498,1,none⟩) (Kd.N_far (p:=⟨gb498,0,none⟩) (Kd.N_mono HO_7.out (fun k_ hk=>(⟨hk,hk.2.2.2.2.2⟩ : _∧k_≠gb498))) (fun _ hk=>hk.2) (.int .i64 (rd x10_2 x13_5))) (fun _ hk=>hk.2) (.string (⟨#[]⟩ : ByteArray))) (fun _ hk=>⟨hk.1.1,⟨hk.1.2.1,⟨hk.1.2.2.1,⟨hk.1.2.2.2.1,⟨hk.1.2.2.2.2.1,hk.1.2.2.2.2.2⟩⟩⟩⟩⟩)⟩,⟨by (with_reducible repeat (first|apply Kd.N_alloc|apply Kd.N_drewN|apply Kd.N_drew));exact Kd.N_mono (Kd.N_far (p:=⟨gb498,1,none⟩) (Kd.N_far (p:=⟨gb498,0,none⟩) (Kd.N_mono HO_8.out (fun k_ hk=>(⟨hk,hk.2.2.2.2⟩ : _∧k_≠gb498))) (fun _ hk=>hk.2) (.int .i64 (rd x10_2 x13_5))) (fun _ hk=>hk.2) (.string (⟨#[]⟩ : ByteArray))) (fun _ hk=>⟨hk.1.1,⟨hk.1.2.1,⟨hk.1.2.2.1,⟨hk.1.2.2.2.1,hk.1.2.2.2.2⟩⟩⟩⟩)⟩,⟨by (with_reducible repeat (first|apply Kd.R_alloc|apply Kd.R_drewN|apply Kd.R_drew));exact Kd.R_mono (Kd.R_far (p:=⟨gb498,1,none⟩) (Kd.R_far (p:=⟨gb498,0,none⟩) (Kd.R_types HO_10.out BK498.out (by decide)) (fun _ hk=>hk.2) (.int .i64 (rd x10_2 x13_5))) (fun _ hk=>hk.2) (.string (⟨#[]⟩ : ByteArray))) (fun _ hk=>trivial)⟩,⟨by (with_reducible repeat (first|apply Kd.R_alloc|apply Kd.R_drewN|apply Kd.R_drew));exact Kd.R_mono (Kd.R_far (p:=⟨gb498,1,none⟩) (Kd.R_far (p:=⟨gb498,0,none⟩) (Kd.R_types HO_473000.out BK498.out (by decide)) (fun _ hk=>hk.2) (.int .i64 (rd x10_2 x13_5))) (fun _ hk=>hk.2) (.string (⟨#[]⟩ : ByteArray))) (fun _ hk=>trivial)⟩,⟨by (with_reducible repeat (first|refine blk_drewN ?_ _|refine blk_drew ?_|refine blk_alloc ?_ _));refine blk_far ?_ NB464_498.out _;(with_reducible repeat (first|refine blk_drewN ?_ _|refine blk_drew ?_|refine blk_alloc ?_ _));refine blk_far ?_ NB464_498.out _;(with_reducible repeat (first|refine blk_drewN ?_ _|refine blk_drew ?_|refine blk_alloc ?_ _));exact BK464.out⟩,⟨by (with_reducible repeat (first|refine blk_drewN ?_ _|refine blk_drew ?_|refine blk_alloc ?_ _));refine blk_far ?_ NB472_498.out _;(with_reducible repeat (first|refine blk_drewN ?_ _|refine blk_drew ?_|refine blk_alloc ?_ _));refine blk_far ?_ NB472_498.out _;(with_reducible repeat (first|refine blk_drewN ?_ _|refine blk_drew ?_|refine blk_alloc ?_ _));exact BK472.out⟩,⟨by (with_reducible repeat (first|refine blk_drewN ?_ _|refine blk_drew ?_|refine blk_alloc ?_ _));refine blk_put (cs:=#[.int .i64 (rd x10_2 x13_5),.string ((rd_T45 (rd_L5 t476 x11_1) x13_5).f1)]) ?_ 1 _ rfl;(with_reducible repeat (first|refine blk_drewN ?_ _|refine blk_drew ?_|refine blk_alloc ?_ _));refine blk_put (cs:=#[.int .i64 ((rd_T45 (rd_L5 t476 x11_1) x13_5).f0),.string ((rd_T45 (rd_L5 t476 x11_1) x13_5).f1)]) ?_ 0 _ rfl;(with_reducible repeat (first|refine blk_drewN ?_ _|refine blk_drew ?_|refine blk_alloc ?_ _));exact BK498.out⟩,⟨by repeat (first|(with_reducible first|exact HB.out|apply below_alloc|apply pw_below_drewN|apply below_drew1|refine below_set ?_ GE464.out|refine below_set ?_ GE472.out|refine below_set ?_ GE498.out)|exact HB.out)⟩⟩
                            ·rw [if_neg c122] at H
                             exact absurd H (by simp)
                           ·rw [if_neg c121] at H
                            exact absurd H (by simp)
                          ·replace c120:=Bool.eq_false_iff.mpr c120
                           subst c120
                           have H1 : (thresherlaw13_FoldLast.j6 kj101 t465 t476 t479 x9_1 x10_2 x11_1 x13_5 t466 t469 t470 t471 ((rd_T45 (rd_L5 t476 x11_1) x13_5).f0) ((rd_T45 (rd_L5 t476 x11_1) x13_5).f1))=some r:=by rw [if_neg (show ¬ (false=true) by decide)] at H;exact H
                           clear H
                           have H:=H1
                           clear H1
                           have H':=Aside0.mk H
                           clear H
                           go_wp2
                           go_meet
                           case rel=>exact ⟨_,(((rd_T45 (rd_L5 t476 x11_1) x13_5).f0)),(((rd_T45 (rd_L5 t476 x11_1) x13_5).f1)),(by first|exact H'|(subst_vars;exact H')),⟨by have:=HK1.out;have:=HK2.out;have:=HJ75.out;have:=HJ87.out;have:=HK5.out;have:=HJ101.out;first|omega|exact Nat.le_refl _⟩,⟨by (with_reducible repeat (first|apply Kd.N_alloc|apply Kd.N_drewN|apply Kd.N_drew));exact HO_7.out⟩,⟨by (with_reducible repeat (first|apply Kd.N_alloc|apply Kd.N_drewN|apply Kd.N_drew));exact HO_8.out⟩,⟨by (with_reducible repeat (first|apply Kd.R_alloc|apply Kd.R_drewN|apply Kd.R_drew));exact HO_10.out⟩,⟨by (with_reducible repeat (first|apply Kd.R_alloc|apply Kd.R_drewN|apply Kd.R_drew));exact HO_473000.out⟩,⟨by (with_reducible repeat (first|refine blk_drewN ?_ _|refine blk_drew ?_|refine blk_alloc ?_ _));exact BK464.out⟩,⟨by (with_reducible repeat (first|refine blk_drewN ?_ _|refine blk_drew ?_|refine blk_alloc ?_ _));exact BK472.out⟩,⟨by (with_reducible repeat (first|refine blk_drewN ?_ _|refine blk_drew ?_|refine blk_alloc ?_ _));exact BK498.out⟩,⟨by repeat (first|(with_reducible first|exact HB.out|apply below_alloc|apply pw_below_drewN|apply below_drew1|refine below_set ?_ GE464.out|refine below_set ?_ GE472.out|refine below_set ?_ GE498.out)|exact HB.out)⟩⟩
                         case rest =>
                          clear HC119
                          try clear c1
                          try clear p2
                          try clear c4
                          try clear p4
                          try clear q4
                          try clear hx4
                          try clear p5
                          try clear q5
                          try clear hx5
                          try clear c6
                          try clear p6
                          try clear c7
                          try clear c8
                          try clear c9
                          try clear c10
                          try clear c11
                          try clear c12
                          try clear c15
                          try clear c48
                          try clear p48
                          try clear q48
                          try clear hx48
                          try clear c49
                          try clear p49
                          try clear q49
                          try clear hx49
                          try clear p50
                          try clear q50
                          try clear hx50
                          try clear p64
                          try clear c67
                          try clear c67b0
                          try clear c68
                          try clear c69
                          try clear c70
                          try clear c71
                          try clear c78
                          try clear c78b0
                          try clear c79
                          try clear c79b0
                          try clear c80
                          try clear c80b0
                          try clear c82
                          try clear c82b0
                          try clear c87
                          try clear c89
                          try clear c89b0
                          try clear c92
                          try clear c92b0
                          try clear c93
                          try clear c93b0
                          try clear c96
                          try clear c97
                          try clear c97b0
                          try clear c98
                          try clear c98b0
                          try clear c99
                          try clear c99b0
                          try clear c100
                          try clear c100b0
                          try clear c101
                          try clear c101b0
                          try clear c104
                          try clear c105
                          try clear c107
                          try clear c107b0
                          try clear c107b1
                          try clear c108
                          try clear c108b0
                          try clear c109
                          try clear c109b0
                          try clear c110
                          try clear c111
                          try clear c113
                          try clear c114
                          try clear c116
                          try clear c117
                          try clear c120
                          try clear c121
                          try clear c121b0
                          try clear c122
                          try clear c122b0
                          try clear c123
                          try clear c124
                          try clear hcz106_0
                          try clear hcz106_1
                          try clear hcz112_0
                          try clear hcz112_1
                          try clear hcz112_2
                          try clear hcz112_3
                          try clear hcz115_0
                          try clear hcz115_1
                          try clear hcz115_2
                          try clear hcz115_3
                          try clear hcz118_0
                          try clear hcz118_1
                          try clear hcz118_2
                          try clear hcz118_3
                          try clear hcz125_0
                          try clear hcz125_1
                          try clear hfz106_0
                          try clear hfz106_1
                          try clear hfz112_0
                          try clear hfz112_1
                          try clear hfz112_2
                          try clear hfz112_3
                          try clear hfz115_0
                          try clear hfz115_1
                          try clear hfz115_2
                          try clear hfz115_3
                          try clear hfz118_0
                          try clear hfz118_1
                          try clear hfz118_2
                          try clear hfz118_3
                          try clear hfz125_0
                          try clear hfz125_1
                          try clear hx489_0
                          try clear hx490_0
                          try clear hx492_0
                          try clear hx496_0
                          try clear hx497_0
                          try clear hx497_1
                          try clear hx499_0
                          try clear hx500_0
                          try clear p2
                          try clear p4
                          try clear p48
                          try clear p489
                          try clear p49
                          try clear p490
                          try clear p492
                          try clear p496
                          try clear p497
                          try clear p499
                          try clear p500
                          try clear p6
                          try clear p64
                          try clear q4
                          try clear q48
                          try clear q489
                          try clear q49
                          try clear q490
                          try clear q492
                          try clear q496
                          try clear q497
                          try clear q499
                          try clear q500
                          obtain ⟨kq,x499000_118,x499001_118,HA,HJ118,HO_7,HO_8,HO_10,HO_473000,BK464,BK472,BK498,HB⟩:=hcut
                          cases kq with
                          | zero=>exact absurd HA.out (by simp [thresherlaw13_FoldLast.j6])
                          | succ kj118 =>
                           have H:=HA.out
                           clear HA
                           simp only [thresherlaw13_FoldLast.j6] at H
                           by_cases c126 : 0≤x9_1
                           ·rw [if_pos c126] at H
                            have c126b0 : decide (0≤x9_1)=true:=decide_eq_true c126
                            clear c126
                            by_cases c127 : x9_1 < (t479.length : Int)
                            ·rw [if_pos c127] at H
                             have c127b0 : decide (x9_1 < (t479.length : Int))=true:=decide_eq_true c127
                             clear c127
                             by_cases c128 : 0≤x13_5
                             ·rw [if_pos c128] at H
                              have c128b0 : decide (0≤x13_5)=true:=decide_eq_true c128
                              clear c128
                              by_cases c129 : x13_5 < ((rd_L5 t479 x9_1).length : Int)
                              ·rw [if_pos c129] at H
                               have c129b0 : decide (x13_5 < ((rd_L5 t479 x9_1).length : Int))=true:=decide_eq_true c129
                               clear c129
                               by_cases c130 : (!(((rd_T45 (rd_L5 t479 x9_1) x13_5).f0) == x499000_118) || (!((((rd_T45 (rd_L5 t479 x9_1) x13_5).f1).toList) == x499001_118.toList)))=true
                               ·rw [if_pos c130] at H
                                have c130b0 : (!(((rd_T45 (rd_L5 t479 x9_1) x13_5).f0) == x499000_118) || (!((((rd_T45 (rd_L5 t479 x9_1) x13_5).f1).toList) == x499001_118.toList)))=true:=c130
                                clear c130
                                obtain rfl:=Option.some.inj H
                                try go_wp2
                                have n0_:=Aside0.mk (Kd.N_drew HO_7.out)
                                have n1_:=Aside0.mk (Kd.N_drew HO_8.out)
                                have n2_:=Aside0.mk (Kd.R_drew HO_10.out)
                                have n3_:=Aside0.mk (Kd.R_drew HO_473000.out)
                                have n4_:=Aside0.mk (blk_drew BK464.out)
                                have n5_:=Aside0.mk (blk_drew BK472.out)
                                have n6_:=Aside0.mk (blk_drew BK498.out)
                                have n7_:=Aside0.mk (below_drew1 HB.out)
                                clear HO_7
                                clear HO_8
                                clear HO_10
                                clear HO_473000
                                clear BK464
                                clear BK472
                                clear BK498
                                clear HB
                                have HO_7:=n0_
                                have HO_8:=n1_
                                have HO_10:=n2_
                                have HO_473000:=n3_
                                have BK464:=n4_
                                have BK472:=n5_
                                have BK498:=n6_
                                have HB:=n7_
                                clear n0_ n1_ n2_ n3_ n4_ n5_ n6_ n7_
                                obtain ⟨Ao132,co132,eo132⟩:=Kd.N_slice HO_8.out
                                (first|subst eo132|(injection eo132 with f1_ f2_ f3_;have f4_:=f1_.symm;have f5_:=f3_.symm;clear f1_ f2_ f3_;subst f4_;subst f5_))
                                have p501 : 0≤(x9_1 : Int):=of_decide_eq_true (by first|(with_reducible assumption)|assumption)
                                have q501 : x9_1 < (t479.length : Int):=of_decide_eq_true (by first|(with_reducible assumption)|assumption)
                                obtain ⟨ad501,A501_0,c501_0,e501,hx501_0,hl501_0,hi501_0⟩:=at_L5 (Kd.N_reads' HO_8.out).2.2 x9_1 p501 q501
                                cases e501
                                obtain ⟨ce501,hce501,hMe501,hcc501⟩:=Kd.N_get HO_8.out [] x9_1 p501 (by first|exact q501|exact of_decide_eq_true (by first|(with_reducible assumption)|assumption)|(have e_:=(Kd.N_reads' HO_8.out).1;omega))
                                obtain ⟨ua501_0,uc501_0,rfl,ul501_0,ge501_0⟩:=Kd.FK_slice_open hMe501
                                have hv501_0:=hcc501 0 _ rfl
                                rw [Nat.add_zero,show ((Kd.slice 45 k45)).sz=1 from rfl,Nat.mul_one] at hv501_0
                                replace hv501_0:=Option.some.inj (hv501_0.symm.trans hx501_0)
                                injection hv501_0 with hva_ hvn_ hvc_
                                rw [hva_] at ge501_0
                                rw [hvc_] at ul501_0
                                have HL501_0:=Aside0.mk (show Kd.V k45 45 _ w.heap.size _ _ (rd_L5 t479 x9_1) from Kd.V_mk ul501_0 ge501_0)
                                clear hva_ hvn_ hvc_ ge501_0 ul501_0
                                clear hcc501 hce501
                                have HR501_0:=Aside0.mk hi501_0
                                have HC501_0:=Aside0.mk hl501_0
                                clear hi501_0 hl501_0
                                replace p501:=eq_true p501
                                replace q501:=eq_true q501
                                have p502 : 0≤(x13_5 : Int):=of_decide_eq_true (by first|(with_reducible assumption)|assumption)
                                have q502 : x13_5 < ((rd_L5 t479 x9_1).length : Int):=of_decide_eq_true (by first|(with_reducible assumption)|assumption)
                                obtain ⟨ad502,e502,hx502_0,hx502_1⟩:=at_T45 (by repeat (first|(with_reducible exact HR501_0.out)|(with_reducible refine Kd.C_alloc ?_ _)|(with_reducible refine Kd.C_drewN ?_ _)|(with_reducible refine Kd.C_drew ?_)|exact HR501_0.out)) x13_5 p502 q502
                                cases e502
                                replace p502:=eq_true p502
                                replace q502:=eq_true q502
                                refine start_ (n:=9) (S:=fun w'=>w'.cell? ⟨gb498,0,none⟩=some (.int .i64 x499000_118)∧w'.cell? ⟨gb498,1,none⟩=some (.string x499001_118)∧w'.cell? (ad501.add (x9_1).toNat)=some (.slice (some ad502) (rd_L5 t479 x9_1).length c501_0)∧w'.cell? (ad502.add ((x13_5).toNat * 2))=some (.int .i64 ((rd_T45 (rd_L5 t479 x9_1) x13_5).f0))∧w'.cell? ⟨(ad502.add ((x13_5).toNat * 2)).block,(ad502.add ((x13_5).toNat * 2)).off + 1,none⟩=some (.string ((rd_T45 (rd_L5 t479 x9_1) x13_5).f1))) (ds:=[]) #[false,false,false,false,false,false,false,false,false] (by kernel_rfl) rfl rfl ⟨(blk_cell BK498.out 0).trans rfl,(blk_cell BK498.out 1).trans rfl,hx501_0,hx502_0,hx502_1⟩ (fun hHeld=>?_);refine with_tabW thresherlaw13_FoldLast.tab25 thresherlaw13_FoldLast.bits25 (fun HT_ HW_=>?_)
                                generalize wc.drew=w131 at HO_7 HO_8 HO_10 HO_473000 BK464 BK472 BK498 HB HL501_0 HR501_0 hx501_0 hx502_0 hx502_1 hHeld ⊢
                                refine pure_ (i:=0) (N:=some 138) (v:=?_) (a':=?_) #[true,false,false,false,false,false,false,false,false] rfl rfl (any_of HT_.out (by kernel_rfl)) (fun _ _ _ h=>h) (Or.inl ⟨by rfl,?_⟩) ?_ ?_
                                rotate_left;(intro w';go_simp;with_reducible rfl);rotate_left;(simp only [Act.put,List.setIfInBounds_toArray,List.set_cons_zero,List.set_cons_succ,i64_w,i32_w];rfl)
                                refine pure_ (i:=1) (N:=some 139) (v:=?_) (a':=?_) #[true,true,false,false,false,false,false,false,false] rfl rfl (any_of HT_.out (by kernel_rfl)) (fun _ _ _ h=>h) (Or.inl ⟨by rfl,?_⟩) ?_ ?_
                                rotate_left;(intro w';go_simp;with_reducible rfl);rotate_left;(simp only [Act.put,List.setIfInBounds_toArray,List.set_cons_zero,List.set_cons_succ,i64_w,i32_w];rfl)
                                refine pure_ (i:=2) (N:=some 140) (v:=?_) (a':=?_) #[true,true,true,false,false,false,false,false,false] rfl rfl (any_of HT_.out (by kernel_rfl)) (fun _ _ _ h=>h) (Or.inl ⟨by rfl,?_⟩) ?_ ?_
                                rotate_left;(intro w';go_simp;with_reducible rfl);rotate_left;(simp only [Act.put,List.setIfInBounds_toArray,List.set_cons_zero,List.set_cons_succ,i64_w,i32_w];rfl)
                                refine pure_ (i:=4) (N:=some 142) (v:=?_) (a':=?_) #[true,true,true,false,true,false,false,false,false] rfl rfl (any_of HT_.out (by kernel_rfl)) (fun _ _ _ h=>h) (Or.inl ⟨by rfl,?_⟩) ?_ ?_
                                rotate_left;(intro w';go_simp;with_reducible rfl);rotate_left;(simp only [Act.put,List.setIfInBounds_toArray,List.set_cons_zero,List.set_cons_succ,i64_w,i32_w];rfl)
                                refine take_ (i:=3) (N:=some 141) (v:=?_) (a':=?_) #[true,true,true,true,true,false,false,false,false] rfl rfl (take_ofW HT_.out HW_.out (by kernel_rfl)) (fun _ _ _ h=>h) (Or.inl ⟨by rfl,?_⟩) hHeld ?_ ?_
                                rotate_left;(rintro w' ⟨s0,s1,s2,s3,s4⟩;go_simp;with_reducible rfl);rotate_left;(simp only [Act.put,List.setIfInBounds_toArray,List.set_cons_zero,List.set_cons_succ,i64_w,i32_w];rfl)
                                refine pure_ (i:=5) (N:=some 143) (v:=?_) (a':=?_) #[true,true,true,true,true,true,false,false,false] rfl rfl (any_of HT_.out (by kernel_rfl)) (fun _ _ _ h=>h) (Or.inl ⟨by rfl,?_⟩) ?_ ?_
                                rotate_left;(intro w';go_simp;with_reducible rfl);rotate_left;(simp only [Act.put,List.setIfInBounds_toArray,List.set_cons_zero,List.set_cons_succ,i64_w,i32_w];rfl)
                                refine take_ (i:=6) (N:=some 144) (v:=?_) (a':=?_) #[true,true,true,true,true,true,true,false,false] rfl rfl (take_ofW HT_.out HW_.out (by kernel_rfl)) (fun _ _ _ h=>h) (Or.inl ⟨by rfl,?_⟩) hHeld ?_ ?_
                                rotate_left;(rintro w' ⟨s0,s1,s2,s3,s4⟩;go_simp;with_reducible rfl);rotate_left;(simp only [Act.put,List.setIfInBounds_toArray,List.set_cons_zero,List.set_cons_succ,i64_w,i32_w];rfl)
                                refine take_ (i:=7) (N:=some 145) (v:=?_) (a':=?_) #[true,true,true,true,true,true,true,true,false] rfl rfl (take_ofW HT_.out HW_.out (by kernel_rfl)) (fun _ _ _ h=>h) (Or.inl ⟨by rfl,?_⟩) hHeld ?_ ?_
                                rotate_left;(rintro w' ⟨s0,s1,s2,s3,s4⟩;go_simp;with_reducible rfl);rotate_left;(simp only [Act.put,List.setIfInBounds_toArray,List.set_cons_zero,List.set_cons_succ,i64_w,i32_w];rfl)
                                refine pure_ (i:=8) (N:=some 146) (v:=?_) (a':=?_) #[true,true,true,true,true,true,true,true,true] rfl rfl (any_of HT_.out (by kernel_rfl)) (fun _ _ _ h=>h) (Or.inl ⟨by rfl,?_⟩) ?_ ?_
                                rotate_left;(intro w';go_simp;with_reducible rfl);rotate_left;(simp only [Act.put,List.setIfInBounds_toArray,List.set_cons_zero,List.set_cons_succ,i64_w,i32_w];rfl)
                                refine done_ (done_of HT_.out (by kernel_rfl)) ?_
                                (try clear hHeld)
                                try go_wp2
                                go_ret
                                exact ⟨by first|rfl|(simp [errW_none,errW_some] <;> rfl)|(simp [*,errW_none,errW_some] <;> rfl),by repeat (first|(with_reducible first|exact HB.out|apply below_alloc|apply pw_below_drewN|apply below_drew1|refine below_set ?_ GE464.out|refine below_set ?_ GE472.out|refine below_set ?_ GE498.out)|exact HB.out)⟩
                               ·rw [if_neg c130] at H
                                have c130b0 : (!(((rd_T45 (rd_L5 t479 x9_1) x13_5).f0) == x499000_118) || (!((((rd_T45 (rd_L5 t479 x9_1) x13_5).f1).toList) == x499001_118.toList)))=false:=by simpa using c130
                                clear c130
                                have H':=Aside0.mk H
                                clear H
                                try go_wp2
                                have n0_:=Aside0.mk (Kd.N_drew HO_7.out)
                                have n1_:=Aside0.mk (Kd.N_drew HO_8.out)
                                have n2_:=Aside0.mk (Kd.R_drew HO_10.out)
                                have n3_:=Aside0.mk (Kd.R_drew HO_473000.out)
                                have n4_:=Aside0.mk (blk_drew BK464.out)
                                have n5_:=Aside0.mk (blk_drew BK472.out)
                                have n6_:=Aside0.mk (blk_drew BK498.out)
                                have n7_:=Aside0.mk (below_drew1 HB.out)
                                clear HO_7
                                clear HO_8
                                clear HO_10
                                clear HO_473000
                                clear BK464
                                clear BK472
                                clear BK498
                                clear HB
                                have HO_7:=n0_
                                have HO_8:=n1_
                                have HO_10:=n2_
                                have HO_473000:=n3_
                                have BK464:=n4_
                                have BK472:=n5_
                                have BK498:=n6_
                                have HB:=n7_
                                clear n0_ n1_ n2_ n3_ n4_ n5_ n6_ n7_
                                obtain ⟨Ao134,co134,eo134⟩:=Kd.N_slice HO_8.out
                                (first|subst eo134|(injection eo134 with f1_ f2_ f3_;have f4_:=f1_.symm;have f5_:=f3_.symm;clear f1_ f2_ f3_;subst f4_;subst f5_))
                                have p501 : 0≤(x9_1 : Int):=of_decide_eq_true (by first|(with_reducible assumption)|assumption)
                                have q501 : x9_1 < (t479.length : Int):=of_decide_eq_true (by first|(with_reducible assumption)|assumption)
                                obtain ⟨ad501,A501_0,c501_0,e501,hx501_0,hl501_0,hi501_0⟩:=at_L5 (Kd.N_reads' HO_8.out).2.2 x9_1 p501 q501
                                cases e501
                                obtain ⟨ce501,hce501,hMe501,hcc501⟩:=Kd.N_get HO_8.out [] x9_1 p501 (by first|exact q501|exact of_decide_eq_true (by first|(with_reducible assumption)|assumption)|(have e_:=(Kd.N_reads' HO_8.out).1;omega))
                                obtain ⟨ua501_0,uc501_0,rfl,ul501_0,ge501_0⟩:=Kd.FK_slice_open hMe501
                                have hv501_0:=hcc501 0 _ rfl
                                rw [Nat.add_zero,show ((Kd.slice 45 k45)).sz=1 from rfl,Nat.mul_one] at hv501_0
                                replace hv501_0:=Option.some.inj (hv501_0.symm.trans hx501_0)
                                injection hv501_0 with hva_ hvn_ hvc_
                                rw [hva_] at ge501_0
                                rw [hvc_] at ul501_0
                                have HL501_0:=Aside0.mk (show Kd.V k45 45 _ w.heap.size _ _ (rd_L5 t479 x9_1) from Kd.V_mk ul501_0 ge501_0)
                                clear hva_ hvn_ hvc_ ge501_0 ul501_0
                                clear hcc501 hce501
                                have HR501_0:=Aside0.mk hi501_0
                                have HC501_0:=Aside0.mk hl501_0
                                clear hi501_0 hl501_0
                                replace p501:=eq_true p501
                                replace q501:=eq_true q501
                                have p502 : 0≤(x13_5 : Int):=of_decide_eq_true (by first|(with_reducible assumption)|assumption)
                                have q502 : x13_5 < ((rd_L5 t479 x9_1).length : Int):=of_decide_eq_true (by first|(with_reducible assumption)|assumption)
                                obtain ⟨ad502,e502,hx502_0,hx502_1⟩:=at_T45 (by repeat (first|(with_reducible exact HR501_0.out)|(with_reducible refine Kd.C_alloc ?_ _)|(with_reducible refine Kd.C_drewN ?_ _)|(with_reducible refine Kd.C_drew ?_)|exact HR501_0.out)) x13_5 p502 q502
                                cases e502
                                replace p502:=eq_true p502
                                replace q502:=eq_true q502
                                refine start_ (n:=9) (S:=fun w'=>w'.cell? ⟨gb498,0,none⟩=some (.int .i64 x499000_118)∧w'.cell? ⟨gb498,1,none⟩=some (.string x499001_118)∧w'.cell? (ad501.add (x9_1).toNat)=some (.slice (some ad502) (rd_L5 t479 x9_1).length c501_0)∧w'.cell? (ad502.add ((x13_5).toNat * 2))=some (.int .i64 ((rd_T45 (rd_L5 t479 x9_1) x13_5).f0))∧w'.cell? ⟨(ad502.add ((x13_5).toNat * 2)).block,(ad502.add ((x13_5).toNat * 2)).off + 1,none⟩=some (.string ((rd_T45 (rd_L5 t479 x9_1) x13_5).f1))) (ds:=[]) #[false,false,false,false,false,false,false,false,false] (by kernel_rfl) rfl rfl ⟨(blk_cell BK498.out 0).trans rfl,(blk_cell BK498.out 1).trans rfl,hx501_0,hx502_0,hx502_1⟩ (fun hHeld=>?_);refine with_tabW thresherlaw13_FoldLast.tab25 thresherlaw13_FoldLast.bits25 (fun HT_ HW_=>?_)
                                generalize wc.drew=w133 at HO_7 HO_8 HO_10 HO_473000 BK464 BK472 BK498 HB HL501_0 HR501_0 hx501_0 hx502_0 hx502_1 hHeld ⊢
                                refine pure_ (i:=0) (N:=some 138) (v:=?_) (a':=?_) #[true,false,false,false,false,false,false,false,false] rfl rfl (any_of HT_.out (by kernel_rfl)) (fun _ _ _ h=>h) (Or.inl ⟨by rfl,?_⟩) ?_ ?_
                                rotate_left;(intro w';go_simp;with_reducible rfl);rotate_left;(simp only [Act.put,List.setIfInBounds_toArray,List.set_cons_zero,List.set_cons_succ,i64_w,i32_w];rfl)
                                refine pure_ (i:=1) (N:=some 139) (v:=?_) (a':=?_) #[true,true,false,false,false,false,false,false,false] rfl rfl (any_of HT_.out (by kernel_rfl)) (fun _ _ _ h=>h) (Or.inl ⟨by rfl,?_⟩) ?_ ?_
                                rotate_left;(intro w';go_simp;with_reducible rfl);rotate_left;(simp only [Act.put,List.setIfInBounds_toArray,List.set_cons_zero,List.set_cons_succ,i64_w,i32_w];rfl)
                                refine pure_ (i:=2) (N:=some 140) (v:=?_) (a':=?_) #[true,true,true,false,false,false,false,false,false] rfl rfl (any_of HT_.out (by kernel_rfl)) (fun _ _ _ h=>h) (Or.inl ⟨by rfl,?_⟩) ?_ ?_
                                rotate_left;(intro w';go_simp;with_reducible rfl);rotate_left;(simp only [Act.put,List.setIfInBounds_toArray,List.set_cons_zero,List.set_cons_succ,i64_w,i32_w];rfl)
                                refine pure_ (i:=4) (N:=some 142) (v:=?_) (a':=?_) #[true,true,true,false,true,false,false,false,false] rfl rfl (any_of HT_.out (by kernel_rfl)) (fun _ _ _ h=>h) (Or.inl ⟨by rfl,?_⟩) ?_ ?_
                                rotate_left;(intro w';go_simp;with_reducible rfl);rotate_left;(simp only [Act.put,List.setIfInBounds_toArray,List.set_cons_zero,List.set_cons_succ,i64_w,i32_w];rfl)
                                refine take_ (i:=3) (N:=some 141) (v:=?_) (a':=?_) #[true,true,true,true,true,false,false,false,false] rfl rfl (take_ofW HT_.out HW_.out (by kernel_rfl)) (fun _ _ _ h=>h) (Or.inl ⟨by rfl,?_⟩) hHeld ?_ ?_
                                rotate_left;(rintro w' ⟨s0,s1,s2,s3,s4⟩;go_simp;with_reducible rfl);rotate_left;(simp only [Act.put,List.setIfInBounds_toArray,List.set_cons_zero,List.set_cons_succ,i64_w,i32_w];rfl)
                                refine pure_ (i:=5) (N:=some 143) (v:=?_) (a':=?_) #[true,true,true,true,true,true,false,false,false] rfl rfl (any_of HT_.out (by kernel_rfl)) (fun _ _ _ h=>h) (Or.inl ⟨by rfl,?_⟩) ?_ ?_
                                rotate_left;(intro w';go_simp;with_reducible rfl);rotate_left;(simp only [Act.put,List.setIfInBounds_toArray,List.set_cons_zero,List.set_cons_succ,i64_w,i32_w];rfl)
                                refine take_ (i:=6) (N:=some 144) (v:=?_) (a':=?_) #[true,true,true,true,true,true,true,false,false] rfl rfl (take_ofW HT_.out HW_.out (by kernel_rfl)) (fun _ _ _ h=>h) (Or.inl ⟨by rfl,?_⟩) hHeld ?_ ?_
                                rotate_left;(rintro w' ⟨s0,s1,s2,s3,s4⟩;go_simp;with_reducible rfl);rotate_left;(simp only [Act.put,List.setIfInBounds_toArray,List.set_cons_zero,List.set_cons_succ,i64_w,i32_w];rfl)
                                refine take_ (i:=7) (N:=some 145) (v:=?_) (a':=?_) #[true,true,true,true,true,true,true,true,false] rfl rfl (take_ofW HT_.out HW_.out (by kernel_rfl)) (fun _ _ _ h=>h) (Or.inl ⟨by rfl,?_⟩) hHeld ?_ ?_
                                rotate_left;(rintro w' ⟨s0,s1,s2,s3,s4⟩;go_simp;with_reducible rfl);rotate_left;(simp only [Act.put,List.setIfInBounds_toArray,List.set_cons_zero,List.set_cons_succ,i64_w,i32_w];rfl)
                                refine pure_ (i:=8) (N:=some 146) (v:=?_) (a':=?_) #[true,true,true,true,true,true,true,true,true] rfl rfl (any_of HT_.out (by kernel_rfl)) (fun _ _ _ h=>h) (Or.inl ⟨by rfl,?_⟩) ?_ ?_
                                rotate_left;(intro w';go_simp;with_reducible rfl);rotate_left;(simp only [Act.put,List.setIfInBounds_toArray,List.set_cons_zero,List.set_cons_succ,i64_w,i32_w];rfl)
                                refine done_ (done_of HT_.out (by kernel_rfl)) ?_
                                (try clear hHeld)
                                try go_wp2
                                go_roundg kj118
                                case measure=>have:=HK1.out;have:=HK2.out;have:=HJ75.out;have:=HJ87.out;have:=HK5.out;have:=HJ101.out;have:=HJ118.out;omega
                                case rel=>exact ⟨(wrap64 (x13_5 + 1)),(by first|rfl|(simp;done)|(simp [*];done)),(by first|exact H'|(subst_vars;exact H')),⟨by have:=HK1.out;have:=HK2.out;have:=HJ75.out;have:=HJ87.out;have:=HK5.out;have:=HJ101.out;have:=HJ118.out;omega⟩,⟨by (with_reducible repeat (first|apply Kd.N_alloc|apply Kd.N_drewN|apply Kd.N_drew));exact Kd.N_mono HO_7.out (fun _ hk=>⟨hk.1,⟨hk.2.1,⟨hk.2.2.1,⟨hk.2.2.2.1,hk.2.2.2.2.1⟩⟩⟩⟩)⟩,⟨by (with_reducible repeat (first|apply Kd.N_alloc|apply Kd.N_drewN|apply Kd.N_drew));exact Kd.N_mono HO_8.out (fun _ hk=>⟨hk.1,⟨hk.2.1,⟨hk.2.2.1,hk.2.2.2.1⟩⟩⟩)⟩,⟨by (with_reducible repeat (first|apply Kd.R_alloc|apply Kd.R_drewN|apply Kd.R_drew));exact HO_10.out⟩,⟨by (with_reducible repeat (first|apply Kd.R_alloc|apply Kd.R_drewN|apply Kd.R_drew));exact HO_473000.out⟩,⟨by (with_reducible repeat (first|refine blk_drewN ?_ _|refine blk_drew ?_|refine blk_alloc ?_ _));exact BK464.out⟩,⟨by (with_reducible repeat (first|refine blk_drewN ?_ _|refine blk_drew ?_|refine blk_alloc ?_ _));exact BK472.out⟩,⟨by repeat (first|(with_reducible first|exact HB.out|apply below_alloc|apply pw_below_drewN|apply below_drew1|refine below_set ?_ GE464.out|refine below_set ?_ GE472.out|refine below_set ?_ GE498.out)|exact HB.out)⟩⟩
                              ·rw [if_neg c129] at H
                               exact absurd H (by simp)
                             ·rw [if_neg c128] at H
                              exact absurd H (by simp)
                            ·rw [if_neg c127] at H
                             exact absurd H (by simp)
                           ·rw [if_neg c126] at H
                            exact absurd H (by simp)
                      ·rw [if_neg c101] at H
                       exact absurd H (by simp)
                     ·rw [if_neg c100] at H
                      exact absurd H (by simp)
                    ·rw [if_neg c99] at H
                     exact absurd H (by simp)
                   ·rw [if_neg c98] at H
                    exact absurd H (by simp)
                  ·rw [if_neg c97] at H
                   have c97b0 : decide (x13_5 < (x10_2.length : Int))=false:=decide_eq_false c97
                   clear c97
                   by_cases c135 : 0≤(t466.length : Int)
                   ·rw [if_pos c135] at H
                    have c135b0:=eq_true c135
                    have c135b1 : decide (0≤(t466.length : Int))=true:=decide_eq_true c135
                    clear c135
                    by_cases c136 : ((t466.length : Int) : Int).toNat≤35184372088832
                    ·rw [if_pos c136] at H
                     have c136b0:=eq_true c136
                     have c136b1 : decide (((t466.length : Int) : Int).toNat≤35184372088832)=true:=decide_eq_true c136
                     clear c136
                     obtain ⟨y493,hy493⟩ : ∃ y_ : List Int,y_=(List.replicate ((t466.length : Int) : Int).toNat 0):=⟨_,rfl⟩
                     replace H : (thresherlaw13_FoldLast.l0 k5 t465 t476 t479 (wrap64 (x9_1 + 1)) y493 (wrap64 (x11_1 + 1)) t466 t469 t470 t471)=some r:=by first|(rw [hy493];with_reducible exact H)|(have H2_:=(Option.bind_some _ _).symm.trans H;rw [hy493];with_reducible exact H2_)|(have H2_:=(Option.bind_some _ _).symm.trans H;with_reducible exact H2_)|with_reducible exact H|(rw [hy493];exact H)|exact H
                     have Ny493:=Aside0.mk hy493
                     clear hy493
                     have H':=Aside0.mk H
                     clear H
                     have hnb137:=NB472_464.out
                     have hnc137:=NB464_472.out
                     have hcz138_0 : wr.cell? ⟨gb472,0,none⟩=some (.slice Ao52 t466.length co52):=(blk_cell BK472.out 0).trans rfl
                     have hcz138_1 : wr.cell? ⟨gb472,1,none⟩=some (.int .i64 t469):=(blk_cell BK472.out 1).trans rfl
                     have hcz138_2 : wr.cell? ⟨gb472,2,none⟩=some (.int .i64 t470):=(blk_cell BK472.out 2).trans rfl
                     have hcz138_3 : wr.cell? ⟨gb472,3,none⟩=some (.int .i64 t471):=(blk_cell BK472.out 3).trans rfl
                     have hfz138_0:=blk_frozen BK472.out 0
                     have hfz138_1:=blk_frozen BK472.out 1
                     have hfz138_2:=blk_frozen BK472.out 2
                     have hfz138_3:=blk_frozen BK472.out 3
                     go_wp2_with (first|((with_reducible refine gate_dst (N:=150) rfl ?_);(try (refine gate_guard (by rfl) ?_;dsimp only));refine Kd.R_make (Kd.int .i64) _ 2 rfl (N:=150) rfl 42 _ _ rfl (t466.length : Int) rfl rfl Try.underlying42 (.int .i64 0) 8 info2 rfl (by decide) (by omega) 0 (ok:=fun _=>True) (okp:=fun _=>True) rfl (fun _ hk=>hk) trivial (of_decide_eq_true (by first|(with_reducible assumption)|assumption)) (Nat.le_trans (Nat.mul_le_mul_right _ (of_decide_eq_true (by first|(with_reducible assumption)|assumption) : (t466.length : Int).toNat≤35184372088832)) (by omega)) (Below.refl _ _) (Nat.le_refl _) ?_;intro v494 w139 ho140 hb hg_ hnew_;clear hg_ hnew_;(first|rw [← Ny493.out] at ho140|(simp only [Int.reduceToNat] at ho140;rw [← Ny493.out] at ho140));have n0_:=Aside0.mk (Kd.N_elder' (by (with_reducible repeat (first|apply Kd.N_alloc|apply Kd.N_drewN|apply Kd.N_drew));exact HO_7.out) (Kd.R_base ho140) hb);have n1_:=Aside0.mk (Kd.N_elder' (by (with_reducible repeat (first|apply Kd.N_alloc|apply Kd.N_drewN|apply Kd.N_drew));exact HO_8.out) (Kd.R_base ho140) hb);have n2_:=Aside0.mk (Kd.R_elder' (by (with_reducible repeat (first|apply Kd.R_alloc|apply Kd.R_drewN|apply Kd.R_drew));exact HO_10.out) (Kd.R_base ho140) hb);have n3_:=Aside0.mk (Kd.R_below (by (with_reducible repeat (first|apply Kd.R_alloc|apply Kd.R_drewN|apply Kd.R_drew));exact HO_473000.out) hb);have n4_:=Aside0.mk (Kd.R_lower (Kd.R_new' ho140 (Kd.R_lt (by (with_reducible repeat (first|apply Kd.R_alloc|apply Kd.R_drewN|apply Kd.R_drew));exact HO_10.out))) (below_size (by repeat (first|(with_reducible first|exact HB.out|apply below_alloc|apply pw_below_drewN|apply below_drew1|refine below_set ?_ GE464.out|refine below_set ?_ GE472.out)|exact HB.out))));have n5_:=Aside0.mk (blk_below (g:=gb464) (o:=.cells #[.int .u8 a0_0,.int .u8 a0_1,.int .u8 a0_2,.int .u8 a0_3,.int .u8 a0_4,.int .u8 a0_5,.int .u8 a0_6,.int .u8 a0_7,.int .u8 a0_8,.int .u8 a0_9,.int .u8 a0_10,.int .u8 a0_11] 24 (0,0)) (by (with_reducible repeat (first|refine blk_drewN ?_ _|refine blk_drew ?_|refine blk_alloc ?_ _));exact BK464.out) hb);have n6_:=Aside0.mk (blk_below (g:=gb472) (o:=.cells #[.slice Ao52 t466.length co52,.int .i64 t469,.int .i64 t470,.int .i64 t471] 29 (0,0)) (by (with_reducible repeat (first|refine blk_drewN ?_ _|refine blk_drew ?_|refine blk_alloc ?_ _));exact BK472.out) hb);have n7_:=Aside0.mk (below_step (by repeat (first|(with_reducible first|exact HB.out|apply below_alloc|apply pw_below_drewN|apply below_drew1|refine below_set ?_ GE464.out|refine below_set ?_ GE472.out)|exact HB.out)) hb);clear HO_7;clear HO_8;clear HO_10;clear HO_473000;clear BK464;clear BK472;clear HB;have HO_7:=n0_;have HO_8:=n1_;have HO_10:=n2_;have HO_473000:=n3_;have HO495:=n4_;have BK464:=n5_;have BK472:=n6_;have HB:=n7_;clear n0_ n1_ n2_ n3_ n4_ n5_ n6_ n7_;clear hb ho140))
                     go_roundg k5
                     case measure=>have:=HK1.out;have:=HK2.out;have:=HJ75.out;have:=HJ87.out;have:=HK5.out;omega
                     case rel=>exact ⟨(wrap64 (x9_1 + 1)),(y493),(wrap64 (x11_1 + 1)),(by first|rfl|(simp;done)|(simp [*];done)),(by first|rfl|(simp;done)|(simp [*];done)),(by first|exact H'|(subst_vars;exact H')),⟨by have:=HK1.out;have:=HK2.out;have:=HJ75.out;have:=HJ87.out;have:=HK5.out;omega⟩,⟨by (with_reducible repeat (first|apply Kd.N_alloc|apply Kd.N_drewN|apply Kd.N_drew));exact Kd.N_mono HO_7.out (fun _ hk=>⟨hk.1.1,⟨hk.2,⟨hk.1.2.2.1,⟨hk.1.2.2.2.1,hk.1.2.2.2.2⟩⟩⟩⟩)⟩,⟨by (with_reducible repeat (first|apply Kd.N_alloc|apply Kd.N_drewN|apply Kd.N_drew));exact Kd.N_mono HO_8.out (fun _ hk=>⟨hk.2,⟨hk.1.2.1,⟨hk.1.2.2.1,hk.1.2.2.2⟩⟩⟩)⟩,⟨by (with_reducible repeat (first|apply Kd.R_alloc|apply Kd.R_drewN|apply Kd.R_drew));exact Kd.R_mono HO495.out (fun _ hk=>trivial)⟩,⟨by (with_reducible repeat (first|apply Kd.R_alloc|apply Kd.R_drewN|apply Kd.R_drew));exact HO_473000.out⟩,⟨by (with_reducible repeat (first|refine blk_drewN ?_ _|refine blk_drew ?_|refine blk_alloc ?_ _));exact BK464.out⟩,⟨by (with_reducible repeat (first|refine blk_drewN ?_ _|refine blk_drew ?_|refine blk_alloc ?_ _));exact BK472.out⟩,⟨by repeat (first|(with_reducible first|exact HB.out|apply below_alloc|apply pw_below_drewN|apply below_drew1|refine below_set ?_ GE464.out|refine below_set ?_ GE472.out)|exact HB.out)⟩⟩
                    ·rw [if_neg c136] at H
                     exact absurd H (by simp)
                   ·rw [if_neg c135] at H
                    exact absurd H (by simp)
      ·rw [if_neg c66] at H
       have c66b0 : decide (x11_1 < (t476.length : Int))=false:=decide_eq_false c66
       clear c66
       by_cases c141 : t465=true
       ·subst c141
        have H1 : (some (x9_1 == (t479.length : Int)))=some r:=by rw [if_pos rfl] at H;exact H
        clear H
        have H:=H1
        clear H1
        obtain rfl:=Option.some.inj H
        obtain ⟨Ao142,co142,eo142⟩:=Kd.N_slice HO_8.out
        subst eo142
        go_wp2
        go_ret
        exact ⟨by first|rfl|(simp [errW_none,errW_some] <;> rfl)|(simp [*,errW_none,errW_some] <;> rfl),by repeat (first|(with_reducible first|exact HB.out|apply below_alloc|apply pw_below_drewN|apply below_drew1|refine below_set ?_ GE464.out|refine below_set ?_ GE472.out)|exact HB.out)⟩
       ·replace c141:=Bool.eq_false_iff.mpr c141
        subst c141
        have H1 : (some false)=some r:=by rw [if_neg (show ¬ (false=true) by decide)] at H;exact H
        clear H
        have H:=H1
        clear H1
        obtain rfl:=Option.some.inj H
        go_wp2
        go_ret
        exact ⟨by first|rfl|(simp [errW_none,errW_some] <;> rfl)|(simp [*,errW_none,errW_some] <;> rfl),by repeat (first|(with_reducible first|exact HB.out|apply below_alloc|apply pw_below_drewN|apply below_drew1|refine below_set ?_ GE464.out|refine below_set ?_ GE472.out)|exact HB.out)⟩
   ·rw [if_neg c46] at H
    exact absurd H (by simp)
  ·rw [if_neg c45] at H
   exact absurd H (by simp)
end Go.Proofs.Ytmanchjamkpklaa.P

