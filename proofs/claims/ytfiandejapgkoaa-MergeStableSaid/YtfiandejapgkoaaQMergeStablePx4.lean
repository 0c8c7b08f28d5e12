/- Texts of MergeStable. Merged: Px4. -/
import Derived.Test.YtfiandejapgkoaaQMergeStablePx0
import Derived.Test.YtfiandejapgkoaaQMergeStablePx3
import Derived.Test.YtfiandejapgkoaaMMergeStable1
namespace Go.Proofs.Ytfiandejapgkoaa.P
open Go.RowKit Go.Proofs.YtfiandejapgkoaaW.PrintWords Go.Proofs.YtfiandejapgkoaaW.PrintLast Go.Proofs.YtfiandejapgkoaaW.PrintMore
attribute [local go_sem] max2_int min2_int max_two min_two max_three min_three max_four min_four   -- for this text's walks alone
set_option linter.unusedVariables false
set_option linter.unusedSimpArgs false
mutual
def thresherlaw14_MergeStable.l0 : Nat→List (List Int)→Bool→List (List (List (S31)))→Int→Int→List Int→Int→Int→Int→Option (Bool)
 | 0,_,_,_,_,_,_,_,_,_=>none
 | k + 1,x0,x3,x5,x6,x7,x149000,x149001,x149002,x149003=>if x7 < (x0.length : Int) then (thresherlaw14_MergeStable.j1 k x0 x3 x5 x6 x7 (decide (x7 < 8)) x149000 x149001 x149002 x149003) else (thresherlaw14_MergeStable.j1 k x0 x3 x5 x6 x7 false x149000 x149001 x149002 x149003)
def thresherlaw14_MergeStable.j1 : Nat→List (List Int)→Bool→List (List (List (S31)))→Int→Int→Bool→List Int→Int→Int→Int→Option (Bool)
 | 0,_,_,_,_,_,_,_,_,_,_=>none
 | k + 1,x0,x3,x5,x6,x7,x24,x149000,x149001,x149002,x149003=>if x24=true then (thresherlaw14_MergeStable.l1 k x0 x3 x5 x6 x7 (([] : List (List (S31)))) 0 x149000 x149001 x149002 x149003) else ((merge_Rows.f k x149000 x149001 x149002 x149003 x5).bind fun t167=>(thresherlaw14_MergeStable.l3 k x3 x6 t167 0))
def thresherlaw14_MergeStable.l1 : Nat→List (List Int)→Bool→List (List (List (S31)))→Int→Int→List (List (S31))→Int→List Int→Int→Int→Int→Option (Bool)
 | 0,_,_,_,_,_,_,_,_,_,_,_=>none
 | k + 1,x0,x3,x5,x6,x7,x8,x9,x149000,x149001,x149002,x149003=>if x9 < 8 then (thresherlaw14_MergeStable.l2 k x0 x3 x5 x6 x7 x8 x9 0 x149000 x149001 x149002 x149003) else (if x5.length < 5864062014805 then (thresherlaw14_MergeStable.l0 k x0 x3 (x5 ++ [x8]) x6 (wrap64 (x7 + 1)) x149000 x149001 x149002 x149003) else (none))
def thresherlaw14_MergeStable.l2 : Nat→List (List Int)→Bool→List (List (List (S31)))→Int→Int→List (List (S31))→Int→Int→List Int→Int→Int→Int→Option (Bool)
 | 0,_,_,_,_,_,_,_,_,_,_,_,_=>none
 | k + 1,x0,x3,x5,x6,x7,x8,x9,x10,x149000,x149001,x149002,x149003=>if 0≤x7 then (if x7 < (x0.length : Int) then (if x10 < ((rd_L10 x0 x7).length : Int) then (thresherlaw14_MergeStable.j4 k x0 x3 x5 x6 x7 x8 x9 x10 (decide (x10 < 12)) x149000 x149001 x149002 x149003) else (thresherlaw14_MergeStable.j4 k x0 x3 x5 x6 x7 x8 x9 x10 false x149000 x149001 x149002 x149003)) else (none)) else (none)
def thresherlaw14_MergeStable.j4 : Nat→List (List Int)→Bool→List (List (List (S31)))→Int→Int→List (List (S31))→Int→Int→Bool→List Int→Int→Int→Int→Option (Bool)
 | 0,_,_,_,_,_,_,_,_,_,_,_,_,_=>none
 | k + 1,x0,x3,x5,x6,x7,x8,x9,x10,x42,x149000,x149001,x149002,x149003=>if x42=true then (if 0≤x7 then (if x7 < (x0.length : Int) then (if 0≤x10 then (if x10 < ((rd_L10 x0 x7).length : Int) then (if (wrap64 (Go.bits .and .u8 (rd (rd_L10 x0 x7) x10) 7))=x9 then (if x8.length < 5864062014805 then (thresherlaw14_MergeStable.l2 k x0 x3 x5 (wrap64 (x6 + 1)) x7 (x8 ++ [(([(⟨x9,(⟨#[]⟩ : ByteArray)⟩ : S31),(⟨x6,(⟨#[]⟩ : ByteArray)⟩ : S31)] : List (S31)))]) x9 (wrap64 (x10 + 1)) x149000 x149001 x149002 x149003) else (none)) else (thresherlaw14_MergeStable.l2 k x0 x3 x5 x6 x7 x8 x9 (wrap64 (x10 + 1)) x149000 x149001 x149002 x149003)) else (none)) else (none)) else (none)) else (none)) else (thresherlaw14_MergeStable.l1 k x0 x3 x5 x6 x7 x8 (wrap64 (x9 + 1)) x149000 x149001 x149002 x149003)
def thresherlaw14_MergeStable.l3 : Nat→Bool→Int→List (List (S31))→Int→Option (Bool)
 | 0,_,_,_,_=>none
 | k + 1,x3,x6,x11,x12=>if x12 < (x11.length : Int) then (if 0≤x12 then (if ((rd_L3 x11 x12).length : Int)=2 then (if x12 > 0 then (if 0≤(wrap64 (x12 - 1)) then (if (wrap64 (x12 - 1)) < (x11.length : Int) then (if 0 < ((rd_L3 x11 (wrap64 (x12 - 1))).length : Int) then (if 0 < ((rd_L3 x11 x12).length : Int) then (if ((rd_T31 (rd_L3 x11 (wrap64 (x12 - 1))) 0).f0) > ((rd_T31 (rd_L3 x11 x12) 0).f0) then (thresherlaw14_MergeStable.j6 k x3 x6 x11 x12 true) else (if ((rd_T31 (rd_L3 x11 (wrap64 (x12 - 1))) 0).f0)=((rd_T31 (rd_L3 x11 x12) 0).f0) then (if 1 < ((rd_L3 x11 (wrap64 (x12 - 1))).length : Int) then (if 1 < ((rd_L3 x11 x12).length : Int) then (thresherlaw14_MergeStable.j6 k x3 x6 x11 x12 (decide (((rd_T31 (rd_L3 x11 (wrap64 (x12 - 1))) 1).f0) ≥ ((rd_T31 (rd_L3 x11 x12) 1).f0)))) else (none)) else (none)) else (thresherlaw14_MergeStable.j6 k x3 x6 x11 x12 false))) else (none)) else (none)) else (none)) else (none)) else (thresherlaw14_MergeStable.j6 k x3 x6 x11 x12 false)) else (thresherlaw14_MergeStable.j6 k x3 x6 x11 x12 true)) else (none)) else (if x3=true then (some ((x11.length : Int) == x6)) else (some false))
def thresherlaw14_MergeStable.j6 : Nat→Bool→Int→List (List (S31))→Int→Bool→Option (Bool)
 | 0,_,_,_,_,_=>none
 | k + 1,x3,x6,x11,x12,x142=>if x142=true then (some false) else (thresherlaw14_MergeStable.l3 k x3 x6 x11 (wrap64 (x12 + 1)))
end
def thresherlaw14_MergeStable.f (k : Nat) (l0 : List (List Int)) : Option (Bool):=(thresherlaw14_shown.f k).bind fun t144=>(thresherlaw14_MergeStable.l0 k l0 t144 (([] : List (List (List (S31))))) 0 0 (([1,1] : List Int)) 1 1 4)
theorem thresherlaw14_MergeStable.mono_l : ∀ k,(∀ y0 y1 y2 y3 y4 y5 y6 y7 y8,LeO (thresherlaw14_MergeStable.l0 k y0 y1 y2 y3 y4 y5 y6 y7 y8) (thresherlaw14_MergeStable.l0 (k + 1) y0 y1 y2 y3 y4 y5 y6 y7 y8))∧(∀ y0 y1 y2 y3 y4 y5 y6 y7 y8 y9,LeO (thresherlaw14_MergeStable.j1 k y0 y1 y2 y3 y4 y5 y6 y7 y8 y9) (thresherlaw14_MergeStable.j1 (k + 1) y0 y1 y2 y3 y4 y5 y6 y7 y8 y9))∧(∀ y0 y1 y2 y3 y4 y5 y6 y7 y8 y9 y10,LeO (thresherlaw14_MergeStable.l1 k y0 y1 y2 y3 y4 y5 y6 y7 y8 y9 y10) (thresherlaw14_MergeStable.l1 (k + 1) y0 y1 y2 y3 y4 y5 y6 y7 y8 y9 y10))∧(∀ y0 y1 y2 y3 y4 y5 y6 y7 y8 y9 y10 y11,LeO (thresherlaw14_MergeStable.l2 k y0 y1 y2 y3 y4 y5 y6 y7 y8 y9 y10 y11) (thresherlaw14_MergeStable.l2 (k + 1) y0 y1 y2 y3 y4 y5 y6 y7 y8 y9 y10 y11))∧(∀ y0 y1 y2 y3 y4 y5 y6 y7 y8 y9 y10 y11 y12,LeO (thresherlaw14_MergeStable.j4 k y0 y1 y2 y3 y4 y5 y6 y7 y8 y9 y10 y11 y12) (thresherlaw14_MergeStable.j4 (k + 1) y0 y1 y2 y3 y4 y5 y6 y7 y8 y9 y10 y11 y12))∧(∀ y0 y1 y2 y3,LeO (thresherlaw14_MergeStable.l3 k y0 y1 y2 y3) (thresherlaw14_MergeStable.l3 (k + 1) y0 y1 y2 y3))∧(∀ y0 y1 y2 y3 y4,LeO (thresherlaw14_MergeStable.j6 k y0 y1 y2 y3 y4) (thresherlaw14_MergeStable.j6 (k + 1) y0 y1 y2 y3 y4))
 | 0=>⟨fun _ _ _ _ _ _ _ _ _ r h=>by simp [thresherlaw14_MergeStable.l0] at h,fun _ _ _ _ _ _ _ _ _ _ r h=>by simp [thresherlaw14_MergeStable.j1] at h,fun _ _ _ _ _ _ _ _ _ _ _ r h=>by simp [thresherlaw14_MergeStable.l1] at h,fun _ _ _ _ _ _ _ _ _ _ _ _ r h=>by simp [thresherlaw14_MergeStable.l2] at h,fun _ _ _ _ _ _ _ _ _ _ _ _ _ r h=>by simp [thresherlaw14_MergeStable.j4] at h,fun _ _ _ _ r h=>by simp [thresherlaw14_MergeStable.l3] at h,fun _ _ _ _ _ r h=>by simp [thresherlaw14_MergeStable.j6] at h⟩
 | k + 1=>by
  obtain ⟨ih0,ih1,ih2,ih3,ih4,ih5,ih6⟩:=thresherlaw14_MergeStable.mono_l k
  refine ⟨?_,?_,?_,?_,?_,?_,?_⟩
  ·intro y0 y1 y2 y3 y4 y5 y6 y7 y8
   unfold thresherlaw14_MergeStable.l0
   repeat' first
   | (with_reducible exact ih0 _ _ _ _ _ _ _ _ _)
   | (with_reducible exact ih1 _ _ _ _ _ _ _ _ _ _)
   | (with_reducible exact ih2 _ _ _ _ _ _ _ _ _ _ _)
   | (with_reducible exact ih3 _ _ _ _ _ _ _ _ _ _ _ _)
   | (with_reducible exact ih4 _ _ _ _ _ _ _ _ _ _ _ _ _)
   | (with_reducible exact ih5 _ _ _ _)
   | (with_reducible exact ih6 _ _ _ _ _)
   | (with_reducible exact merge_Rows.mono _ _ _ _ _ _)
   | (with_reducible exact thresherlaw14_shown.mono _)
   | (with_reducible exact LeO.refl _)
   | (with_reducible exact LeO.none _)
   | (with_reducible refine LeO.ite ?_ ?_)
   | (with_reducible refine LeO.bind ?_ (fun _=>?_))
   | exact ih0 _ _ _ _ _ _ _ _ _
   | exact ih1 _ _ _ _ _ _ _ _ _ _
   | exact ih2 _ _ _ _ _ _ _ _ _ _ _
   | exact ih3 _ _ _ _ _ _ _ _ _ _ _ _
   | exact ih4 _ _ _ _ _ _ _ _ _ _ _ _ _
   | exact ih5 _ _ _ _
   | exact ih6 _ _ _ _ _
   | exact merge_Rows.mono _ _ _ _ _ _
   | exact thresherlaw14_shown.mono _
   | exact LeO.none _
   | refine LeO.ite ?_ ?_
   | refine LeO.bind ?_ (fun _=>?_)
  ·intro y0 y1 y2 y3 y4 y5 y6 y7 y8 y9
   unfold thresherlaw14_MergeStable.j1
   repeat' first
   | (with_reducible exact ih0 _ _ _ _ _ _ _ _ _)
   | (with_reducible exact ih1 _ _ _ _ _ _ _ _ _ _)
   | (with_reducible exact ih2 _ _ _ _ _ _ _ _ _ _ _)
   | (with_reducible exact ih3 _ _ _ _ _ _ _ _ _ _ _ _)
   | (with_reducible exact ih4 _ _ _ _ _ _ _ _ _ _ _ _ _)
   | (with_reducible exact ih5 _ _ _ _)
   | (with_reducible exact ih6 _ _ _ _ _)
   | (with_reducible exact merge_Rows.mono _ _ _ _ _ _)
   | (with_reducible exact thresherlaw14_shown.mono _)
   | (with_reducible exact LeO.refl _)
   | (with_reducible exact LeO.none _)
   | (with_reducible refine LeO.ite ?_ ?_)
   | (with_reducible refine LeO.bind ?_ (fun _=>?_))
   | exact ih0 _ _ _ _ _ _ _ _ _
   | exact ih1 _ _ _ _ _ _ _ _ _ _
   | exact ih2 _ _ _ _ _ _ _ _ _ _ _
   | exact ih3 _ _ _ _ _ _ _ _ _ _ _ _
   | exact ih4 _ _ _ _ _ _ _ _ _ _ _ _ _
   | exact ih5 _ _ _ _
   | exact ih6 _ _ _ _ _
   | exact merge_Rows.mono _ _ _ _ _ _
   | exact thresherlaw14_shown.mono _
   | exact LeO.none _
   | refine LeO.ite ?_ ?_
   | refine LeO.bind ?_ (fun _=>?_)
  ·intro y0 y1 y2 y3 y4 y5 y6 y7 y8 y9 y10
   unfold thresherlaw14_MergeStable.l1
   repeat' first
   | (with_reducible exact ih0 _ _ _ _ _ _ _ _ _)
   | (with_reducible exact ih1 _ _ _ _ _ _ _ _ _ _)
   | (with_reducible exact ih2 _ _ _ _ _ _ _ _ _ _ _)
   | (with_reducible exact ih3 _ _ _ _ _ _ _ _ _ _ _ _)
   | (with_reducible exact ih4 _ _ _ _ _ _ _ _ _ _ _ _ _)
   | (with_reducible exact ih5 _ _ _ _)
   | (with_reducible exact ih6 _ _ _ _ _)
   | (with_reducible exact merge_Rows.mono _ _ _ _ _ _)
   | (with_reducible exact thresherlaw14_shown.mono _)
   | (with_reducible exact LeO.refl _)
   | (with_reducible exact LeO.none _)
   | (with_reducible refine LeO.ite ?_ ?_)
   | (with_reducible refine LeO.bind ?_ (fun _=>?_))
   | exact ih0 _ _ _ _ _ _ _ _ _
   | exact ih1 _ _ _ _ _ _ _ _ _ _
   | exact ih2 _ _ _ _ _ _ _ _ _ _ _
   | exact ih3 _ _ _ _ _ _ _ _ _ _ _ _
   | exact ih4 _ _ _ _ _ _ _ _ _ _ _ _ _
   | exact ih5 _ _ _ _
   | exact ih6 _ _ _ _ _
   | exact merge_Rows.mono _ _ _ _ _ _
   | exact thresherlaw14_shown.mono _
   | exact LeO.none _
   | refine LeO.ite ?_ ?_
   | refine LeO.bind ?_ (fun _=>?_)
  ·intro y0 y1 y2 y3 y4 y5 y6 y7 y8 y9 y10 y11
   unfold thresherlaw14_MergeStable.l2
   repeat' first
   | (with_reducible exact ih0 _ _ _ _ _ _ _ _ _)
   | (with_reducible exact ih1 _ _ _ _ _ _ _ _ _ _)
   | (with_reducible exact ih2 _ _ _ _ _ _ _ _ _ _ _)
   | (with_reducible exact ih3 _ _ _ _ _ _ _ _ _ _ _ _)
   | (with_reducible exact ih4 _ _ _ _ _ _ _ _ _ _ _ _ _)
   | (with_reducible exact ih5 _ _ _ _)
   | (with_reducible exact ih6 _ _ _ _ _)
   | (with_reducible exact merge_Rows.mono _ _ _ _ _ _)
   | (with_reducible exact thresherlaw14_shown.mono _)
   | (with_reducible exact LeO.refl _)
   | (with_reducible exact LeO.none _)
   | (with_reducible refine LeO.ite ?_ ?_)
   | (with_reducible refine LeO.bind ?_ (fun _=>?_))
   | exact ih0 _ _ _ _ _ _ _ _ _
   | exact ih1 _ _ _ _ _ _ _ _ _ _
   | exact ih2 _ _ _ _ _ _ _ _ _ _ _
   | exact ih3 _ _ _ _ _ _ _ _ _ _ _ _
   | exact ih4 _ _ _ _ _ _ _ _ _ _ _ _ _
   | exact ih5 _ _ _ _
   | exact ih6 _ _ _ _ _
   | exact merge_Rows.mono _ _ _ _ _ _
   | exact thresherlaw14_shown.mono _
   | exact LeO.none _
   | refine LeO.ite ?_ ?_
   | refine LeO.bind ?_ (fun _=>?_)
  ·intro y0 y1 y2 y3 y4 y5 y6 y7 y8 y9 y10 y11 y12
   unfold thresherlaw14_MergeStable.j4
   repeat' first
   | (with_reducible exact ih0 _ _ _ _ _ _ _ _ _)
   | (with_reducible exact ih1 _ _ _ _ _ _ _ _ _ _)
   | (with_reducible exact ih2 _ _ _ _ _ _ _ _ _ _ _)
   | (with_reducible exact ih3 _ _ _ _ _ _ _ _ _ _ _ _)
   | (with_reducible exact ih4 _ _ _ _ _ _ _ _ _ _ _ _ _)
   | (with_reducible exact ih5 _ _ _ _)
   | (with_reducible exact ih6 _ _ _ _ _)
   | (with_reducible exact merge_Rows.mono _ _ _ _ _ _)
   | (with_reducible exact thresherlaw14_shown.mono _)
   | (with_reducible exact LeO.refl _)
   | (with_reducible exact LeO.none _)
   | (with_reducible refine LeO.ite ?_ ?_)
   | (with_reducible refine LeO.bind ?_ (fun _=>?_))
   | exact ih0 _ _ _ _ _ _ _ _ _
   | exact ih1 _ _ _ _ _ _ _ _ _ _
   | exact ih2 _ _ _ _ _ _ _ _ _ _ _
   | exact ih3 _ _ _ _ _ _ _ _ _ _ _ _
   | exact ih4 _ _ _ _ _ _ _ _ _ _ _ _ _
   | exact ih5 _ _ _ _
   | exact ih6 _ _ _ _ _
   | exact merge_Rows.mono _ _ _ _ _ _
   | exact thresherlaw14_shown.mono _
   | exact LeO.none _
   | refine LeO.ite ?_ ?_
   | refine LeO.bind ?_ (fun _=>?_)
  ·intro y0 y1 y2 y3
   unfold thresherlaw14_MergeStable.l3
   repeat' first
   | (with_reducible exact ih0 _ _ _ _ _ _ _ _ _)
   | (with_reducible exact ih1 _ _ _ _ _ _ _ _ _ _)
   | (with_reducible exact ih2 _ _ _ _ _ _ _ _ _ _ _)
   | (with_reducible exact ih3 _ _ _ _ _ _ _ _ _ _ _ _)
   | (with_reducible exact ih4 _ _ _ _ _ _ _ _ _ _ _ _ _)
   | (with_reducible exact ih5 _ _ _ _)
   | (with_reducible exact ih6 _ _ _ _ _)
   | (with_reducible exact merge_Rows.mono _ _ _ _ _ _)
   | (with_reducible exact thresherlaw14_shown.mono _)
   | (with_reducible exact LeO.refl _)
   | (with_reducible exact LeO.none _)
   | (with_reducible refine LeO.ite ?_ ?_)
   | (with_reducible refine LeO.bind ?_ (fun _=>?_))
   | exact ih0 _ _ _ _ _ _ _ _ _
   | exact ih1 _ _ _ _ _ _ _ _ _ _
   | exact ih2 _ _ _ _ _ _ _ _ _ _ _
   | exact ih3 _ _ _ _ _ _ _ _ _ _ _ _
   | exact ih4 _ _ _ _ _ _ _ _ _ _ _ _ _
   | exact ih5 _ _ _ _
   | exact ih6 _ _ _ _ _
   | exact merge_Rows.mono _ _ _ _ _ _
   | exact thresherlaw14_shown.mono _
   | exact LeO.none _
   | refine LeO.ite ?_ ?_
   | refine LeO.bind ?_ (fun _=>?_)
  ·intro y0 y1 y2 y3 y4
   unfold thresherlaw14_MergeStable.j6
   repeat' first
   | (with_reducible exact ih0 _ _ _ _ _ _ _ _ _)
   | (with_reducible exact ih1 _ _ _ _ _ _ _ _ _ _)
   | (with_reducible exact ih2 _ _ _ _ _ _ _ _ _ _ _)
   | (with_reducible exact ih3 _ _ _ _ _ _ _ _ _ _ _ _)
   | (with_reducible exact ih4 _ _ _ _ _ _ _ _ _ _ _ _ _)
   | (with_reducible exact ih5 _ _ _ _)
   | (with_reducible exact ih6 _ _ _ _ _)
   | (with_reducible exact merge_Rows.mono _ _ _ _ _ _)
   | (with_reducible exact thresherlaw14_shown.mono _)
   | (with_reducible exact LeO.refl _)
   | (with_reducible exact LeO.none _)
   | (with_reducible refine LeO.ite ?_ ?_)
   | (with_reducible refine LeO.bind ?_ (fun _=>?_))
   | exact ih0 _ _ _ _ _ _ _ _ _
   | exact ih1 _ _ _ _ _ _ _ _ _ _
   | exact ih2 _ _ _ _ _ _ _ _ _ _ _
   | exact ih3 _ _ _ _ _ _ _ _ _ _ _ _
   | exact ih4 _ _ _ _ _ _ _ _ _ _ _ _ _
   | exact ih5 _ _ _ _
   | exact ih6 _ _ _ _ _
   | exact merge_Rows.mono _ _ _ _ _ _
   | exact thresherlaw14_shown.mono _
   | exact LeO.none _
   | refine LeO.ite ?_ ?_
   | refine LeO.bind ?_ (fun _=>?_)
theorem thresherlaw14_MergeStable.mono : ∀ a0 k,LeO (thresherlaw14_MergeStable.f k a0) (thresherlaw14_MergeStable.f (k + 1) a0):=by
 intro a0 k
 obtain ⟨ih0,ih1,ih2,ih3,ih4,ih5,ih6⟩:=thresherlaw14_MergeStable.mono_l k
 unfold thresherlaw14_MergeStable.f
 repeat' first
   | (with_reducible exact ih0 _ _ _ _ _ _ _ _ _)
   | (with_reducible exact ih1 _ _ _ _ _ _ _ _ _ _)
   | (with_reducible exact ih2 _ _ _ _ _ _ _ _ _ _ _)
   | (with_reducible exact ih3 _ _ _ _ _ _ _ _ _ _ _ _)
   | (with_reducible exact ih4 _ _ _ _ _ _ _ _ _ _ _ _ _)
   | (with_reducible exact ih5 _ _ _ _)
   | (with_reducible exact ih6 _ _ _ _ _)
   | (with_reducible exact merge_Rows.mono _ _ _ _ _ _)
   | (with_reducible exact thresherlaw14_shown.mono _)
   | (with_reducible exact LeO.refl _)
   | (with_reducible exact LeO.none _)
   | (with_reducible refine LeO.ite ?_ ?_)
   | (with_reducible refine LeO.bind ?_ (fun _=>?_))
   | exact ih0 _ _ _ _ _ _ _ _ _
   | exact ih1 _ _ _ _ _ _ _ _ _ _
   | exact ih2 _ _ _ _ _ _ _ _ _ _ _
   | exact ih3 _ _ _ _ _ _ _ _ _ _ _ _
   | exact ih4 _ _ _ _ _ _ _ _ _ _ _ _ _
   | exact ih5 _ _ _ _
   | exact ih6 _ _ _ _ _
   | exact merge_Rows.mono _ _ _ _ _ _
   | exact thresherlaw14_shown.mono _
   | exact LeO.none _
   | refine LeO.ite ?_ ?_
   | refine LeO.bind ?_ (fun _=>?_)
set_option maxHeartbeats 8000000 in
set_option maxRecDepth 100000 in
theorem thresherlaw14_MergeStable.calls (k : Nat) (A0 : Option Addr) (c0 : Nat) (l0 : List (List Int)) (r : Bool) (w : World) (hr0 : Kd.C (Kd.slice 5 (Kd.int .u8)) w A0 l0.length l0) (hc0 : l0.length≤c0) (h : thresherlaw14_MergeStable.f k l0=some r) :
  Calls Try.prog 3 #[.slice A0 l0.length c0] w fun e w'=>e=.returned (.bool r)∧Below w.heap.size w w':=by
 have hu26:=Try.underlying26
 have hu31:=Try.underlying31
 have HR0:=Aside0.mk hr0
 have HC0:=Aside0.mk hc0
 clear hr0 hc0
 have HB:=Aside0.mk (Below.refl w.heap.size w)
 have H : ((thresherlaw14_shown.f k).bind fun t144=>(thresherlaw14_MergeStable.l0 k l0 t144 (([] : List (List (List (S31))))) 0 0 (([1,1] : List Int)) 1 1 4))=some r:=h
 clear h
 replace H:=Option.bind_eq_some_iff.mp H
 obtain ⟨t144,A20,H⟩:=H
 replace H : (thresherlaw14_MergeStable.l0 k l0 t144 (([] : List (List (List (S31))))) 0 0 (([1,1] : List Int)) 1 1 4)=some r:=H
 have A2:=Aside0.mk A20
 clear A20
 obtain ⟨y145,hy145⟩ : ∃ y_ : List Int,y_=(([1,1] : List Int)):=⟨_,rfl⟩
 replace H : (thresherlaw14_MergeStable.l0 k l0 t144 (([] : List (List (List (S31))))) 0 0 y145 1 1 4)=some r:=by first|(rw [hy145];with_reducible exact H)|(have H2_:=(Option.bind_some _ _).symm.trans H;rw [hy145];with_reducible exact H2_)|(have H2_:=(Option.bind_some _ _).symm.trans H;with_reducible exact H2_)|with_reducible exact H|(rw [hy145];exact H)|exact H
 have Ny145:=Aside0.mk hy145
 clear hy145
 obtain ⟨y149,hy149⟩ : ∃ y_ : List (List (List (S31))),y_=(([] : List (List (List (S31))))):=⟨_,rfl⟩
 replace H : (thresherlaw14_MergeStable.l0 k l0 t144 y149 0 0 y145 1 1 4)=some r:=by first|(rw [hy149];with_reducible exact H)|(have H2_:=(Option.bind_some _ _).symm.trans H;rw [hy149];with_reducible exact H2_)|(have H2_:=(Option.bind_some _ _).symm.trans H;with_reducible exact H2_)|with_reducible exact H|(rw [hy149];exact H)|exact H
 have Ny149:=Aside0.mk hy149
 clear hy149
 have H':=Aside0.mk H
 clear H
 go_enter Try.func3,Try.ntmps3
 go_wp2_with (first|(go_at_call 8;(with_reducible refine (thresherlaw14_shown.calls k  t144 _ A2.out).mono ?_);rintro e w3 ⟨rfl,hb⟩;have n0_:=Aside0.mk (below_step (below_up HB.out) hb);clear HB;have HB:=n0_;clear n0_;(try clear hb);(try clear hb2);(try clear hk);(try clear hi))|((with_reducible refine gate_dst (N:=14) rfl ?_);(try (refine gate_guard (by rfl) ?_;dsimp only));refine Kd.R_lit (Kd.int .i64) _ 3 ?hg (N:=14) ?hd (xs:=([1,1] : List Int)) (inner:=[.int .i64 1,.int .i64 1]) (ok:=fun _=>True) (okp:=fun _=>True) ?hr ?hp (fun _ hk=>hk) trivial (Below.refl _ _) (Nat.le_refl _) (by simp) ?_;(case hd=>rfl);(case hg=>rfl);(case hr=>first|(go_simp;done)|(go_simp;rfl));(case hp=>exact (Reps.one (show Kd.M (Kd.int .i64) _ _ _ 1 [.int .i64 1] from rfl) (Reps.one (show Kd.M (Kd.int .i64) _ _ _ 1 [.int .i64 1] from rfl) (Reps.none _ _))));intro v146 w4 ho5 hb hg_ hnew_;clear hg_ hnew_;(first|rw [← Ny145.out] at ho5|(simp only [Int.reduceToNat] at ho5;rw [← Ny145.out] at ho5));have n0_:=Aside0.mk (Kd.R_lower ho5 (below_size (below_up HB.out)));have n1_:=Aside0.mk (below_step (below_up HB.out) hb);clear HB;have HO147:=n0_;have HB:=n1_;clear n0_ n1_;clear hb ho5;obtain ⟨Ao6,co6,eo6⟩:=Kd.R_slice HO147.out;subst eo6)|((with_reducible refine gate_dst (N:=4) rfl ?_);(try (refine gate_guard (by rfl) ?_;dsimp only));refine box_event ?hg (N:=4) ?hd (cs:=#[.slice none 0 0,.int .i64 0,.int .i64 0,.int .i64 0]) (t:=26) ?hr ?_;(case hd=>rfl);(case hg=>rfl);(case hr=>first|(go_simp;done)|(go_simp;rfl));intro gb148 hg w7 hbox hb;have n0_:=Aside0.mk (Kd.R_below (R_up HO147.out) hb);have n1_:=Aside0.mk (below_step (below_up HB.out) hb);have n2_:=Aside0.mk (hbox);have n3_:=Aside0.mk ((by rw [hg];exact (below_size (below_up HB.out)) : w.heap.size≤gb148));have n4_:=Aside0.mk ((by rw [hg];exact (below_size (below_up HB.out)) : w.heap.size≤gb148));clear HO147;clear HB;have HO147:=n0_;have HB:=n1_;have BK148:=n2_;have GW148:=n3_;have GE148:=n4_;clear n0_ n1_ n2_ n3_ n4_;clear hb hbox hg;have hcz8_0 : w7.cell? ⟨gb148,0,none⟩=some (.slice none 0 0):=(blk_cell BK148.out 0).trans rfl;have hcz8_1 : w7.cell? ⟨gb148,1,none⟩=some (.int .i64 0):=(blk_cell BK148.out 1).trans rfl;have hcz8_2 : w7.cell? ⟨gb148,2,none⟩=some (.int .i64 0):=(blk_cell BK148.out 2).trans rfl;have hcz8_3 : w7.cell? ⟨gb148,3,none⟩=some (.int .i64 0):=(blk_cell BK148.out 3).trans rfl;have hfz8_0:=blk_frozen BK148.out 0;have hfz8_1:=blk_frozen BK148.out 1;have hfz8_2:=blk_frozen BK148.out 2;have hfz8_3:=blk_frozen BK148.out 3)|((with_reducible refine gate_dst (N:=16) rfl ?_);(try (refine gate_guard (by rfl) ?_;dsimp only));refine Kd.N_lit (Kd.slice 33 (Kd.slice 31 k31)) _ 28 ?hg (N':=16) ?hd (xs:=([] : List (List (List (S31))))) (inner:=[]) (ok:=(fun k_=>some k_≠(.slice Ao6 y145.length co6 : Value).ownBlock∧k_≠gb148)) (okp:=(fun k_=>some k_≠(.slice Ao6 y145.length co6 : Value).ownBlock∧k_≠gb148)) ?hr ?hp (fun _ hk=>hk) ((show ∀ k_,_≤k_→(fun k_=>some k_≠(.slice Ao6 y145.length co6 : Value).ownBlock∧k_≠gb148) k_ from fun k_ hk=>⟨Kd.fresh' (Kd.R_lt (by (with_reducible repeat (first|apply Kd.R_alloc|apply Kd.R_drewN|apply Kd.R_drew));exact (Kd.R_mono (Kd.R_far (p:=⟨gb148,3,none⟩) (Kd.R_far (p:=⟨gb148,2,none⟩) (Kd.R_far (p:=⟨gb148,1,none⟩) (Kd.R_far (p:=⟨gb148,0,none⟩) (Kd.R_types HO147.out BK148.out (by decide)) (fun _ hk=>hk.2) (.slice Ao6 y145.length co6)) (fun _ hk=>hk.2) (.int .i64 1)) (fun _ hk=>hk.2) (.int .i64 1)) (fun _ hk=>hk.2) (.int .i64 4)) (fun _ h_=>h_.1)))) k_ hk,Kd.freshB (g:=gb148) (o:=.cells #[.slice Ao6 y145.length co6,.int .i64 1,.int .i64 1,.int .i64 4] 26 (0,0)) (by (with_reducible repeat (first|refine blk_drewN ?_ _|refine blk_drew ?_|refine blk_alloc ?_ _));refine blk_put (cs:=#[.slice Ao6 y145.length co6,.int .i64 1,.int .i64 1,.int .i64 0]) ?_ 3 _ rfl;(with_reducible repeat (first|refine blk_drewN ?_ _|refine blk_drew ?_|refine blk_alloc ?_ _));refine blk_put (cs:=#[.slice Ao6 y145.length co6,.int .i64 1,.int .i64 0,.int .i64 0]) ?_ 2 _ rfl;(with_reducible repeat (first|refine blk_drewN ?_ _|refine blk_drew ?_|refine blk_alloc ?_ _));refine blk_put (cs:=#[.slice Ao6 y145.length co6,.int .i64 0,.int .i64 0,.int .i64 0]) ?_ 1 _ rfl;(with_reducible repeat (first|refine blk_drewN ?_ _|refine blk_drew ?_|refine blk_alloc ?_ _));refine blk_put (cs:=#[.slice none 0 0,.int .i64 0,.int .i64 0,.int .i64 0]) ?_ 0 _ rfl;(with_reducible repeat (first|refine blk_drewN ?_ _|refine blk_drew ?_|refine blk_alloc ?_ _));exact BK148.out) k_ hk⟩) _ (Nat.le_refl _)) (Below.refl _ _) (Nat.le_refl _) (by simp) ?_;(case hd=>rfl);(case hg=>rfl);(case hr=>first|(go_simp;done)|(go_simp;rfl));(case hp=>exact (Reps.none _ _));intro v150 w9 ho10 hb hg_ hnew_;clear hg_ hnew_;(first|rw [← Ny149.out] at ho10|(simp only [Int.reduceToNat] at ho10;rw [← Ny149.out] at ho10));have n0_:=Aside0.mk (Kd.R_below (by (with_reducible repeat (first|apply Kd.R_alloc|apply Kd.R_drewN|apply Kd.R_drew));exact (Kd.R_mono (Kd.R_far (p:=⟨gb148,3,none⟩) (Kd.R_far (p:=⟨gb148,2,none⟩) (Kd.R_far (p:=⟨gb148,1,none⟩) (Kd.R_far (p:=⟨gb148,0,none⟩) (Kd.R_types HO147.out BK148.out (by decide)) (fun _ hk=>hk.2) (.slice Ao6 y145.length co6)) (fun _ hk=>hk.2) (.int .i64 1)) (fun _ hk=>hk.2) (.int .i64 1)) (fun _ hk=>hk.2) (.int .i64 4)) (fun _ h_=>h_.1))) hb);have n1_:=Aside0.mk (Kd.N_lower ho10 (below_size (below_go HB.out)));have n2_:=Aside0.mk (blk_below (g:=gb148) (o:=.cells #[.slice Ao6 y145.length co6,.int .i64 1,.int .i64 1,.int .i64 4] 26 (0,0)) (by (with_reducible repeat (first|refine blk_drewN ?_ _|refine blk_drew ?_|refine blk_alloc ?_ _));refine blk_put (cs:=#[.slice Ao6 y145.length co6,.int .i64 1,.int .i64 1,.int .i64 0]) ?_ 3 _ rfl;(with_reducible repeat (first|refine blk_drewN ?_ _|refine blk_drew ?_|refine blk_alloc ?_ _));refine blk_put (cs:=#[.slice Ao6 y145.length co6,.int .i64 1,.int .i64 0,.int .i64 0]) ?_ 2 _ rfl;(with_reducible repeat (first|refine blk_drewN ?_ _|refine blk_drew ?_|refine blk_alloc ?_ _));refine blk_put (cs:=#[.slice Ao6 y145.length co6,.int .i64 0,.int .i64 0,.int .i64 0]) ?_ 1 _ rfl;(with_reducible repeat (first|refine blk_drewN ?_ _|refine blk_drew ?_|refine blk_alloc ?_ _));refine blk_put (cs:=#[.slice none 0 0,.int .i64 0,.int .i64 0,.int .i64 0]) ?_ 0 _ rfl;(with_reducible repeat (first|refine blk_drewN ?_ _|refine blk_drew ?_|refine blk_alloc ?_ _));exact BK148.out) hb);have n3_:=Aside0.mk (below_step (below_go HB.out) hb);clear HO147;clear BK148;clear HB;have HO147:=n0_;have HO151:=n1_;have BK148:=n2_;have HB:=n3_;clear n0_ n1_ n2_ n3_;clear hb ho10))
 repeat (go_quiet (first|(go_at_call 8;(with_reducible refine (thresherlaw14_shown.calls k  t144 _ A2.out).mono ?_);rintro e w3 ⟨rfl,hb⟩;have n0_:=Aside0.mk (below_step (below_up HB.out) hb);clear HB;have HB:=n0_;clear n0_;(try clear hb);(try clear hb2);(try clear hk);(try clear hi))|((with_reducible refine gate_dst (N:=14) rfl ?_);(try (refine gate_guard (by rfl) ?_;dsimp only));refine Kd.R_lit (Kd.int .i64) _ 3 ?hg (N:=14) ?hd (xs:=([1,1] : List Int)) (inner:=[.int .i64 1,.int .i64 1]) (ok:=fun _=>True) (okp:=fun _=>True) ?hr ?hp (fun _ hk=>hk) trivial (Below.refl _ _) (Nat.le_refl _) (by simp) ?_;(case hd=>rfl);(case hg=>rfl);(case hr=>first|(go_simp;done)|(go_simp;rfl));(case hp=>exact (Reps.one (show Kd.M (Kd.int .i64) _ _ _ 1 [.int .i64 1] from rfl) (Reps.one (show Kd.M (Kd.int .i64) _ _ _ 1 [.int .i64 1] from rfl) (Reps.none _ _))));intro v146 w4 ho5 hb hg_ hnew_;clear hg_ hnew_;(first|rw [← Ny145.out] at ho5|(simp only [Int.reduceToNat] at ho5;rw [← Ny145.out] at ho5));have n0_:=Aside0.mk (Kd.R_lower ho5 (below_size (below_up HB.out)));have n1_:=Aside0.mk (below_step (below_up HB.out) hb);clear HB;have HO147:=n0_;have HB:=n1_;clear n0_ n1_;clear hb ho5;obtain ⟨Ao6,co6,eo6⟩:=Kd.R_slice HO147.out;subst eo6)|((with_reducible refine gate_dst (N:=4) rfl ?_);(try (refine gate_guard (by rfl) ?_;dsimp only));refine box_event ?hg (N:=4) ?hd (cs:=#[.slice none 0 0,.int .i64 0,.int .i64 0,.int .i64 0]) (t:=26) ?hr ?_;(case hd=>rfl);(case hg=>rfl);(case hr=>first|(go_simp;done)|(go_simp;rfl));intro gb148 hg w7 hbox hb;have n0_:=Aside0.mk (Kd.R_below (R_up HO147.out) hb);have n1_:=Aside0.mk (below_step (below_up HB.out) hb);have n2_:=Aside0.mk (hbox);have n3_:=Aside0.mk ((by rw [hg];exact (below_size (below_up HB.out)) : w.heap.size≤gb148));have n4_:=Aside0.mk ((by rw [hg];exact (below_size (below_up HB.out)) : w.heap.size≤gb148));clear HO147;clear HB;have HO147:=n0_;have HB:=n1_;have BK148:=n2_;have GW148:=n3_;have GE148:=n4_;clear n0_ n1_ n2_ n3_ n4_;clear hb hbox hg;have hcz8_0 : w7.cell? ⟨gb148,0,none⟩=some (.slice none 0 0):=(blk_cell BK148.out 0).trans rfl;have hcz8_1 : w7.cell? ⟨gb148,1,none⟩=some (.int .i64 0):=(blk_cell BK148.out 1).trans rfl;have hcz8_2 : w7.cell? ⟨gb148,2,none⟩=some (.int .i64 0):=(blk_cell BK148.out 2).trans rfl;have hcz8_3 : w7.cell? ⟨gb148,3,none⟩=some (.int .i64 0):=(blk_cell BK148.out 3).trans rfl;have hfz8_0:=blk_frozen BK148.out 0;have hfz8_1:=blk_frozen BK148.out 1;have hfz8_2:=blk_frozen BK148.out 2;have hfz8_3:=blk_frozen BK148.out 3)|((with_reducible refine gate_dst (N:=16) rfl ?_);(try (refine gate_guard (by rfl) ?_;dsimp only));refine Kd.N_lit (Kd.slice 33 (Kd.slice 31 k31)) _ 28 ?hg (N':=16) ?hd (xs:=([] : List (List (List (S31))))) (inner:=[]) (ok:=(fun k_=>some k_≠(.slice Ao6 y145.length co6 : Value).ownBlock∧k_≠gb148)) (okp:=(fun k_=>some k_≠(.slice Ao6 y145.length co6 : Value).ownBlock∧k_≠gb148)) ?hr ?hp (fun _ hk=>hk) ((show ∀ k_,_≤k_→(fun k_=>some k_≠(.slice Ao6 y145.length co6 : Value).ownBlock∧k_≠gb148) k_ from fun k_ hk=>⟨Kd.fresh' (Kd.R_lt (by (with_reducible repeat (first|apply Kd.R_alloc|apply Kd.R_drewN|apply Kd.R_drew));exact (Kd.R_mono (Kd.R_far (p:=⟨gb148,3,none⟩) (Kd.R_far (p:=⟨gb148,2,none⟩) (Kd.R_far (p:=⟨gb148,1,none⟩) (Kd.R_far (p:=⟨gb148,0,none⟩) (Kd.R_types HO147.out BK148.out (by decide)) (fun _ hk=>hk.2) (.slice Ao6 y145.length co6)) (fun _ hk=>hk.2) (.int .i64 1)) (fun _ hk=>hk.2) (.int .i64 1)) (fun _ hk=>hk.2) (.int .i64 4)) (fun _ h_=>h_.1)))) k_ hk,Kd.freshB (g:=gb148) (o:=.cells #[.slice Ao6 y145.length co6,.int .i64 1,.int .i64 1,.int .i64 4] 26 (0,0)) (by (with_reducible repeat (first|refine blk_drewN ?_ _|refine blk_drew ?_|refine blk_alloc ?_ _));refine blk_put (cs:=#[.slice Ao6 y145.length co6,.int .i64 1,.int .i64 1,.int .i64 0]) ?_ 3 _ rfl;(with_reducible repeat (first|refine blk_drewN ?_ _|refine blk_drew ?_|refine blk_alloc ?_ _));refine blk_put (cs:=#[.slice Ao6 y145.length co6,.int .i64 1,.int .i64 0,.int .i64 0]) ?_ 2 _ rfl;(with_reducible repeat (first|refine blk_drewN ?_ _|refine blk_drew ?_|refine blk_alloc ?_ _));refine blk_put (cs:=#[.slice Ao6 y145.length co6,.int .i64 0,.int .i64 0,.int .i64 0]) ?_ 1 _ rfl;(with_reducible repeat (first|refine blk_drewN ?_ _|refine blk_drew ?_|refine blk_alloc ?_ _));refine blk_put (cs:=#[.slice none 0 0,.int .i64 0,.int .i64 0,.int .i64 0]) ?_ 0 _ rfl;(with_reducible repeat (first|refine blk_drewN ?_ _|refine blk_drew ?_|refine blk_alloc ?_ _));exact BK148.out) k_ hk⟩) _ (Nat.le_refl _)) (Below.refl _ _) (Nat.le_refl _) (by simp) ?_;(case hd=>rfl);(case hg=>rfl);(case hr=>first|(go_simp;done)|(go_simp;rfl));(case hp=>exact (Reps.none _ _));intro v150 w9 ho10 hb hg_ hnew_;clear hg_ hnew_;(first|rw [← Ny149.out] at ho10|(simp only [Int.reduceToNat] at ho10;rw [← Ny149.out] at ho10));have n0_:=Aside0.mk (Kd.R_below (by (with_reducible repeat (first|apply Kd.R_alloc|apply Kd.R_drewN|apply Kd.R_drew));exact (Kd.R_mono (Kd.R_far (p:=⟨gb148,3,none⟩) (Kd.R_far (p:=⟨gb148,2,none⟩) (Kd.R_far (p:=⟨gb148,1,none⟩) (Kd.R_far (p:=⟨gb148,0,none⟩) (Kd.R_types HO147.out BK148.out (by decide)) (fun _ hk=>hk.2) (.slice Ao6 y145.length co6)) (fun _ hk=>hk.2) (.int .i64 1)) (fun _ hk=>hk.2) (.int .i64 1)) (fun _ hk=>hk.2) (.int .i64 4)) (fun _ h_=>h_.1))) hb);have n1_:=Aside0.mk (Kd.N_lower ho10 (below_size (below_go HB.out)));have n2_:=Aside0.mk (blk_below (g:=gb148) (o:=.cells #[.slice Ao6 y145.length co6,.int .i64 1,.int .i64 1,.int .i64 4] 26 (0,0)) (by (with_reducible repeat (first|refine blk_drewN ?_ _|refine blk_drew ?_|refine blk_alloc ?_ _));refine blk_put (cs:=#[.slice Ao6 y145.length co6,.int .i64 1,.int .i64 1,.int .i64 0]) ?_ 3 _ rfl;(with_reducible repeat (first|refine blk_drewN ?_ _|refine blk_drew ?_|refine blk_alloc ?_ _));refine blk_put (cs:=#[.slice Ao6 y145.length co6,.int .i64 1,.int .i64 0,.int .i64 0]) ?_ 2 _ rfl;(with_reducible repeat (first|refine blk_drewN ?_ _|refine blk_drew ?_|refine blk_alloc ?_ _));refine blk_put (cs:=#[.slice Ao6 y145.length co6,.int .i64 0,.int .i64 0,.int .i64 0]) ?_ 1 _ rfl;(with_reducible repeat (first|refine blk_drewN ?_ _|refine blk_drew ?_|refine blk_alloc ?_ _));refine blk_put (cs:=#[.slice none 0 0,.int .i64 0,.int .i64 0,.int .i64 0]) ?_ 0 _ rfl;(with_reducible repeat (first|refine blk_drewN ?_ _|refine blk_drew ?_|refine blk_alloc ?_ _));exact BK148.out) hb);have n3_:=Aside0.mk (below_step (below_go HB.out) hb);clear HO147;clear BK148;clear HB;have HO147:=n0_;have HO151:=n1_;have BK148:=n2_;have HB:=n3_;clear n0_ n1_ n2_ n3_;clear hb ho10));try go_wp2_with (first|(go_at_call 8;(with_reducible refine (thresherlaw14_shown.calls k  t144 _ A2.out).mono ?_);rintro e w3 ⟨rfl,hb⟩;have n0_:=Aside0.mk (below_step (below_up HB.out) hb);clear HB;have HB:=n0_;clear n0_;(try clear hb);(try clear hb2);(try clear hk);(try clear hi))|((with_reducible refine gate_dst (N:=14) rfl ?_);(try (refine gate_guard (by rfl) ?_;dsimp only));refine Kd.R_lit (Kd.int .i64) _ 3 ?hg (N:=14) ?hd (xs:=([1,1] : List Int)) (inner:=[.int .i64 1,.int .i64 1]) (ok:=fun _=>True) (okp:=fun _=>True) ?hr ?hp (fun _ hk=>hk) trivial (Below.refl _ _) (Nat.le_refl _) (by simp) ?_;(case hd=>rfl);(case hg=>rfl);(case hr=>first|(go_simp;done)|(go_simp;rfl));(case hp=>exact (Reps.one (show Kd.M (Kd.int .i64) _ _ _ 1 [.int .i64 1] from rfl) (Reps.one (show Kd.M (Kd.int .i64) _ _ _ 1 [.int .i64 1] from rfl) (Reps.none _ _))));intro v146 w4 ho5 hb hg_ hnew_;clear hg_ hnew_;(first|rw [← Ny145.out] at ho5|(simp only [Int.reduceToNat] at ho5;rw [← Ny145.out] at ho5));have n0_:=Aside0.mk (Kd.R_lower ho5 (below_size (below_up HB.out)));have n1_:=Aside0.mk (below_step (below_up HB.out) hb);clear HB;have HO147:=n0_;have HB:=n1_;clear n0_ n1_;clear hb ho5;obtain ⟨Ao6,co6,eo6⟩:=Kd.R_slice HO147.out;subst eo6)|((with_reducible refine gate_dst (N:=4) rfl ?_);(try (refine gate_guard (by rfl) ?_;dsimp only));refine box_event ?hg (N:=4) ?hd (cs:=#[.slice none 0 0,.int .i64 0,.int .i64 0,.int .i64 0]) (t:=26) ?hr ?_;(case hd=>rfl);(case hg=>rfl);(case hr=>first|(go_simp;done)|(go_simp;rfl));intro gb148 hg w7 hbox hb;have n0_:=Aside0.mk (Kd.R_below (R_up HO147.out) hb);have n1_:=Aside0.mk (below_step (below_up HB.out) hb);have n2_:=Aside0.mk (hbox);have n3_:=Aside0.mk ((by rw [hg];exact (below_size (below_up HB.out)) : w.heap.size≤gb148));have n4_:=Aside0.mk ((by rw [hg];exact (below_size (below_up HB.out)) : w.heap.size≤gb148));clear HO147;clear HB;have HO147:=n0_;have HB:=n1_;have BK148:=n2_;have GW148:=n3_;have GE148:=n4_;clear n0_ n1_ n2_ n3_ n4_;clear hb hbox hg;have hcz8_0 : w7.cell? ⟨gb148,0,none⟩=some (.slice none 0 0):=(blk_cell BK148.out 0).trans rfl;have hcz8_1 : w7.cell? ⟨gb148,1,none⟩=some (.int .i64 0):=(blk_cell BK148.out 1).trans rfl;have hcz8_2 : w7.cell? ⟨gb148,2,none⟩=some (.int .i64 0):=(blk_cell BK148.out 2).trans rfl;have hcz8_3 : w7.cell? ⟨gb148,3,none⟩=some (.int .i64 0):=(blk_cell BK148.out 3).trans rfl;have hfz8_0:=blk_frozen BK148.out 0;have hfz8_1:=blk_frozen BK148.out 1;have hfz8_2:=blk_frozen BK148.out 2;have hfz8_3:=blk_frozen BK148.out 3)|((with_reducible refine gate_dst (N:=16) rfl ?_);(try (refine gate_guard (by rfl) ?_;dsimp only));refine Kd.N_lit (Kd.slice 33 (Kd.slice 31 k31)) _ 28 ?hg (N':=16) ?hd (xs:=([] : List (List (List (S31))))) (inner:=[]) (ok:=(fun k_=>some k_≠(.slice Ao6 y145.length co6 : Value).ownBlock∧k_≠gb148)) (okp:=(fun k_=>some k_≠(.slice Ao6 y145.length co6 : Value).ownBlock∧k_≠gb148)) ?hr ?hp (fun _ hk=>hk) ((show ∀ k_,_≤k_→(fun k_=>some k_≠(.slice Ao6 y145.length co6 : Value).ownBlock∧k_≠gb148) k_ from fun k_ hk=>⟨Kd.fresh' (Kd.R_lt (by (with_reducible repeat (first|apply Kd.R_alloc|apply Kd.R_drewN|apply Kd.R_drew));exact (Kd.R_mono (Kd.R_far (p:=⟨gb148,3,none⟩) (Kd.R_far (p:=⟨gb148,2,none⟩) (Kd.R_far (p:=⟨gb148,1,none⟩) (Kd.R_far (p:=⟨gb148,0,none⟩) (Kd.R_types HO147.out BK148.out (by decide)) (fun _ hk=>hk.2) (.slice Ao6 y145.length co6)) (fun _ hk=>hk.2) (.int .i64 1)) (fun _ hk=>hk.2) (.int .i64 1)) (fun _ hk=>hk.2) (.int .i64 4)) (fun _ h_=>h_.1)))) k_ hk,Kd.freshB (g:=gb148) (o:=.cells #[.slice Ao6 y145.length co6,.int .i64 1,.int .i64 1,.int .i64 4] 26 (0,0)) (by (with_reducible repeat (first|refine blk_drewN ?_ _|refine blk_drew ?_|refine blk_alloc ?_ _));refine blk_put (cs:=#[.slice Ao6 y145.length co6,.int .i64 1,.int .i64 1,.int .i64 0]) ?_ 3 _ rfl;(with_reducible repeat (first|refine blk_drewN ?_ _|refine blk_drew ?_|refine blk_alloc ?_ _));refine blk_put (cs:=#[.slice Ao6 y145.length co6,.int .i64 1,.int .i64 0,.int .i64 0]) ?_ 2 _ rfl;(with_reducible repeat (first|refine blk_drewN ?_ _|refine blk_drew ?_|refine blk_alloc ?_ _));refine blk_put (cs:=#[.slice Ao6 y145.length co6,.int .i64 0,.int .i64 0,.int .i64 0]) ?_ 1 _ rfl;(with_reducible repeat (first|refine blk_drewN ?_ _|refine blk_drew ?_|refine blk_alloc ?_ _));refine blk_put (cs:=#[.slice none 0 0,.int .i64 0,.int .i64 0,.int .i64 0]) ?_ 0 _ rfl;(with_reducible repeat (first|refine blk_drewN ?_ _|refine blk_drew ?_|refine blk_alloc ?_ _));exact BK148.out) k_ hk⟩) _ (Nat.le_refl _)) (Below.refl _ _) (Nat.le_refl _) (by simp) ?_;(case hd=>rfl);(case hg=>rfl);(case hr=>first|(go_simp;done)|(go_simp;rfl));(case hp=>exact (Reps.none _ _));intro v150 w9 ho10 hb hg_ hnew_;clear hg_ hnew_;(first|rw [← Ny149.out] at ho10|(simp only [Int.reduceToNat] at ho10;rw [← Ny149.out] at ho10));have n0_:=Aside0.mk (Kd.R_below (by (with_reducible repeat (first|apply Kd.R_alloc|apply Kd.R_drewN|apply Kd.R_drew));exact (Kd.R_mono (Kd.R_far (p:=⟨gb148,3,none⟩) (Kd.R_far (p:=⟨gb148,2,none⟩) (Kd.R_far (p:=⟨gb148,1,none⟩) (Kd.R_far (p:=⟨gb148,0,none⟩) (Kd.R_types HO147.out BK148.out (by decide)) (fun _ hk=>hk.2) (.slice Ao6 y145.length co6)) (fun _ hk=>hk.2) (.int .i64 1)) (fun _ hk=>hk.2) (.int .i64 1)) (fun _ hk=>hk.2) (.int .i64 4)) (fun _ h_=>h_.1))) hb);have n1_:=Aside0.mk (Kd.N_lower ho10 (below_size (below_go HB.out)));have n2_:=Aside0.mk (blk_below (g:=gb148) (o:=.cells #[.slice Ao6 y145.length co6,.int .i64 1,.int .i64 1,.int .i64 4] 26 (0,0)) (by (with_reducible repeat (first|refine blk_drewN ?_ _|refine blk_drew ?_|refine blk_alloc ?_ _));refine blk_put (cs:=#[.slice Ao6 y145.length co6,.int .i64 1,.int .i64 1,.int .i64 0]) ?_ 3 _ rfl;(with_reducible repeat (first|refine blk_drewN ?_ _|refine blk_drew ?_|refine blk_alloc ?_ _));refine blk_put (cs:=#[.slice Ao6 y145.length co6,.int .i64 1,.int .i64 0,.int .i64 0]) ?_ 2 _ rfl;(with_reducible repeat (first|refine blk_drewN ?_ _|refine blk_drew ?_|refine blk_alloc ?_ _));refine blk_put (cs:=#[.slice Ao6 y145.length co6,.int .i64 0,.int .i64 0,.int .i64 0]) ?_ 1 _ rfl;(with_reducible repeat (first|refine blk_drewN ?_ _|refine blk_drew ?_|refine blk_alloc ?_ _));refine blk_put (cs:=#[.slice none 0 0,.int .i64 0,.int .i64 0,.int .i64 0]) ?_ 0 _ rfl;(with_reducible repeat (first|refine blk_drewN ?_ _|refine blk_drew ?_|refine blk_alloc ?_ _));exact BK148.out) hb);have n3_:=Aside0.mk (below_step (below_go HB.out) hb);clear HO147;clear BK148;clear HB;have HO147:=n0_;have HO151:=n1_;have BK148:=n2_;have HB:=n3_;clear n0_ n1_ n2_ n3_;clear hb ho10)))
 go_loopg [5,6,7] k (fun kq v5 v6 v7 w'=>∃ (x5_1 : List (List (List (S31)))) (x6_1 : Int) (x7_1 : Int),v6=.int .i64 x6_1∧v7=.int .i64 x7_1∧Aside0 (thresherlaw14_MergeStable.l0 kq l0 t144 x5_1 x6_1 x7_1 y145 1 1 4=some r)∧Aside0 (kq≤k)∧Aside0 (Kd.N (Kd.slice 33 (Kd.slice 31 k31)) 28 w' w.heap.size (fun k_=>some k_≠((.slice Ao6 y145.length co6) : Value).ownBlock∧k_≠gb148) v5 x5_1)∧Aside0 (Kd.R (Kd.int .i64) 3 w' w.heap.size (fun _=>True) (.slice Ao6 y145.length co6) y145)∧Aside0 (w'.heap[gb148]?=some (.cells #[(.slice Ao6 y145.length co6),.int .i64 1,.int .i64 1,.int .i64 4] 26 (0,0)))∧Aside0 (Below w.heap.size w w'))
 case atStart=>exact ⟨(y149),(0),(0),(by first|rfl|(simp;done)|(simp [*];done)),(by first|rfl|(simp;done)|(simp [*];done)),H',⟨Nat.le_refl _⟩,⟨by (with_reducible repeat (first|apply Kd.N_alloc|apply Kd.N_drewN|apply Kd.N_drew));exact HO151.out⟩,⟨by (with_reducible repeat (first|apply Kd.R_alloc|apply Kd.R_drewN|apply Kd.R_drew));exact HO147.out⟩,⟨by (with_reducible repeat (first|refine blk_drewN ?_ _|refine blk_drew ?_|refine blk_alloc ?_ _));exact BK148.out⟩,⟨by repeat (first|(with_reducible first|exact HB.out|apply below_alloc|apply pw_below_drewN|apply below_drew1|refine below_set ?_ GE148.out)|exact HB.out)⟩⟩
 case round =>
  clear H'
  try clear p2
  try clear c3
  try clear hcz8_0
  try clear hcz8_1
  try clear hcz8_2
  try clear hcz8_3
  try clear hfz8_0
  try clear hfz8_1
  try clear hfz8_2
  try clear hfz8_3
  obtain ⟨x5_1,x6_1,x7_1,rfl,rfl,HA,HK1,HO_5,HO_149000,BK148,HB⟩:=hrel
  cases gk with
  | zero=>exact absurd HA.out (by simp [thresherlaw14_MergeStable.l0])
  | succ k1 =>
   have H:=HA.out
   clear HA
   simp only [thresherlaw14_MergeStable.l0] at H
   have HC11:=Aside0.mk H
   clear H
   go_upto_region 6 with (fail)
   repeat (go_quiet (fail);go_upto_region 6 with (fail))
   go_cut [24] (fun v24 wc=>∃ (kq : Nat) (x24_10 : Bool),v24=.bool x24_10∧Aside0 (thresherlaw14_MergeStable.j1 kq l0 t144 x5_1 x6_1 x7_1 x24_10 y145 1 1 4=some r)∧Aside0 (kq≤k1)∧Aside0 (Kd.N (Kd.slice 33 (Kd.slice 31 k31)) 28 wc w.heap.size (fun k_=>some k_≠((.slice Ao6 y145.length co6) : Value).ownBlock∧k_≠gb148) u5 x5_1)∧Aside0 (Kd.R (Kd.int .i64) 3 wc w.heap.size (fun _=>True) (.slice Ao6 y145.length co6) y145)∧Aside0 (wc.heap[gb148]?=some (.cells #[(.slice Ao6 y145.length co6),.int .i64 1,.int .i64 1,.int .i64 4] 26 (0,0)))∧Aside0 (Below w.heap.size w wc))
   case first =>
    have H:=HC11.out
    clear HC11
    by_cases c12 : x7_1 < (l0.length : Int)
    ·rw [if_pos c12] at H
     have c12b0 : decide (x7_1 < (l0.length : Int))=true:=decide_eq_true c12
     clear c12
     (first|rw [c12b0]|(simp only [i64_w,i32_w];rw [c12b0])|skip)
     have H':=Aside0.mk H
     clear H
     go_wp2
     repeat (go_quiet (fail);try go_wp2)
     go_meet
     case rel=>exact ⟨_,(decide (x7_1 < 8)),(by first|rfl|(simp;done)|(simp [*];done)),(by first|exact H'|(subst_vars;exact H')),⟨by have:=HK1.out;first|omega|exact Nat.le_refl _⟩,⟨by (with_reducible repeat (first|apply Kd.N_alloc|apply Kd.N_drewN|apply Kd.N_drew));exact HO_5.out⟩,⟨by (with_reducible repeat (first|apply Kd.R_alloc|apply Kd.R_drewN|apply Kd.R_drew));exact HO_149000.out⟩,⟨by (with_reducible repeat (first|refine blk_drewN ?_ _|refine blk_drew ?_|refine blk_alloc ?_ _));exact BK148.out⟩,⟨by repeat (first|(with_reducible first|exact HB.out|apply below_alloc|apply pw_below_drewN|apply below_drew1|refine below_set ?_ GE148.out)|exact HB.out)⟩⟩
    ·rw [if_neg c12] at H
     have c12b0 : decide (x7_1 < (l0.length : Int))=false:=decide_eq_false c12
     clear c12
     (first|rw [c12b0]|(simp only [i64_w,i32_w];rw [c12b0])|skip)
     have H':=Aside0.mk H
     clear H
     go_wp2
     repeat (go_quiet (fail);try go_wp2)
     go_meet
     case rel=>exact ⟨_,(false),(by first|rfl|(simp;done)|(simp [*];done)),(by first|exact H'|(subst_vars;exact H')),⟨by have:=HK1.out;first|omega|exact Nat.le_refl _⟩,⟨by (with_reducible repeat (first|apply Kd.N_alloc|apply Kd.N_drewN|apply Kd.N_drew));exact HO_5.out⟩,⟨by (with_reducible repeat (first|apply Kd.R_alloc|apply Kd.R_drewN|apply Kd.R_drew));exact HO_149000.out⟩,⟨by (with_reducible repeat (first|refine blk_drewN ?_ _|refine blk_drew ?_|refine blk_alloc ?_ _));exact BK148.out⟩,⟨by repeat (first|(with_reducible first|exact HB.out|apply below_alloc|apply pw_below_drewN|apply below_drew1|refine below_set ?_ GE148.out)|exact HB.out)⟩⟩
   case rest =>
    clear HC11
    try clear c1
    try clear p2
    try clear c3
    try clear c12
    try clear c12b0
    try clear hcz8_0
    try clear hcz8_1
    try clear hcz8_2
    try clear hcz8_3
    try clear hfz8_0
    try clear hfz8_1
    try clear hfz8_2
    try clear hfz8_3
    try clear p2
    obtain ⟨kq,x24_10,rfl,HA,HJ10,HO_5,HO_149000,BK148,HB⟩:=hcut
    cases kq with
    | zero=>exact absurd HA.out (by simp [thresherlaw14_MergeStable.j1])
    | succ kj10 =>
     have H:=HA.out
     clear HA
     simp only [thresherlaw14_MergeStable.j1] at H
     by_cases c13 : x24_10=true
     ·subst c13
      have H1 : (thresherlaw14_MergeStable.l1 kj10 l0 t144 x5_1 x6_1 x7_1 (([] : List (List (S31)))) 0 y145 1 1 4)=some r:=by rw [if_pos rfl] at H;exact H
      clear H
      have H:=H1
      clear H1
      obtain ⟨y152,hy152⟩ : ∃ y_ : List (List (S31)),y_=(([] : List (List (S31)))):=⟨_,rfl⟩
      replace H : (thresherlaw14_MergeStable.l1 kj10 l0 t144 x5_1 x6_1 x7_1 y152 0 y145 1 1 4)=some r:=by first|(rw [hy152];with_reducible exact H)|(have H2_:=(Option.bind_some _ _).symm.trans H;rw [hy152];with_reducible exact H2_)|(have H2_:=(Option.bind_some _ _).symm.trans H;with_reducible exact H2_)|with_reducible exact H|(rw [hy152];exact H)|exact H
      have Ny152:=Aside0.mk hy152
      clear hy152
      have H':=Aside0.mk H
      clear H
      go_wp2_with (first|((with_reducible refine gate_dst (N:=27) rfl ?_);(try (refine gate_guard (by rfl) ?_;dsimp only));refine Kd.N_lit (Kd.slice 31 k31) _ 33 ?hg (N':=27) ?hd (xs:=([] : List (List (S31)))) (inner:=[]) (ok:=(fun k_=>some k_≠(u5 : Value).ownBlock∧some k_≠(.slice Ao6 y145.length co6 : Value).ownBlock∧k_≠gb148)) (okp:=(fun k_=>some k_≠(u5 : Value).ownBlock∧some k_≠(.slice Ao6 y145.length co6 : Value).ownBlock∧k_≠gb148)) ?hr ?hp (fun _ hk=>hk) ((show ∀ k_,wc.heap.size≤k_→(fun k_=>some k_≠(u5 : Value).ownBlock∧some k_≠(.slice Ao6 y145.length co6 : Value).ownBlock∧k_≠gb148) k_ from fun k_ hk=>⟨Kd.fresh' (Kd.N_lt (N_up HO_5.out)) k_ hk,Kd.fresh' (Kd.R_lt (R_up HO_149000.out)) k_ hk,Kd.freshB (blk_up BK148.out) k_ hk⟩) _ (Nat.le_refl _)) (Below.refl _ _) (Nat.le_refl _) (by simp) ?_;(case hd=>rfl);(case hg=>rfl);(case hr=>first|(go_simp;done)|(go_simp;rfl));(case hp=>exact (Reps.none _ _));intro v153 w14 ho15 hb hg_ hnew_;clear hg_ hnew_;(first|rw [← Ny152.out] at ho15|(simp only [Int.reduceToNat] at ho15;rw [← Ny152.out] at ho15));have n0_:=Aside0.mk (Kd.N_elder' (N_up HO_5.out) (Kd.N_base ho15) hb);have n1_:=Aside0.mk (Kd.R_below (R_up HO_149000.out) hb);have n2_:=Aside0.mk (Kd.N_lower ho15 (below_size (below_go HB.out)));have n3_:=Aside0.mk (blk_below (blk_up BK148.out) hb);have n4_:=Aside0.mk (below_step (below_go HB.out) hb);clear HO_5;clear HO_149000;clear BK148;clear HB;have HO_5:=n0_;have HO_149000:=n1_;have HO154:=n2_;have BK148:=n3_;have HB:=n4_;clear n0_ n1_ n2_ n3_ n4_;clear hb ho15))
      repeat (go_quiet (first|((with_reducible refine gate_dst (N:=27) rfl ?_);(try (refine gate_guard (by rfl) ?_;dsimp only));refine Kd.N_lit (Kd.slice 31 k31) _ 33 ?hg (N':=27) ?hd (xs:=([] : List (List (S31)))) (inner:=[]) (ok:=(fun k_=>some k_≠(u5 : Value).ownBlock∧some k_≠(.slice Ao6 y145.length co6 : Value).ownBlock∧k_≠gb148)) (okp:=(fun k_=>some k_≠(u5 : Value).ownBlock∧some k_≠(.slice Ao6 y145.length co6 : Value).ownBlock∧k_≠gb148)) ?hr ?hp (fun _ hk=>hk) ((show ∀ k_,wc.heap.size≤k_→(fun k_=>some k_≠(u5 : Value).ownBlock∧some k_≠(.slice Ao6 y145.length co6 : Value).ownBlock∧k_≠gb148) k_ from fun k_ hk=>⟨Kd.fresh' (Kd.N_lt (N_up HO_5.out)) k_ hk,Kd.fresh' (Kd.R_lt (R_up HO_149000.out)) k_ hk,Kd.freshB (blk_up BK148.out) k_ hk⟩) _ (Nat.le_refl _)) (Below.refl _ _) (Nat.le_refl _) (by simp) ?_;(case hd=>rfl);(case hg=>rfl);(case hr=>first|(go_simp;done)|(go_simp;rfl));(case hp=>exact (Reps.none _ _));intro v153 w14 ho15 hb hg_ hnew_;clear hg_ hnew_;(first|rw [← Ny152.out] at ho15|(simp only [Int.reduceToNat] at ho15;rw [← Ny152.out] at ho15));have n0_:=Aside0.mk (Kd.N_elder' (N_up HO_5.out) (Kd.N_base ho15) hb);have n1_:=Aside0.mk (Kd.R_below (R_up HO_149000.out) hb);have n2_:=Aside0.mk (Kd.N_lower ho15 (below_size (below_go HB.out)));have n3_:=Aside0.mk (blk_below (blk_up BK148.out) hb);have n4_:=Aside0.mk (below_step (below_go HB.out) hb);clear HO_5;clear HO_149000;clear BK148;clear HB;have HO_5:=n0_;have HO_149000:=n1_;have HO154:=n2_;have BK148:=n3_;have HB:=n4_;clear n0_ n1_ n2_ n3_ n4_;clear hb ho15));try go_wp2_with (first|((with_reducible refine gate_dst (N:=27) rfl ?_);(try (refine gate_guard (by rfl) ?_;dsimp only));refine Kd.N_lit (Kd.slice 31 k31) _ 33 ?hg (N':=27) ?hd (xs:=([] : List (List (S31)))) (inner:=[]) (ok:=(fun k_=>some k_≠(u5 : Value).ownBlock∧some k_≠(.slice Ao6 y145.length co6 : Value).ownBlock∧k_≠gb148)) (okp:=(fun k_=>some k_≠(u5 : Value).ownBlock∧some k_≠(.slice Ao6 y145.length co6 : Value).ownBlock∧k_≠gb148)) ?hr ?hp (fun _ hk=>hk) ((show ∀ k_,wc.heap.size≤k_→(fun k_=>some k_≠(u5 : Value).ownBlock∧some k_≠(.slice Ao6 y145.length co6 : Value).ownBlock∧k_≠gb148) k_ from fun k_ hk=>⟨Kd.fresh' (Kd.N_lt (N_up HO_5.out)) k_ hk,Kd.fresh' (Kd.R_lt (R_up HO_149000.out)) k_ hk,Kd.freshB (blk_up BK148.out) k_ hk⟩) _ (Nat.le_refl _)) (Below.refl _ _) (Nat.le_refl _) (by simp) ?_;(case hd=>rfl);(case hg=>rfl);(case hr=>first|(go_simp;done)|(go_simp;rfl));(case hp=>exact (Reps.none _ _));intro v153 w14 ho15 hb hg_ hnew_;clear hg_ hnew_;(first|rw [← Ny152.out] at ho15|(simp only [Int.reduceToNat] at ho15;rw [← Ny152.out] at ho15));have n0_:=Aside0.mk (Kd.N_elder' (N_up HO_5.out) (Kd.N_base ho15) hb);have n1_:=Aside0.mk (Kd.R_below (R_up HO_149000.out) hb);have n2_:=Aside0.mk (Kd.N_lower ho15 (below_size (below_go HB.out)));have n3_:=Aside0.mk (blk_below (blk_up BK148.out) hb);have n4_:=Aside0.mk (below_step (below_go HB.out) hb);clear HO_5;clear HO_149000;clear BK148;clear HB;have HO_5:=n0_;have HO_149000:=n1_;have HO154:=n2_;have BK148:=n3_;have HB:=n4_;clear n0_ n1_ n2_ n3_ n4_;clear hb ho15)))
      go_loopg [6,8,9] kj10 (fun kq v6 v8 v9 w'=>∃ (x6_3 : Int) (x8_3 : List (List (S31))) (x9_3 : Int),v6=.int .i64 x6_3∧v9=.int .i64 x9_3∧Aside0 (thresherlaw14_MergeStable.l1 kq l0 t144 x5_1 x6_3 x7_1 x8_3 x9_3 y145 1 1 4=some r)∧Aside0 (kq≤kj10)∧Aside0 (Kd.N (Kd.slice 33 (Kd.slice 31 k31)) 28 w' w.heap.size (fun k_=>some k_≠(v8 : Value).ownBlock∧some k_≠((.slice Ao6 y145.length co6) : Value).ownBlock∧k_≠gb148) u5 x5_1)∧Aside0 (Kd.N (Kd.slice 31 k31) 33 w' w.heap.size (fun k_=>some k_≠(u5 : Value).ownBlock∧some k_≠((.slice Ao6 y145.length co6) : Value).ownBlock∧k_≠gb148) v8 x8_3)∧Aside0 (Kd.R (Kd.int .i64) 3 w' w.heap.size (fun _=>True) (.slice Ao6 y145.length co6) y145)∧Aside0 (w'.heap[gb148]?=some (.cells #[(.slice Ao6 y145.length co6),.int .i64 1,.int .i64 1,.int .i64 4] 26 (0,0)))∧Aside0 (Below w.heap.size w w'))
      case atStart=>exact ⟨(x6_1),(y152),(0),(by first|rfl|(simp;done)|(simp [*];done)),(by first|rfl|(simp;done)|(simp [*];done)),H',⟨Nat.le_refl _⟩,⟨by (with_reducible repeat (first|apply Kd.N_alloc|apply Kd.N_drewN|apply Kd.N_drew));exact Kd.N_mono HO_5.out (fun _ hk=>⟨hk.2,⟨hk.1.1,hk.1.2⟩⟩)⟩,⟨by (with_reducible repeat (first|apply Kd.N_alloc|apply Kd.N_drewN|apply Kd.N_drew));exact HO154.out⟩,⟨by (with_reducible repeat (first|apply Kd.R_alloc|apply Kd.R_drewN|apply Kd.R_drew));exact HO_149000.out⟩,⟨by (with_reducible repeat (first|refine blk_drewN ?_ _|refine blk_drew ?_|refine blk_alloc ?_ _));exact BK148.out⟩,⟨by repeat (first|(with_reducible first|exact HB.out|apply below_alloc|apply pw_below_drewN|apply below_drew1|refine below_set ?_ GE148.out)|exact HB.out)⟩⟩
      case round =>
       clear H'
       try clear c1
       try clear p2
       try clear c3
       try clear c12
       try clear c12b0
       try clear c13
       try clear hcz8_0
       try clear hcz8_1
       try clear hcz8_2
       try clear hcz8_3
       try clear hfz8_0
       try clear hfz8_1
       try clear hfz8_2
       try clear hfz8_3
       try clear p2
       obtain ⟨x6_3,x8_3,x9_3,rfl,rfl,HA,HK3,HO_5,HO_8,HO_149000,BK148,HB⟩:=hrel
       cases gk with
       | zero=>exact absurd HA.out (by simp [thresherlaw14_MergeStable.l1])
       | succ k3 =>
        have H:=HA.out
        clear HA
        simp only [thresherlaw14_MergeStable.l1] at H
        by_cases c16 : x9_3 < 8
        ·rw [if_pos c16] at H
         have c16b0 : decide (x9_3 < 8)=true:=decide_eq_true c16
         clear c16
         have H':=Aside0.mk H
         clear H
         go_wp2
         repeat (go_quiet (fail);try go_wp2)
         go_loopg [6,8,10] k3 (fun kq v6 v8 v10 w'=>∃ (x6_4 : Int) (x8_4 : List (List (S31))) (x10_4 : Int),v6=.int .i64 x6_4∧v10=.int .i64 x10_4∧Aside0 (thresherlaw14_MergeStable.l2 kq l0 t144 x5_1 x6_4 x7_1 x8_4 x9_3 x10_4 y145 1 1 4=some r)∧Aside0 (kq≤k3)∧Aside0 (Kd.N (Kd.slice 33 (Kd.slice 31 k31)) 28 w' w.heap.size (fun k_=>some k_≠(v8 : Value).ownBlock∧some k_≠((.slice Ao6 y145.length co6) : Value).ownBlock∧k_≠gb148) u5 x5_1)∧Aside0 (Kd.N (Kd.slice 31 k31) 33 w' w.heap.size (fun k_=>some k_≠(u5 : Value).ownBlock∧some k_≠((.slice Ao6 y145.length co6) : Value).ownBlock∧k_≠gb148) v8 x8_4)∧Aside0 (Kd.R (Kd.int .i64) 3 w' w.heap.size (fun _=>True) (.slice Ao6 y145.length co6) y145)∧Aside0 (w'.heap[gb148]?=some (.cells #[(.slice Ao6 y145.length co6),.int .i64 1,.int .i64 1,.int .i64 4] 26 (0,0)))∧Aside0 (Below w.heap.size w w'))
         case atStart=>exact ⟨(x6_3),(x8_3),(0),(by first|rfl|(simp;done)|(simp [*];done)),(by first|rfl|(simp;done)|(simp [*];done)),H',⟨Nat.le_refl _⟩,⟨by (with_reducible repeat (first|apply Kd.N_alloc|apply Kd.N_drewN|apply Kd.N_drew));exact HO_5.out⟩,⟨by (with_reducible repeat (first|apply Kd.N_alloc|apply Kd.N_drewN|apply Kd.N_drew));exact HO_8.out⟩,⟨by (with_reducible repeat (first|apply Kd.R_alloc|apply Kd.R_drewN|apply Kd.R_drew));exact HO_149000.out⟩,⟨by (with_reducible repeat (first|refine blk_drewN ?_ _|refine blk_drew ?_|refine blk_alloc ?_ _));exact BK148.out⟩,⟨by repeat (first|(with_reducible first|exact HB.out|apply below_alloc|apply pw_below_drewN|apply below_drew1|refine below_set ?_ GE148.out)|exact HB.out)⟩⟩
         case round =>
          clear H'
          try clear c1
          try clear p2
          try clear c3
          try clear c12
          try clear c12b0
          try clear c13
          try clear c16
          try clear c16b0
          try clear hcz8_0
          try clear hcz8_1
          try clear hcz8_2
          try clear hcz8_3
          try clear hfz8_0
          try clear hfz8_1
          try clear hfz8_2
          try clear hfz8_3
          try clear p2
          obtain ⟨x6_4,x8_4,x10_4,rfl,rfl,HA,HK4,HO_5,HO_8,HO_149000,BK148,HB⟩:=hrel
          cases gk with
          | zero=>exact absurd HA.out (by simp [thresherlaw14_MergeStable.l2])
          | succ k4 =>
           have H:=HA.out
           clear HA
           simp only [thresherlaw14_MergeStable.l2] at H
           have HC17:=Aside0.mk H
           clear H
           go_upto_region 13 with (fail)
           repeat (go_quiet (fail);go_upto_region 13 with (fail))
           go_cut [42] (fun v42 wc=>∃ (kq : Nat) (x42_16 : Bool),v42=.bool x42_16∧Aside0 (thresherlaw14_MergeStable.j4 kq l0 t144 x5_1 x6_4 x7_1 x8_4 x9_3 x10_4 x42_16 y145 1 1 4=some r)∧Aside0 (kq≤k4)∧Aside0 (Kd.N (Kd.slice 33 (Kd.slice 31 k31)) 28 wc w.heap.size (fun k_=>some k_≠(u8 : Value).ownBlock∧some k_≠((.slice Ao6 y145.length co6) : Value).ownBlock∧k_≠gb148) u5 x5_1)∧Aside0 (Kd.N (Kd.slice 31 k31) 33 wc w.heap.size (fun k_=>some k_≠(u5 : Value).ownBlock∧some k_≠((.slice Ao6 y145.length co6) : Value).ownBlock∧k_≠gb148) u8 x8_4)∧Aside0 (Kd.R (Kd.int .i64) 3 wc w.heap.size (fun _=>True) (.slice Ao6 y145.length co6) y145)∧Aside0 (wc.heap[gb148]?=some (.cells #[(.slice Ao6 y145.length co6),.int .i64 1,.int .i64 1,.int .i64 4] 26 (0,0)))∧Aside0 (Below w.heap.size w wc))
           case first =>
            have H:=HC17.out
            clear HC17
            by_cases c18 : 0≤x7_1
            ·rw [if_pos c18] at H
             have c18b0 : decide (0≤x7_1)=true:=decide_eq_true c18
             clear c18
             (first|rw [c18b0]|(simp only [i64_w,i32_w];rw [c18b0])|skip)
             by_cases c19 : x7_1 < (l0.length : Int)
             ·rw [if_pos c19] at H
              have c19b0 : decide (x7_1 < (l0.length : Int))=true:=decide_eq_true c19
              clear c19
              by_cases c20 : x10_4 < ((rd_L10 l0 x7_1).length : Int)
              ·rw [if_pos c20] at H
               have c20b0 : decide (x10_4 < ((rd_L10 l0 x7_1).length : Int))=true:=decide_eq_true c20
               clear c20
               have H':=Aside0.mk H
               clear H
               have p158 : 0≤(x7_1 : Int):=of_decide_eq_true (by first|(with_reducible assumption)|assumption)
               have q158 : x7_1 < (l0.length : Int):=of_decide_eq_true (by first|(with_reducible assumption)|assumption)
               obtain ⟨ad158,A158_0,c158_0,e158,hx158_0,hl158_0,hi158_0⟩:=at_L10 HR0.out x7_1 p158 q158
               cases e158
               replace hx158_0:=(HB.out.cell (World.block_lt_of_cell? w _ hx158_0)).trans hx158_0
               have HR158_0:=Aside0.mk hi158_0
               have HC158_0:=Aside0.mk hl158_0
               clear hi158_0 hl158_0
               replace p158:=eq_true p158
               replace q158:=eq_true q158
               go_wp2
               repeat (go_quiet (fail);try go_wp2)
               go_meet
               case rel=>exact ⟨_,(decide (x10_4 < 12)),(by first|rfl|(simp;done)|(simp [*];done)),(by first|exact H'|(subst_vars;exact H')),⟨by have:=HK1.out;have:=HJ10.out;have:=HK3.out;have:=HK4.out;first|omega|exact Nat.le_refl _⟩,⟨by (with_reducible repeat (first|apply Kd.N_alloc|apply Kd.N_drewN|apply Kd.N_drew));exact HO_5.out⟩,⟨by (with_reducible repeat (first|apply Kd.N_alloc|apply Kd.N_drewN|apply Kd.N_drew));exact HO_8.out⟩,⟨by (with_reducible repeat (first|apply Kd.R_alloc|apply Kd.R_drewN|apply Kd.R_drew));exact HO_149000.out⟩,⟨by (with_reducible repeat (first|refine blk_drewN ?_ _|refine blk_drew ?_|refine blk_alloc ?_ _));exact BK148.out⟩,⟨by repeat (first|(with_reducible first|exact HB.out|apply below_alloc|apply pw_below_drewN|apply below_drew1|refine below_set ?_ GE148.out)|exact HB.out)⟩⟩
              ·rw [if_neg c20] at H
               have c20b0 : decide (x10_4 < ((rd_L10 l0 x7_1).length : Int))=false:=decide_eq_false c20
               clear c20
               have H':=Aside0.mk H
               clear H
               have p158 : 0≤(x7_1 : Int):=of_decide_eq_true (by first|(with_reducible assumption)|assumption)
               have q158 : x7_1 < (l0.length : Int):=of_decide_eq_true (by first|(with_reducible assumption)|assumption)
               obtain ⟨ad158,A158_0,c158_0,e158,hx158_0,hl158_0,hi158_0⟩:=at_L10 HR0.out x7_1 p158 q158
               cases e158
               replace hx158_0:=(HB.out.cell (World.block_lt_of_cell? w _ hx158_0)).trans hx158_0
               have HR158_0:=Aside0.mk hi158_0
               have HC158_0:=Aside0.mk hl158_0
               clear hi158_0 hl158_0
               replace p158:=eq_true p158
               replace q158:=eq_true q158
               go_wp2
               repeat (go_quiet (fail);try go_wp2)
               go_meet
               case rel=>exact ⟨_,(false),(by first|rfl|(simp;done)|(simp [*];done)),(by first|exact H'|(subst_vars;exact H')),⟨by have:=HK1.out;have:=HJ10.out;have:=HK3.out;have:=HK4.out;first|omega|exact Nat.le_refl _⟩,⟨by (with_reducible repeat (first|apply Kd.N_alloc|apply Kd.N_drewN|apply Kd.N_drew));exact HO_5.out⟩,⟨by (with_reducible repeat (first|apply Kd.N_alloc|apply Kd.N_drewN|apply Kd.N_drew));exact HO_8.out⟩,⟨by (with_reducible repeat (first|apply Kd.R_alloc|apply Kd.R_drewN|apply Kd.R_drew));exact HO_149000.out⟩,⟨by (with_reducible repeat (first|refine blk_drewN ?_ _|refine blk_drew ?_|refine blk_alloc ?_ _));exact BK148.out⟩,⟨by repeat (first|(with_reducible first|exact HB.out|apply below_alloc|apply pw_below_drewN|apply below_drew1|refine below_set ?_ GE148.out)|exact HB.out)⟩⟩
             ·rw [if_neg c19] at H
              exact absurd H (by simp)
            ·rw [if_neg c18] at H
             exact absurd H (by simp)
           case rest =>
            clear HC17
            try clear c1
            try clear p1
            try clear q1
            try clear hx1
            try clear c2
            try clear p2
            try clear c3
            try clear c12
            try clear c12b0
            try clear c13
            try clear c15
            try clear p15
            try clear q15
            try clear hx15
            try clear c16
            try clear c16b0
            try clear c18
            try clear c18b0
            try clear c19
            try clear c19b0
            try clear c20
            try clear c20b0
            try clear hcz8_0
            try clear hcz8_1
            try clear hcz8_2
            try clear hcz8_3
            try clear hfz8_0
            try clear hfz8_1
            try clear hfz8_2
            try clear hfz8_3
            try clear hx158_0
            try clear p158
            try clear p2
            try clear q158
            obtain ⟨kq,x42_16,rfl,HA,HJ16,HO_5,HO_8,HO_149000,BK148,HB⟩:=hcut
            cases kq with
            | zero=>exact absurd HA.out (by simp [thresherlaw14_MergeStable.j4])
            | succ kj16 =>
             have H:=HA.out
             clear HA
             simp only [thresherlaw14_MergeStable.j4] at H
             by_cases c21 : x42_16=true
             ·subst c21
              have H1 : (if 0≤x7_1 then (if x7_1 < (l0.length : Int) then (if 0≤x10_4 then (if x10_4 < ((rd_L10 l0 x7_1).length : Int) then (if (wrap64 (Go.bits .and .u8 (rd (rd_L10 l0 x7_1) x10_4) 7))=x9_3 then (if x8_4.length < 5864062014805 then (thresherlaw14_MergeStable.l2 kj16 l0 t144 x5_1 (wrap64 (x6_4 + 1)) x7_1 (x8_4 ++ [(([(⟨x9_3,(⟨#[]⟩ : ByteArray)⟩ : S31),(⟨x6_4,(⟨#[]⟩ : ByteArray)⟩ : S31)] : List (S31)))]) x9_3 (wrap64 (x10_4 + 1)) y145 1 1 4) else (none)) else (thresherlaw14_MergeStable.l2 kj16 l0 t144 x5_1 x6_4 x7_1 x8_4 x9_3 (wrap64 (x10_4 + 1)) y145 1 1 4)) else (none)) else (none)) else (none)) else (none))=some r:=by rw [if_pos rfl] at H;exact H
              clear H
              have H:=H1
              clear H1
              by_cases c22 : 0≤x7_1
              ·rw [if_pos c22] at H
               have c22b0 : decide (0≤x7_1)=true:=decide_eq_true c22
               clear c22
               by_cases c23 : x7_1 < (l0.length : Int)
               ·rw [if_pos c23] at H
                have c23b0 : decide (x7_1 < (l0.length : Int))=true:=decide_eq_true c23
                clear c23
                by_cases c24 : 0≤x10_4
                ·rw [if_pos c24] at H
                 have c24b0 : decide (0≤x10_4)=true:=decide_eq_true c24
                 clear c24
                 by_cases c25 : x10_4 < ((rd_L10 l0 x7_1).length : Int)
                 ·rw [if_pos c25] at H
                  have c25b0 : decide (x10_4 < ((rd_L10 l0 x7_1).length : Int))=true:=decide_eq_true c25
                  clear c25
                  by_cases c26 : (wrap64 (Go.bits .and .u8 (rd (rd_L10 l0 x7_1) x10_4) 7))=x9_3
                  ·rw [if_pos c26] at H
                   have c26b0 : ((wrap64 (Go.bits .and .u8 (rd (rd_L10 l0 x7_1) x10_4) 7)) == x9_3)=true:=beq_iff_eq.mpr c26
                   have c26b1 : ((wrap64 (Go.bits .and .u8 (rd (rd_L10 l0 x7_1) x10_4) 7)) != x9_3)=false:=bne_eq_false_iff_eq.mpr c26
                   clear c26
                   obtain ⟨y161,hy161⟩ : ∃ y_ : List (S31),y_=(([(⟨x9_3,(⟨#[]⟩ : ByteArray)⟩ : S31),(⟨x6_4,(⟨#[]⟩ : ByteArray)⟩ : S31)] : List (S31))):=⟨_,rfl⟩
                   replace H : (if x8_4.length < 5864062014805 then (thresherlaw14_MergeStable.l2 kj16 l0 t144 x5_1 (wrap64 (x6_4 + 1)) x7_1 (x8_4 ++ [y161]) x9_3 (wrap64 (x10_4 + 1)) y145 1 1 4) else (none))=some r:=by first|(rw [hy161];with_reducible exact H)|(have H2_:=(Option.bind_some _ _).symm.trans H;rw [hy161];with_reducible exact H2_)|(have H2_:=(Option.bind_some _ _).symm.trans H;with_reducible exact H2_)|with_reducible exact H|(rw [hy161];exact H)|exact H
                   have Ny161:=Aside0.mk hy161
                   clear hy161
                   by_cases c27 : x8_4.length < 5864062014805
                   ·rw [if_pos c27] at H
                    have LMc27:=Aside0.mk c27
                    clear c27
                    obtain ⟨y164,hy164⟩ : ∃ y_ : List (List (S31)),y_=(x8_4 ++ [y161]):=⟨_,rfl⟩
                    replace H : (thresherlaw14_MergeStable.l2 kj16 l0 t144 x5_1 (wrap64 (x6_4 + 1)) x7_1 y164 x9_3 (wrap64 (x10_4 + 1)) y145 1 1 4)=some r:=by first|(rw [hy164];with_reducible exact H)|(have H2_:=(Option.bind_some _ _).symm.trans H;rw [hy164];with_reducible exact H2_)|(have H2_:=(Option.bind_some _ _).symm.trans H;with_reducible exact H2_)|with_reducible exact H|(rw [hy164];exact H)|exact H
                    have Ny164:=Aside0.mk hy164
                    clear hy164
                    have H':=Aside0.mk H
                    clear H
                    have p159 : 0≤(x7_1 : Int):=of_decide_eq_true (by first|(with_reducible assumption)|assumption)
                    have q159 : x7_1 < (l0.length : Int):=of_decide_eq_true (by first|(with_reducible assumption)|assumption)
                    obtain ⟨ad159,A159_0,c159_0,e159,hx159_0,hl159_0,hi159_0⟩:=at_L10 HR0.out x7_1 p159 q159
                    cases e159
                    replace hx159_0:=(HB.out.cell (World.block_lt_of_cell? w _ hx159_0)).trans hx159_0
                    have HR159_0:=Aside0.mk hi159_0
                    have HC159_0:=Aside0.mk hl159_0
                    clear hi159_0 hl159_0
                    replace p159:=eq_true p159
                    replace q159:=eq_true q159
                    have p160 : 0≤(x10_4 : Int):=of_decide_eq_true (by first|(with_reducible assumption)|assumption)
                    have q160 : x10_4 < ((rd_L10 l0 x7_1).length : Int):=of_decide_eq_true (by first|(with_reducible assumption)|assumption)
                    obtain ⟨ad160,e160,hx160_0⟩:=Kd.at_int HR159_0.out x10_4 p160 q160
                    cases e160
                    replace hx160_0:=(HB.out.cell (World.block_lt_of_cell? w _ hx160_0)).trans hx160_0
                    replace p160:=eq_true p160
                    replace q160:=eq_true q160
                    go_wp2_with (first|((with_reducible refine gate_dst (N:=61) rfl ?_);(try (refine gate_guard (by rfl) ?_;dsimp only));refine Kd.R_lit k31 _ 31 ?hg (N:=61) ?hd (xs:=([(⟨x9_3,(⟨#[]⟩ : ByteArray)⟩ : S31),(⟨x6_4,(⟨#[]⟩ : ByteArray)⟩ : S31)] : List (S31))) (inner:=[.int .i64 x9_3,.string (⟨#[]⟩ : ByteArray),.int .i64 x6_4,.string (⟨#[]⟩ : ByteArray)]) (ok:=fun _=>True) (okp:=fun _=>True) ?hr ?hp (fun _ hk=>hk) trivial (Below.refl _ _) (Nat.le_refl _) (by simp) ?_;(case hd=>rfl);(case hg=>rfl);(case hr=>first|(go_simp;done)|(go_simp;rfl));(case hp=>exact (Reps.c2 (show Kd.M k31 _ _ _ (⟨x9_3,(⟨#[]⟩ : ByteArray)⟩ : S31) [.int .i64 x9_3,.string (⟨#[]⟩ : ByteArray)] from (k31_mkM _ _ _ (⟨x9_3,(⟨#[]⟩ : ByteArray)⟩ : S31) )) (Reps.c2 (show Kd.M k31 _ _ _ (⟨x6_4,(⟨#[]⟩ : ByteArray)⟩ : S31) [.int .i64 x6_4,.string (⟨#[]⟩ : ByteArray)] from (k31_mkM _ _ _ (⟨x6_4,(⟨#[]⟩ : ByteArray)⟩ : S31) )) (Reps.none _ _))));intro v162 w28 ho29 hb hg_ hnew_;clear hg_ hnew_;(first|rw [← Ny161.out] at ho29|(simp only [Int.reduceToNat] at ho29;rw [← Ny161.out] at ho29));have n0_:=Aside0.mk (Kd.N_elder' (N_up HO_5.out) (Kd.R_base ho29) hb);have n1_:=Aside0.mk (Kd.N_elder' (N_up HO_8.out) (Kd.R_base ho29) hb);have n2_:=Aside0.mk (Kd.R_below (R_up HO_149000.out) hb);have n3_:=Aside0.mk (Kd.R_lower ho29 (below_size (below_go HB.out)));have n4_:=Aside0.mk (blk_below (blk_up BK148.out) hb);have n5_:=Aside0.mk (below_step (below_go HB.out) hb);clear HO_5;clear HO_8;clear HO_149000;clear BK148;clear HB;have HO_5:=n0_;have HO_8:=n1_;have HO_149000:=n2_;have HO163:=n3_;have BK148:=n4_;have HB:=n5_;clear n0_ n1_ n2_ n3_ n4_ n5_;clear hb ho29;obtain ⟨Ao31,co31,eo31⟩:=Kd.R_slice HO163.out;subst eo31)|((with_reducible refine gate_builtin (b:=.append) (xs:=#[.tmp 56,.tmp 62]) rfl ?_);(try (refine gate_guard (by rfl) ?_;dsimp only));at_builtin;refine Kd.N_append (Kd.slice 31 k31) (w0:=w) w.heap.size rfl (.tmp 56) (.tmp 62) 28 33 (.slice none 0 0) 24 rfl Try.underlying28 info33 rfl (by decide) (by omega) u8 x8_4 y161 [.slice Ao31 y161.length co31] (fun k_=>some k_≠(u5 : Value).ownBlock∧some k_≠(.slice Ao6 y145.length co6 : Value).ownBlock∧k_≠gb148) (fun k_=>((fun k_=>some k_≠(u5 : Value).ownBlock∧some k_≠(.slice Ao6 y145.length co6 : Value).ownBlock∧k_≠gb148)) k_∧some k_≠(u8 : Value).ownBlock) rfl rfl ?aP (fun _ hk=>hk) ?aF ?aO ?aB ?aS ?aL ?_;(case aP=>exact (Kd.FK_slice_mk (Kd.R_reads' (Kd.R_mono (ok':=(fun k_=>((fun k_=>some k_≠(u5 : Value).ownBlock∧some k_≠(.slice Ao6 y145.length co6 : Value).ownBlock∧k_≠gb148)) k_∧some k_≠(u8 : Value).ownBlock)) (Kd.R_types (Kd.R_apart' (Kd.R_apart' (Kd.R_apart' (HO163.out) (Kd.N_typed HO_5.out) (by decide)) (Kd.R_typed HO_149000.out) (by decide)) (Kd.N_typed HO_8.out) (by decide)) BK148.out (by decide)) (fun k_ hk=>⟨⟨hk.1.1.1.2,⟨hk.1.1.2,hk.2⟩⟩,hk.1.2⟩))).2.1 (Kd.R_F (Kd.R_mono (ok':=(fun k_=>((fun k_=>some k_≠(u5 : Value).ownBlock∧some k_≠(.slice Ao6 y145.length co6 : Value).ownBlock∧k_≠gb148)) k_∧some k_≠(u8 : Value).ownBlock)) (Kd.R_types (Kd.R_apart' (Kd.R_apart' (Kd.R_apart' (HO163.out) (Kd.N_typed HO_5.out) (by decide)) (Kd.R_typed HO_149000.out) (by decide)) (Kd.N_typed HO_8.out) (by decide)) BK148.out (by decide)) (fun k_ hk=>⟨⟨hk.1.1.1.2,⟨hk.1.1.2,hk.2⟩⟩,hk.1.2⟩)))));(case aB=>exact (below_go HB.out));(case aF=>exact (fun k_ hk=>⟨Kd.fresh' (Kd.N_lt (N_up HO_5.out)) k_ hk,Kd.fresh' (Kd.R_lt (R_up HO_149000.out)) k_ hk,Kd.freshB (blk_up BK148.out) k_ hk⟩));(case aO=>exact (N_upm HO_8.out (fun _ hk=>⟨hk.1.1,⟨hk.1.2.1,hk.1.2.2⟩⟩)));(case aS=>exact (below_size (below_go HB.out)));(case aL=>have:=LMc27.out;omega);intro v165 w30 ho hb hg hat;rw [← Ny164.out] at ho;have n0_:=Aside0.mk (Kd.N_afterv (ok:=(fun k_=>some k_≠(.slice Ao6 y145.length co6 : Value).ownBlock∧some k_≠(.slice Ao31 y161.length co31 : Value).ownBlock∧k_≠gb148)) (N_upm HO_5.out (fun _ hk=>⟨⟨hk.1.2.1,⟨hk.2,hk.1.2.2⟩⟩,hk.1.1⟩)) hg hat);have n1_:=Aside0.mk (Kd.R_over' (R_up HO_149000.out) (Kd.N_typed (N_up HO_8.out)) (by decide) hg);have n2_:=Aside0.mk (blk_grown (blk_up BK148.out) hg (Kd.N_ne HO_8.out BK148.out (by decide)));have n3_:=Aside0.mk (hb);have n4_:=Aside0.mk (ho);clear HO_5;clear HO_149000;clear BK148;clear HB;clear HO_8;clear HO163;have HO_5:=n0_;have HO_149000:=n1_;have BK148:=n2_;have HB:=n3_;have HO166:=n4_;clear n0_ n1_ n2_ n3_ n4_;clear ho hb hg hat))
                    repeat (go_quiet (first|((with_reducible refine gate_dst (N:=61) rfl ?_);(try (refine gate_guard (by rfl) ?_;dsimp only));refine Kd.R_lit k31 _ 31 ?hg (N:=61) ?hd (xs:=([(⟨x9_3,(⟨#[]⟩ : ByteArray)⟩ : S31),(⟨x6_4,(⟨#[]⟩ : ByteArray)⟩ : S31)] : List (S31))) (inner:=[.int .i64 x9_3,.string (⟨#[]⟩ : ByteArray),.int .i64 x6_4,.string (⟨#[]⟩ : ByteArray)]) (ok:=fun _=>True) (okp:=fun _=>True) ?hr ?hp (fun _ hk=>hk) trivial (Below.refl _ _) (Nat.le_refl _) (by simp) ?_;(case hd=>rfl);(case hg=>rfl);(case hr=>first|(go_simp;done)|(go_simp;rfl));(case hp=>exact (Reps.c2 (show Kd.M k31 _ _ _ (⟨x9_3,(⟨#[]⟩ : ByteArray)⟩ : S31) [.int .i64 x9_3,.string (⟨#[]⟩ : ByteArray)] from (k31_mkM _ _ _ (⟨x9_3,(⟨#[]⟩ : ByteArray)⟩ : S31) )) (Reps.c2 (show Kd.M k31 _ _ _ (⟨x6_4,(⟨#[]⟩ : ByteArray)⟩ : S31) [.int .i64 x6_4,.string (⟨#[]⟩ : ByteArray)] from (k31_mkM _ _ _ (⟨x6_4,(⟨#[]⟩ : ByteArray)⟩ : S31) )) (Reps.none _ _))));intro v162 w28 ho29 hb hg_ hnew_;clear hg_ hnew_;(first|rw [← Ny161.out] at ho29|(simp only [Int.reduceToNat] at ho29;rw [← Ny161.out] at ho29));have n0_:=Aside0.mk (Kd.N_elder' (N_up HO_5.out) (Kd.R_base ho29) hb);have n1_:=Aside0.mk (Kd.N_elder' (N_up HO_8.out) (Kd.R_base ho29) hb);have n2_:=Aside0.mk (Kd.R_below (R_up HO_149000.out) hb);have n3_:=Aside0.mk (Kd.R_lower ho29 (below_size (below_go HB.out)));have n4_:=Aside0.mk (blk_below (blk_up BK148.out) hb);have n5_:=Aside0.mk (below_step (below_go HB.out) hb);clear HO_5;clear HO_8;clear HO_149000;clear BK148;clear HB;have HO_5:=n0_;have HO_8:=n1_;have HO_149000:=n2_;have HO163:=n3_;have BK148:=n4_;have HB:=n5_;clear n0_ n1_ n2_ n3_ n4_ n5_;clear hb ho29;obtain ⟨Ao31,co31,eo31⟩:=Kd.R_slice HO163.out;subst eo31)|((with_reducible refine gate_builtin (b:=.append) (xs:=#[.tmp 56,.tmp 62]) rfl ?_);(try (refine gate_guard (by rfl) ?_;dsimp only));at_builtin;refine Kd.N_append (Kd.slice 31 k31) (w0:=w) w.heap.size rfl (.tmp 56) (.tmp 62) 28 33 (.slice none 0 0) 24 rfl Try.underlying28 info33 rfl (by decide) (by omega) u8 x8_4 y161 [.slice Ao31 y161.length co31] (fun k_=>some k_≠(u5 : Value).ownBlock∧some k_≠(.slice Ao6 y145.length co6 : Value).ownBlock∧k_≠gb148) (fun k_=>((fun k_=>some k_≠(u5 : Value).ownBlock∧some k_≠(.slice Ao6 y145.length co6 : Value).ownBlock∧k_≠gb148)) k_∧some k_≠(u8 : Value).ownBlock) rfl rfl ?aP (fun _ hk=>hk) ?aF ?aO ?aB ?aS ?aL ?_;(case aP=>exact (Kd.FK_slice_mk (Kd.R_reads' (Kd.R_mono (ok':=(fun k_=>((fun k_=>some k_≠(u5 : Value).ownBlock∧some k_≠(.slice Ao6 y145.length co6 : Value).ownBlock∧k_≠gb148)) k_∧some k_≠(u8 : Value).ownBlock)) (Kd.R_types (Kd.R_apart' (Kd.R_apart' (Kd.R_apart' (HO163.out) (Kd.N_typed HO_5.out) (by decide)) (Kd.R_typed HO_149000.out) (by decide)) (Kd.N_typed HO_8.out) (by decide)) BK148.out (by decide)) (fun k_ hk=>⟨⟨hk.1.1.1.2,⟨hk.1.1.2,hk.2⟩⟩,hk.1.2⟩))).2.1 (Kd.R_F (Kd.R_mono (ok':=(fun k_=>((fun k_=>some k_≠(u5 : Value).ownBlock∧some k_≠(.slice Ao6 y145.length co6 : Value).ownBlock∧k_≠gb148)) k_∧some k_≠(u8 : Value).ownBlock)) (Kd.R_types (Kd.R_apart' (Kd.R_apart' (Kd.R_apart' (HO163.out) (Kd.N_typed HO_5.out) (by decide)) (Kd.R_typed HO_149000.out) (by decide)) (Kd.N_typed HO_8.out) (by decide)) BK148.out (by decide)) (fun k_ hk=>⟨⟨hk.1.1.1.2,⟨hk.1.1.2,hk.2⟩⟩,hk.1.2⟩)))));(case aB=>exact (below_go HB.out));(case aF=>exact (fun k_ hk=>⟨Kd.fresh' (Kd.N_lt (N_up HO_5.out)) k_ hk,Kd.fresh' (Kd.R_lt (R_up HO_149000.out)) k_ hk,Kd.freshB (blk_up BK148.out) k_ hk⟩));(case aO=>exact (N_upm HO_8.out (fun _ hk=>⟨hk.1.1,⟨hk.1.2.1,hk.1.2.2⟩⟩)));(case aS=>exact (below_size (below_go HB.out)));(case aL=>have:=LMc27.out;omega);intro v165 w30 ho hb hg hat;rw [← Ny164.out] at ho;have n0_:=Aside0.mk (Kd.N_afterv (ok:=(fun k_=>some k_≠(.slice Ao6 y145.length co6 : Value).ownBlock∧some k_≠(.slice Ao31 y161.length co31 : Value).ownBlock∧k_≠gb148)) (N_upm HO_5.out (fun _ hk=>⟨⟨hk.1.2.1,⟨hk.2,hk.1.2.2⟩⟩,hk.1.1⟩)) hg hat);have n1_:=Aside0.mk (Kd.R_over' (R_up HO_149000.out) (Kd.N_typed (N_up HO_8.out)) (by decide) hg);have n2_:=Aside0.mk (blk_grown (blk_up BK148.out) hg (Kd.N_ne HO_8.out BK148.out (by decide)));have n3_:=Aside0.mk (hb);have n4_:=Aside0.mk (ho);clear HO_5;clear HO_149000;clear BK148;clear HB;clear HO_8;clear HO163;have HO_5:=n0_;have HO_149000:=n1_;have BK148:=n2_;have HB:=n3_;have HO166:=n4_;clear n0_ n1_ n2_ n3_ n4_;clear ho hb hg hat));try go_wp2_with (first|((with_reducible refine gate_dst (N:=61) rfl ?_);(try (refine gate_guard (by rfl) ?_;dsimp only));refine Kd.R_lit k31 _ 31 ?hg (N:=61) ?hd (xs:=([(⟨x9_3,(⟨#[]⟩ : ByteArray)⟩ : S31),(⟨x6_4,(⟨#[]⟩ : ByteArray)⟩ : S31)] : List (S31))) (inner:=[.int .i64 x9_3,.string (⟨#[]⟩ : ByteArray),.int .i64 x6_4,.string (⟨#[]⟩ : ByteArray)]) (ok:=fun _=>True) (okp:=fun _=>True) ?hr ?hp (fun _ hk=>hk) trivial (Below.refl _ _) (Nat.le_refl _) (by simp) ?_;(case hd=>rfl);(case hg=>rfl);(case hr=>first|(go_simp;done)|(go_simp;rfl));(case hp=>exact (Reps.c2 (show Kd.M k31 _ _ _ (⟨x9_3,(⟨#[]⟩ : ByteArray)⟩ : S31) [.int .i64 x9_3,.string (⟨#[]⟩ : ByteArray)] from (k31_mkM _ _ _ (⟨x9_3,(⟨#[]⟩ : ByteArray)⟩ : S31) )) (Reps.c2 (show Kd.M k31 _ _ _ (⟨x6_4,(⟨#[]⟩ : ByteArray)⟩ : S31) [.int .i64 x6_4,.string (⟨#[]⟩ : ByteArray)] from (k31_mkM _ _ _ (⟨x6_4,(⟨#[]⟩ : ByteArray)⟩ : S31) )) (Reps.none _ _))));intro v162 w28 ho29 hb hg_ hnew_;clear hg_ hnew_;(first|rw [← Ny161.out] at ho29|(simp only [Int.reduceToNat] at ho29;rw [← Ny161.out] at ho29));have n0_:=Aside0.mk (Kd.N_elder' (N_up HO_5.out) (Kd.R_base ho29) hb);have n1_:=Aside0.mk (Kd.N_elder' (N_up HO_8.out) (Kd.R_base ho29) hb);have n2_:=Aside0.mk (Kd.R_below (R_up HO_149000.out) hb);have n3_:=Aside0.mk (Kd.R_lower ho29 (below_size (below_go HB.out)));have n4_:=Aside0.mk (blk_below (blk_up BK148.out) hb);have n5_:=Aside0.mk (below_step (below_go HB.out) hb);clear HO_5;clear HO_8;clear HO_149000;clear BK148;clear HB;have HO_5:=n0_;have HO_8:=n1_;have HO_149000:=n2_;have HO163:=n3_;have BK148:=n4_;have HB:=n5_;clear n0_ n1_ n2_ n3_ n4_ n5_;clear hb ho29;obtain ⟨Ao31,co31,eo31⟩:=Kd.R_slice HO163.out;subst eo31)|((with_reducible refine gate_builtin (b:=.append) (xs:=#[.tmp 56,.tmp 62]) rfl ?_);(try (refine gate_guard (by rfl) ?_;dsimp only));at_builtin;refine Kd.N_append (Kd.slice 31 k31) (w0:=w) w.heap.size rfl (.tmp 56) (.tmp 62) 28 33 (.slice none 0 0) 24 rfl Try.underlying28 info33 rfl (by decide) (by omega) u8 x8_4 y161 [.slice Ao31 y161.length co31] (fun k_=>some k_≠(u5 : Value).ownBlock∧some k_≠(.slice Ao6 y145.length co6 : Value).ownBlock∧k_≠gb148) (fun k_=>((fun k_=>some k_≠(u5 : Value).ownBlock∧some k_≠(.slice Ao6 y145.length co6 : Value).ownBlock∧k_≠gb148)) k_∧some k_≠(u8 : Value).ownBlock) rfl rfl ?aP (fun _ hk=>hk) ?aF ?aO ?aB ?aS ?aL ?_;(case aP=>exact (Kd.FK_slice_mk (Kd.R_reads' (Kd.R_mono (ok':=(fun k_=>((fun k_=>some k_≠(u5 : Value).ownBlock∧some k_≠(.slice Ao6 y145.length co6 : Value).ownBlock∧k_≠gb148)) k_∧some k_≠(u8 : Value).ownBlock)) (Kd.R_types (Kd.R_apart' (Kd.R_apart' (Kd.R_apart' (HO163.out) (Kd.N_typed HO_5.out) (by decide)) (Kd.R_typed HO_149000.out) (by decide)) (Kd.N_typed HO_8.out) (by decide)) BK148.out (by decide)) (fun k_ hk=>⟨⟨hk.1.1.1.2,⟨hk.1.1.2,hk.2⟩⟩,hk.1.2⟩))).2.1 (Kd.R_F (Kd.R_mono (ok':=(fun k_=>((fun k_=>some k_≠(u5 : Value).ownBlock∧some k_≠(.slice Ao6 y145.length co6 : Value).ownBlock∧k_≠gb148)) k_∧some k_≠(u8 : Value).ownBlock)) (Kd.R_types (Kd.R_apart' (Kd.R_apart' (Kd.R_apart' (HO163.out) (Kd.N_typed HO_5.out) (by decide)) (Kd.R_typed HO_149000.out) (by decide)) (Kd.N_typed HO_8.out) (by decide)) BK148.out (by decide)) (fun k_ hk=>⟨⟨hk.1.1.1.2,⟨hk.1.1.2,hk.2⟩⟩,hk.1.2⟩)))));(case aB=>exact (below_go HB.out));(case aF=>exact (fun k_ hk=>⟨Kd.fresh' (Kd.N_lt (N_up HO_5.out)) k_ hk,Kd.fresh' (Kd.R_lt (R_up HO_149000.out)) k_ hk,Kd.freshB (blk_up BK148.out) k_ hk⟩));(case aO=>exact (N_upm HO_8.out (fun _ hk=>⟨hk.1.1,⟨hk.1.2.1,hk.1.2.2⟩⟩)));(case aS=>exact (below_size (below_go HB.out)));(case aL=>have:=LMc27.out;omega);intro v165 w30 ho hb hg hat;rw [← Ny164.out] at ho;have n0_:=Aside0.mk (Kd.N_afterv (ok:=(fun k_=>some k_≠(.slice Ao6 y145.length co6 : Value).ownBlock∧some k_≠(.slice Ao31 y161.length co31 : Value).ownBlock∧k_≠gb148)) (N_upm HO_5.out (fun _ hk=>⟨⟨hk.1.2.1,⟨hk.2,hk.1.2.2⟩⟩,hk.1.1⟩)) hg hat);have n1_:=Aside0.mk (Kd.R_over' (R_up HO_149000.out) (Kd.N_typed (N_up HO_8.out)) (by decide) hg);have n2_:=Aside0.mk (blk_grown (blk_up BK148.out) hg (Kd.N_ne HO_8.out BK148.out (by decide)));have n3_:=Aside0.mk (hb);have n4_:=Aside0.mk (ho);clear HO_5;clear HO_149000;clear BK148;clear HB;clear HO_8;clear HO163;have HO_5:=n0_;have HO_149000:=n1_;have BK148:=n2_;have HB:=n3_;have HO166:=n4_;clear n0_ n1_ n2_ n3_ n4_;clear ho hb hg hat)))
                    go_roundg kj16
                    case measure=>have:=HK1.out;have:=HJ10.out;have:=HK3.out;have:=HK4.out;have:=HJ16.out;omega
                    case rel=>exact ⟨(wrap64 (x6_4 + 1)),(y164),(wrap64 (x10_4 + 1)),(by first|rfl|(simp;done)|(simp [*];done)),(by first|rfl|(simp;done)|(simp [*];done)),(by first|exact H'|(subst_vars;exact H')),⟨by have:=HK1.out;have:=HJ10.out;have:=HK3.out;have:=HK4.out;have:=HJ16.out;omega⟩,⟨by (with_reducible repeat (first|apply Kd.N_alloc|apply Kd.N_drewN|apply Kd.N_drew));exact Kd.N_mono HO_5.out (fun _ hk=>⟨hk.2,⟨hk.1.1,hk.1.2.2⟩⟩)⟩,⟨by (with_reducible repeat (first|apply Kd.N_alloc|apply Kd.N_drewN|apply Kd.N_drew));exact HO166.out⟩,⟨by (with_reducible repeat (first|apply Kd.R_alloc|apply Kd.R_drewN|apply Kd.R_drew));exact HO_149000.out⟩,⟨by (with_reducible repeat (first|refine blk_drewN ?_ _|refine blk_drew ?_|refine blk_alloc ?_ _));exact BK148.out⟩,⟨by repeat (first|(with_reducible first|exact HB.out|apply below_alloc|apply pw_below_drewN|apply below_drew1|refine below_set ?_ GE148.out)|exact HB.out)⟩⟩
                   ·rw [if_neg c27] at H
                    exact absurd H (by simp)
                  ·rw [if_neg c26] at H
                   have c26b0 : ((wrap64 (Go.bits .and .u8 (rd (rd_L10 l0 x7_1) x10_4) 7)) == x9_3)=false:=beq_eq_false_iff_ne.mpr c26
                   have c26b1 : ((wrap64 (Go.bits .and .u8 (rd (rd_L10 l0 x7_1) x10_4) 7)) != x9_3)=true:=bne_iff_ne.mpr c26
                   have H':=Aside0.mk H
                   clear H
                   have p159 : 0≤(x7_1 : Int):=of_decide_eq_true (by first|(with_reducible assumption)|assumption)
                   have q159 : x7_1 < (l0.length : Int):=of_decide_eq_true (by first|(with_reducible assumption)|assumption)
                   obtain ⟨ad159,A159_0,c159_0,e159,hx159_0,hl159_0,hi159_0⟩:=at_L10 HR0.out x7_1 p159 q159
                   cases e159
                   replace hx159_0:=(HB.out.cell (World.block_lt_of_cell? w _ hx159_0)).trans hx159_0
                   have HR159_0:=Aside0.mk hi159_0
                   have HC159_0:=Aside0.mk hl159_0
                   clear hi159_0 hl159_0
                   replace p159:=eq_true p159
                   replace q159:=eq_true q159
                   have p160 : 0≤(x10_4 : Int):=of_decide_eq_true (by first|(with_reducible assumption)|assumption)
                   have q160 : x10_4 < ((rd_L10 l0 x7_1).length : Int):=of_decide_eq_true (by first|(with_reducible assumption)|assumption)
                   obtain ⟨ad160,e160,hx160_0⟩:=Kd.at_int HR159_0.out x10_4 p160 q160
                   cases e160
                   replace hx160_0:=(HB.out.cell (World.block_lt_of_cell? w _ hx160_0)).trans hx160_0
                   replace p160:=eq_true p160
                   replace q160:=eq_true q160
                   go_wp2
                   repeat (go_quiet (fail);try go_wp2)
                   go_roundg kj16
                   case measure=>have:=HK1.out;have:=HJ10.out;have:=HK3.out;have:=HK4.out;have:=HJ16.out;omega
                   case rel=>exact ⟨(x6_4),(x8_4),(wrap64 (x10_4 + 1)),(by first|rfl|(simp;done)|(simp [*];done)),(by first|rfl|(simp;done)|(simp [*];done)),(by first|exact H'|(subst_vars;exact H')),⟨by have:=HK1.out;have:=HJ10.out;have:=HK3.out;have:=HK4.out;have:=HJ16.out;omega⟩,⟨by (with_reducible repeat (first|apply Kd.N_alloc|apply Kd.N_drewN|apply Kd.N_drew));exact HO_5.out⟩,⟨by (with_reducible repeat (first|apply Kd.N_alloc|apply Kd.N_drewN|apply Kd.N_drew));exact HO_8.out⟩,⟨by (with_reducible repeat (first|apply Kd.R_alloc|apply Kd.R_drewN|apply Kd.R_drew));exact HO_149000.out⟩,⟨by (with_reducible repeat (first|refine blk_drewN ?_ _|refine blk_drew ?_|refine blk_alloc ?_ _));exact BK148.out⟩,⟨by repeat (first|(with_reducible first|exact HB.out|apply below_alloc|apply pw_below_drewN|apply below_drew1|refine below_set ?_ GE148.out)|exact HB.out)⟩⟩
                 ·rw [if_neg c25] at H
                  exact absurd H (by simp)
                ·rw [if_neg c24] at H
                 exact absurd H (by simp)
               ·rw [if_neg c23] at H
                exact absurd H (by simp)
              ·rw [if_neg c22] at H
               exact absurd H (by simp)
             ·replace c21:=Bool.eq_false_iff.mpr c21
              subst c21
              have H1 : (thresherlaw14_MergeStable.l1 kj16 l0 t144 x5_1 x6_4 x7_1 x8_4 (wrap64 (x9_3 + 1)) y145 1 1 4)=some r:=by rw [if_neg (show ¬ (false=true) by decide)] at H;exact H
              clear H
              have H:=H1
              clear H1
              have H':=Aside0.mk H
              clear H
              go_wp2
              repeat (go_quiet (fail);try go_wp2)
              go_roundg kj16
              case measure=>have:=HK1.out;have:=HJ10.out;have:=HK3.out;have:=HK4.out;have:=HJ16.out;omega
              case rel=>exact ⟨(x6_4),(x8_4),(wrap64 (x9_3 + 1)),(by first|rfl|(simp;done)|(simp [*];done)),(by first|rfl|(simp;done)|(simp [*];done)),(by first|exact H'|(subst_vars;exact H')),⟨by have:=HK1.out;have:=HJ10.out;have:=HK3.out;have:=HK4.out;have:=HJ16.out;omega⟩,⟨by (with_reducible repeat (first|apply Kd.N_alloc|apply Kd.N_drewN|apply Kd.N_drew));exact HO_5.out⟩,⟨by (with_reducible repeat (first|apply Kd.N_alloc|apply Kd.N_drewN|apply Kd.N_drew));exact HO_8.out⟩,⟨by (with_reducible repeat (first|apply Kd.R_alloc|apply Kd.R_drewN|apply Kd.R_drew));exact HO_149000.out⟩,⟨by (with_reducible repeat (first|refine blk_drewN ?_ _|refine blk_drew ?_|refine blk_alloc ?_ _));exact BK148.out⟩,⟨by repeat (first|(with_reducible first|exact HB.out|apply below_alloc|apply pw_below_drewN|apply below_drew1|refine below_set ?_ GE148.out)|exact HB.out)⟩⟩
        ·rw [if_neg c16] at H
         have c16b0 : decide (x9_3 < 8)=false:=decide_eq_false c16
         clear c16
         by_cases c32 : x5_1.length < 5864062014805
         ·rw [if_pos c32] at H
          have LMc32:=Aside0.mk c32
          clear c32
          obtain ⟨y155,hy155⟩ : ∃ y_ : List (List (List (S31))),y_=(x5_1 ++ [x8_3]):=⟨_,rfl⟩
          replace H : (thresherlaw14_MergeStable.l0 k3 l0 t144 y155 x6_3 (wrap64 (x7_1 + 1)) y145 1 1 4)=some r:=by first|(rw [hy155];with_reducible exact H)|(have H2_:=(Option.bind_some _ _).symm.trans H;rw [hy155];with_reducible exact H2_)|(have H2_:=(Option.bind_some _ _).symm.trans H;with_reducible exact H2_)|with_reducible exact H|(rw [hy155];exact H)|exact H
          have Ny155:=Aside0.mk hy155
          clear hy155
          have H':=Aside0.mk H
          clear H
          obtain ⟨Ao34,co34,eo34⟩:=Kd.N_slice HO_8.out
          subst eo34
          go_wp2_with (first|((with_reducible refine gate_builtin (b:=.append) (xs:=#[.tmp 66,.tmp 68]) rfl ?_);(try (refine gate_guard (by rfl) ?_;dsimp only));at_builtin;refine Kd.N_append (Kd.slice 33 (Kd.slice 31 k31)) (w0:=w) w.heap.size rfl (.tmp 66) (.tmp 68) 27 28 (.slice none 0 0) 24 rfl Try.underlying27 info28 rfl (by decide) (by omega) u5 x5_1 x8_3 [.slice Ao34 x8_3.length co34] (fun k_=>some k_≠(.slice Ao6 y145.length co6 : Value).ownBlock∧k_≠gb148) (fun k_=>((fun k_=>some k_≠(.slice Ao6 y145.length co6 : Value).ownBlock∧k_≠gb148)) k_∧some k_≠(u5 : Value).ownBlock) rfl rfl ?aP (fun _ hk=>hk) ?aF ?aO ?aB ?aS ?aL ?_;(case aP=>exact (Kd.FK_slice_mk (Kd.N_reads' (Kd.N_mono (ok':=(fun k_=>((fun k_=>some k_≠(.slice Ao6 y145.length co6 : Value).ownBlock∧k_≠gb148)) k_∧some k_≠(u5 : Value).ownBlock)) (HO_8.out) (fun k_ hk=>⟨⟨hk.2.1,hk.2.2⟩,hk.1⟩))).2.1 (Kd.N_F (Kd.N_mono (ok':=(fun k_=>((fun k_=>some k_≠(.slice Ao6 y145.length co6 : Value).ownBlock∧k_≠gb148)) k_∧some k_≠(u5 : Value).ownBlock)) (HO_8.out) (fun k_ hk=>⟨⟨hk.2.1,hk.2.2⟩,hk.1⟩)))));(case aB=>exact (below_go HB.out));(case aF=>exact (fun k_ hk=>⟨Kd.fresh' (Kd.R_lt (R_up HO_149000.out)) k_ hk,Kd.freshB (blk_up BK148.out) k_ hk⟩));(case aO=>exact (N_upm HO_5.out (fun _ hk=>⟨hk.2.1,hk.2.2⟩)));(case aS=>exact (below_size (below_go HB.out)));(case aL=>have:=LMc32.out;omega);intro v156 w33 ho hb hg hat;rw [← Ny155.out] at ho;have n0_:=Aside0.mk (Kd.R_over' (R_up HO_149000.out) (Kd.N_typed (N_up HO_5.out)) (by decide) hg);have n1_:=Aside0.mk (blk_grown (blk_up BK148.out) hg (Kd.N_ne HO_5.out BK148.out (by decide)));have n2_:=Aside0.mk (hb);have n3_:=Aside0.mk (ho);clear HO_149000;clear BK148;clear HB;clear HO_5;clear HO_8;have HO_149000:=n0_;have BK148:=n1_;have HB:=n2_;have HO157:=n3_;clear n0_ n1_ n2_ n3_;clear ho hb hg hat))
          repeat (go_quiet (first|((with_reducible refine gate_builtin (b:=.append) (xs:=#[.tmp 66,.tmp 68]) rfl ?_);(try (refine gate_guard (by rfl) ?_;dsimp only));at_builtin;refine Kd.N_append (Kd.slice 33 (Kd.slice 31 k31)) (w0:=w) w.heap.size rfl (.tmp 66) (.tmp 68) 27 28 (.slice none 0 0) 24 rfl Try.underlying27 info28 rfl (by decide) (by omega) u5 x5_1 x8_3 [.slice Ao34 x8_3.length co34] (fun k_=>some k_≠(.slice Ao6 y145.length co6 : Value).ownBlock∧k_≠gb148) (fun k_=>((fun k_=>some k_≠(.slice Ao6 y145.length co6 : Value).ownBlock∧k_≠gb148)) k_∧some k_≠(u5 : Value).ownBlock) rfl rfl ?aP (fun _ hk=>hk) ?aF ?aO ?aB ?aS ?aL ?_;(case aP=>exact (Kd.FK_slice_mk (Kd.N_reads' (Kd.N_mono (ok':=(fun k_=>((fun k_=>some k_≠(.slice Ao6 y145.length co6 : Value).ownBlock∧k_≠gb148)) k_∧some k_≠(u5 : Value).ownBlock)) (HO_8.out) (fun k_ hk=>⟨⟨hk.2.1,hk.2.2⟩,hk.1⟩))).2.1 (Kd.N_F (Kd.N_mono (ok':=(fun k_=>((fun k_=>some k_≠(.slice Ao6 y145.length co6 : Value).ownBlock∧k_≠gb148)) k_∧some k_≠(u5 : Value).ownBlock)) (HO_8.out) (fun k_ hk=>⟨⟨hk.2.1,hk.2.2⟩,hk.1⟩)))));(case aB=>exact (below_go HB.out));(case aF=>exact (fun k_ hk=>⟨Kd.fresh' (Kd.R_lt (R_up HO_149000.out)) k_ hk,Kd.freshB (blk_up BK148.out) k_ hk⟩));(case aO=>exact (N_upm HO_5.out (fun _ hk=>⟨hk.2.1,hk.2.2⟩)));(case aS=>exact (below_size (below_go HB.out)));(case aL=>have:=LMc32.out;omega);intro v156 w33 ho hb hg hat;rw [← Ny155.out] at ho;have n0_:=Aside0.mk (Kd.R_over' (R_up HO_149000.out) (Kd.N_typed (N_up HO_5.out)) (by decide) hg);have n1_:=Aside0.mk (blk_grown (blk_up BK148.out) hg (Kd.N_ne HO_5.out BK148.out (by decide)));have n2_:=Aside0.mk (hb);have n3_:=Aside0.mk (ho);clear HO_149000;clear BK148;clear HB;clear HO_5;clear HO_8;have HO_149000:=n0_;have BK148:=n1_;have HB:=n2_;have HO157:=n3_;clear n0_ n1_ n2_ n3_;clear ho hb hg hat));try go_wp2_with (first|((with_reducible refine gate_builtin (b:=.append) (xs:=#[.tmp 66,.tmp 68]) rfl ?_);(try (refine gate_guard (by rfl) ?_;dsimp only));at_builtin;refine Kd.N_append (Kd.slice 33 (Kd.slice 31 k31)) (w0:=w) w.heap.size rfl (.tmp 66) (.tmp 68) 27 28 (.slice none 0 0) 24 rfl Try.underlying27 info28 rfl (by decide) (by omega) u5 x5_1 x8_3 [.slice Ao34 x8_3.length co34] (fun k_=>some k_≠(.slice Ao6 y145.length co6 : Value).ownBlock∧k_≠gb148) (fun k_=>((fun k_=>some k_≠(.slice Ao6 y145.length co6 : Value).ownBlock∧k_≠gb148)) k_∧some k_≠(u5 : Value).ownBlock) rfl rfl ?aP (fun _ hk=>hk) ?aF ?aO ?aB ?aS ?aL ?_;(case aP=>exact (Kd.FK_slice_mk (Kd.N_reads' (Kd.N_mono (ok':=(fun k_=>((fun k_=>some k_≠(.slice Ao6 y145.length co6 : Value).ownBlock∧k_≠gb148)) k_∧some k_≠(u5 : Value).ownBlock)) (HO_8.out) (fun k_ hk=>⟨⟨hk.2.1,hk.2.2⟩,hk.1⟩))).2.1 (Kd.N_F (Kd.N_mono (ok':=(fun k_=>((fun k_=>some k_≠(.slice Ao6 y145.length co6 : Value).ownBlock∧k_≠gb148)) k_∧some k_≠(u5 : Value).ownBlock)) (HO_8.out) (fun k_ hk=>⟨⟨hk.2.1,hk.2.2⟩,hk.1⟩)))));(case aB=>exact (below_go HB.out));(case aF=>exact (fun k_ hk=>⟨Kd.fresh' (Kd.R_lt (R_up HO_149000.out)) k_ hk,Kd.freshB (blk_up BK148.out) k_ hk⟩));(case aO=>exact (N_upm HO_5.out (fun _ hk=>⟨hk.2.1,hk.2.2⟩)));(case aS=>exact (below_size (below_go HB.out)));(case aL=>have:=LMc32.out;omega);intro v156 w33 ho hb hg hat;rw [← Ny155.out] at ho;have n0_:=Aside0.mk (Kd.R_over' (R_up HO_149000.out) (Kd.N_typed (N_up HO_5.out)) (by decide) hg);have n1_:=Aside0.mk (blk_grown (blk_up BK148.out) hg (Kd.N_ne HO_5.out BK148.out (by decide)));have n2_:=Aside0.mk (hb);have n3_:=Aside0.mk (ho);clear HO_149000;clear BK148;clear HB;clear HO_5;clear HO_8;have HO_149000:=n0_;have BK148:=n1_;have HB:=n2_;have HO157:=n3_;clear n0_ n1_ n2_ n3_;clear ho hb hg hat)))
          go_roundg k3
          case measure=>have:=HK1.out;have:=HJ10.out;have:=HK3.out;omega
          case rel=>exact ⟨(y155),(x6_3),(wrap64 (x7_1 + 1)),(by first|rfl|(simp;done)|(simp [*];done)),(by first|rfl|(simp;done)|(simp [*];done)),(by first|exact H'|(subst_vars;exact H')),⟨by have:=HK1.out;have:=HJ10.out;have:=HK3.out;omega⟩,⟨by (with_reducible repeat (first|apply Kd.N_alloc|apply Kd.N_drewN|apply Kd.N_drew));exact HO157.out⟩,⟨by (with_reducible repeat (first|apply Kd.R_alloc|apply Kd.R_drewN|apply Kd.R_drew));exact HO_149000.out⟩,⟨by (with_reducible repeat (first|refine blk_drewN ?_ _|refine blk_drew ?_|refine blk_alloc ?_ _));exact BK148.out⟩,⟨by repeat (first|(with_reducible first|exact HB.out|apply below_alloc|apply pw_below_drewN|apply below_drew1|refine below_set ?_ GE148.out)|exact HB.out)⟩⟩
         ·rw [if_neg c32] at H
          exact absurd H (by simp)
     ·replace c13:=Bool.eq_false_iff.mpr c13
      subst c13
      have H1 : ((merge_Rows.f kj10 y145 1 1 4 x5_1).bind fun t167=>(thresherlaw14_MergeStable.l3 kj10 t144 x6_1 t167 0))=some r:=by rw [if_neg (show ¬ (false=true) by decide)] at H;exact H
      clear H
      have H:=H1
      clear H1
      replace H:=Option.bind_eq_some_iff.mp H
      obtain ⟨t167,A350,H⟩:=H
      replace H : (thresherlaw14_MergeStable.l3 kj10 t144 x6_1 t167 0)=some r:=H
      have A35:=Aside0.mk A350
      clear A350
      have H':=Aside0.mk H
      clear H
      have hcz36_0 : wc.cell? ⟨gb148,0,none⟩=some (.slice Ao6 y145.length co6):=(blk_cell BK148.out 0).trans rfl
      have hcz36_1 : wc.cell? ⟨gb148,1,none⟩=some (.int .i64 1):=(blk_cell BK148.out 1).trans rfl
      have hcz36_2 : wc.cell? ⟨gb148,2,none⟩=some (.int .i64 1):=(blk_cell BK148.out 2).trans rfl
      have hcz36_3 : wc.cell? ⟨gb148,3,none⟩=some (.int .i64 4):=(blk_cell BK148.out 3).trans rfl
      have hfz36_0:=blk_frozen BK148.out 0
      have hfz36_1:=blk_frozen BK148.out 1
      have hfz36_2:=blk_frozen BK148.out 2
      have hfz36_3:=blk_frozen BK148.out 3
      obtain ⟨Ao37,co37,eo37⟩:=Kd.N_slice HO_5.out
      subst eo37
      go_wp2_with (first|(go_at_call 9;(with_reducible refine (merge_Rows.calls kj10 _ _ y145 1 1 4 (fun k_=>(some k_≠(.slice Ao6 y145.length co6 : Value).ownBlock∧k_≠gb148)) _ _ x5_1 t167 _ ?side1 ?side2 ?side3 A35.out).mono ?_);(case side1=>repeat (first|exact (Kd.R_reads' HO_149000.out).2.2|(with_reducible refine Kd.C_alloc ?_ _)|(with_reducible refine Kd.C_drewN ?_ _)|(with_reducible refine Kd.C_drew ?_)));(case side2=>exact (Kd.R_reads' HO_149000.out).2.1);(case side3=>exact Kd.N_V (HO_5.out));rintro e w38 ⟨v168,rfl,ho0,hb⟩;have n0_:=Aside0.mk (Kd.N_elder' (N_up HO_5.out) (by first|exact Kd.N_base ho0|exact Kd.S_base ho0) hb);have n1_:=Aside0.mk (Kd.R_below (R_up HO_149000.out) hb);have n2_:=Aside0.mk (Kd.N_lower (Kd.N_mono (ok':=fun k_=>some k_≠(.slice Ao6 y145.length co6 : Value).ownBlock∧k_≠gb148) ho0 (fun k_ hk_=>⟨Or.elim hk_ (fun hs_=>hs_.1) (fun hn_=>(Kd.fresh' (Kd.R_lt (R_up HO_149000.out)) k_ hn_)),Or.elim hk_ (fun hs_=>hs_.2) (fun hn_=>(Kd.freshB (blk_up BK148.out) k_ hn_))⟩)) (below_size (below_go HB.out)));have n3_:=Aside0.mk (blk_below (blk_up BK148.out) hb);have n4_:=Aside0.mk (below_step (below_go HB.out) hb);clear HO_5;clear HO_149000;clear BK148;clear HB;have HO_5:=n0_;have HO_149000:=n1_;have HO169:=n2_;have BK148:=n3_;have HB:=n4_;clear n0_ n1_ n2_ n3_ n4_;(try clear hb);(try clear hb2);(try clear hk);(try clear hi);(try clear ho0)))
      repeat (go_quiet (first|(go_at_call 9;(with_reducible refine (merge_Rows.calls kj10 _ _ y145 1 1 4 (fun k_=>(some k_≠(.slice Ao6 y145.length co6 : Value).ownBlock∧k_≠gb148)) _ _ x5_1 t167 _ ?side1 ?side2 ?side3 A35.out).mono ?_);(case side1=>repeat (first|exact (Kd.R_reads' HO_149000.out).2.2|(with_reducible refine Kd.C_alloc ?_ _)|(with_reducible refine Kd.C_drewN ?_ _)|(with_reducible refine Kd.C_drew ?_)));(case side2=>exact (Kd.R_reads' HO_149000.out).2.1);(case side3=>exact Kd.N_V (HO_5.out));rintro e w38 ⟨v168,rfl,ho0,hb⟩;have n0_:=Aside0.mk (Kd.N_elder' (N_up HO_5.out) (by first|exact Kd.N_base ho0|exact Kd.S_base ho0) hb);have n1_:=Aside0.mk (Kd.R_below (R_up HO_149000.out) hb);have n2_:=Aside0.mk (Kd.N_lower (Kd.N_mono (ok':=fun k_=>some k_≠(.slice Ao6 y145.length co6 : Value).ownBlock∧k_≠gb148) ho0 (fun k_ hk_=>⟨Or.elim hk_ (fun hs_=>hs_.1) (fun hn_=>(Kd.fresh' (Kd.R_lt (R_up HO_149000.out)) k_ hn_)),Or.elim hk_ (fun hs_=>hs_.2) (fun hn_=>(Kd.freshB (blk_up BK148.out) k_ hn_))⟩)) (below_size (below_go HB.out)));have n3_:=Aside0.mk (blk_below (blk_up BK148.out) hb);have n4_:=Aside0.mk (below_step (below_go HB.out) hb);clear HO_5;clear HO_149000;clear BK148;clear HB;have HO_5:=n0_;have HO_149000:=n1_;have HO169:=n2_;have BK148:=n3_;have HB:=n4_;clear n0_ n1_ n2_ n3_ n4_;(try clear hb);(try clear hb2);(try clear hk);(try clear hi);(try clear ho0)));try go_wp2_with (first|(go_at_call 9;(with_reducible refine (merge_Rows.calls kj10 _ _ y145 1 1 4 (fun k_=>(some k_≠(.slice Ao6 y145.length co6 : Value).ownBlock∧k_≠gb148)) _ _ x5_1 t167 _ ?side1 ?side2 ?side3 A35.out).mono ?_);(case side1=>repeat (first|exact (Kd.R_reads' HO_149000.out).2.2|(with_reducible refine Kd.C_alloc ?_ _)|(with_reducible refine Kd.C_drewN ?_ _)|(with_reducible refine Kd.C_drew ?_)));(case side2=>exact (Kd.R_reads' HO_149000.out).2.1);(case side3=>exact Kd.N_V (HO_5.out));rintro e w38 ⟨v168,rfl,ho0,hb⟩;have n0_:=Aside0.mk (Kd.N_elder' (N_up HO_5.out) (by first|exact Kd.N_base ho0|exact Kd.S_base ho0) hb);have n1_:=Aside0.mk (Kd.R_below (R_up HO_149000.out) hb);have n2_:=Aside0.mk (Kd.N_lower (Kd.N_mono (ok':=fun k_=>some k_≠(.slice Ao6 y145.length co6 : Value).ownBlock∧k_≠gb148) ho0 (fun k_ hk_=>⟨Or.elim hk_ (fun hs_=>hs_.1) (fun hn_=>(Kd.fresh' (Kd.R_lt (R_up HO_149000.out)) k_ hn_)),Or.elim hk_ (fun hs_=>hs_.2) (fun hn_=>(Kd.freshB (blk_up BK148.out) k_ hn_))⟩)) (below_size (below_go HB.out)));have n3_:=Aside0.mk (blk_below (blk_up BK148.out) hb);have n4_:=Aside0.mk (below_step (below_go HB.out) hb);clear HO_5;clear HO_149000;clear BK148;clear HB;have HO_5:=n0_;have HO_149000:=n1_;have HO169:=n2_;have BK148:=n3_;have HB:=n4_;clear n0_ n1_ n2_ n3_ n4_;(try clear hb);(try clear hb2);(try clear hk);(try clear hi);(try clear ho0))))
      go_loopg [12] kj10 (fun kq v12 w'=>∃ (x12_3 : Int),v12=.int .i64 x12_3∧Aside0 (thresherlaw14_MergeStable.l3 kq t144 x6_1 t167 x12_3=some r)∧Aside0 (kq≤kj10)∧Aside0 (Kd.N (Kd.slice 31 k31) 33 w' w.heap.size (fun k_=>some k_≠((.slice Ao6 y145.length co6) : Value).ownBlock∧k_≠gb148) v168 t167)∧Aside0 (Kd.R (Kd.int .i64) 3 w' w.heap.size (fun _=>True) (.slice Ao6 y145.length co6) y145)∧Aside0 (w'.heap[gb148]?=some (.cells #[(.slice Ao6 y145.length co6),.int .i64 1,.int .i64 1,.int .i64 4] 26 (0,0)))∧Aside0 (Below w.heap.size w w'))
      case atStart=>exact ⟨(0),(by first|rfl|(simp;done)|(simp [*];done)),H',⟨Nat.le_refl _⟩,⟨by (with_reducible repeat (first|apply Kd.N_alloc|apply Kd.N_drewN|apply Kd.N_drew));exact HO169.out⟩,⟨by (with_reducible repeat (first|apply Kd.R_alloc|apply Kd.R_drewN|apply Kd.R_drew));exact HO_149000.out⟩,⟨by (with_reducible repeat (first|refine blk_drewN ?_ _|refine blk_drew ?_|refine blk_alloc ?_ _));exact BK148.out⟩,⟨by repeat (first|(with_reducible first|exact HB.out|apply below_alloc|apply pw_below_drewN|apply below_drew1|refine below_set ?_ GE148.out)|exact HB.out)⟩⟩
      case round =>
       clear H'
       try clear c1
       try clear p1
       try clear q1
       try clear hx1
       try clear c2
       try clear p2
       try clear c3
       try clear p6
       try clear c12
       try clear c12b0
       try clear c13
       try clear c15
       try clear p15
       try clear q15
       try clear hx15
       try clear c16
       try clear c16b0
       try clear p16
       try clear q16
       try clear hx16
       try clear c18
       try clear c18b0
       try clear c19
       try clear c19b0
       try clear c20
       try clear c20b0
       try clear c21
       try clear c22
       try clear c22b0
       try clear c23
       try clear c23b0
       try clear c24
       try clear c24b0
       try clear c25
       try clear c25b0
       try clear c26
       try clear c26b0
       try clear c26b1
       try clear c27
       try clear c32
       try clear hcz36_0
       try clear hcz36_1
       try clear hcz36_2
       try clear hcz36_3
       try clear hcz8_0
       try clear hcz8_1
       try clear hcz8_2
       try clear hcz8_3
       try clear hfz36_0
       try clear hfz36_1
       try clear hfz36_2
       try clear hfz36_3
       try clear hfz8_0
       try clear hfz8_1
       try clear hfz8_2
       try clear hfz8_3
       try clear hx158_0
       try clear hx159_0
       try clear hx160_0
       try clear p1
       try clear p15
       try clear p158
       try clear p159
       try clear p160
       try clear p2
       try clear q1
       try clear q15
       try clear q158
       try clear q159
       try clear q160
       obtain ⟨x12_3,rfl,HA,HK3,HO_11,HO_149000,BK148,HB⟩:=hrel
       cases gk with
       | zero=>exact absurd HA.out (by simp [thresherlaw14_MergeStable.l3])
       | succ k3 =>
        have H:=HA.out
        clear HA
        simp only [thresherlaw14_MergeStable.l3] at H
        by_cases c39 : x12_3 < (t167.length : Int)
        ·rw [if_pos c39] at H
         have c39b0 : decide (x12_3 < (t167.length : Int))=true:=decide_eq_true c39
         clear c39
         have HC40:=Aside0.mk H
         clear H
         obtain ⟨Ao41,co41,eo41⟩:=Kd.N_slice HO_11.out
         subst eo41
         go_upto_region 23 with (fail)
         repeat (go_quiet (fail);go_upto_region 23 with (fail))
         go_cut [142] (fun v142 wc=>∃ (kq : Nat) (x142_39 : Bool),v142=.bool x142_39∧Aside0 (thresherlaw14_MergeStable.j6 kq t144 x6_1 t167 x12_3 x142_39=some r)∧Aside0 (kq≤k3)∧Aside0 (Kd.N (Kd.slice 31 k31) 33 wc w.heap.size (fun k_=>some k_≠((.slice Ao6 y145.length co6) : Value).ownBlock∧k_≠gb148) (.slice Ao41 t167.length co41) t167)∧Aside0 (Kd.R (Kd.int .i64) 3 wc w.heap.size (fun _=>True) (.slice Ao6 y145.length co6) y145)∧Aside0 (wc.heap[gb148]?=some (.cells #[(.slice Ao6 y145.length co6),.int .i64 1,.int .i64 1,.int .i64 4] 26 (0,0)))∧Aside0 (Below w.heap.size w wc))
         case first =>
          have H:=HC40.out
          clear HC40
          by_cases c42 : 0≤x12_3
          ·rw [if_pos c42] at H
           have c42b0 : decide (0≤x12_3)=true:=decide_eq_true c42
           clear c42
           (first|rw [c42b0]|(simp only [i64_w,i32_w];rw [c42b0])|skip)
           by_cases c43 : ((rd_L3 t167 x12_3).length : Int)=2
           ·rw [if_pos c43] at H
            have c43b0 : (((rd_L3 t167 x12_3).length : Int) == 2)=true:=beq_iff_eq.mpr c43
            have c43b1 : (((rd_L3 t167 x12_3).length : Int) != 2)=false:=bne_eq_false_iff_eq.mpr c43
            clear c43
            by_cases c44 : x12_3 > 0
            ·rw [if_pos c44] at H
             have c44b0 : decide (0 < x12_3)=true:=decide_eq_true c44
             clear c44
             obtain ⟨ji45,hji45⟩ : ∃ j_ : Int,(wrap64 (x12_3 - 1))=j_:=⟨_,rfl⟩
             replace H : (if 0≤(ji45) then (if (ji45) < (t167.length : Int) then (if 0 < ((rd_L3 t167 (ji45)).length : Int) then (if 0 < ((rd_L3 t167 x12_3).length : Int) then (if ((rd_T31 (rd_L3 t167 (ji45)) 0).f0) > ((rd_T31 (rd_L3 t167 x12_3) 0).f0) then (thresherlaw14_MergeStable.j6 k3 t144 x6_1 t167 x12_3 true) else (if ((rd_T31 (rd_L3 t167 (ji45)) 0).f0)=((rd_T31 (rd_L3 t167 x12_3) 0).f0) then (if 1 < ((rd_L3 t167 (ji45)).length : Int) then (if 1 < ((rd_L3 t167 x12_3).length : Int) then (thresherlaw14_MergeStable.j6 k3 t144 x6_1 t167 x12_3 (decide (((rd_T31 (rd_L3 t167 (ji45)) 1).f0) ≥ ((rd_T31 (rd_L3 t167 x12_3) 1).f0)))) else (none)) else (none)) else (thresherlaw14_MergeStable.j6 k3 t144 x6_1 t167 x12_3 false))) else (none)) else (none)) else (none)) else (none))=some r:=by first|(rw [hji45] at H;exact H)|(simp only [hji45] at H ⊢;exact H)
             have hji45w : (IntKind.i64.wrap (x12_3 - 1))=ji45:=(i64_w _).trans hji45
             by_cases c46 : 0≤(ji45)
             ·rw [if_pos c46] at H
              have c46b0 : decide (0≤(ji45))=true:=decide_eq_true c46
              clear c46
              by_cases c47 : (ji45) < (t167.length : Int)
              ·rw [if_pos c47] at H
               have c47b0 : decide ((ji45) < (t167.length : Int))=true:=decide_eq_true c47
               clear c47
               by_cases c48 : 0 < ((rd_L3 t167 (ji45)).length : Int)
               ·rw [if_pos c48] at H
                have c48b0 : decide (0 < ((rd_L3 t167 (ji45)).length : Int))=true:=decide_eq_true c48
                have c48b1 : decide (0 < (rd_L3 t167 (ji45)).length)=true:=decide_eq_true (by omega)
                clear c48
                by_cases c49 : 0 < ((rd_L3 t167 x12_3).length : Int)
                ·rw [if_pos c49] at H
                 have c49b0 : decide (0 < ((rd_L3 t167 x12_3).length : Int))=true:=decide_eq_true c49
                 have c49b1 : decide (0 < (rd_L3 t167 x12_3).length)=true:=decide_eq_true (by omega)
                 clear c49
                 by_cases c50 : ((rd_T31 (rd_L3 t167 (ji45)) 0).f0) > ((rd_T31 (rd_L3 t167 x12_3) 0).f0)
                 ·rw [if_pos c50] at H
                  have c50b0 : decide (((rd_T31 (rd_L3 t167 x12_3) 0).f0) < ((rd_T31 (rd_L3 t167 (ji45)) 0).f0))=true:=decide_eq_true c50
                  clear c50
                  have H':=Aside0.mk H
                  clear H
                  have p170 : 0≤(x12_3 : Int):=of_decide_eq_true (by first|(with_reducible assumption)|assumption)
                  have q170 : x12_3 < (t167.length : Int):=of_decide_eq_true (by first|(with_reducible assumption)|assumption)
                  obtain ⟨ad170,A170_0,c170_0,e170,hx170_0,hl170_0,hi170_0⟩:=at_L3 (Kd.N_reads' HO_11.out).2.2 x12_3 p170 q170
                  cases e170
                  obtain ⟨ce170,hce170,hMe170,hcc170⟩:=Kd.N_get HO_11.out [] x12_3 p170 (by first|exact q170|exact of_decide_eq_true (by first|(with_reducible assumption)|assumption)|(have e_:=(Kd.N_reads' HO_11.out).1;omega))
                  obtain ⟨ua170_0,uc170_0,rfl,ul170_0,ge170_0⟩:=Kd.FK_slice_open hMe170
                  have hv170_0:=hcc170 0 _ rfl
                  rw [Nat.add_zero,show ((Kd.slice 31 k31)).sz=1 from rfl,Nat.mul_one] at hv170_0
                  replace hv170_0:=Option.some.inj (hv170_0.symm.trans hx170_0)
                  injection hv170_0 with hva_ hvn_ hvc_
                  rw [hva_] at ge170_0
                  rw [hvc_] at ul170_0
                  have HL170_0:=Aside0.mk (show Kd.V k31 31 _ w.heap.size _ _ (rd_L3 t167 x12_3) from Kd.V_mk ul170_0 ge170_0)
                  clear hva_ hvn_ hvc_ ge170_0 ul170_0
                  clear hcc170 hce170
                  have HR170_0:=Aside0.mk hi170_0
                  have HC170_0:=Aside0.mk hl170_0
                  clear hi170_0 hl170_0
                  replace p170:=eq_true p170
                  replace q170:=eq_true q170
                  have p171 : 0≤((ji45) : Int):=of_decide_eq_true (by first|(with_reducible assumption)|assumption)
                  have q171 : (ji45) < (t167.length : Int):=of_decide_eq_true (by first|(with_reducible assumption)|assumption)
                  obtain ⟨ad171,A171_0,c171_0,e171,hx171_0,hl171_0,hi171_0⟩:=at_L3 (Kd.N_reads' HO_11.out).2.2 (ji45) p171 q171
                  obtain rfl : ad170=ad171:=(by injection e171)
                  obtain ⟨ce171,hce171,hMe171,hcc171⟩:=Kd.N_get HO_11.out [] (ji45) p171 (by first|exact q171|exact of_decide_eq_true (by first|(with_reducible assumption)|assumption)|(have e_:=(Kd.N_reads' HO_11.out).1;omega))
                  obtain ⟨ua171_0,uc171_0,rfl,ul171_0,ge171_0⟩:=Kd.FK_slice_open hMe171
                  have hv171_0:=hcc171 0 _ rfl
                  rw [Nat.add_zero,show ((Kd.slice 31 k31)).sz=1 from rfl,Nat.mul_one] at hv171_0
                  replace hv171_0:=Option.some.inj (hv171_0.symm.trans hx171_0)
                  injection hv171_0 with hva_ hvn_ hvc_
                  rw [hva_] at ge171_0
                  rw [hvc_] at ul171_0
                  have HL171_0:=Aside0.mk (show Kd.V k31 31 _ w.heap.size _ _ (rd_L3 t167 (ji45)) from Kd.V_mk ul171_0 ge171_0)
                  clear hva_ hvn_ hvc_ ge171_0 ul171_0
                  clear hcc171 hce171
                  have HR171_0:=Aside0.mk hi171_0
                  have HC171_0:=Aside0.mk hl171_0
                  clear hi171_0 hl171_0
                  replace p171:=eq_true p171
                  replace q171:=eq_true q171
                  have p172 : 0≤(0 : Int):=(by omega)
                  have q172 : 0 < ((rd_L3 t167 (ji45)).length : Int):=of_decide_eq_true (by first|(with_reducible assumption)|assumption)
                  obtain ⟨ad172,e172,hx172_0,hx172_1⟩:=at_T31 (by repeat (first|(with_reducible exact HR171_0.out)|(with_reducible refine Kd.C_alloc ?_ _)|(with_reducible refine Kd.C_drewN ?_ _)|(with_reducible refine Kd.C_drew ?_)|exact HR171_0.out)) 0 p172 q172
                  cases e172
                  have qi172 : (0 < (rd_L3 t167 (ji45)).length)=True:=eq_true (by omega)
                  (try rw [show ((0 : Int)).toNat=0 from rfl] at hx172_0)
                  (try rw [show 0 * 2=0 from rfl] at hx172_0)
                  (try rw [Addr.add_zero'] at hx172_0)
                  (try rw [show ((0 : Int)).toNat=0 from rfl] at hx172_1)
                  (try rw [show 0 * 2=0 from rfl] at hx172_1)
                  (try rw [Addr.add_zero'] at hx172_1)
                  replace p172:=eq_true p172
                  replace q172:=eq_true q172
                  have p173 : 0≤(x12_3 : Int):=of_decide_eq_true (by first|(with_reducible assumption)|assumption)
                  have q173 : x12_3 < (t167.length : Int):=of_decide_eq_true (by first|(with_reducible assumption)|assumption)
                  obtain ⟨ad173,A173_0,c173_0,e173,hx173_0,hl173_0,hi173_0⟩:=at_L3 (Kd.N_reads' HO_11.out).2.2 x12_3 p173 q173
                  obtain rfl : ad170=ad173:=(by injection e173)
                  obtain ⟨ce173,hce173,hMe173,hcc173⟩:=Kd.N_get HO_11.out [] x12_3 p173 (by first|exact q173|exact of_decide_eq_true (by first|(with_reducible assumption)|assumption)|(have e_:=(Kd.N_reads' HO_11.out).1;omega))
                  obtain ⟨ua173_0,uc173_0,rfl,ul173_0,ge173_0⟩:=Kd.FK_slice_open hMe173
                  have hv173_0:=hcc173 0 _ rfl
                  rw [Nat.add_zero,show ((Kd.slice 31 k31)).sz=1 from rfl,Nat.mul_one] at hv173_0
                  replace hv173_0:=Option.some.inj (hv173_0.symm.trans hx173_0)
                  injection hv173_0 with hva_ hvn_ hvc_
                  rw [hva_] at ge173_0
                  rw [hvc_] at ul173_0
                  have HL173_0:=Aside0.mk (show Kd.V k31 31 _ w.heap.size _ _ (rd_L3 t167 x12_3) from Kd.V_mk ul173_0 ge173_0)
                  clear hva_ hvn_ hvc_ ge173_0 ul173_0
                  clear hcc173 hce173
                  have HR173_0:=Aside0.mk hi173_0
                  have HC173_0:=Aside0.mk hl173_0
                  clear hi173_0 hl173_0
                  replace p173:=eq_true p173
                  replace q173:=eq_true q173
                  have ea_:=Option.some.inj (hx170_0.symm.trans hx173_0)
                  injection ea_ with ea_ en_ ec_
                  subst ea_
                  subst ec_
                  clear en_
                  have p174 : 0≤(0 : Int):=(by omega)
                  have q174 : 0 < ((rd_L3 t167 x12_3).length : Int):=of_decide_eq_true (by first|(with_reducible assumption)|assumption)
                  obtain ⟨ad174,e174,hx174_0,hx174_1⟩:=at_T31 (by repeat (first|(with_reducible exact HR173_0.out)|(with_reducible refine Kd.C_alloc ?_ _)|(with_reducible refine Kd.C_drewN ?_ _)|(with_reducible refine Kd.C_drew ?_)|exact HR173_0.out)) 0 p174 q174
                  cases e174
                  have qi174 : (0 < (rd_L3 t167 x12_3).length)=True:=eq_true (by omega)
                  (try rw [show ((0 : Int)).toNat=0 from rfl] at hx174_0)
                  (try rw [show 0 * 2=0 from rfl] at hx174_0)
                  (try rw [Addr.add_zero'] at hx174_0)
                  (try rw [show ((0 : Int)).toNat=0 from rfl] at hx174_1)
                  (try rw [show 0 * 2=0 from rfl] at hx174_1)
                  (try rw [Addr.add_zero'] at hx174_1)
                  replace p174:=eq_true p174
                  replace q174:=eq_true q174
                  go_wp2
                  repeat (go_quiet (fail);try go_wp2)
                  go_meet
                  case rel=>exact ⟨_,(true),(by first|rfl|(simp;done)|(simp [*];done)),(by first|exact H'|(subst_vars;exact H')),⟨by have:=HK1.out;have:=HJ10.out;have:=HK3.out;first|omega|exact Nat.le_refl _⟩,⟨by (with_reducible repeat (first|apply Kd.N_alloc|apply Kd.N_drewN|apply Kd.N_drew));exact HO_11.out⟩,⟨by (with_reducible repeat (first|apply Kd.R_alloc|apply Kd.R_drewN|apply Kd.R_drew));exact HO_149000.out⟩,⟨by (with_reducible repeat (first|refine blk_drewN ?_ _|refine blk_drew ?_|refine blk_alloc ?_ _));exact BK148.out⟩,⟨by repeat (first|(with_reducible first|exact HB.out|apply below_alloc|apply pw_below_drewN|apply below_drew1|refine below_set ?_ GE148.out)|exact HB.out)⟩⟩
                 ·rw [if_neg c50] at H
                  have c50b0 : decide (((rd_T31 (rd_L3 t167 x12_3) 0).f0) < ((rd_T31 (rd_L3 t167 (ji45)) 0).f0))=false:=decide_eq_false c50
                  clear c50
                  by_cases c51 : ((rd_T31 (rd_L3 t167 (ji45)) 0).f0)=((rd_T31 (rd_L3 t167 x12_3) 0).f0)
                  ·rw [if_pos c51] at H
                   have c51b0 : (((rd_T31 (rd_L3 t167 (ji45)) 0).f0) == ((rd_T31 (rd_L3 t167 x12_3) 0).f0))=true:=beq_iff_eq.mpr c51
                   have c51b1 : (((rd_T31 (rd_L3 t167 (ji45)) 0).f0) != ((rd_T31 (rd_L3 t167 x12_3) 0).f0))=false:=bne_eq_false_iff_eq.mpr c51
                   clear c51
                   by_cases c52 : 1 < ((rd_L3 t167 (ji45)).length : Int)
                   ·rw [if_pos c52] at H
                    have c52b0 : decide (1 < ((rd_L3 t167 (ji45)).length : Int))=true:=decide_eq_true c52
                    have c52b1 : decide (1 < (rd_L3 t167 (ji45)).length)=true:=decide_eq_true (by omega)
                    clear c52
                    by_cases c53 : 1 < ((rd_L3 t167 x12_3).length : Int)
                    ·rw [if_pos c53] at H
                     have c53b0 : decide (1 < ((rd_L3 t167 x12_3).length : Int))=true:=decide_eq_true c53
                     have c53b1 : decide (1 < (rd_L3 t167 x12_3).length)=true:=decide_eq_true (by omega)
                     clear c53
                     have H':=Aside0.mk H
                     clear H
                     have p170 : 0≤(x12_3 : Int):=of_decide_eq_true (by first|(with_reducible assumption)|assumption)
                     have q170 : x12_3 < (t167.length : Int):=of_decide_eq_true (by first|(with_reducible assumption)|assumption)
                     obtain ⟨ad170,A170_0,c170_0,e170,hx170_0,hl170_0,hi170_0⟩:=at_L3 (Kd.N_reads' HO_11.out).2.2 x12_3 p170 q170
                     cases e170
                     obtain ⟨ce170,hce170,hMe170,hcc170⟩:=Kd.N_get HO_11.out [] x12_3 p170 (by first|exact q170|exact of_decide_eq_true (by first|(with_reducible assumption)|assumption)|(have e_:=(Kd.N_reads' HO_11.out).1;omega))
                     obtain ⟨ua170_0,uc170_0,rfl,ul170_0,ge170_0⟩:=Kd.FK_slice_open hMe170
                     have hv170_0:=hcc170 0 _ rfl
                     rw [Nat.add_zero,show ((Kd.slice 31 k31)).sz=1 from rfl,Nat.mul_one] at hv170_0
                     replace hv170_0:=Option.some.inj (hv170_0.symm.trans hx170_0)
                     injection hv170_0 with hva_ hvn_ hvc_
                     rw [hva_] at ge170_0
                     rw [hvc_] at ul170_0
                     have HL170_0:=Aside0.mk (show Kd.V k31 31 _ w.heap.size _ _ (rd_L3 t167 x12_3) from Kd.V_mk ul170_0 ge170_0)
                     clear hva_ hvn_ hvc_ ge170_0 ul170_0
                     clear hcc170 hce170
                     have HR170_0:=Aside0.mk hi170_0
                     have HC170_0:=Aside0.mk hl170_0
                     clear hi170_0 hl170_0
                     replace p170:=eq_true p170
                     replace q170:=eq_true q170
                     have p171 : 0≤((ji45) : Int):=of_decide_eq_true (by first|(with_reducible assumption)|assumption)
                     have q171 : (ji45) < (t167.length : Int):=of_decide_eq_true (by first|(with_reducible assumption)|assumption)
                     obtain ⟨ad171,A171_0,c171_0,e171,hx171_0,hl171_0,hi171_0⟩:=at_L3 (Kd.N_reads' HO_11.out).2.2 (ji45) p171 q171
                     obtain rfl : ad170=ad171:=(by injection e171)
                     obtain ⟨ce171,hce171,hMe171,hcc171⟩:=Kd.N_get HO_11.out [] (ji45) p171 (by first|exact q171|exact of_decide_eq_true (by first|(with_reducible assumption)|assumption)|(have e_:=(Kd.N_reads' HO_11.out).1;omega))
                     obtain ⟨ua171_0,uc171_0,rfl,ul171_0,ge171_0⟩:=Kd.FK_slice_open hMe171
                     have hv171_0:=hcc171 0 _ rfl
                     rw [Nat.add_zero,show ((Kd.slice 31 k31)).sz=1 from rfl,Nat.mul_one] at hv171_0
                     replace hv171_0:=Option.some.inj (hv171_0.symm.trans hx171_0)
                     injection hv171_0 with hva_ hvn_ hvc_
                     rw [hva_] at ge171_0
                     rw [hvc_] at ul171_0
                     have HL171_0:=Aside0.mk (show Kd.V k31 31 _ w.heap.size _ _ (rd_L3 t167 (ji45)) from Kd.V_mk ul171_0 ge171_0)
                     clear hva_ hvn_ hvc_ ge171_0 ul171_0
                     clear hcc171 hce171
                     have HR171_0:=Aside0.mk hi171_0
                     have HC171_0:=Aside0.mk hl171_0
                     clear hi171_0 hl171_0
                     replace p171:=eq_true p171
                     replace q171:=eq_true q171
                     have p172 : 0≤(0 : Int):=(by omega)
                     have q172 : 0 < ((rd_L3 t167 (ji45)).length : Int):=of_decide_eq_true (by first|(with_reducible assumption)|assumption)
                     obtain ⟨ad172,e172,hx172_0,hx172_1⟩:=at_T31 (by repeat (first|(with_reducible exact HR171_0.out)|(with_reducible refine Kd.C_alloc ?_ _)|(with_reducible refine Kd.C_drewN ?_ _)|(with_reducible refine Kd.C_drew ?_)|exact HR171_0.out)) 0 p172 q172
                     cases e172
                     have qi172 : (0 < (rd_L3 t167 (ji45)).length)=True:=eq_true (by omega)
                     (try rw [show ((0 : Int)).toNat=0 from rfl] at hx172_0)
                     (try rw [show 0 * 2=0 from rfl] at hx172_0)
                     (try rw [Addr.add_zero'] at hx172_0)
                     (try rw [show ((0 : Int)).toNat=0 from rfl] at hx172_1)
                     (try rw [show 0 * 2=0 from rfl] at hx172_1)
                     (try rw [Addr.add_zero'] at hx172_1)
                     replace p172:=eq_true p172
                     replace q172:=eq_true q172
                     have p173 : 0≤(x12_3 : Int):=of_decide_eq_true (by first|(with_reducible assumption)|assumption)
                     have q173 : x12_3 < (t167.length : Int):=of_decide_eq_true (by first|(with_reducible assumption)|assumption)
                     obtain ⟨ad173,A173_0,c173_0,e173,hx173_0,hl173_0,hi173_0⟩:=at_L3 (Kd.N_reads' HO_11.out).2.2 x12_3 p173 q173
                     obtain rfl : ad170=ad173:=(by injection e173)
                     obtain ⟨ce173,hce173,hMe173,hcc173⟩:=Kd.N_get HO_11.out [] x12_3 p173 (by first|exact q173|exact of_decide_eq_true (by first|(with_reducible assumption)|assumption)|(have e_:=(Kd.N_reads' HO_11.out).1;omega))
                     obtain ⟨ua173_0,uc173_0,rfl,ul173_0,ge173_0⟩:=Kd.FK_slice_open hMe173
                     have hv173_0:=hcc173 0 _ rfl
                     rw [Nat.add_zero,show ((Kd.slice 31 k31)).sz=1 from rfl,Nat.mul_one] at hv173_0
                     replace hv173_0:=Option.some.inj (hv173_0.symm.trans hx173_0)
                     injection hv173_0 with hva_ hvn_ hvc_
                     rw [hva_] at ge173_0
                     rw [hvc_] at ul173_0
                     have HL173_0:=Aside0.mk (show Kd.V k31 31 _ w.heap.size _ _ (rd_L3 t167 x12_3) from Kd.V_mk ul173_0 ge173_0)
                     clear hva_ hvn_ hvc_ ge173_0 ul173_0
                     clear hcc173 hce173
                     have HR173_0:=Aside0.mk hi173_0
                     have HC173_0:=Aside0.mk hl173_0
                     clear hi173_0 hl173_0
                     replace p173:=eq_true p173
                     replace q173:=eq_true q173
                     have ea_:=Option.some.inj (hx170_0.symm.trans hx173_0)
                     injection ea_ with ea_ en_ ec_
                     subst ea_
                     subst ec_
                     clear en_
                     have p174 : 0≤(0 : Int):=(by omega)
                     have q174 : 0 < ((rd_L3 t167 x12_3).length : Int):=of_decide_eq_true (by first|(with_reducible assumption)|assumption)
                     obtain ⟨ad174,e174,hx174_0,hx174_1⟩:=at_T31 (by repeat (first|(with_reducible exact HR173_0.out)|(with_reducible refine Kd.C_alloc ?_ _)|(with_reducible refine Kd.C_drewN ?_ _)|(with_reducible refine Kd.C_drew ?_)|exact HR173_0.out)) 0 p174 q174
                     cases e174
                     have qi174 : (0 < (rd_L3 t167 x12_3).length)=True:=eq_true (by omega)
                     (try rw [show ((0 : Int)).toNat=0 from rfl] at hx174_0)
                     (try rw [show 0 * 2=0 from rfl] at hx174_0)
                     (try rw [Addr.add_zero'] at hx174_0)
                     (try rw [show ((0 : Int)).toNat=0 from rfl] at hx174_1)
                     (try rw [show 0 * 2=0 from rfl] at hx174_1)
                     (try rw [Addr.add_zero'] at hx174_1)
                     replace p174:=eq_true p174
                     replace q174:=eq_true q174
                     have p175 : 0≤((ji45) : Int):=of_decide_eq_true (by first|(with_reducible assumption)|assumption)
                     have q175 : (ji45) < (t167.length : Int):=of_decide_eq_true (by first|(with_reducible assumption)|assumption)
                     obtain ⟨ad175,A175_0,c175_0,e175,hx175_0,hl175_0,hi175_0⟩:=at_L3 (Kd.N_reads' HO_11.out).2.2 (ji45) p175 q175
                     obtain rfl : ad170=ad175:=(by injection e175)
                     obtain ⟨ce175,hce175,hMe175,hcc175⟩:=Kd.N_get HO_11.out [] (ji45) p175 (by first|exact q175|exact of_decide_eq_true (by first|(with_reducible assumption)|assumption)|(have e_:=(Kd.N_reads' HO_11.out).1;omega))
                     obtain ⟨ua175_0,uc175_0,rfl,ul175_0,ge175_0⟩:=Kd.FK_slice_open hMe175
                     have hv175_0:=hcc175 0 _ rfl
                     rw [Nat.add_zero,show ((Kd.slice 31 k31)).sz=1 from rfl,Nat.mul_one] at hv175_0
                     replace hv175_0:=Option.some.inj (hv175_0.symm.trans hx175_0)
                     injection hv175_0 with hva_ hvn_ hvc_
                     rw [hva_] at ge175_0
                     rw [hvc_] at ul175_0
                     have HL175_0:=Aside0.mk (show Kd.V k31 31 _ w.heap.size _ _ (rd_L3 t167 (ji45)) from Kd.V_mk ul175_0 ge175_0)
                     clear hva_ hvn_ hvc_ ge175_0 ul175_0
                     clear hcc175 hce175
                     have HR175_0:=Aside0.mk hi175_0
                     have HC175_0:=Aside0.mk hl175_0
                     clear hi175_0 hl175_0
                     replace p175:=eq_true p175
                     replace q175:=eq_true q175
                     have ea_:=Option.some.inj (hx171_0.symm.trans hx175_0)
                     injection ea_ with ea_ en_ ec_
                     subst ea_
                     subst ec_
                     clear en_
                     have p176 : 0≤(0 : Int):=(by omega)
                     have q176 : 0 < ((rd_L3 t167 (ji45)).length : Int):=of_decide_eq_true (by first|(with_reducible assumption)|assumption)
                     obtain ⟨ad176,e176,hx176_0,hx176_1⟩:=at_T31 (by repeat (first|(with_reducible exact HR175_0.out)|(with_reducible refine Kd.C_alloc ?_ _)|(with_reducible refine Kd.C_drewN ?_ _)|(with_reducible refine Kd.C_drew ?_)|exact HR175_0.out)) 0 p176 q176
                     cases e176
                     have qi176 : (0 < (rd_L3 t167 (ji45)).length)=True:=eq_true (by omega)
                     (try rw [show ((0 : Int)).toNat=0 from rfl] at hx176_0)
                     (try rw [show 0 * 2=0 from rfl] at hx176_0)
                     (try rw [Addr.add_zero'] at hx176_0)
                     (try rw [show ((0 : Int)).toNat=0 from rfl] at hx176_1)
                     (try rw [show 0 * 2=0 from rfl] at hx176_1)
                     (try rw [Addr.add_zero'] at hx176_1)
                     replace p176:=eq_true p176
                     replace q176:=eq_true q176
                     have p177 : 0≤(x12_3 : Int):=of_decide_eq_true (by first|(with_reducible assumption)|assumption)
                     have q177 : x12_3 < (t167.length : Int):=of_decide_eq_true (by first|(with_reducible assumption)|assumption)
                     obtain ⟨ad177,A177_0,c177_0,e177,hx177_0,hl177_0,hi177_0⟩:=at_L3 (Kd.N_reads' HO_11.out).2.2 x12_3 p177 q177
                     obtain rfl : ad170=ad177:=(by injection e177)
                     obtain ⟨ce177,hce177,hMe177,hcc177⟩:=Kd.N_get HO_11.out [] x12_3 p177 (by first|exact q177|exact of_decide_eq_true (by first|(with_reducible assumption)|assumption)|(have e_:=(Kd.N_reads' HO_11.out).1;omega))
                     obtain ⟨ua177_0,uc177_0,rfl,ul177_0,ge177_0⟩:=Kd.FK_slice_open hMe177
                     have hv177_0:=hcc177 0 _ rfl
                     rw [Nat.add_zero,show ((Kd.slice 31 k31)).sz=1 from rfl,Nat.mul_one] at hv177_0
                     replace hv177_0:=Option.some.inj (hv177_0.symm.trans hx177_0)
                     injection hv177_0 with hva_ hvn_ hvc_
                     rw [hva_] at ge177_0
                     rw [hvc_] at ul177_0
                     have HL177_0:=Aside0.mk (show Kd.V k31 31 _ w.heap.size _ _ (rd_L3 t167 x12_3) from Kd.V_mk ul177_0 ge177_0)
                     clear hva_ hvn_ hvc_ ge177_0 ul177_0
                     clear hcc177 hce177
                     have HR177_0:=Aside0.mk hi177_0
                     have HC177_0:=Aside0.mk hl177_0
                     clear hi177_0 hl177_0
                     replace p177:=eq_true p177
                     replace q177:=eq_true q177
                     have ea_:=Option.some.inj (hx170_0.symm.trans hx177_0)
                     injection ea_ with ea_ en_ ec_
                     subst ea_
                     subst ec_
                     clear en_
                     have p178 : 0≤(0 : Int):=(by omega)
                     have q178 : 0 < ((rd_L3 t167 x12_3).length : Int):=of_decide_eq_true (by first|(with_reducible assumption)|assumption)
                     obtain ⟨ad178,e178,hx178_0,hx178_1⟩:=at_T31 (by repeat (first|(with_reducible exact HR177_0.out)|(with_reducible refine Kd.C_alloc ?_ _)|(with_reducible refine Kd.C_drewN ?_ _)|(with_reducible refine Kd.C_drew ?_)|exact HR177_0.out)) 0 p178 q178
                     cases e178
                     have qi178 : (0 < (rd_L3 t167 x12_3).length)=True:=eq_true (by omega)
                     (try rw [show ((0 : Int)).toNat=0 from rfl] at hx178_0)
                     (try rw [show 0 * 2=0 from rfl] at hx178_0)
                     (try rw [Addr.add_zero'] at hx178_0)
                     (try rw [show ((0 : Int)).toNat=0 from rfl] at hx178_1)
                     (try rw [show 0 * 2=0 from rfl] at hx178_1)
                     (try rw [Addr.add_zero'] at hx178_1)
                     replace p178:=eq_true p178
                     replace q178:=eq_true q178
                     have p179 : 0≤((ji45) : Int):=of_decide_eq_true (by first|(with_reducible assumption)|assumption)
                     have q179 : (ji45) < (t167.length : Int):=of_decide_eq_true (by first|(with_reducible assumption)|assumption)
                     obtain ⟨ad179,A179_0,c179_0,e179,hx179_0,hl179_0,hi179_0⟩:=at_L3 (Kd.N_reads' HO_11.out).2.2 (ji45) p179 q179
                     obtain rfl : ad170=ad179:=(by injection e179)
                     obtain ⟨ce179,hce179,hMe179,hcc179⟩:=Kd.N_get HO_11.out [] (ji45) p179 (by first|exact q179|exact of_decide_eq_true (by first|(with_reducible assumption)|assumption)|(have e_:=(Kd.N_reads' HO_11.out).1;omega))
                     obtain ⟨ua179_0,uc179_0,rfl,ul179_0,ge179_0⟩:=Kd.FK_slice_open hMe179
                     have hv179_0:=hcc179 0 _ rfl
                     rw [Nat.add_zero,show ((Kd.slice 31 k31)).sz=1 from rfl,Nat.mul_one] at hv179_0
                     replace hv179_0:=Option.some.inj (hv179_0.symm.trans hx179_0)
                     injection hv179_0 with hva_ hvn_ hvc_
                     rw [hva_] at ge179_0
                     rw [hvc_] at ul179_0
                     have HL179_0:=Aside0.mk (show Kd.V k31 31 _ w.heap.size _ _ (rd_L3 t167 (ji45)) from Kd.V_mk ul179_0 ge179_0)
                     clear hva_ hvn_ hvc_ ge179_0 ul179_0
                     clear hcc179 hce179
                     have HR179_0:=Aside0.mk hi179_0
                     have HC179_0:=Aside0.mk hl179_0
                     clear hi179_0 hl179_0
                     replace p179:=eq_true p179
                     replace q179:=eq_true q179
                     have ea_:=Option.some.inj (hx171_0.symm.trans hx179_0)
                     injection ea_ with ea_ en_ ec_
                     subst ea_
                     subst ec_
                     clear en_
                     have p180 : 0≤(1 : Int):=(by omega)
                     have q180 : 1 < ((rd_L3 t167 (ji45)).length : Int):=of_decide_eq_true (by first|(with_reducible assumption)|assumption)
                     obtain ⟨ad180,e180,hx180_0,hx180_1⟩:=at_T31 (by repeat (first|(with_reducible exact HR179_0.out)|(with_reducible refine Kd.C_alloc ?_ _)|(with_reducible refine Kd.C_drewN ?_ _)|(with_reducible refine Kd.C_drew ?_)|exact HR179_0.out)) 1 p180 q180
                     cases e180
                     (try simp only [show (1 : Int).toNat=1 from rfl,Nat.reduceMul,Nat.reduceEqDiff,Go.Addr.add,↓reduceIte] at hx180_0)
                     (try simp only [show (1 : Int).toNat=1 from rfl,Nat.reduceMul,Nat.reduceEqDiff,Go.Addr.add,↓reduceIte] at hx180_1)
                     have qi180 : (1 < (rd_L3 t167 (ji45)).length)=True:=eq_true (by omega)
                     (try rw [show ((1 : Int)).toNat=1 from rfl] at hx180_0)
                     (try rw [show 1 * 2=2 from rfl] at hx180_0)
                     (try rw [show ((1 : Int)).toNat=1 from rfl] at hx180_1)
                     (try rw [show 1 * 2=2 from rfl] at hx180_1)
                     replace p180:=eq_true p180
                     replace q180:=eq_true q180
                     have p181 : 0≤(x12_3 : Int):=of_decide_eq_true (by first|(with_reducible assumption)|assumption)
                     have q181 : x12_3 < (t167.length : Int):=of_decide_eq_true (by first|(with_reducible assumption)|assumption)
                     obtain ⟨ad181,A181_0,c181_0,e181,hx181_0,hl181_0,hi181_0⟩:=at_L3 (Kd.N_reads' HO_11.out).2.2 x12_3 p181 q181
                     obtain rfl : ad170=ad181:=(by injection e181)
                     obtain ⟨ce181,hce181,hMe181,hcc181⟩:=Kd.N_get HO_11.out [] x12_3 p181 (by first|exact q181|exact of_decide_eq_true (by first|(with_reducible assumption)|assumption)|(have e_:=(Kd.N_reads' HO_11.out).1;omega))
                     obtain ⟨ua181_0,uc181_0,rfl,ul181_0,ge181_0⟩:=Kd.FK_slice_open hMe181
                     have hv181_0:=hcc181 0 _ rfl
                     rw [Nat.add_zero,show ((Kd.slice 31 k31)).sz=1 from rfl,Nat.mul_one] at hv181_0
                     replace hv181_0:=Option.some.inj (hv181_0.symm.trans hx181_0)
                     injection hv181_0 with hva_ hvn_ hvc_
                     rw [hva_] at ge181_0
                     rw [hvc_] at ul181_0
                     have HL181_0:=Aside0.mk (show Kd.V k31 31 _ w.heap.size _ _ (rd_L3 t167 x12_3) from Kd.V_mk ul181_0 ge181_0)
                     clear hva_ hvn_ hvc_ ge181_0 ul181_0
                     clear hcc181 hce181
                     have HR181_0:=Aside0.mk hi181_0
                     have HC181_0:=Aside0.mk hl181_0
                     clear hi181_0 hl181_0
                     replace p181:=eq_true p181
                     replace q181:=eq_true q181
                     have ea_:=Option.some.inj (hx170_0.symm.trans hx181_0)
                     injection ea_ with ea_ en_ ec_
                     subst ea_
                     subst ec_
                     clear en_
                     have p182 : 0≤(1 : Int):=(by omega)
                     have q182 : 1 < ((rd_L3 t167 x12_3).length : Int):=of_decide_eq_true (by first|(with_reducible assumption)|assumption)
                     obtain ⟨ad182,e182,hx182_0,hx182_1⟩:=at_T31 (by repeat (first|(with_reducible exact HR181_0.out)|(with_reducible refine Kd.C_alloc ?_ _)|(with_reducible refine Kd.C_drewN ?_ _)|(with_reducible refine Kd.C_drew ?_)|exact HR181_0.out)) 1 p182 q182
                     cases e182
                     (try simp only [show (1 : Int).toNat=1 from rfl,Nat.reduceMul,Nat.reduceEqDiff,Go.Addr.add,↓reduceIte] at hx182_0)
                     (try simp only [show (1 : Int).toNat=1 from rfl,Nat.reduceMul,Nat.reduceEqDiff,Go.Addr.add,↓reduceIte] at hx182_1)
                     have qi182 : (1 < (rd_L3 t167 x12_3).length)=True:=eq_true (by omega)
                     (try rw [show ((1 : Int)).toNat=1 from rfl] at hx182_0)
                     (try rw [show 1 * 2=2 from rfl] at hx182_0)
                     (try rw [show ((1 : Int)).toNat=1 from rfl] at hx182_1)
                     (try rw [show 1 * 2=2 from rfl] at hx182_1)
                     replace p182:=eq_true p182
                     replace q182:=eq_true q182
                     go_wp2
                     repeat (go_quiet (fail);try go_wp2)
                     go_meet
                     case rel=>exact ⟨_,(decide (((rd_T31 (rd_L3 t167 (ji45)) 1).f0) ≥ ((rd_T31 (rd_L3 t167 x12_3) 1).f0))),(by first|rfl|(simp;done)|(simp only [← hji45] <;> (first|rfl|simp))|(simp [*];done)),(by first|exact H'|(subst_vars;exact H')),⟨by have:=HK1.out;have:=HJ10.out;have:=HK3.out;first|omega|exact Nat.le_refl _⟩,⟨by (with_reducible repeat (first|apply Kd.N_alloc|apply Kd.N_drewN|apply Kd.N_drew));exact HO_11.out⟩,⟨by (with_reducible repeat (first|apply Kd.R_alloc|apply Kd.R_drewN|apply Kd.R_drew));exact HO_149000.out⟩,⟨by (with_reducible repeat (first|refine blk_drewN ?_ _|refine blk_drew ?_|refine blk_alloc ?_ _));exact BK148.out⟩,⟨by repeat (first|(with_reducible first|exact HB.out|apply below_alloc|apply pw_below_drewN|apply below_drew1|refine below_set ?_ GE148.out)|exact HB.out)⟩⟩
                    ·rw [if_neg c53] at H
                     exact absurd H (by simp)
                   ·rw [if_neg c52] at H
                    exact absurd H (by simp)
                  ·rw [if_neg c51] at H
                   have c51b0 : (((rd_T31 (rd_L3 t167 (ji45)) 0).f0) == ((rd_T31 (rd_L3 t167 x12_3) 0).f0))=false:=beq_eq_false_iff_ne.mpr c51
                   have c51b1 : (((rd_T31 (rd_L3 t167 (ji45)) 0).f0) != ((rd_T31 (rd_L3 t167 x12_3) 0).f0))=true:=bne_iff_ne.mpr c51
                   have H':=Aside0.mk H
                   clear H
                   have p170 : 0≤(x12_3 : Int):=of_decide_eq_true (by first|(with_reducible assumption)|assumption)
                   have q170 : x12_3 < (t167.length : Int):=of_decide_eq_true (by first|(with_reducible assumption)|assumption)
                   obtain ⟨ad170,A170_0,c170_0,e170,hx170_0,hl170_0,hi170_0⟩:=at_L3 (Kd.N_reads' HO_11.out).2.2 x12_3 p170 q170
                   cases e170
                   obtain ⟨ce170,hce170,hMe170,hcc170⟩:=Kd.N_get HO_11.out [] x12_3 p170 (by first|exact q170|exact of_decide_eq_true (by first|(with_reducible assumption)|assumption)|(have e_:=(Kd.N_reads' HO_11.out).1;omega))
                   obtain ⟨ua170_0,uc170_0,rfl,ul170_0,ge170_0⟩:=Kd.FK_slice_open hMe170
                   have hv170_0:=hcc170 0 _ rfl
                   rw [Nat.add_zero,show ((Kd.slice 31 k31)).sz=1 from rfl,Nat.mul_one] at hv170_0
                   replace hv170_0:=Option.some.inj (hv170_0.symm.trans hx170_0)
                   injection hv170_0 with hva_ hvn_ hvc_
                   rw [hva_] at ge170_0
                   rw [hvc_] at ul170_0
                   have HL170_0:=Aside0.mk (show Kd.V k31 31 _ w.heap.size _ _ (rd_L3 t167 x12_3) from Kd.V_mk ul170_0 ge170_0)
                   clear hva_ hvn_ hvc_ ge170_0 ul170_0
                   clear hcc170 hce170
                   have HR170_0:=Aside0.mk hi170_0
                   have HC170_0:=Aside0.mk hl170_0
                   clear hi170_0 hl170_0
                   replace p170:=eq_true p170
                   replace q170:=eq_true q170
                   have p171 : 0≤((ji45) : Int):=of_decide_eq_true (by first|(with_reducible assumption)|assumption)
                   have q171 : (ji45) < (t167.length : Int):=of_decide_eq_true (by first|(with_reducible assumption)|assumption)
                   obtain ⟨ad171,A171_0,c171_0,e171,hx171_0,hl171_0,hi171_0⟩:=at_L3 (Kd.N_reads' HO_11.out).2.2 (ji45) p171 q171
                   obtain rfl : ad170=ad171:=(by injection e171)
                   obtain ⟨ce171,hce171,hMe171,hcc171⟩:=Kd.N_get HO_11.out [] (ji45) p171 (by first|exact q171|exact of_decide_eq_true (by first|(with_reducible assumption)|assumption)|(have e_:=(Kd.N_reads' HO_11.out).1;omega))
                   obtain ⟨ua171_0,uc171_0,rfl,ul171_0,ge171_0⟩:=Kd.FK_slice_open hMe171
                   have hv171_0:=hcc171 0 _ rfl
                   rw [Nat.add_zero,show ((Kd.slice 31 k31)).sz=1 from rfl,Nat.mul_one] at hv171_0
                   replace hv171_0:=Option.some.inj (hv171_0.symm.trans hx171_0)
                   injection hv171_0 with hva_ hvn_ hvc_
                   rw [hva_] at ge171_0
                   rw [hvc_] at ul171_0
                   have HL171_0:=Aside0.mk (show Kd.V k31 31 _ w.heap.size _ _ (rd_L3 t167 (ji45)) from Kd.V_mk ul171_0 ge171_0)
                   clear hva_ hvn_ hvc_ ge171_0 ul171_0
                   clear hcc171 hce171
                   have HR171_0:=Aside0.mk hi171_0
                   have HC171_0:=Aside0.mk hl171_0
                   clear hi171_0 hl171_0
                   replace p171:=eq_true p171
                   replace q171:=eq_true q171
                   have p172 : 0≤(0 : Int):=(by omega)
                   have q172 : 0 < ((rd_L3 t167 (ji45)).length : Int):=of_decide_eq_true (by first|(with_reducible assumption)|assumption)
                   obtain ⟨ad172,e172,hx172_0,hx172_1⟩:=at_T31 (by repeat (first|(with_reducible exact HR171_0.out)|(with_reducible refine Kd.C_alloc ?_ _)|(with_reducible refine Kd.C_drewN ?_ _)|(with_reducible refine Kd.C_drew ?_)|exact HR171_0.out)) 0 p172 q172
                   cases e172
                   have qi172 : (0 < (rd_L3 t167 (ji45)).length)=True:=eq_true (by omega)
                   (try rw [show ((0 : Int)).toNat=0 from rfl] at hx172_0)
                   (try rw [show 0 * 2=0 from rfl] at hx172_0)
                   (try rw [Addr.add_zero'] at hx172_0)
                   (try rw [show ((0 : Int)).toNat=0 from rfl] at hx172_1)
                   (try rw [show 0 * 2=0 from rfl] at hx172_1)
                   (try rw [Addr.add_zero'] at hx172_1)
                   replace p172:=eq_true p172
                   replace q172:=eq_true q172
                   have p173 : 0≤(x12_3 : Int):=of_decide_eq_true (by first|(with_reducible assumption)|assumption)
                   have q173 : x12_3 < (t167.length : Int):=of_decide_eq_true (by first|(with_reducible assumption)|assumption)
                   obtain ⟨ad173,A173_0,c173_0,e173,hx173_0,hl173_0,hi173_0⟩:=at_L3 (Kd.N_reads' HO_11.out).2.2 x12_3 p173 q173
                   obtain rfl : ad170=ad173:=(by injection e173)
                   obtain ⟨ce173,hce173,hMe173,hcc173⟩:=Kd.N_get HO_11.out [] x12_3 p173 (by first|exact q173|exact of_decide_eq_true (by first|(with_reducible assumption)|assumption)|(have e_:=(Kd.N_reads' HO_11.out).1;omega))
                   obtain ⟨ua173_0,uc173_0,rfl,ul173_0,ge173_0⟩:=Kd.FK_slice_open hMe173
                   have hv173_0:=hcc173 0 _ rfl
                   rw [Nat.add_zero,show ((Kd.slice 31 k31)).sz=1 from rfl,Nat.mul_one] at hv173_0
                   replace hv173_0:=Option.some.inj (hv173_0.symm.trans hx173_0)
                   injection hv173_0 with hva_ hvn_ hvc_
                   rw [hva_] at ge173_0
                   rw [hvc_] at ul173_0
                   have HL173_0:=Aside0.mk (show Kd.V k31 31 _ w.heap.size _ _ (rd_L3 t167 x12_3) from Kd.V_mk ul173_0 ge173_0)
                   clear hva_ hvn_ hvc_ ge173_0 ul173_0
                   clear hcc173 hce173
                   have HR173_0:=Aside0.mk hi173_0
                   have HC173_0:=Aside0.mk hl173_0
                   clear hi173_0 hl173_0
                   replace p173:=eq_true p173
                   replace q173:=eq_true q173
                   have ea_:=Option.some.inj (hx170_0.symm.trans hx173_0)
                   injection ea_ with ea_ en_ ec_
                   subst ea_
                   subst ec_
                   clear en_
                   have p174 : 0≤(0 : Int):=(by omega)
                   have q174 : 0 < ((rd_L3 t167 x12_3).length : Int):=of_decide_eq_true (by first|(with_reducible assumption)|assumption)
                   obtain ⟨ad174,e174,hx174_0,hx174_1⟩:=at_T31 (by repeat (first|(with_reducible exact HR173_0.out)|(with_reducible refine Kd.C_alloc ?_ _)|(with_reducible refine Kd.C_drewN ?_ _)|(with_reducible refine Kd.C_drew ?_)|exact HR173_0.out)) 0 p174 q174
                   cases e174
                   have qi174 : (0 < (rd_L3 t167 x12_3).length)=True:=eq_true (by omega)
                   (try rw [show ((0 : Int)).toNat=0 from rfl] at hx174_0)
                   (try rw [show 0 * 2=0 from rfl] at hx174_0)
                   (try rw [Addr.add_zero'] at hx174_0)
                   (try rw [show ((0 : Int)).toNat=0 from rfl] at hx174_1)
                   (try rw [show 0 * 2=0 from rfl] at hx174_1)
                   (try rw [Addr.add_zero'] at hx174_1)
                   replace p174:=eq_true p174
                   replace q174:=eq_true q174
                   have p175 : 0≤((ji45) : Int):=of_decide_eq_true (by first|(with_reducible assumption)|assumption)
                   have q175 : (ji45) < (t167.length : Int):=of_decide_eq_true (by first|(with_reducible assumption)|assumption)
                   obtain ⟨ad175,A175_0,c175_0,e175,hx175_0,hl175_0,hi175_0⟩:=at_L3 (Kd.N_reads' HO_11.out).2.2 (ji45) p175 q175
                   obtain rfl : ad170=ad175:=(by injection e175)
                   obtain ⟨ce175,hce175,hMe175,hcc175⟩:=Kd.N_get HO_11.out [] (ji45) p175 (by first|exact q175|exact of_decide_eq_true (by first|(with_reducible assumption)|assumption)|(have e_:=(Kd.N_reads' HO_11.out).1;omega))
                   obtain ⟨ua175_0,uc175_0,rfl,ul175_0,ge175_0⟩:=Kd.FK_slice_open hMe175
                   have hv175_0:=hcc175 0 _ rfl
                   rw [Nat.add_zero,show ((Kd.slice 31 k31)).sz=1 from rfl,Nat.mul_one] at hv175_0
                   replace hv175_0:=Option.some.inj (hv175_0.symm.trans hx175_0)
                   injection hv175_0 with hva_ hvn_ hvc_
                   rw [hva_] at ge175_0
                   rw [hvc_] at ul175_0
                   have HL175_0:=Aside0.mk (show Kd.V k31 31 _ w.heap.size _ _ (rd_L3 t167 (ji45)) from Kd.V_mk ul175_0 ge175_0)
                   clear hva_ hvn_ hvc_ ge175_0 ul175_0
                   clear hcc175 hce175
                   have HR175_0:=Aside0.mk hi175_0
                   have HC175_0:=Aside0.mk hl175_0
                   clear hi175_0 hl175_0
                   replace p175:=eq_true p175
                   replace q175:=eq_true q175
                   have ea_:=Option.some.inj (hx171_0.symm.trans hx175_0)
                   injection ea_ with ea_ en_ ec_
                   subst ea_
                   subst ec_
                   clear en_
                   have p176 : 0≤(0 : Int):=(by omega)
                   have q176 : 0 < ((rd_L3 t167 (ji45)).length : Int):=of_decide_eq_true (by first|(with_reducible assumption)|assumption)
                   obtain ⟨ad176,e176,hx176_0,hx176_1⟩:=at_T31 (by repeat (first|(with_reducible exact HR175_0.out)|(with_reducible refine Kd.C_alloc ?_ _)|(with_reducible refine Kd.C_drewN ?_ _)|(with_reducible refine Kd.C_drew ?_)|exact HR175_0.out)) 0 p176 q176
                   cases e176
                   have qi176 : (0 < (rd_L3 t167 (ji45)).length)=True:=eq_true (by omega)
                   (try rw [show ((0 : Int)).toNat=0 from rfl] at hx176_0)
                   (try rw [show 0 * 2=0 from rfl] at hx176_0)
                   (try rw [Addr.add_zero'] at hx176_0)
                   (try rw [show ((0 : Int)).toNat=0 from rfl] at hx176_1)
                   (try rw [show 0 * 2=0 from rfl] at hx176_1)
                   (try rw [Addr.add_zero'] at hx176_1)
                   replace p176:=eq_true p176
                   replace q176:=eq_true q176
                   have p177 : 0≤(x12_3 : Int):=of_decide_eq_true (by first|(with_reducible assumption)|assumption)
                   have q177 : x12_3 < (t167.length : Int):=of_decide_eq_true (by first|(with_reducible assumption)|assumption)
                   obtain ⟨ad177,A177_0,c177_0,e177,hx177_0,hl177_0,hi177_0⟩:=at_L3 (Kd.N_reads' HO_11.out).2.2 x12_3 p177 q177
                   obtain rfl : ad170=ad177:=(by injection e177)
                   obtain ⟨ce177,hce177,hMe177,hcc177⟩:=Kd.N_get HO_11.out [] x12_3 p177 (by first|exact q177|exact of_decide_eq_true (by first|(with_reducible assumption)|assumption)|(have e_:=(Kd.N_reads' HO_11.out).1;omega))
                   obtain ⟨ua177_0,uc177_0,rfl,ul177_0,ge177_0⟩:=Kd.FK_slice_open hMe177
                   have hv177_0:=hcc177 0 _ rfl
                   rw [Nat.add_zero,show ((Kd.slice 31 k31)).sz=1 from rfl,Nat.mul_one] at hv177_0
                   replace hv177_0:=Option.some.inj (hv177_0.symm.trans hx177_0)
                   injection hv177_0 with hva_ hvn_ hvc_
                   rw [hva_] at ge177_0
                   rw [hvc_] at ul177_0
                   have HL177_0:=Aside0.mk (show Kd.V k31 31 _ w.heap.size _ _ (rd_L3 t167 x12_3) from Kd.V_mk ul177_0 ge177_0)
                   clear hva_ hvn_ hvc_ ge177_0 ul177_0
                   clear hcc177 hce177
                   have HR177_0:=Aside0.mk hi177_0
                   have HC177_0:=Aside0.mk hl177_0
                   clear hi177_0 hl177_0
                   replace p177:=eq_true p177
                   replace q177:=eq_true q177
                   have ea_:=Option.some.inj (hx170_0.symm.trans hx177_0)
                   injection ea_ with ea_ en_ ec_
                   subst ea_
                   subst ec_
                   clear en_
                   have p178 : 0≤(0 : Int):=(by omega)
                   have q178 : 0 < ((rd_L3 t167 x12_3).length : Int):=of_decide_eq_true (by first|(with_reducible assumption)|assumption)
                   obtain ⟨ad178,e178,hx178_0,hx178_1⟩:=at_T31 (by repeat (first|(with_reducible exact HR177_0.out)|(with_reducible refine Kd.C_alloc ?_ _)|(with_reducible refine Kd.C_drewN ?_ _)|(with_reducible refine Kd.C_drew ?_)|exact HR177_0.out)) 0 p178 q178
                   cases e178
                   have qi178 : (0 < (rd_L3 t167 x12_3).length)=True:=eq_true (by omega)
                   (try rw [show ((0 : Int)).toNat=0 from rfl] at hx178_0)
                   (try rw [show 0 * 2=0 from rfl] at hx178_0)
                   (try rw [Addr.add_zero'] at hx178_0)
                   (try rw [show ((0 : Int)).toNat=0 from rfl] at hx178_1)
                   (try rw [show 0 * 2=0 from rfl] at hx178_1)
                   (try rw [Addr.add_zero'] at hx178_1)
                   replace p178:=eq_true p178
                   replace q178:=eq_true q178
                   go_wp2
                   repeat (go_quiet (fail);try go_wp2)
                   go_meet
                   case rel=>exact ⟨_,(false),(by first|rfl|(simp;done)|(simp [*];done)),(by first|exact H'|(subst_vars;exact H')),⟨by have:=HK1.out;have:=HJ10.out;have:=HK3.out;first|omega|exact Nat.le_refl _⟩,⟨by (with_reducible repeat (first|apply Kd.N_alloc|apply Kd.N_drewN|apply Kd.N_drew));exact HO_11.out⟩,⟨by (with_reducible repeat (first|apply Kd.R_alloc|apply Kd.R_drewN|apply Kd.R_drew));exact HO_149000.out⟩,⟨by (with_reducible repeat (first|refine blk_drewN ?_ _|refine blk_drew ?_|refine blk_alloc ?_ _));exact BK148.out⟩,⟨by repeat (first|(with_reducible first|exact HB.out|apply below_alloc|apply pw_below_drewN|apply below_drew1|refine below_set ?_ GE148.out)|exact HB.out)⟩⟩
                ·rw [if_neg c49] at H
                 exact absurd H (by simp)
               ·rw [if_neg c48] at H
                exact absurd H (by simp)
              ·rw [if_neg c47] at H
               exact absurd H (by simp)
             ·rw [if_neg c46] at H
              exact absurd H (by simp)
            ·rw [if_neg c44] at H
             have c44b0 : decide (0 < x12_3)=false:=decide_eq_false c44
             clear c44
             have H':=Aside0.mk H
             clear H
             have p170 : 0≤(x12_3 : Int):=of_decide_eq_true (by first|(with_reducible assumption)|assumption)
             have q170 : x12_3 < (t167.length : Int):=of_decide_eq_true (by first|(with_reducible assumption)|assumption)
             obtain ⟨ad170,A170_0,c170_0,e170,hx170_0,hl170_0,hi170_0⟩:=at_L3 (Kd.N_reads' HO_11.out).2.2 x12_3 p170 q170
             cases e170
             obtain ⟨ce170,hce170,hMe170,hcc170⟩:=Kd.N_get HO_11.out [] x12_3 p170 (by first|exact q170|exact of_decide_eq_true (by first|(with_reducible assumption)|assumption)|(have e_:=(Kd.N_reads' HO_11.out).1;omega))
             obtain ⟨ua170_0,uc170_0,rfl,ul170_0,ge170_0⟩:=Kd.FK_slice_open hMe170
             have hv170_0:=hcc170 0 _ rfl
             rw [Nat.add_zero,show ((Kd.slice 31 k31)).sz=1 from rfl,Nat.mul_one] at hv170_0
             replace hv170_0:=Option.some.inj (hv170_0.symm.trans hx170_0)
             injection hv170_0 with hva_ hvn_ hvc_
             rw [hva_] at ge170_0
             rw [hvc_] at ul170_0
             have HL170_0:=Aside0.mk (show Kd.V k31 31 _ w.heap.size _ _ (rd_L3 t167 x12_3) from Kd.V_mk ul170_0 ge170_0)
             clear hva_ hvn_ hvc_ ge170_0 ul170_0
             clear hcc170 hce170
             have HR170_0:=Aside0.mk hi170_0
             have HC170_0:=Aside0.mk hl170_0
             clear hi170_0 hl170_0
             replace p170:=eq_true p170
             replace q170:=eq_true q170
             go_wp2
             repeat (go_quiet (fail);try go_wp2)
             go_meet
             case rel=>exact ⟨_,(false),(by first|rfl|(simp;done)|(simp [*];done)),(by first|exact H'|(subst_vars;exact H')),⟨by have:=HK1.out;have:=HJ10.out;have:=HK3.out;first|omega|exact Nat.le_refl _⟩,⟨by (with_reducible repeat (first|apply Kd.N_alloc|apply Kd.N_drewN|apply Kd.N_drew));exact HO_11.out⟩,⟨by (with_reducible repeat (first|apply Kd.R_alloc|apply Kd.R_drewN|apply Kd.R_drew));exact HO_149000.out⟩,⟨by (with_reducible repeat (first|refine blk_drewN ?_ _|refine blk_drew ?_|refine blk_alloc ?_ _));exact BK148.out⟩,⟨by repeat (first|(with_reducible first|exact HB.out|apply below_alloc|apply pw_below_drewN|apply below_drew1|refine below_set ?_ GE148.out)|exact HB.out)⟩⟩
           ·rw [if_neg c43] at H
            have c43b0 : (((rd_L3 t167 x12_3).length : Int) == 2)=false:=beq_eq_false_iff_ne.mpr c43
            have c43b1 : (((rd_L3 t167 x12_3).length : Int) != 2)=true:=bne_iff_ne.mpr c43
            have H':=Aside0.mk H
            clear H
            have p170 : 0≤(x12_3 : Int):=of_decide_eq_true (by first|(with_reducible assumption)|assumption)
            have q170 : x12_3 < (t167.length : Int):=of_decide_eq_true (by first|(with_reducible assumption)|assumption)
            obtain ⟨ad170,A170_0,c170_0,e170,hx170_0,hl170_0,hi170_0⟩:=at_L3 (Kd.N_reads' HO_11.out).2.2 x12_3 p170 q170
            cases e170
            obtain ⟨ce170,hce170,hMe170,hcc170⟩:=Kd.N_get HO_11.out [] x12_3 p170 (by first|exact q170|exact of_decide_eq_true (by first|(with_reducible assumption)|assumption)|(have e_:=(Kd.N_reads' HO_11.out).1;omega))
            obtain ⟨ua170_0,uc170_0,rfl,ul170_0,ge170_0⟩:=Kd.FK_slice_open hMe170
            have hv170_0:=hcc170 0 _ rfl
            rw [Nat.add_zero,show ((Kd.slice 31 k31)).sz=1 from rfl,Nat.mul_one] at hv170_0
            replace hv170_0:=Option.some.inj (hv170_0.symm.trans hx170_0)
            injection hv170_0 with hva_ hvn_ hvc_
            rw [hva_] at ge170_0
            rw [hvc_] at ul170_0
            have HL170_0:=Aside0.mk (show Kd.V k31 31 _ w.heap.size _ _ (rd_L3 t167 x12_3) from Kd.V_mk ul170_0 ge170_0)
            clear hva_ hvn_ hvc_ ge170_0 ul170_0
            clear hcc170 hce170
            have HR170_0:=Aside0.mk hi170_0
            have HC170_0:=Aside0.mk hl170_0
            clear hi170_0 hl170_0
            replace p170:=eq_true p170
            replace q170:=eq_true q170
            go_wp2
            repeat (go_quiet (fail);try go_wp2)
            go_meet
            case rel=>exact ⟨_,(true),(by first|rfl|(simp;done)|(simp [*];done)),(by first|exact H'|(subst_vars;exact H')),⟨by have:=HK1.out;have:=HJ10.out;have:=HK3.out;first|omega|exact Nat.le_refl _⟩,⟨by (with_reducible repeat (first|apply Kd.N_alloc|apply Kd.N_drewN|apply Kd.N_drew));exact HO_11.out⟩,⟨by (with_reducible repeat (first|apply Kd.R_alloc|apply Kd.R_drewN|apply Kd.R_drew));exact HO_149000.out⟩,⟨by (with_reducible repeat (first|refine blk_drewN ?_ _|refine blk_drew ?_|refine blk_alloc ?_ _));exact BK148.out⟩,⟨by repeat (first|(with_reducible first|exact HB.out|apply below_alloc|apply pw_below_drewN|apply below_drew1|refine below_set ?_ GE148.out)|exact HB.out)⟩⟩
          ·rw [if_neg c42] at H
           exact absurd H (by simp)
         case rest =>
          clear HC40
          try clear c1
          try clear p1
          try clear q1
          try clear hx1
          try clear qi1
          try clear p2
          try clear c4
          try clear c5
          try clear c17
          try clear p17
          try clear q17
          try clear hx17
          try clear qi17
          try clear c18
          try clear p18
          try clear q18
          try clear hx18
          try clear qi18
          try clear c42
          try clear c43
          try clear c43b0
          try clear c43b1
          try clear c44
          try clear c44b0
          try clear c46
          try clear c47
          try clear c48
          try clear c49
          try clear c50
          try clear c50b0
          try clear c51
          try clear c51b0
          try clear c51b1
          try clear c52
          try clear c52b0
          try clear c52b1
          try clear c53
          try clear c53b0
          try clear c53b1
          try clear hx170_0
          try clear hx171_0
          try clear hx172_0
          try clear hx172_1
          try clear hx173_0
          try clear hx174_0
          try clear hx174_1
          try clear hx175_0
          try clear hx176_0
          try clear hx176_1
          try clear hx177_0
          try clear hx178_0
          try clear hx178_1
          try clear hx179_0
          try clear hx180_0
          try clear hx180_1
          try clear hx181_0
          try clear hx182_0
          try clear hx182_1
          try clear p170
          try clear p171
          try clear p172
          try clear p173
          try clear p174
          try clear p175
          try clear p176
          try clear p177
          try clear p178
          try clear p179
          try clear p180
          try clear p181
          try clear p182
          try clear q170
          try clear q171
          try clear q172
          try clear q173
          try clear q174
          try clear q175
          try clear q176
          try clear q177
          try clear q178
          try clear q179
          try clear q180
          try clear q181
          try clear q182
          obtain ⟨kq,x142_39,rfl,HA,HJ39,HO_11,HO_149000,BK148,HB⟩:=hcut
          cases kq with
          | zero=>exact absurd HA.out (by simp [thresherlaw14_MergeStable.j6])
          | succ kj39 =>
           have H:=HA.out
           clear HA
           simp only [thresherlaw14_MergeStable.j6] at H
           by_cases c54 : x142_39=true
           ·subst c54
            have H1 : (some false)=some r:=by rw [if_pos rfl] at H;exact H
            clear H
            have H:=H1
            clear H1
            obtain rfl:=Option.some.inj H
            go_wp2
            repeat (go_quiet (fail);try go_wp2)
            go_ret
            exact ⟨by first|rfl|(simp [errW_none,errW_some] <;> rfl)|(simp [*,errW_none,errW_some] <;> rfl),by repeat (first|(with_reducible first|exact HB.out|apply below_alloc|apply pw_below_drewN|apply below_drew1|refine below_set ?_ GE148.out)|exact HB.out)⟩
           ·replace c54:=Bool.eq_false_iff.mpr c54
            subst c54
            have H1 : (thresherlaw14_MergeStable.l3 kj39 t144 x6_1 t167 (wrap64 (x12_3 + 1)))=some r:=by rw [if_neg (show ¬ (false=true) by decide)] at H;exact H
            clear H
            have H:=H1
            clear H1
            have H':=Aside0.mk H
            clear H
            go_wp2
            repeat (go_quiet (fail);try go_wp2)
            go_roundg kj39
            case measure=>have:=HK1.out;have:=HJ10.out;have:=HK3.out;have:=HJ39.out;omega
            case rel=>exact ⟨(wrap64 (x12_3 + 1)),(by first|rfl|(simp;done)|(simp [*];done)),(by first|exact H'|(subst_vars;exact H')),⟨by have:=HK1.out;have:=HJ10.out;have:=HK3.out;have:=HJ39.out;omega⟩,⟨by (with_reducible repeat (first|apply Kd.N_alloc|apply Kd.N_drewN|apply Kd.N_drew));exact HO_11.out⟩,⟨by (with_reducible repeat (first|apply Kd.R_alloc|apply Kd.R_drewN|apply Kd.R_drew));exact HO_149000.out⟩,⟨by (with_reducible repeat (first|refine blk_drewN ?_ _|refine blk_drew ?_|refine blk_alloc ?_ _));exact BK148.out⟩,⟨by repeat (first|(with_reducible first|exact HB.out|apply below_alloc|apply pw_below_drewN|apply below_drew1|refine below_set ?_ GE148.out)|exact HB.out)⟩⟩
        ·rw [if_neg c39] at H
         have c39b0 : decide (x12_3 < (t167.length : Int))=false:=decide_eq_false c39
         clear c39
         by_cases c55 : t144=true
         ·subst c55
          have H1 : (some ((t167.length : Int) == x6_1))=some r:=by rw [if_pos rfl] at H;exact H
          clear H
          have H:=H1
          clear H1
          obtain rfl:=Option.some.inj H
          obtain ⟨Ao56,co56,eo56⟩:=Kd.N_slice HO_11.out
          subst eo56
          go_wp2
          repeat (go_quiet (fail);try go_wp2)
          go_ret
          exact ⟨by first|rfl|(simp [errW_none,errW_some] <;> rfl)|(simp [*,errW_none,errW_some] <;> rfl),by repeat (first|(with_reducible first|exact HB.out|apply below_alloc|apply pw_below_drewN|apply below_drew1|refine below_set ?_ GE148.out)|exact HB.out)⟩
         ·replace c55:=Bool.eq_false_iff.mpr c55
          subst c55
          have H1 : (some false)=some r:=by rw [if_neg (show ¬ (false=true) by decide)] at H;exact H
          clear H
          have H:=H1
          clear H1
          obtain rfl:=Option.some.inj H
          obtain ⟨Ao57,co57,eo57⟩:=Kd.N_slice HO_11.out
          subst eo57
          go_wp2
          repeat (go_quiet (fail);try go_wp2)
          go_ret
          exact ⟨by first|rfl|(simp [errW_none,errW_some] <;> rfl)|(simp [*,errW_none,errW_some] <;> rfl),by repeat (first|(with_reducible first|exact HB.out|apply below_alloc|apply pw_below_drewN|apply below_drew1|refine below_set ?_ GE148.out)|exact HB.out)⟩
end Go.Proofs.Ytfiandejapgkoaa.P

