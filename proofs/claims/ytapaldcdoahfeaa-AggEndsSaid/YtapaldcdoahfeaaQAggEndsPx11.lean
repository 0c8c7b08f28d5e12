/- Texts of AggEnds. Merged: Px11. -/
import Derived.Test.YtapaldcdoahfeaaQAggEndsPx0
import Derived.Test.YtapaldcdoahfeaaQAggEndsPx1
import Derived.Test.YtapaldcdoahfeaaQAggEndsPx2
import Derived.Test.YtapaldcdoahfeaaQAggEndsPx5
import Derived.Test.YtapaldcdoahfeaaQAggEndsPx6
import Derived.Test.YtapaldcdoahfeaaQAggEndsPx9
import Derived.Test.YtapaldcdoahfeaaQAggEndsPx10
import Derived.Test.YtapaldcdoahfeaaQAggEndsHAggD
namespace Go.Proofs.Ytapaldcdoahfeaa.P
open Go.RowKit Go.Proofs.YtapaldcdoahfeaaW.PrintWords Go.Proofs.YtapaldcdoahfeaaW.PrintLast Go.Proofs.YtapaldcdoahfeaaW.PrintMore
attribute [local go_sem] max2_int min2_int max_two min_two max_three min_three max_four min_four   -- for this text's walks alone
set_option linter.unusedVariables false
set_option linter.unusedSimpArgs false
attribute [local go_sem high] eqA40 eqA42
theorem setCell_same {w : World} {g j : Nat} {v : Value} (h : w.cell? ⟨g,j,none⟩=some v) : w.setCell ⟨g,j,none⟩ v=w:=by
 have e : (w.setCell ⟨g,j,none⟩ v).heap=w.heap:=by
  unfold World.setCell
  apply Array.ext
  ·simp
  ·intro i h1 h2
   simp only [Array.getElem_modify]
   split
   ·rename_i q
    subst q
    unfold World.cell? at h
    simp only [Array.getElem?_eq_getElem h2] at h
    generalize w.heap[g]=o at h ⊢
    cases o with
    | cells c el fz =>
     simp at h
     simp only [Option.isSome_none,Bool.false_eq_true,if_false]
     congr 1
     apply Array.ext
     ·simp
     ·intro k k1 k2
      rw [Array.getElem_setIfInBounds]
      split
      ·rename_i q
       subst q
       rw [Array.getElem?_eq_getElem k2] at h
       exact (Option.some.inj h).symm
      ·rfl
    | _=>simp at h
   ·rfl
 have e2 : w.setCell ⟨g,j,none⟩ v={ w with heap:=(w.setCell ⟨g,j,none⟩ v).heap }:=rfl
 rw [e2,e]
mutual
def thresherlaw20_AggEnds.j0 : Nat→Bool→List (List (S40))→List (S42)→List (List (S40))→Bool→Option (Bool)
 | 0,_,_,_,_,_=>none
 | k + 1,x5,x7,x9,x10,x62=>if x62=true then (some false) else (if (x7.length : Int)=0 then (if x5=true then (if 0 < (x9.length : Int) then (if (!((rd_T42 x9 0).f0) && ((((rd_T42 x9 0).f1.f0) == 0 && ((((rd_T42 x9 0).f1.f1).toList) == ([] : List UInt8)))))=true then (if 1 < (x9.length : Int) then (thresherlaw20_AggEnds.j1 k (!((rd_T42 x9 1).f0) && ((((rd_T42 x9 1).f1.f0) == 0 && ((((rd_T42 x9 1).f1.f1).toList) == ([] : List UInt8)))))) else (none)) else (thresherlaw20_AggEnds.j1 k false)) else (none)) else (thresherlaw20_AggEnds.j1 k false)) else (if x5=true then (if 0 < (x9.length : Int) then (if (rd_T42 x9 0).f0=true then (if 1 < (x9.length : Int) then (if (rd_T42 x9 1).f0=true then (if 0 < (x10.length : Int) then (if 0 < ((rd_L7 x10 0).length : Int) then (if (((rd_T42 x9 0).f1.f0) == ((rd_T40 (rd_L7 x10 0) 0).f0) && ((((rd_T42 x9 0).f1.f1).toList) == (((rd_T40 (rd_L7 x10 0) 0).f1).toList)))=true then (if 0≤(wrap64 ((x10.length : Int) - 1)) then (if (wrap64 ((x10.length : Int) - 1)) < (x10.length : Int) then (if 0 < ((rd_L7 x10 (wrap64 ((x10.length : Int) - 1))).length : Int) then (thresherlaw20_AggEnds.j2 k (((rd_T42 x9 1).f1.f0) == ((rd_T40 (rd_L7 x10 (wrap64 ((x10.length : Int) - 1))) 0).f0) && ((((rd_T42 x9 1).f1.f1).toList) == (((rd_T40 (rd_L7 x10 (wrap64 ((x10.length : Int) - 1))) 0).f1).toList)))) else (none)) else (none)) else (none)) else (thresherlaw20_AggEnds.j2 k false)) else (none)) else (none)) else (thresherlaw20_AggEnds.j2 k false)) else (none)) else (thresherlaw20_AggEnds.j2 k false)) else (none)) else (thresherlaw20_AggEnds.j2 k false)))
def thresherlaw20_AggEnds.j1 : Nat→Bool→Option (Bool)
 | 0,_=>none
 | k + 1,x4=>some x4
def thresherlaw20_AggEnds.j2 : Nat→Bool→Option (Bool)
 | 0,_=>none
 | k + 1,x4=>some x4
end
def thresherlaw20_AggEnds.f (k : Nat) (a0_0 : Int) (a0_1 : Int) (a0_2 : Int) (a0_3 : Int) (a0_4 : Int) (a0_5 : Int) (a0_6 : Int) (a0_7 : Int) (a0_8 : Int) (a0_9 : Int) (a0_10 : Int) (a0_11 : Int) (l1 : List (List (S40))) : Option (Bool):=(thresherlaw20_shown.f k).bind fun t239=>((thresherlaw20_made.f k a0_0 a0_1 a0_2 a0_3 a0_4 a0_5 a0_6 a0_7 a0_8 a0_9 a0_10 a0_11).bind fun bt240=>((thresherref04_Fits.f k bt240.1 1 bt240.2.2.1 bt240.2.2.2 l1 60).bind fun t247=>((some (([(⟨3,0⟩ : S33),(⟨4,0⟩ : S33),(⟨1,0⟩ : S33)] : List (S33)) : List (S33))).bind fun y250=>((agg_Rows.f k bt240.1 1 bt240.2.2.1 bt240.2.2.2 y250 t247).bind fun t253=>((thresherref09_Sort.f k bt240.1 1 bt240.2.2.1 bt240.2.2.2 t247).bind fun t256=>((agg_Rows.f k bt240.1 1 bt240.2.2.1 bt240.2.2.2 y250 t256).bind fun t259=>((thresherref20_Same.f k t253 t259).bind fun t262=>(if t262=true then (if (t253.length : Int)=3 then (if 2 < (t253.length : Int) then (if ((rd_T42 t253 2).f1.f0)=(t247.length : Int) then (thresherlaw20_AggEnds.j0 k t239 t247 t253 t256 (!((rd_T42 t253 2).f0))) else (thresherlaw20_AggEnds.j0 k t239 t247 t253 t256 true)) else (none)) else (thresherlaw20_AggEnds.j0 k t239 t247 t253 t256 true)) else (thresherlaw20_AggEnds.j0 k t239 t247 t253 t256 true)))))))))
theorem thresherlaw20_AggEnds.mono_l : ∀ k,(∀ y0 y1 y2 y3 y4,LeO (thresherlaw20_AggEnds.j0 k y0 y1 y2 y3 y4) (thresherlaw20_AggEnds.j0 (k + 1) y0 y1 y2 y3 y4))∧(∀ y0,LeO (thresherlaw20_AggEnds.j1 k y0) (thresherlaw20_AggEnds.j1 (k + 1) y0))∧(∀ y0,LeO (thresherlaw20_AggEnds.j2 k y0) (thresherlaw20_AggEnds.j2 (k + 1) y0))
 | 0=>⟨fun _ _ _ _ _ r h=>by simp [thresherlaw20_AggEnds.j0] at h,fun _ r h=>by simp [thresherlaw20_AggEnds.j1] at h,fun _ r h=>by simp [thresherlaw20_AggEnds.j2] at h⟩
 | k + 1=>by
  obtain ⟨ih0,ih1,ih2⟩:=thresherlaw20_AggEnds.mono_l k
  refine ⟨?_,?_,?_⟩
  ·intro y0 y1 y2 y3 y4
   unfold thresherlaw20_AggEnds.j0
   repeat' first
   | (with_reducible exact ih0 _ _ _ _ _)
   | (with_reducible exact ih1 _)
   | (with_reducible exact ih2 _)
   | (with_reducible exact agg_Rows.mono _ _ _ _ _ _ _)
   | (with_reducible exact thresherlaw20_made.mono _ _ _ _ _ _ _ _ _ _ _ _ _)
   | (with_reducible exact thresherlaw20_shown.mono _)
   | (with_reducible exact thresherref04_Fits.mono _ _ _ _ _ _ _)
   | (with_reducible exact thresherref09_Sort.mono _ _ _ _ _ _)
   | (with_reducible exact thresherref20_Same.mono _ _ _)
   | (with_reducible exact LeO.refl _)
   | (with_reducible exact LeO.none _)
   | (with_reducible refine LeO.ite ?_ ?_)
   | (with_reducible refine LeO.bind ?_ (fun _=>?_))
   | exact ih0 _ _ _ _ _
   | exact ih1 _
   | exact ih2 _
   | exact agg_Rows.mono _ _ _ _ _ _ _
   | exact thresherlaw20_made.mono _ _ _ _ _ _ _ _ _ _ _ _ _
   | exact thresherlaw20_shown.mono _
   | exact thresherref04_Fits.mono _ _ _ _ _ _ _
   | exact thresherref09_Sort.mono _ _ _ _ _ _
   | exact thresherref20_Same.mono _ _ _
   | exact LeO.none _
   | refine LeO.ite ?_ ?_
   | refine LeO.bind ?_ (fun _=>?_)
  ·intro y0
   unfold thresherlaw20_AggEnds.j1
   repeat' first
   | (with_reducible exact ih0 _ _ _ _ _)
   | (with_reducible exact ih1 _)
   | (with_reducible exact ih2 _)
   | (with_reducible exact agg_Rows.mono _ _ _ _ _ _ _)
   | (with_reducible exact thresherlaw20_made.mono _ _ _ _ _ _ _ _ _ _ _ _ _)
   | (with_reducible exact thresherlaw20_shown.mono _)
   | (with_reducible exact thresherref04_Fits.mono _ _ _ _ _ _ _)
   | (with_reducible exact thresherref09_Sort.mono _ _ _ _ _ _)
   | (with_reducible exact thresherref20_Same.mono _ _ _)
   | (with_reducible exact LeO.refl _)
   | (with_reducible exact LeO.none _)
   | (with_reducible refine LeO.ite ?_ ?_)
   | (with_reducible refine LeO.bind ?_ (fun _=>?_))
   | exact ih0 _ _ _ _ _
   | exact ih1 _
   | exact ih2 _
   | exact agg_Rows.mono _ _ _ _ _ _ _
   | exact thresherlaw20_made.mono _ _ _ _ _ _ _ _ _ _ _ _ _
   | exact thresherlaw20_shown.mono _
   | exact thresherref04_Fits.mono _ _ _ _ _ _ _
   | exact thresherref09_Sort.mono _ _ _ _ _ _
   | exact thresherref20_Same.mono _ _ _
   | exact LeO.none _
   | refine LeO.ite ?_ ?_
   | refine LeO.bind ?_ (fun _=>?_)
  ·intro y0
   unfold thresherlaw20_AggEnds.j2
   repeat' first
   | (with_reducible exact ih0 _ _ _ _ _)
   | (with_reducible exact ih1 _)
   | (with_reducible exact ih2 _)
   | (with_reducible exact agg_Rows.mono _ _ _ _ _ _ _)
   | (with_reducible exact thresherlaw20_made.mono _ _ _ _ _ _ _ _ _ _ _ _ _)
   | (with_reducible exact thresherlaw20_shown.mono _)
   | (with_reducible exact thresherref04_Fits.mono _ _ _ _ _ _ _)
   | (with_reducible exact thresherref09_Sort.mono _ _ _ _ _ _)
   | (with_reducible exact thresherref20_Same.mono _ _ _)
   | (with_reducible exact LeO.refl _)
   | (with_reducible exact LeO.none _)
   | (with_reducible refine LeO.ite ?_ ?_)
   | (with_reducible refine LeO.bind ?_ (fun _=>?_))
   | exact ih0 _ _ _ _ _
   | exact ih1 _
   | exact ih2 _
   | exact agg_Rows.mono _ _ _ _ _ _ _
   | exact thresherlaw20_made.mono _ _ _ _ _ _ _ _ _ _ _ _ _
   | exact thresherlaw20_shown.mono _
   | exact thresherref04_Fits.mono _ _ _ _ _ _ _
   | exact thresherref09_Sort.mono _ _ _ _ _ _
   | exact thresherref20_Same.mono _ _ _
   | exact LeO.none _
   | refine LeO.ite ?_ ?_
   | refine LeO.bind ?_ (fun _=>?_)
theorem thresherlaw20_AggEnds.mono : ∀ a0 a1 a2 a3 a4 a5 a6 a7 a8 a9 a10 a11 a12 k,LeO (thresherlaw20_AggEnds.f k a0 a1 a2 a3 a4 a5 a6 a7 a8 a9 a10 a11 a12) (thresherlaw20_AggEnds.f (k + 1) a0 a1 a2 a3 a4 a5 a6 a7 a8 a9 a10 a11 a12):=by
 intro a0 a1 a2 a3 a4 a5 a6 a7 a8 a9 a10 a11 a12 k
 obtain ⟨ih0,ih1,ih2⟩:=thresherlaw20_AggEnds.mono_l k
 unfold thresherlaw20_AggEnds.f
 repeat' first
   | (with_reducible exact ih0 _ _ _ _ _)
   | (with_reducible exact ih1 _)
   | (with_reducible exact ih2 _)
   | (with_reducible exact agg_Rows.mono _ _ _ _ _ _ _)
   | (with_reducible exact thresherlaw20_made.mono _ _ _ _ _ _ _ _ _ _ _ _ _)
   | (with_reducible exact thresherlaw20_shown.mono _)
   | (with_reducible exact thresherref04_Fits.mono _ _ _ _ _ _ _)
   | (with_reducible exact thresherref09_Sort.mono _ _ _ _ _ _)
   | (with_reducible exact thresherref20_Same.mono _ _ _)
   | (with_reducible exact LeO.refl _)
   | (with_reducible exact LeO.none _)
   | (with_reducible refine LeO.ite ?_ ?_)
   | (with_reducible refine LeO.bind ?_ (fun _=>?_))
   | exact ih0 _ _ _ _ _
   | exact ih1 _
   | exact ih2 _
   | exact agg_Rows.mono _ _ _ _ _ _ _
   | exact thresherlaw20_made.mono _ _ _ _ _ _ _ _ _ _ _ _ _
   | exact thresherlaw20_shown.mono _
   | exact thresherref04_Fits.mono _ _ _ _ _ _ _
   | exact thresherref09_Sort.mono _ _ _ _ _ _
   | exact thresherref20_Same.mono _ _ _
   | exact LeO.none _
   | refine LeO.ite ?_ ?_
   | refine LeO.bind ?_ (fun _=>?_)
set_option maxHeartbeats 8000000 in
set_option maxRecDepth 100000 in
theorem thresherlaw20_AggEnds.calls (k : Nat) (a0_0 : Int) (a0_1 : Int) (a0_2 : Int) (a0_3 : Int) (a0_4 : Int) (a0_5 : Int) (a0_6 : Int) (a0_7 : Int) (a0_8 : Int) (a0_9 : Int) (a0_10 : Int) (a0_11 : Int) (A1 : Option Addr) (c1 : Nat) (l1 : List (List (S40))) (r : Bool) (w : World) (hr1 : Kd.C (Kd.slice 40 k40) w A1 l1.length l1) (hc1 : l1.length≤c1) (h : thresherlaw20_AggEnds.f k a0_0 a0_1 a0_2 a0_3 a0_4 a0_5 a0_6 a0_7 a0_8 a0_9 a0_10 a0_11 l1=some r) :
  Calls Try.prog 3 #[.agg #[.int .u8 a0_0,.int .u8 a0_1,.int .u8 a0_2,.int .u8 a0_3,.int .u8 a0_4,.int .u8 a0_5,.int .u8 a0_6,.int .u8 a0_7,.int .u8 a0_8,.int .u8 a0_9,.int .u8 a0_10,.int .u8 a0_11],.slice A1 l1.length c1] w fun e w'=>e=.returned (.bool r)∧Below w.heap.size w w':=by
 have hu24:=Try.underlying24
 have hu29:=Try.underlying29
 have hu33:=Try.underlying33
 have hu42:=Try.underlying42
 have hu40:=Try.underlying40
 have HR1:=Aside0.mk hr1
 have HC1:=Aside0.mk hc1
 clear hr1 hc1
 have HB:=Aside0.mk (Below.refl w.heap.size w)
 have H : ((thresherlaw20_shown.f k).bind fun t239=>((thresherlaw20_made.f k a0_0 a0_1 a0_2 a0_3 a0_4 a0_5 a0_6 a0_7 a0_8 a0_9 a0_10 a0_11).bind fun bt240=>((thresherref04_Fits.f k bt240.1 1 bt240.2.2.1 bt240.2.2.2 l1 60).bind fun t247=>((some (([(⟨3,0⟩ : S33),(⟨4,0⟩ : S33),(⟨1,0⟩ : S33)] : List (S33)) : List (S33))).bind fun y250=>((agg_Rows.f k bt240.1 1 bt240.2.2.1 bt240.2.2.2 y250 t247).bind fun t253=>((thresherref09_Sort.f k bt240.1 1 bt240.2.2.1 bt240.2.2.2 t247).bind fun t256=>((agg_Rows.f k bt240.1 1 bt240.2.2.1 bt240.2.2.2 y250 t256).bind fun t259=>((thresherref20_Same.f k t253 t259).bind fun t262=>(if t262=true then (if (t253.length : Int)=3 then (if 2 < (t253.length : Int) then (if ((rd_T42 t253 2).f1.f0)=(t247.length : Int) then (thresherlaw20_AggEnds.j0 k t239 t247 t253 t256 (!((rd_T42 t253 2).f0))) else (thresherlaw20_AggEnds.j0 k t239 t247 t253 t256 true)) else (none)) else (thresherlaw20_AggEnds.j0 k t239 t247 t253 t256 true)) else (thresherlaw20_AggEnds.j0 k t239 t247 t253 t256 true))))))))))=some r:=h
 clear h
 replace H:=Option.bind_eq_some_iff.mp H
 obtain ⟨t239,A30,H⟩:=H
 replace H : ((thresherlaw20_made.f k a0_0 a0_1 a0_2 a0_3 a0_4 a0_5 a0_6 a0_7 a0_8 a0_9 a0_10 a0_11).bind fun bt240=>((thresherref04_Fits.f k bt240.1 1 bt240.2.2.1 bt240.2.2.2 l1 60).bind fun t247=>((some (([(⟨3,0⟩ : S33),(⟨4,0⟩ : S33),(⟨1,0⟩ : S33)] : List (S33)) : List (S33))).bind fun y250=>((agg_Rows.f k bt240.1 1 bt240.2.2.1 bt240.2.2.2 y250 t247).bind fun t253=>((thresherref09_Sort.f k bt240.1 1 bt240.2.2.1 bt240.2.2.2 t247).bind fun t256=>((agg_Rows.f k bt240.1 1 bt240.2.2.1 bt240.2.2.2 y250 t256).bind fun t259=>((thresherref20_Same.f k t253 t259).bind fun t262=>(if t262=true then (if (t253.length : Int)=3 then (if 2 < (t253.length : Int) then (if ((rd_T42 t253 2).f1.f0)=(t247.length : Int) then (thresherlaw20_AggEnds.j0 k t239 t247 t253 t256 (!((rd_T42 t253 2).f0))) else (thresherlaw20_AggEnds.j0 k t239 t247 t253 t256 true)) else (none)) else (thresherlaw20_AggEnds.j0 k t239 t247 t253 t256 true)) else (thresherlaw20_AggEnds.j0 k t239 t247 t253 t256 true)))))))))=some r:=H
 have A3:=Aside0.mk A30
 clear A30
 replace H:=Option.bind_eq_some_iff.mp H
 obtain ⟨⟨t240,t243,t244,t245⟩,A40,H⟩:=H
 replace H : ((thresherref04_Fits.f k t240 1 t244 t245 l1 60).bind fun t247=>((some (([(⟨3,0⟩ : S33),(⟨4,0⟩ : S33),(⟨1,0⟩ : S33)] : List (S33)) : List (S33))).bind fun y250=>((agg_Rows.f k t240 1 t244 t245 y250 t247).bind fun t253=>((thresherref09_Sort.f k t240 1 t244 t245 t247).bind fun t256=>((agg_Rows.f k t240 1 t244 t245 y250 t256).bind fun t259=>((thresherref20_Same.f k t253 t259).bind fun t262=>(if t262=true then (if (t253.length : Int)=3 then (if 2 < (t253.length : Int) then (if ((rd_T42 t253 2).f1.f0)=(t247.length : Int) then (thresherlaw20_AggEnds.j0 k t239 t247 t253 t256 (!((rd_T42 t253 2).f0))) else (thresherlaw20_AggEnds.j0 k t239 t247 t253 t256 true)) else (none)) else (thresherlaw20_AggEnds.j0 k t239 t247 t253 t256 true)) else (thresherlaw20_AggEnds.j0 k t239 t247 t253 t256 true))))))))=some r:=H
 have A4:=Aside0.mk A40
 clear A40
 replace H:=Option.bind_eq_some_iff.mp H
 obtain ⟨t247,A50,H⟩:=H
 replace H : ((some (([(⟨3,0⟩ : S33),(⟨4,0⟩ : S33),(⟨1,0⟩ : S33)] : List (S33)) : List (S33))).bind fun y250=>((agg_Rows.f k t240 1 t244 t245 y250 t247).bind fun t253=>((thresherref09_Sort.f k t240 1 t244 t245 t247).bind fun t256=>((agg_Rows.f k t240 1 t244 t245 y250 t256).bind fun t259=>((thresherref20_Same.f k t253 t259).bind fun t262=>(if t262=true then (if (t253.length : Int)=3 then (if 2 < (t253.length : Int) then (if ((rd_T42 t253 2).f1.f0)=(t247.length : Int) then (thresherlaw20_AggEnds.j0 k t239 t247 t253 t256 (!((rd_T42 t253 2).f0))) else (thresherlaw20_AggEnds.j0 k t239 t247 t253 t256 true)) else (none)) else (thresherlaw20_AggEnds.j0 k t239 t247 t253 t256 true)) else (thresherlaw20_AggEnds.j0 k t239 t247 t253 t256 true)))))))=some r:=H
 have A5:=Aside0.mk A50
 clear A50
 obtain ⟨y250,hy250⟩ : ∃ y_ : List (S33),y_=(([(⟨3,0⟩ : S33),(⟨4,0⟩ : S33),(⟨1,0⟩ : S33)] : List (S33))):=⟨_,rfl⟩
 replace H : ((agg_Rows.f k t240 1 t244 t245 y250 t247).bind fun t253=>((thresherref09_Sort.f k t240 1 t244 t245 t247).bind fun t256=>((agg_Rows.f k t240 1 t244 t245 y250 t256).bind fun t259=>((thresherref20_Same.f k t253 t259).bind fun t262=>(if t262=true then (if (t253.length : Int)=3 then (if 2 < (t253.length : Int) then (if ((rd_T42 t253 2).f1.f0)=(t247.length : Int) then (thresherlaw20_AggEnds.j0 k t239 t247 t253 t256 (!((rd_T42 t253 2).f0))) else (thresherlaw20_AggEnds.j0 k t239 t247 t253 t256 true)) else (none)) else (thresherlaw20_AggEnds.j0 k t239 t247 t253 t256 true)) else (thresherlaw20_AggEnds.j0 k t239 t247 t253 t256 true))))))=some r:=by first|(rw [hy250];with_reducible exact H)|(have H2_:=(Option.bind_some _ _).symm.trans H;rw [hy250];with_reducible exact H2_)|(have H2_:=(Option.bind_some _ _).symm.trans H;with_reducible exact H2_)|with_reducible exact H|(rw [hy250];exact H)|exact H
 have Ny250:=Aside0.mk hy250
 clear hy250
 replace H:=Option.bind_eq_some_iff.mp H
 obtain ⟨t253,A60,H⟩:=H
 replace H : ((thresherref09_Sort.f k t240 1 t244 t245 t247).bind fun t256=>((agg_Rows.f k t240 1 t244 t245 y250 t256).bind fun t259=>((thresherref20_Same.f k t253 t259).bind fun t262=>(if t262=true then (if (t253.length : Int)=3 then (if 2 < (t253.length : Int) then (if ((rd_T42 t253 2).f1.f0)=(t247.length : Int) then (thresherlaw20_AggEnds.j0 k t239 t247 t253 t256 (!((rd_T42 t253 2).f0))) else (thresherlaw20_AggEnds.j0 k t239 t247 t253 t256 true)) else (none)) else (thresherlaw20_AggEnds.j0 k t239 t247 t253 t256 true)) else (thresherlaw20_AggEnds.j0 k t239 t247 t253 t256 true)))))=some r:=H
 have A6:=Aside0.mk A60
 clear A60
 replace H:=Option.bind_eq_some_iff.mp H
 obtain ⟨t256,A70,H⟩:=H
 replace H : ((agg_Rows.f k t240 1 t244 t245 y250 t256).bind fun t259=>((thresherref20_Same.f k t253 t259).bind fun t262=>(if t262=true then (if (t253.length : Int)=3 then (if 2 < (t253.length : Int) then (if ((rd_T42 t253 2).f1.f0)=(t247.length : Int) then (thresherlaw20_AggEnds.j0 k t239 t247 t253 t256 (!((rd_T42 t253 2).f0))) else (thresherlaw20_AggEnds.j0 k t239 t247 t253 t256 true)) else (none)) else (thresherlaw20_AggEnds.j0 k t239 t247 t253 t256 true)) else (thresherlaw20_AggEnds.j0 k t239 t247 t253 t256 true))))=some r:=H
 have A7:=Aside0.mk A70
 clear A70
 replace H:=Option.bind_eq_some_iff.mp H
 obtain ⟨t259,A80,H⟩:=H
 replace H : ((thresherref20_Same.f k t253 t259).bind fun t262=>(if t262=true then (if (t253.length : Int)=3 then (if 2 < (t253.length : Int) then (if ((rd_T42 t253 2).f1.f0)=(t247.length : Int) then (thresherlaw20_AggEnds.j0 k t239 t247 t253 t256 (!((rd_T42 t253 2).f0))) else (thresherlaw20_AggEnds.j0 k t239 t247 t253 t256 true)) else (none)) else (thresherlaw20_AggEnds.j0 k t239 t247 t253 t256 true)) else (thresherlaw20_AggEnds.j0 k t239 t247 t253 t256 true)))=some r:=H
 have A8:=Aside0.mk A80
 clear A80
 replace H:=Option.bind_eq_some_iff.mp H
 obtain ⟨t262,A90,H⟩:=H
 replace H : (if t262=true then (if (t253.length : Int)=3 then (if 2 < (t253.length : Int) then (if ((rd_T42 t253 2).f1.f0)=(t247.length : Int) then (thresherlaw20_AggEnds.j0 k t239 t247 t253 t256 (!((rd_T42 t253 2).f0))) else (thresherlaw20_AggEnds.j0 k t239 t247 t253 t256 true)) else (none)) else (thresherlaw20_AggEnds.j0 k t239 t247 t253 t256 true)) else (thresherlaw20_AggEnds.j0 k t239 t247 t253 t256 true))=some r:=H
 have A9:=Aside0.mk A90
 clear A90
 have HC10:=Aside0.mk H
 clear H
 go_enter Try.func3,Try.ntmps3
 go_upto_region 4 with (go_big_may;first|((with_reducible refine gate_dst (N:=2) rfl ?_);(try (refine gate_guard (by rfl) ?_;dsimp only));refine box_event ?hg (N:=2) ?hd (cs:=#[.int .u8 a0_0,.int .u8 a0_1,.int .u8 a0_2,.int .u8 a0_3,.int .u8 a0_4,.int .u8 a0_5,.int .u8 a0_6,.int .u8 a0_7,.int .u8 a0_8,.int .u8 a0_9,.int .u8 a0_10,.int .u8 a0_11]) (t:=24) ?hr ?_;(case hd=>rfl);(case hg=>rfl);(case hr=>first|(go_simp;done)|(go_simp;rfl));intro gb238 hg w11 hbox hb;have n0_:=Aside0.mk (below_step (below_up HB.out) hb);have n1_:=Aside0.mk (hbox);have n2_:=Aside0.mk ((by rw [hg];exact (below_size (below_up HB.out)) : w.heap.size≤gb238));have n3_:=Aside0.mk ((by rw [hg];exact (below_size (below_up HB.out)) : w.heap.size≤gb238));clear HB;have HB:=n0_;have BK238:=n1_;have GW238:=n2_;have GE238:=n3_;clear n0_ n1_ n2_ n3_;clear hb hbox hg)|(go_at_call 8;(with_reducible refine (thresherlaw20_shown.calls k  t239 _ A3.out).mono ?_);rintro e w12 ⟨rfl,hb⟩;have n0_:=Aside0.mk (blk_below (blk_up BK238.out) hb);have n1_:=Aside0.mk (below_step (below_go HB.out) hb);clear BK238;clear HB;have BK238:=n0_;have HB:=n1_;clear n0_ n1_;(try clear hb);(try clear hb2);(try clear hk);(try clear hi);have hcz13_0 : w12.cell? ⟨gb238,0,none⟩=some (.int .u8 a0_0):=(blk_cell BK238.out 0).trans rfl;have hcz13_1 : w12.cell? ⟨gb238,1,none⟩=some (.int .u8 a0_1):=(blk_cell BK238.out 1).trans rfl;have hcz13_2 : w12.cell? ⟨gb238,2,none⟩=some (.int .u8 a0_2):=(blk_cell BK238.out 2).trans rfl;have hcz13_3 : w12.cell? ⟨gb238,3,none⟩=some (.int .u8 a0_3):=(blk_cell BK238.out 3).trans rfl;have hcz13_4 : w12.cell? ⟨gb238,4,none⟩=some (.int .u8 a0_4):=(blk_cell BK238.out 4).trans rfl;have hcz13_5 : w12.cell? ⟨gb238,5,none⟩=some (.int .u8 a0_5):=(blk_cell BK238.out 5).trans rfl;have hcz13_6 : w12.cell? ⟨gb238,6,none⟩=some (.int .u8 a0_6):=(blk_cell BK238.out 6).trans rfl;have hcz13_7 : w12.cell? ⟨gb238,7,none⟩=some (.int .u8 a0_7):=(blk_cell BK238.out 7).trans rfl;have hcz13_8 : w12.cell? ⟨gb238,8,none⟩=some (.int .u8 a0_8):=(blk_cell BK238.out 8).trans rfl;have hcz13_9 : w12.cell? ⟨gb238,9,none⟩=some (.int .u8 a0_9):=(blk_cell BK238.out 9).trans rfl;have hcz13_10 : w12.cell? ⟨gb238,10,none⟩=some (.int .u8 a0_10):=(blk_cell BK238.out 10).trans rfl;have hcz13_11 : w12.cell? ⟨gb238,11,none⟩=some (.int .u8 a0_11):=(blk_cell BK238.out 11).trans rfl;have hfz13_0:=blk_frozen BK238.out 0;have hfz13_1:=blk_frozen BK238.out 1;have hfz13_2:=blk_frozen BK238.out 2;have hfz13_3:=blk_frozen BK238.out 3;have hfz13_4:=blk_frozen BK238.out 4;have hfz13_5:=blk_frozen BK238.out 5;have hfz13_6:=blk_frozen BK238.out 6;have hfz13_7:=blk_frozen BK238.out 7;have hfz13_8:=blk_frozen BK238.out 8;have hfz13_9:=blk_frozen BK238.out 9;have hfz13_10:=blk_frozen BK238.out 10;have hfz13_11:=blk_frozen BK238.out 11)|(go_at_call 9;(with_reducible refine (thresherlaw20_made.calls k a0_0 a0_1 a0_2 a0_3 a0_4 a0_5 a0_6 a0_7 a0_8 a0_9 a0_10 a0_11 t240 t243 t244 t245 _ A4.out).mono ?_);rintro e w14 ⟨v241,rfl,ho0,hb⟩;have n0_:=Aside0.mk (Kd.R_lower ho0 (below_size (below_go HB.out)));have n1_:=Aside0.mk (blk_below (blk_up BK238.out) hb);have n2_:=Aside0.mk (below_step (below_go HB.out) hb);clear BK238;clear HB;have HO242:=n0_;have BK238:=n1_;have HB:=n2_;clear n0_ n1_ n2_;(try clear hb);(try clear hb2);(try clear hk);(try clear hi);(try clear ho0))|((with_reducible refine gate_dst (N:=6) rfl ?_);(try (refine gate_guard (by rfl) ?_;dsimp only));refine box_event ?hg (N:=6) ?hd (cs:=#[.slice none 0 0,.int .i64 0,.int .i64 0,.int .i64 0]) (t:=29) ?hr ?_;(case hd=>rfl);(case hg=>rfl);(case hr=>first|(go_simp;done)|(go_simp;rfl));intro gb246 hg w15 hbox hb;have n0_:=Aside0.mk (Kd.R_below (R_up HO242.out) hb);have n1_:=Aside0.mk (blk_below (blk_up BK238.out) hb);have n2_:=Aside0.mk (below_step (below_go HB.out) hb);have n3_:=Aside0.mk (hbox);have n4_:=Aside0.mk ((by rw [hg];exact (below_size (below_go HB.out)) : w.heap.size≤gb246));have n5_:=Aside0.mk ((by rw [hg];exact (below_size (below_go HB.out)) : w.heap.size≤gb246));have n6_:=Aside0.mk ((by rw [hg];exact Nat.ne_of_lt (blk_lt (blk_up BK238.out)) : gb238≠gb246));have n7_:=Aside0.mk ((by rw [hg];exact Nat.ne_of_gt (blk_lt (blk_up BK238.out)) : gb246≠gb238));clear HO242;clear BK238;clear HB;have HO242:=n0_;have BK238:=n1_;have HB:=n2_;have BK246:=n3_;have GW246:=n4_;have GE246:=n5_;have NB238_246:=n6_;have NB246_238:=n7_;clear n0_ n1_ n2_ n3_ n4_ n5_ n6_ n7_;clear hb hbox hg;obtain ⟨Ao16,co16,eo16⟩:=Kd.R_slice HO242.out;subst eo16;have hnb17:=NB246_238.out;have hnc17:=NB238_246.out;have hcz18_0 : w15.cell? ⟨gb246,0,none⟩=some (.slice none 0 0):=(blk_cell BK246.out 0).trans rfl;have hcz18_1 : w15.cell? ⟨gb246,1,none⟩=some (.int .i64 0):=(blk_cell BK246.out 1).trans rfl;have hcz18_2 : w15.cell? ⟨gb246,2,none⟩=some (.int .i64 0):=(blk_cell BK246.out 2).trans rfl;have hcz18_3 : w15.cell? ⟨gb246,3,none⟩=some (.int .i64 0):=(blk_cell BK246.out 3).trans rfl;have hfz18_0:=blk_frozen BK246.out 0;have hfz18_1:=blk_frozen BK246.out 1;have hfz18_2:=blk_frozen BK246.out 2;have hfz18_3:=blk_frozen BK246.out 3))
 have n0_:=Aside0.mk (Kd.R_mono (Kd.R_far (p:=⟨gb246,1,none⟩) (Kd.R_far (p:=⟨gb246,3,none⟩) (Kd.R_far (p:=⟨gb246,2,none⟩) (Kd.R_far (p:=⟨gb246,1,none⟩) (Kd.R_far (p:=⟨gb246,0,none⟩) (Kd.R_types HO242.out BK246.out (by decide)) (fun _ hk=>hk.2) (.slice Ao16 t240.length co16)) (fun _ hk=>hk.2) (.int .i64 t243)) (fun _ hk=>hk.2) (.int .i64 t244)) (fun _ hk=>hk.2) (.int .i64 t245)) (fun _ hk=>hk.2) (.int .i64 1)) (fun _ h_=>h_.1))
 have n1_:=Aside0.mk (show (((((w15.setCell ⟨gb246,0,none⟩ (.slice Ao16 t240.length co16)).setCell ⟨gb246,1,none⟩ (.int .i64 t243)).setCell ⟨gb246,2,none⟩ (.int .i64 t244)).setCell ⟨gb246,3,none⟩ (.int .i64 t245)).setCell ⟨gb246,1,none⟩ (.int .i64 1)).heap[gb238]?=some (.cells #[.int .u8 a0_0,.int .u8 a0_1,.int .u8 a0_2,.int .u8 a0_3,.int .u8 a0_4,.int .u8 a0_5,.int .u8 a0_6,.int .u8 a0_7,.int .u8 a0_8,.int .u8 a0_9,.int .u8 a0_10,.int .u8 a0_11] 24 (0,0)) from by (with_reducible repeat (first|refine blk_drewN ?_ _|refine blk_drew ?_|refine blk_alloc ?_ _));refine blk_far ?_ NB238_246.out _;(with_reducible repeat (first|refine blk_drewN ?_ _|refine blk_drew ?_|refine blk_alloc ?_ _));refine blk_far ?_ NB238_246.out _;(with_reducible repeat (first|refine blk_drewN ?_ _|refine blk_drew ?_|refine blk_alloc ?_ _));refine blk_far ?_ NB238_246.out _;(with_reducible repeat (first|refine blk_drewN ?_ _|refine blk_drew ?_|refine blk_alloc ?_ _));refine blk_far ?_ NB238_246.out _;(with_reducible repeat (first|refine blk_drewN ?_ _|refine blk_drew ?_|refine blk_alloc ?_ _));refine blk_far ?_ NB238_246.out _;(with_reducible repeat (first|refine blk_drewN ?_ _|refine blk_drew ?_|refine blk_alloc ?_ _));exact BK238.out)
 have n2_:=Aside0.mk (show (((((w15.setCell ⟨gb246,0,none⟩ (.slice Ao16 t240.length co16)).setCell ⟨gb246,1,none⟩ (.int .i64 t243)).setCell ⟨gb246,2,none⟩ (.int .i64 t244)).setCell ⟨gb246,3,none⟩ (.int .i64 t245)).setCell ⟨gb246,1,none⟩ (.int .i64 1)).heap[gb246]?=some (.cells #[.slice Ao16 t240.length co16,.int .i64 1,.int .i64 t244,.int .i64 t245] 29 (0,0)) from by (with_reducible repeat (first|refine blk_drewN ?_ _|refine blk_drew ?_|refine blk_alloc ?_ _));refine blk_put (cs:=#[.slice Ao16 t240.length co16,.int .i64 t243,.int .i64 t244,.int .i64 t245]) ?_ 1 _ rfl;(with_reducible repeat (first|refine blk_drewN ?_ _|refine blk_drew ?_|refine blk_alloc ?_ _));refine blk_put (cs:=#[.slice Ao16 t240.length co16,.int .i64 t243,.int .i64 t244,.int .i64 0]) ?_ 3 _ rfl;(with_reducible repeat (first|refine blk_drewN ?_ _|refine blk_drew ?_|refine blk_alloc ?_ _));refine blk_put (cs:=#[.slice Ao16 t240.length co16,.int .i64 t243,.int .i64 0,.int .i64 0]) ?_ 2 _ rfl;(with_reducible repeat (first|refine blk_drewN ?_ _|refine blk_drew ?_|refine blk_alloc ?_ _));refine blk_put (cs:=#[.slice Ao16 t240.length co16,.int .i64 0,.int .i64 0,.int .i64 0]) ?_ 1 _ rfl;(with_reducible repeat (first|refine blk_drewN ?_ _|refine blk_drew ?_|refine blk_alloc ?_ _));refine blk_put (cs:=#[.slice none 0 0,.int .i64 0,.int .i64 0,.int .i64 0]) ?_ 0 _ rfl;(with_reducible repeat (first|refine blk_drewN ?_ _|refine blk_drew ?_|refine blk_alloc ?_ _));exact BK246.out)
 have n3_:=Aside0.mk (show Below w.heap.size w (((((w15.setCell ⟨gb246,0,none⟩ (.slice Ao16 t240.length co16)).setCell ⟨gb246,1,none⟩ (.int .i64 t243)).setCell ⟨gb246,2,none⟩ (.int .i64 t244)).setCell ⟨gb246,3,none⟩ (.int .i64 t245)).setCell ⟨gb246,1,none⟩ (.int .i64 1)) from by repeat (first|(with_reducible first|exact HB.out|refine below_set ?_ GE246.out)|exact HB.out))
 clear HO242 BK238 BK246 HB hcz18_0 hcz18_1 hcz18_2 hcz18_3 hfz18_0 hfz18_1 hfz18_2 hfz18_3
 have HO242:=n0_
 have BK238:=n1_
 have BK246:=n2_
 have HB:=n3_
 clear n0_ n1_ n2_ n3_
 generalize (((((w15.setCell ⟨gb246,0,none⟩ (.slice Ao16 t240.length co16)).setCell ⟨gb246,1,none⟩ (.int .i64 t243)).setCell ⟨gb246,2,none⟩ (.int .i64 t244)).setCell ⟨gb246,3,none⟩ (.int .i64 t245)).setCell ⟨gb246,1,none⟩ (.int .i64 1))=w18 at HO242 BK238 BK246 HB ⊢
 have hcz18_0 : w18.cell? ⟨gb246,0,none⟩=some (.slice Ao16 t240.length co16):=(blk_cell BK246.out 0).trans rfl
 have hcz18_1 : w18.cell? ⟨gb246,1,none⟩=some (.int .i64 1):=(blk_cell BK246.out 1).trans rfl
 have hcz18_2 : w18.cell? ⟨gb246,2,none⟩=some (.int .i64 t244):=(blk_cell BK246.out 2).trans rfl
 have hcz18_3 : w18.cell? ⟨gb246,3,none⟩=some (.int .i64 t245):=(blk_cell BK246.out 3).trans rfl
 have hfz18_0:=blk_frozen BK246.out 0
 have hfz18_1:=blk_frozen BK246.out 1
 have hfz18_2:=blk_frozen BK246.out 2
 have hfz18_3:=blk_frozen BK246.out 3
 go_upto_region 10 with (go_big_may;first|(go_at_call 10;(with_reducible refine (thresherref04_Fits.calls k _ _ t240 1 t244 t245 _ _ l1 60 t247 _ ?side1 ?side2 ?side3 ?side4 A5.out).mono ?_);(case side1=>refine (Kd.R_reads' (e:=3) (base:=w.heap.size) (ok:=fun k_=>True) (n:=t240.length) (c:=co16) ?_).2.2;exact (R_up HO242.out));(case side2=>exact (Kd.R_reads' HO242.out).2.1);(case side3=>exact Kd.C_below HR1.out (below_go HB.out));(case side4=>exact HC1.out);rintro e w19 ⟨v248,rfl,ho0,hb⟩;have n0_:=Aside0.mk (Kd.R_below (R_up HO242.out) hb);have n1_:=Aside0.mk (Kd.N_lower (Kd.N_mono (ok':=fun k_=>some k_≠(.slice Ao16 t240.length co16 : Value).ownBlock∧k_≠gb238∧k_≠gb246) (Kd.S_N (Kd.S_bound ho0)) (fun k_ hk_=>⟨(Kd.fresh' (Kd.R_lt (R_up HO242.out)) k_ hk_.2.1),(Kd.freshB (blk_up BK238.out) k_ hk_.2.1),(Kd.freshB (blk_up BK246.out) k_ hk_.2.1)⟩)) (below_size (below_go HB.out)));have n2_:=Aside0.mk (blk_below (blk_up BK238.out) hb);have n3_:=Aside0.mk (blk_below (blk_up BK246.out) hb);have n4_:=Aside0.mk (below_step (below_go HB.out) hb);clear HO242;clear BK238;clear BK246;clear HB;have HO242:=n0_;have HO249:=n1_;have BK238:=n2_;have BK246:=n3_;have HB:=n4_;clear n0_ n1_ n2_ n3_ n4_;(try clear hb);(try clear hb2);(try clear hk);(try clear hi);(try clear ho0))|((with_reducible refine gate_dst (N:=24) rfl ?_);(try (refine gate_guard (by rfl) ?_;dsimp only));refine Kd.R_lit k33 _ 33 ?hg (N:=24) ?hd (xs:=([(⟨3,0⟩ : S33),(⟨4,0⟩ : S33),(⟨1,0⟩ : S33)] : List (S33))) (inner:=[.int .i64 3,.int .i64 0,.int .i64 4,.int .i64 0,.int .i64 1,.int .i64 0]) (ok:=fun _=>True) (okp:=fun _=>True) ?hr ?hp (fun _ hk=>hk) trivial (Below.refl _ _) (Nat.le_refl _) (by simp) ?_;(case hd=>rfl);(case hg=>rfl);(case hr=>first|(go_simp;done)|(go_simp;rfl));(case hp=>exact (Reps.c2 (show Kd.M k33 _ _ _ (⟨3,0⟩ : S33) [.int .i64 3,.int .i64 0] from (k33_mkM _ _ _ (⟨3,0⟩ : S33) )) (Reps.c2 (show Kd.M k33 _ _ _ (⟨4,0⟩ : S33) [.int .i64 4,.int .i64 0] from (k33_mkM _ _ _ (⟨4,0⟩ : S33) )) (Reps.c2 (show Kd.M k33 _ _ _ (⟨1,0⟩ : S33) [.int .i64 1,.int .i64 0] from (k33_mkM _ _ _ (⟨1,0⟩ : S33) )) (Reps.none _ _)))));intro v251 w20 ho21 hb hg_ hnew_;clear hg_ hnew_;(first|rw [← Ny250.out] at ho21|(simp only [Int.reduceToNat] at ho21;rw [← Ny250.out] at ho21));have n0_:=Aside0.mk (Kd.R_below (R_up HO242.out) hb);have n1_:=Aside0.mk (Kd.N_elder' (N_up HO249.out) (Kd.R_base ho21) hb);have n2_:=Aside0.mk (Kd.R_lower ho21 (below_size (below_go HB.out)));have n3_:=Aside0.mk (blk_below (blk_up BK238.out) hb);have n4_:=Aside0.mk (blk_below (blk_up BK246.out) hb);have n5_:=Aside0.mk (below_step (below_go HB.out) hb);clear HO242;clear HO249;clear BK238;clear BK246;clear HB;have HO242:=n0_;have HO249:=n1_;have HO252:=n2_;have BK238:=n3_;have BK246:=n4_;have HB:=n5_;clear n0_ n1_ n2_ n3_ n4_ n5_;clear hb ho21;have hcz22_0 : w20.cell? ⟨gb246,0,none⟩=some (.slice Ao16 t240.length co16):=(blk_cell BK246.out 0).trans rfl;have hcz22_1 : w20.cell? ⟨gb246,1,none⟩=some (.int .i64 1):=(blk_cell BK246.out 1).trans rfl;have hcz22_2 : w20.cell? ⟨gb246,2,none⟩=some (.int .i64 t244):=(blk_cell BK246.out 2).trans rfl;have hcz22_3 : w20.cell? ⟨gb246,3,none⟩=some (.int .i64 t245):=(blk_cell BK246.out 3).trans rfl;have hfz22_0:=blk_frozen BK246.out 0;have hfz22_1:=blk_frozen BK246.out 1;have hfz22_2:=blk_frozen BK246.out 2;have hfz22_3:=blk_frozen BK246.out 3;obtain ⟨Ao23,co23,eo23⟩:=Kd.R_slice HO252.out;subst eo23;obtain ⟨Ao24,co24,eo24⟩:=Kd.N_slice HO249.out;subst eo24)|(go_at_call 11;(with_reducible refine (agg_Rows.calls k _ _ t240 1 t244 t245 _ _ y250 _ _ t247 t253 _ ?side1 ?side2 ?side3 ?side4 ?side5 ?side6 A6.out).mono ?_);(case side1=>repeat (first|exact (Kd.R_reads' HO242.out).2.2|(with_reducible refine Kd.C_alloc ?_ _)|(with_reducible refine Kd.C_drewN ?_ _)|(with_reducible refine Kd.C_drew ?_)));(case side2=>exact (Kd.R_reads' HO242.out).2.1);(case side3=>repeat (first|exact (Kd.R_reads' HO252.out).2.2|(with_reducible refine Kd.C_alloc ?_ _)|(with_reducible refine Kd.C_drewN ?_ _)|(with_reducible refine Kd.C_drew ?_)));(case side4=>exact (Kd.R_reads' HO252.out).2.1);(case side5=>repeat (first|exact (Kd.N_reads' HO249.out).2.2|(with_reducible refine Kd.C_alloc ?_ _)|(with_reducible refine Kd.C_drewN ?_ _)|(with_reducible refine Kd.C_drew ?_)));(case side6=>exact (Kd.N_reads' HO249.out).2.1);rintro e w25 ⟨v254,rfl,ho0,hb⟩;have n0_:=Aside0.mk (Kd.R_below (R_up HO242.out) hb);have n1_:=Aside0.mk (Kd.N_elder' (N_up HO249.out) (Kd.R_base ho0) hb);have n2_:=Aside0.mk (Kd.R_below (R_up HO252.out) hb);have n3_:=Aside0.mk (Kd.R_lower ho0 (below_size (below_go HB.out)));have n4_:=Aside0.mk (blk_below (blk_up BK238.out) hb);have n5_:=Aside0.mk (blk_below (blk_up BK246.out) hb);have n6_:=Aside0.mk (below_step (below_go HB.out) hb);clear HO242;clear HO249;clear HO252;clear BK238;clear BK246;clear HB;have HO242:=n0_;have HO249:=n1_;have HO252:=n2_;have HO255:=n3_;have BK238:=n4_;have BK246:=n5_;have HB:=n6_;clear n0_ n1_ n2_ n3_ n4_ n5_ n6_;(try clear hb);(try clear hb2);(try clear hk);(try clear hi);(try clear ho0);have hcz26_0 : w25.cell? ⟨gb246,0,none⟩=some (.slice Ao16 t240.length co16):=(blk_cell BK246.out 0).trans rfl;have hcz26_1 : w25.cell? ⟨gb246,1,none⟩=some (.int .i64 1):=(blk_cell BK246.out 1).trans rfl;have hcz26_2 : w25.cell? ⟨gb246,2,none⟩=some (.int .i64 t244):=(blk_cell BK246.out 2).trans rfl;have hcz26_3 : w25.cell? ⟨gb246,3,none⟩=some (.int .i64 t245):=(blk_cell BK246.out 3).trans rfl;have hfz26_0:=blk_frozen BK246.out 0;have hfz26_1:=blk_frozen BK246.out 1;have hfz26_2:=blk_frozen BK246.out 2;have hfz26_3:=blk_frozen BK246.out 3)|(go_at_call 12;(with_reducible refine (thresherref09_Sort.calls k _ _ t240 1 t244 t245 (fun k_=>(((some k_≠(.slice Ao16 t240.length co16 : Value).ownBlock∧(k_≠gb238∧k_≠gb246))∧some k_≠(.slice Ao23 y250.length co23 : Value).ownBlock)∧some k_≠(v254 : Value).ownBlock)) _ _ t247 t256 _ ?side1 ?side2 ?side3 A7.out).mono ?_);(case side1=>repeat (first|exact (Kd.R_reads' HO242.out).2.2|(with_reducible refine Kd.C_alloc ?_ _)|(with_reducible refine Kd.C_drewN ?_ _)|(with_reducible refine Kd.C_drew ?_)));(case side2=>exact (Kd.R_reads' HO242.out).2.1);(case side3=>exact Kd.N_V (HO249.out));rintro e w27 ⟨v257,rfl,ho0,hb⟩;have n0_:=Aside0.mk (Kd.R_below (R_up HO242.out) hb);have n1_:=Aside0.mk (Kd.N_elder' (N_up HO249.out) (by first|exact Kd.N_base ho0|exact Kd.S_base ho0) hb);have n2_:=Aside0.mk (Kd.R_below (R_up HO252.out) hb);have n3_:=Aside0.mk (Kd.R_below (R_up HO255.out) hb);have n4_:=Aside0.mk (Kd.N_lower (Kd.N_mono (ok':=fun k_=>some k_≠(.slice Ao16 t240.length co16 : Value).ownBlock∧some k_≠(.slice Ao23 y250.length co23 : Value).ownBlock∧some k_≠(v254 : Value).ownBlock∧k_≠gb238∧k_≠gb246) ho0 (fun k_ hk_=>⟨Or.elim hk_ (fun hs_=>hs_.1.1.1) (fun hn_=>(Kd.fresh' (Kd.R_lt (R_up HO242.out)) k_ hn_)),Or.elim hk_ (fun hs_=>hs_.1.2) (fun hn_=>(Kd.fresh' (Kd.R_lt (R_up HO252.out)) k_ hn_)),Or.elim hk_ (fun hs_=>hs_.2) (fun hn_=>(Kd.fresh' (Kd.R_lt (R_up HO255.out)) k_ hn_)),Or.elim hk_ (fun hs_=>hs_.1.1.2.1) (fun hn_=>(Kd.freshB (blk_up BK238.out) k_ hn_)),Or.elim hk_ (fun hs_=>hs_.1.1.2.2) (fun hn_=>(Kd.freshB (blk_up BK246.out) k_ hn_))⟩)) (below_size (below_go HB.out)));have n5_:=Aside0.mk (blk_below (blk_up BK238.out) hb);have n6_:=Aside0.mk (blk_below (blk_up BK246.out) hb);have n7_:=Aside0.mk (below_step (below_go HB.out) hb);clear HO242;clear HO249;clear HO252;clear HO255;clear BK238;clear BK246;clear HB;have HO242:=n0_;have HO249:=n1_;have HO252:=n2_;have HO255:=n3_;have HO258:=n4_;have BK238:=n5_;have BK246:=n6_;have HB:=n7_;clear n0_ n1_ n2_ n3_ n4_ n5_ n6_ n7_;(try clear hb);(try clear hb2);(try clear hk);(try clear hi);(try clear ho0);have hcz28_0 : w27.cell? ⟨gb246,0,none⟩=some (.slice Ao16 t240.length co16):=(blk_cell BK246.out 0).trans rfl;have hcz28_1 : w27.cell? ⟨gb246,1,none⟩=some (.int .i64 1):=(blk_cell BK246.out 1).trans rfl;have hcz28_2 : w27.cell? ⟨gb246,2,none⟩=some (.int .i64 t244):=(blk_cell BK246.out 2).trans rfl;have hcz28_3 : w27.cell? ⟨gb246,3,none⟩=some (.int .i64 t245):=(blk_cell BK246.out 3).trans rfl;have hfz28_0:=blk_frozen BK246.out 0;have hfz28_1:=blk_frozen BK246.out 1;have hfz28_2:=blk_frozen BK246.out 2;have hfz28_3:=blk_frozen BK246.out 3;obtain ⟨Ao29,co29,eo29⟩:=Kd.N_slice HO258.out;subst eo29)|(go_at_call 11;(with_reducible refine (agg_Rows.calls k _ _ t240 1 t244 t245 _ _ y250 _ _ t256 t259 _ ?side1 ?side2 ?side3 ?side4 ?side5 ?side6 A8.out).mono ?_);(case side1=>repeat (first|exact (Kd.R_reads' HO242.out).2.2|(with_reducible refine Kd.C_alloc ?_ _)|(with_reducible refine Kd.C_drewN ?_ _)|(with_reducible refine Kd.C_drew ?_)));(case side2=>exact (Kd.R_reads' HO242.out).2.1);(case side3=>repeat (first|exact (Kd.R_reads' HO252.out).2.2|(with_reducible refine Kd.C_alloc ?_ _)|(with_reducible refine Kd.C_drewN ?_ _)|(with_reducible refine Kd.C_drew ?_)));(case side4=>exact (Kd.R_reads' HO252.out).2.1);(case side5=>repeat (first|exact (Kd.N_reads' HO258.out).2.2|(with_reducible refine Kd.C_alloc ?_ _)|(with_reducible refine Kd.C_drewN ?_ _)|(with_reducible refine Kd.C_drew ?_)));(case side6=>exact (Kd.N_reads' HO258.out).2.1);rintro e w30 ⟨v260,rfl,ho0,hb⟩;have n0_:=Aside0.mk (Kd.R_below (R_up HO242.out) hb);have n1_:=Aside0.mk (Kd.N_elder' (N_up HO249.out) (Kd.R_base ho0) hb);have n2_:=Aside0.mk (Kd.R_below (R_up HO252.out) hb);have n3_:=Aside0.mk (Kd.R_elder' (R_up HO255.out) (Kd.R_base ho0) hb);have n4_:=Aside0.mk (Kd.N_elder' (N_up HO258.out) (Kd.R_base ho0) hb);have n5_:=Aside0.mk (Kd.R_lower (Kd.R_new' ho0 (Kd.R_lt (R_up HO255.out))) (below_size (below_go HB.out)));have n6_:=Aside0.mk (blk_below (blk_up BK238.out) hb);have n7_:=Aside0.mk (blk_below (blk_up BK246.out) hb);have n8_:=Aside0.mk (below_step (below_go HB.out) hb);clear HO242;clear HO249;clear HO252;clear HO255;clear HO258;clear BK238;clear BK246;clear HB;have HO242:=n0_;have HO249:=n1_;have HO252:=n2_;have HO255:=n3_;have HO258:=n4_;have HO261:=n5_;have BK238:=n6_;have BK246:=n7_;have HB:=n8_;clear n0_ n1_ n2_ n3_ n4_ n5_ n6_ n7_ n8_;(try clear hb);(try clear hb2);(try clear hk);(try clear hi);(try clear ho0);obtain ⟨Ao31,co31,eo31⟩:=Kd.R_slice HO255.out;subst eo31;obtain ⟨Ao32,co32,eo32⟩:=Kd.R_slice HO261.out;subst eo32)|(go_at_call 13;(with_reducible refine (thresherref20_Same.calls k _ _ t253 _ _ t259 t262 _ ?side1 ?side2 ?side3 ?side4 A9.out).mono ?_);(case side1=>repeat (first|exact (Kd.R_reads' HO255.out).2.2|(with_reducible refine Kd.C_alloc ?_ _)|(with_reducible refine Kd.C_drewN ?_ _)|(with_reducible refine Kd.C_drew ?_)));(case side2=>exact (Kd.R_reads' HO255.out).2.1);(case side3=>repeat (first|exact (Kd.R_reads' HO261.out).2.2|(with_reducible refine Kd.C_alloc ?_ _)|(with_reducible refine Kd.C_drewN ?_ _)|(with_reducible refine Kd.C_drew ?_)));(case side4=>exact (Kd.R_reads' HO261.out).2.1);rintro e w' ⟨rfl,⟨nd,rfl⟩⟩;(try first|exact ⟨rfl,_,World.drewN_drewN _ _ _⟩|exact ⟨rfl,_,Eq.trans (World.drewN_drewN _ _ _) (congrArg (World.drewN _) (Nat.add_assoc _ _ _))⟩)))
 repeat (go_quiet (first|(go_at_call 10;(with_reducible refine (thresherref04_Fits.calls k _ _ t240 1 t244 t245 _ _ l1 60 t247 _ ?side1 ?side2 ?side3 ?side4 A5.out).mono ?_);(case side1=>refine (Kd.R_reads' (e:=3) (base:=w.heap.size) (ok:=fun k_=>True) (n:=t240.length) (c:=co16) ?_).2.2;exact (R_up HO242.out));(case side2=>exact (Kd.R_reads' HO242.out).2.1);(case side3=>exact Kd.C_below HR1.out (below_go HB.out));(case side4=>exact HC1.out);rintro e w19 ⟨v248,rfl,ho0,hb⟩;have n0_:=Aside0.mk (Kd.R_below (R_up HO242.out) hb);have n1_:=Aside0.mk (Kd.N_lower (Kd.N_mono (ok':=fun k_=>some k_≠(.slice Ao16 t240.length co16 : Value).ownBlock∧k_≠gb238∧k_≠gb246) (Kd.S_N (Kd.S_bound ho0)) (fun k_ hk_=>⟨(Kd.fresh' (Kd.R_lt (R_up HO242.out)) k_ hk_.2.1),(Kd.freshB (blk_up BK238.out) k_ hk_.2.1),(Kd.freshB (blk_up BK246.out) k_ hk_.2.1)⟩)) (below_size (below_go HB.out)));have n2_:=Aside0.mk (blk_below (blk_up BK238.out) hb);have n3_:=Aside0.mk (blk_below (blk_up BK246.out) hb);have n4_:=Aside0.mk (below_step (below_go HB.out) hb);clear HO242;clear BK238;clear BK246;clear HB;have HO242:=n0_;have HO249:=n1_;have BK238:=n2_;have BK246:=n3_;have HB:=n4_;clear n0_ n1_ n2_ n3_ n4_;(try clear hb);(try clear hb2);(try clear hk);(try clear hi);(try clear ho0))|((with_reducible refine gate_dst (N:=24) rfl ?_);(try (refine gate_guard (by rfl) ?_;dsimp only));refine Kd.R_lit k33 _ 33 ?hg (N:=24) ?hd (xs:=([(⟨3,0⟩ : S33),(⟨4,0⟩ : S33),(⟨1,0⟩ : S33)] : List (S33))) (inner:=[.int .i64 3,.int .i64 0,.int .i64 4,.int .i64 0,.int .i64 1,.int .i64 0]) (ok:=fun _=>True) (okp:=fun _=>True) ?hr ?hp (fun _ hk=>hk) trivial (Below.refl _ _) (Nat.le_refl _) (by simp) ?_;(case hd=>rfl);(case hg=>rfl);(case hr=>first|(go_simp;done)|(go_simp;rfl));(case hp=>exact (Reps.c2 (show Kd.M k33 _ _ _ (⟨3,0⟩ : S33) [.int .i64 3,.int .i64 0] from (k33_mkM _ _ _ (⟨3,0⟩ : S33) )) (Reps.c2 (show Kd.M k33 _ _ _ (⟨4,0⟩ : S33) [.int .i64 4,.int .i64 0] from (k33_mkM _ _ _ (⟨4,0⟩ : S33) )) (Reps.c2 (show Kd.M k33 _ _ _ (⟨1,0⟩ : S33) [.int .i64 1,.int .i64 0] from (k33_mkM _ _ _ (⟨1,0⟩ : S33) )) (Reps.none _ _)))));intro v251 w20 ho21 hb hg_ hnew_;clear hg_ hnew_;(first|rw [← Ny250.out] at ho21|(simp only [Int.reduceToNat] at ho21;rw [← Ny250.out] at ho21));have n0_:=Aside0.mk (Kd.R_below (R_up HO242.out) hb);have n1_:=Aside0.mk (Kd.N_elder' (N_up HO249.out) (Kd.R_base ho21) hb);have n2_:=Aside0.mk (Kd.R_lower ho21 (below_size (below_go HB.out)));have n3_:=Aside0.mk (blk_below (blk_up BK238.out) hb);have n4_:=Aside0.mk (blk_below (blk_up BK246.out) hb);have n5_:=Aside0.mk (below_step (below_go HB.out) hb);clear HO242;clear HO249;clear BK238;clear BK246;clear HB;have HO242:=n0_;have HO249:=n1_;have HO252:=n2_;have BK238:=n3_;have BK246:=n4_;have HB:=n5_;clear n0_ n1_ n2_ n3_ n4_ n5_;clear hb ho21;have hcz22_0 : w20.cell? ⟨gb246,0,none⟩=some (.slice Ao16 t240.length co16):=(blk_cell BK246.out 0).trans rfl;have hcz22_1 : w20.cell? ⟨gb246,1,none⟩=some (.int .i64 1):=(blk_cell BK246.out 1).trans rfl;have hcz22_2 : w20.cell? ⟨gb246,2,none⟩=some (.int .i64 t244):=(blk_cell BK246.out 2).trans rfl;have hcz22_3 : w20.cell? ⟨gb246,3,none⟩=some (.int .i64 t245):=(blk_cell BK246.out 3).trans rfl;have hfz22_0:=blk_frozen BK246.out 0;have hfz22_1:=blk_frozen BK246.out 1;have hfz22_2:=blk_frozen BK246.out 2;have hfz22_3:=blk_frozen BK246.out 3;obtain ⟨Ao23,co23,eo23⟩:=Kd.R_slice HO252.out;subst eo23;obtain ⟨Ao24,co24,eo24⟩:=Kd.N_slice HO249.out;subst eo24)|(go_at_call 11;(with_reducible refine (agg_Rows.calls k _ _ t240 1 t244 t245 _ _ y250 _ _ t247 t253 _ ?side1 ?side2 ?side3 ?side4 ?side5 ?side6 A6.out).mono ?_);(case side1=>repeat (first|exact (Kd.R_reads' HO242.out).2.2|(with_reducible refine Kd.C_alloc ?_ _)|(with_reducible refine Kd.C_drewN ?_ _)|(with_reducible refine Kd.C_drew ?_)));(case side2=>exact (Kd.R_reads' HO242.out).2.1);(case side3=>repeat (first|exact (Kd.R_reads' HO252.out).2.2|(with_reducible refine Kd.C_alloc ?_ _)|(with_reducible refine Kd.C_drewN ?_ _)|(with_reducible refine Kd.C_drew ?_)));(case side4=>exact (Kd.R_reads' HO252.out).2.1);(case side5=>repeat (first|exact (Kd.N_reads' HO249.out).2.2|(with_reducible refine Kd.C_alloc ?_ _)|(with_reducible refine Kd.C_drewN ?_ _)|(with_reducible refine Kd.C_drew ?_)));(case side6=>exact (Kd.N_reads' HO249.out).2.1);rintro e w25 ⟨v254,rfl,ho0,hb⟩;have n0_:=Aside0.mk (Kd.R_below (R_up HO242.out) hb);have n1_:=Aside0.mk (Kd.N_elder' (N_up HO249.out) (Kd.R_base ho0) hb);have n2_:=Aside0.mk (Kd.R_below (R_up HO252.out) hb);have n3_:=Aside0.mk (Kd.R_lower ho0 (below_size (below_go HB.out)));have n4_:=Aside0.mk (blk_below (blk_up BK238.out) hb);have n5_:=Aside0.mk (blk_below (blk_up BK246.out) hb);have n6_:=Aside0.mk (below_step (below_go HB.out) hb);clear HO242;clear HO249;clear HO252;clear BK238;clear BK246;clear HB;have HO242:=n0_;have HO249:=n1_;have HO252:=n2_;have HO255:=n3_;have BK238:=n4_;have BK246:=n5_;have HB:=n6_;clear n0_ n1_ n2_ n3_ n4_ n5_ n6_;(try clear hb);(try clear hb2);(try clear hk);(try clear hi);(try clear ho0);have hcz26_0 : w25.cell? ⟨gb246,0,none⟩=some (.slice Ao16 t240.length co16):=(blk_cell BK246.out 0).trans rfl;have hcz26_1 : w25.cell? ⟨gb246,1,none⟩=some (.int .i64 1):=(blk_cell BK246.out 1).trans rfl;have hcz26_2 : w25.cell? ⟨gb246,2,none⟩=some (.int .i64 t244):=(blk_cell BK246.out 2).trans rfl;have hcz26_3 : w25.cell? ⟨gb246,3,none⟩=some (.int .i64 t245):=(blk_cell BK246.out 3).trans rfl;have hfz26_0:=blk_frozen BK246.out 0;have hfz26_1:=blk_frozen BK246.out 1;have hfz26_2:=blk_frozen BK246.out 2;have hfz26_3:=blk_frozen BK246.out 3)|(go_at_call 12;(with_reducible refine (thresherref09_Sort.calls k _ _ t240 1 t244 t245 (fun k_=>(((some k_≠(.slice Ao16 t240.length co16 : Value).ownBlock∧(k_≠gb238∧k_≠gb246))∧some k_≠(.slice Ao23 y250.length co23 : Value).ownBlock)∧some k_≠(v254 : Value).ownBlock)) _ _ t247 t256 _ ?side1 ?side2 ?side3 A7.out).mono ?_);(case side1=>repeat (first|exact (Kd.R_reads' HO242.out).2.2|(with_reducible refine Kd.C_alloc ?_ _)|(with_reducible refine Kd.C_drewN ?_ _)|(with_reducible refine Kd.C_drew ?_)));(case side2=>exact (Kd.R_reads' HO242.out).2.1);(case side3=>exact Kd.N_V (HO249.out));rintro e w27 ⟨v257,rfl,ho0,hb⟩;have n0_:=Aside0.mk (Kd.R_below (R_up HO242.out) hb);have n1_:=Aside0.mk (Kd.N_elder' (N_up HO249.out) (by first|exact Kd.N_base ho0|exact Kd.S_base ho0) hb);have n2_:=Aside0.mk (Kd.R_below (R_up HO252.out) hb);have n3_:=Aside0.mk (Kd.R_below (R_up HO255.out) hb);have n4_:=Aside0.mk (Kd.N_lower (Kd.N_mono (ok':=fun k_=>some k_≠(.slice Ao16 t240.length co16 : Value).ownBlock∧some k_≠(.slice Ao23 y250.length co23 : Value).ownBlock∧some k_≠(v254 : Value).ownBlock∧k_≠gb238∧k_≠gb246) ho0 (fun k_ hk_=>⟨Or.elim hk_ (fun hs_=>hs_.1.1.1) (fun hn_=>(Kd.fresh' (Kd.R_lt (R_up HO242.out)) k_ hn_)),Or.elim hk_ (fun hs_=>hs_.1.2) (fun hn_=>(Kd.fresh' (Kd.R_lt (R_up HO252.out)) k_ hn_)),Or.elim hk_ (fun hs_=>hs_.2) (fun hn_=>(Kd.fresh' (Kd.R_lt (R_up HO255.out)) k_ hn_)),Or.elim hk_ (fun hs_=>hs_.1.1.2.1) (fun hn_=>(Kd.freshB (blk_up BK238.out) k_ hn_)),Or.elim hk_ (fun hs_=>hs_.1.1.2.2) (fun hn_=>(Kd.freshB (blk_up BK246.out) k_ hn_))⟩)) (below_size (below_go HB.out)));have n5_:=Aside0.mk (blk_below (blk_up BK238.out) hb);have n6_:=Aside0.mk (blk_below (blk_up BK246.out) hb);have n7_:=Aside0.mk (below_step (below_go HB.out) hb);clear HO242;clear HO249;clear HO252;clear HO255;clear BK238;clear BK246;clear HB;have HO242:=n0_;have HO249:=n1_;have HO252:=n2_;have HO255:=n3_;have HO258:=n4_;have BK238:=n5_;have BK246:=n6_;have HB:=n7_;clear n0_ n1_ n2_ n3_ n4_ n5_ n6_ n7_;(try clear hb);(try clear hb2);(try clear hk);(try clear hi);(try clear ho0);have hcz28_0 : w27.cell? ⟨gb246,0,none⟩=some (.slice Ao16 t240.length co16):=(blk_cell BK246.out 0).trans rfl;have hcz28_1 : w27.cell? ⟨gb246,1,none⟩=some (.int .i64 1):=(blk_cell BK246.out 1).trans rfl;have hcz28_2 : w27.cell? ⟨gb246,2,none⟩=some (.int .i64 t244):=(blk_cell BK246.out 2).trans rfl;have hcz28_3 : w27.cell? ⟨gb246,3,none⟩=some (.int .i64 t245):=(blk_cell BK246.out 3).trans rfl;have hfz28_0:=blk_frozen BK246.out 0;have hfz28_1:=blk_frozen BK246.out 1;have hfz28_2:=blk_frozen BK246.out 2;have hfz28_3:=blk_frozen BK246.out 3;obtain ⟨Ao29,co29,eo29⟩:=Kd.N_slice HO258.out;subst eo29)|(go_at_call 11;(with_reducible refine (agg_Rows.calls k _ _ t240 1 t244 t245 _ _ y250 _ _ t256 t259 _ ?side1 ?side2 ?side3 ?side4 ?side5 ?side6 A8.out).mono ?_);(case side1=>repeat (first|exact (Kd.R_reads' HO242.out).2.2|(with_reducible refine Kd.C_alloc ?_ _)|(with_reducible refine Kd.C_drewN ?_ _)|(with_reducible refine Kd.C_drew ?_)));(case side2=>exact (Kd.R_reads' HO242.out).2.1);(case side3=>repeat (first|exact (Kd.R_reads' HO252.out).2.2|(with_reducible refine Kd.C_alloc ?_ _)|(with_reducible refine Kd.C_drewN ?_ _)|(with_reducible refine Kd.C_drew ?_)));(case side4=>exact (Kd.R_reads' HO252.out).2.1);(case side5=>repeat (first|exact (Kd.N_reads' HO258.out).2.2|(with_reducible refine Kd.C_alloc ?_ _)|(with_reducible refine Kd.C_drewN ?_ _)|(with_reducible refine Kd.C_drew ?_)));(case side6=>exact (Kd.N_reads' HO258.out).2.1);rintro e w30 ⟨v260,rfl,ho0,hb⟩;have n0_:=Aside0.mk (Kd.R_below (R_up HO242.out) hb);have n1_:=Aside0.mk (Kd.N_elder' (N_up HO249.out) (Kd.R_base ho0) hb);have n2_:=Aside0.mk (Kd.R_below (R_up HO252.out) hb);have n3_:=Aside0.mk (Kd.R_elder' (R_up HO255.out) (Kd.R_base ho0) hb);have n4_:=Aside0.mk (Kd.N_elder' (N_up HO258.out) (Kd.R_base ho0) hb);have n5_:=Aside0.mk (Kd.R_lower (Kd.R_new' ho0 (Kd.R_lt (R_up HO255.out))) (below_size (below_go HB.out)));have n6_:=Aside0.mk (blk_below (blk_up BK238.out) hb);have n7_:=Aside0.mk (blk_below (blk_up BK246.out) hb);have n8_:=Aside0.mk (below_step (below_go HB.out) hb);clear HO242;clear HO249;clear HO252;clear HO255;clear HO258;clear BK238;clear BK246;clear HB;have HO242:=n0_;have HO249:=n1_;have HO252:=n2_;have HO255:=n3_;have HO258:=n4_;have HO261:=n5_;have BK238:=n6_;have BK246:=n7_;have HB:=n8_;clear n0_ n1_ n2_ n3_ n4_ n5_ n6_ n7_ n8_;(try clear hb);(try clear hb2);(try clear hk);(try clear hi);(try clear ho0);obtain ⟨Ao31,co31,eo31⟩:=Kd.R_slice HO255.out;subst eo31;obtain ⟨Ao32,co32,eo32⟩:=Kd.R_slice HO261.out;subst eo32)|(go_at_call 13;(with_reducible refine (thresherref20_Same.calls k _ _ t253 _ _ t259 t262 _ ?side1 ?side2 ?side3 ?side4 A9.out).mono ?_);(case side1=>repeat (first|exact (Kd.R_reads' HO255.out).2.2|(with_reducible refine Kd.C_alloc ?_ _)|(with_reducible refine Kd.C_drewN ?_ _)|(with_reducible refine Kd.C_drew ?_)));(case side2=>exact (Kd.R_reads' HO255.out).2.1);(case side3=>repeat (first|exact (Kd.R_reads' HO261.out).2.2|(with_reducible refine Kd.C_alloc ?_ _)|(with_reducible refine Kd.C_drewN ?_ _)|(with_reducible refine Kd.C_drew ?_)));(case side4=>exact (Kd.R_reads' HO261.out).2.1);rintro e w' ⟨rfl,⟨nd,rfl⟩⟩;(try first|exact ⟨rfl,_,World.drewN_drewN _ _ _⟩|exact ⟨rfl,_,Eq.trans (World.drewN_drewN _ _ _) (congrArg (World.drewN _) (Nat.add_assoc _ _ _))⟩)));go_upto_region 10 with (go_big_may;first|(go_at_call 10;(with_reducible refine (thresherref04_Fits.calls k _ _ t240 1 t244 t245 _ _ l1 60 t247 _ ?side1 ?side2 ?side3 ?side4 A5.out).mono ?_);(case side1=>refine (Kd.R_reads' (e:=3) (base:=w.heap.size) (ok:=fun k_=>True) (n:=t240.length) (c:=co16) ?_).2.2;exact (R_up HO242.out));(case side2=>exact (Kd.R_reads' HO242.out).2.1);(case side3=>exact Kd.C_below HR1.out (below_go HB.out));(case side4=>exact HC1.out);rintro e w19 ⟨v248,rfl,ho0,hb⟩;have n0_:=Aside0.mk (Kd.R_below (R_up HO242.out) hb);have n1_:=Aside0.mk (Kd.N_lower (Kd.N_mono (ok':=fun k_=>some k_≠(.slice Ao16 t240.length co16 : Value).ownBlock∧k_≠gb238∧k_≠gb246) (Kd.S_N (Kd.S_bound ho0)) (fun k_ hk_=>⟨(Kd.fresh' (Kd.R_lt (R_up HO242.out)) k_ hk_.2.1),(Kd.freshB (blk_up BK238.out) k_ hk_.2.1),(Kd.freshB (blk_up BK246.out) k_ hk_.2.1)⟩)) (below_size (below_go HB.out)));have n2_:=Aside0.mk (blk_below (blk_up BK238.out) hb);have n3_:=Aside0.mk (blk_below (blk_up BK246.out) hb);have n4_:=Aside0.mk (below_step (below_go HB.out) hb);clear HO242;clear BK238;clear BK246;clear HB;have HO242:=n0_;have HO249:=n1_;have BK238:=n2_;have BK246:=n3_;have HB:=n4_;clear n0_ n1_ n2_ n3_ n4_;(try clear hb);(try clear hb2);(try clear hk);(try clear hi);(try clear ho0))|((with_reducible refine gate_dst (N:=24) rfl ?_);(try (refine gate_guard (by rfl) ?_;dsimp only));refine Kd.R_lit k33 _ 33 ?hg (N:=24) ?hd (xs:=([(⟨3,0⟩ : S33),(⟨4,0⟩ : S33),(⟨1,0⟩ : S33)] : List (S33))) (inner:=[.int .i64 3,.int .i64 0,.int .i64 4,.int .i64 0,.int .i64 1,.int .i64 0]) (ok:=fun _=>True) (okp:=fun _=>True) ?hr ?hp (fun _ hk=>hk) trivial (Below.refl _ _) (Nat.le_refl _) (by simp) ?_;(case hd=>rfl);(case hg=>rfl);(case hr=>first|(go_simp;done)|(go_simp;rfl));(case hp=>exact (Reps.c2 (show Kd.M k33 _ _ _ (⟨3,0⟩ : S33) [.int .i64 3,.int .i64 0] from (k33_mkM _ _ _ (⟨3,0⟩ : S33) )) (Reps.c2 (show Kd.M k33 _ _ _ (⟨4,0⟩ : S33) [.int .i64 4,.int .i64 0] from (k33_mkM _ _ _ (⟨4,0⟩ : S33) )) (Reps.c2 (show Kd.M k33 _ _ _ (⟨1,0⟩ : S33) [.int .i64 1,.int .i64 0] from (k33_mkM _ _ _ (⟨1,0⟩ : S33) )) (Reps.none _ _)))));intro v251 w20 ho21 hb hg_ hnew_;clear hg_ hnew_;(first|rw [← Ny250.out] at ho21|(simp only [Int.reduceToNat] at ho21;rw [← Ny250.out] at ho21));have n0_:=Aside0.mk (Kd.R_below (R_up HO242.out) hb);have n1_:=Aside0.mk (Kd.N_elder' (N_up HO249.out) (Kd.R_base ho21) hb);have n2_:=Aside0.mk (Kd.R_lower ho21 (below_size (below_go HB.out)));have n3_:=Aside0.mk (blk_below (blk_up BK238.out) hb);have n4_:=Aside0.mk (blk_below (blk_up BK246.out) hb);have n5_:=Aside0.mk (below_step (below_go HB.out) hb);clear HO242;clear HO249;clear BK238;clear BK246;clear HB;have HO242:=n0_;have HO249:=n1_;have HO252:=n2_;have BK238:=n3_;have BK246:=n4_;have HB:=n5_;clear n0_ n1_ n2_ n3_ n4_ n5_;clear hb ho21;have hcz22_0 : w20.cell? ⟨gb246,0,none⟩=some (.slice Ao16 t240.length co16):=(blk_cell BK246.out 0).trans rfl;have hcz22_1 : w20.cell? ⟨gb246,1,none⟩=some (.int .i64 1):=(blk_cell BK246.out 1).trans rfl;have hcz22_2 : w20.cell? ⟨gb246,2,none⟩=some (.int .i64 t244):=(blk_cell BK246.out 2).trans rfl;have hcz22_3 : w20.cell? ⟨gb246,3,none⟩=some (.int .i64 t245):=(blk_cell BK246.out 3).trans rfl;have hfz22_0:=blk_frozen BK246.out 0;have hfz22_1:=blk_frozen BK246.out 1;have hfz22_2:=blk_frozen BK246.out 2;have hfz22_3:=blk_frozen BK246.out 3;obtain ⟨Ao23,co23,eo23⟩:=Kd.R_slice HO252.out;subst eo23;obtain ⟨Ao24,co24,eo24⟩:=Kd.N_slice HO249.out;subst eo24)|(go_at_call 11;(with_reducible refine (agg_Rows.calls k _ _ t240 1 t244 t245 _ _ y250 _ _ t247 t253 _ ?side1 ?side2 ?side3 ?side4 ?side5 ?side6 A6.out).mono ?_);(case side1=>repeat (first|exact (Kd.R_reads' HO242.out).2.2|(with_reducible refine Kd.C_alloc ?_ _)|(with_reducible refine Kd.C_drewN ?_ _)|(with_reducible refine Kd.C_drew ?_)));(case side2=>exact (Kd.R_reads' HO242.out).2.1);(case side3=>repeat (first|exact (Kd.R_reads' HO252.out).2.2|(with_reducible refine Kd.C_alloc ?_ _)|(with_reducible refine Kd.C_drewN ?_ _)|(with_reducible refine Kd.C_drew ?_)));(case side4=>exact (Kd.R_reads' HO252.out).2.1);(case side5=>repeat (first|exact (Kd.N_reads' HO249.out).2.2|(with_reducible refine Kd.C_alloc ?_ _)|(with_reducible refine Kd.C_drewN ?_ _)|(with_reducible refine Kd.C_drew ?_)));(case side6=>exact (Kd.N_reads' HO249.out).2.1);rintro e w25 ⟨v254,rfl,ho0,hb⟩;have n0_:=Aside0.mk (Kd.R_below (R_up HO242.out) hb);have n1_:=Aside0.mk (Kd.N_elder' (N_up HO249.out) (Kd.R_base ho0) hb);have n2_:=Aside0.mk (Kd.R_below (R_up HO252.out) hb);have n3_:=Aside0.mk (Kd.R_lower ho0 (below_size (below_go HB.out)));have n4_:=Aside0.mk (blk_below (blk_up BK238.out) hb);have n5_:=Aside0.mk (blk_below (blk_up BK246.out) hb);have n6_:=Aside0.mk (below_step (below_go HB.out) hb);clear HO242;clear HO249;clear HO252;clear BK238;clear BK246;clear HB;have HO242:=n0_;have HO249:=n1_;have HO252:=n2_;have HO255:=n3_;have BK238:=n4_;have BK246:=n5_;have HB:=n6_;clear n0_ n1_ n2_ n3_ n4_ n5_ n6_;(try clear hb);(try clear hb2);(try clear hk);(try clear hi);(try clear ho0);have hcz26_0 : w25.cell? ⟨gb246,0,none⟩=some (.slice Ao16 t240.length co16):=(blk_cell BK246.out 0).trans rfl;have hcz26_1 : w25.cell? ⟨gb246,1,none⟩=some (.int .i64 1):=(blk_cell BK246.out 1).trans rfl;have hcz26_2 : w25.cell? ⟨gb246,2,none⟩=some (.int .i64 t244):=(blk_cell BK246.out 2).trans rfl;have hcz26_3 : w25.cell? ⟨gb246,3,none⟩=some (.int .i64 t245):=(blk_cell BK246.out 3).trans rfl;have hfz26_0:=blk_frozen BK246.out 0;have hfz26_1:=blk_frozen BK246.out 1;have hfz26_2:=blk_frozen BK246.out 2;have hfz26_3:=blk_frozen BK246.out 3)|(go_at_call 12;(with_reducible refine (thresherref09_Sort.calls k _ _ t240 1 t244 t245 (fun k_=>(((some k_≠(.slice Ao16 t240.length co16 : Value).ownBlock∧(k_≠gb238∧k_≠gb246))∧some k_≠(.slice Ao23 y250.length co23 : Value).ownBlock)∧some k_≠(v254 : Value).ownBlock)) _ _ t247 t256 _ ?side1 ?side2 ?side3 A7.out).mono ?_);(case side1=>repeat (first|exact (Kd.R_reads' HO242.out).2.2|(with_reducible refine Kd.C_alloc ?_ _)|(with_reducible refine Kd.C_drewN ?_ _)|(with_reducible refine Kd.C_drew ?_)));(case side2=>exact (Kd.R_reads' HO242.out).2.1);(case side3=>exact Kd.N_V (HO249.out));rintro e w27 ⟨v257,rfl,ho0,hb⟩;have n0_:=Aside0.mk (Kd.R_below (R_up HO242.out) hb);have n1_:=Aside0.mk (Kd.N_elder' (N_up HO249.out) (by first|exact Kd.N_base ho0|exact Kd.S_base ho0) hb);have n2_:=Aside0.mk (Kd.R_below (R_up HO252.out) hb);have n3_:=Aside0.mk (Kd.R_below (R_up HO255.out) hb);have n4_:=Aside0.mk (Kd.N_lower (Kd.N_mono (ok':=fun k_=>some k_≠(.slice Ao16 t240.length co16 : Value).ownBlock∧some k_≠(.slice Ao23 y250.length co23 : Value).ownBlock∧some k_≠(v254 : Value).ownBlock∧k_≠gb238∧k_≠gb246) ho0 (fun k_ hk_=>⟨Or.elim hk_ (fun hs_=>hs_.1.1.1) (fun hn_=>(Kd.fresh' (Kd.R_lt (R_up HO242.out)) k_ hn_)),Or.elim hk_ (fun hs_=>hs_.1.2) (fun hn_=>(Kd.fresh' (Kd.R_lt (R_up HO252.out)) k_ hn_)),Or.elim hk_ (fun hs_=>hs_.2) (fun hn_=>(Kd.fresh' (Kd.R_lt (R_up HO255.out)) k_ hn_)),Or.elim hk_ (fun hs_=>hs_.1.1.2.1) (fun hn_=>(Kd.freshB (blk_up BK238.out) k_ hn_)),Or.elim hk_ (fun hs_=>hs_.1.1.2.2) (fun hn_=>(Kd.freshB (blk_up BK246.out) k_ hn_))⟩)) (below_size (below_go HB.out)));have n5_:=Aside0.mk (blk_below (blk_up BK238.out) hb);have n6_:=Aside0.mk (blk_below (blk_up BK246.out) hb);have n7_:=Aside0.mk (below_step (below_go HB.out) hb);clear HO242;clear HO249;clear HO252;clear HO255;clear BK238;clear BK246;clear HB;have HO242:=n0_;have HO249:=n1_;have HO252:=n2_;have HO255:=n3_;have HO258:=n4_;have BK238:=n5_;have BK246:=n6_;have HB:=n7_;clear n0_ n1_ n2_ n3_ n4_ n5_ n6_ n7_;(try clear hb);(try clear hb2);(try clear hk);(try clear hi);(try clear ho0);have hcz28_0 : w27.cell? ⟨gb246,0,none⟩=some (.slice Ao16 t240.length co16):=(blk_cell BK246.out 0).trans rfl;have hcz28_1 : w27.cell? ⟨gb246,1,none⟩=some (.int .i64 1):=(blk_cell BK246.out 1).trans rfl;have hcz28_2 : w27.cell? ⟨gb246,2,none⟩=some (.int .i64 t244):=(blk_cell BK246.out 2).trans rfl;have hcz28_3 : w27.cell? ⟨gb246,3,none⟩=some (.int .i64 t245):=(blk_cell BK246.out 3).trans rfl;have hfz28_0:=blk_frozen BK246.out 0;have hfz28_1:=blk_frozen BK246.out 1;have hfz28_2:=blk_frozen BK246.out 2;have hfz28_3:=blk_frozen BK246.out 3;obtain ⟨Ao29,co29,eo29⟩:=Kd.N_slice HO258.out;subst eo29)|(go_at_call 11;(with_reducible refine (agg_Rows.calls k _ _ t240 1 t244 t245 _ _ y250 _ _ t256 t259 _ ?side1 ?side2 ?side3 ?side4 ?side5 ?side6 A8.out).mono ?_);(case side1=>repeat (first|exact (Kd.R_reads' HO242.out).2.2|(with_reducible refine Kd.C_alloc ?_ _)|(with_reducible refine Kd.C_drewN ?_ _)|(with_reducible refine Kd.C_drew ?_)));(case side2=>exact (Kd.R_reads' HO242.out).2.1);(case side3=>repeat (first|exact (Kd.R_reads' HO252.out).2.2|(with_reducible refine Kd.C_alloc ?_ _)|(with_reducible refine Kd.C_drewN ?_ _)|(with_reducible refine Kd.C_drew ?_)));(case side4=>exact (Kd.R_reads' HO252.out).2.1);(case side5=>repeat (first|exact (Kd.N_reads' HO258.out).2.2|(with_reducible refine Kd.C_alloc ?_ _)|(with_reducible refine Kd.C_drewN ?_ _)|(with_reducible refine Kd.C_drew ?_)));(case side6=>exact (Kd.N_reads' HO258.out).2.1);rintro e w30 ⟨v260,rfl,ho0,hb⟩;have n0_:=Aside0.mk (Kd.R_below (R_up HO242.out) hb);have n1_:=Aside0.mk (Kd.N_elder' (N_up HO249.out) (Kd.R_base ho0) hb);have n2_:=Aside0.mk (Kd.R_below (R_up HO252.out) hb);have n3_:=Aside0.mk (Kd.R_elder' (R_up HO255.out) (Kd.R_base ho0) hb);have n4_:=Aside0.mk (Kd.N_elder' (N_up HO258.out) (Kd.R_base ho0) hb);have n5_:=Aside0.mk (Kd.R_lower (Kd.R_new' ho0 (Kd.R_lt (R_up HO255.out))) (below_size (below_go HB.out)));have n6_:=Aside0.mk (blk_below (blk_up BK238.out) hb);have n7_:=Aside0.mk (blk_below (blk_up BK246.out) hb);have n8_:=Aside0.mk (below_step (below_go HB.out) hb);clear HO242;clear HO249;clear HO252;clear HO255;clear HO258;clear BK238;clear BK246;clear HB;have HO242:=n0_;have HO249:=n1_;have HO252:=n2_;have HO255:=n3_;have HO258:=n4_;have HO261:=n5_;have BK238:=n6_;have BK246:=n7_;have HB:=n8_;clear n0_ n1_ n2_ n3_ n4_ n5_ n6_ n7_ n8_;(try clear hb);(try clear hb2);(try clear hk);(try clear hi);(try clear ho0);obtain ⟨Ao31,co31,eo31⟩:=Kd.R_slice HO255.out;subst eo31;obtain ⟨Ao32,co32,eo32⟩:=Kd.R_slice HO261.out;subst eo32)|(go_at_call 13;(with_reducible refine (thresherref20_Same.calls k _ _ t253 _ _ t259 t262 _ ?side1 ?side2 ?side3 ?side4 A9.out).mono ?_);(case side1=>repeat (first|exact (Kd.R_reads' HO255.out).2.2|(with_reducible refine Kd.C_alloc ?_ _)|(with_reducible refine Kd.C_drewN ?_ _)|(with_reducible refine Kd.C_drew ?_)));(case side2=>exact (Kd.R_reads' HO255.out).2.1);(case side3=>repeat (first|exact (Kd.R_reads' HO261.out).2.2|(with_reducible refine Kd.C_alloc ?_ _)|(with_reducible refine Kd.C_drewN ?_ _)|(with_reducible refine Kd.C_drew ?_)));(case side4=>exact (Kd.R_reads' HO261.out).2.1);rintro e w' ⟨rfl,⟨nd,rfl⟩⟩;(try first|exact ⟨rfl,_,World.drewN_drewN _ _ _⟩|exact ⟨rfl,_,Eq.trans (World.drewN_drewN _ _ _) (congrArg (World.drewN _) (Nat.add_assoc _ _ _))⟩))))
 (try simp only [Act.put,List.setIfInBounds_toArray,List.set_cons_zero,List.set_cons_succ])
 go_cut [62] (fun v62 wc=>∃ (kq : Nat) (x62_9 : Bool),v62=.bool x62_9∧Aside0 (thresherlaw20_AggEnds.j0 kq t239 t247 t253 t256 x62_9=some r)∧Aside0 (kq≤k)∧Aside0 (Kd.N (Kd.slice 40 k40) 44 wc w.heap.size (fun k_=>some k_≠((.slice Ao31 t253.length co31) : Value).ownBlock∧some k_≠((.slice Ao29 t256.length co29) : Value).ownBlock∧some k_≠((.slice Ao16 t240.length co16) : Value).ownBlock∧k_≠gb238∧k_≠gb246) (.slice Ao24 t247.length co24) t247)∧Aside0 (Kd.R k42 42 wc w.heap.size (fun _=>True) (.slice Ao31 t253.length co31) t253)∧Aside0 (Kd.N (Kd.slice 40 k40) 44 wc w.heap.size (fun k_=>some k_≠((.slice Ao31 t253.length co31) : Value).ownBlock∧some k_≠((.slice Ao16 t240.length co16) : Value).ownBlock∧k_≠gb238∧k_≠gb246) (.slice Ao29 t256.length co29) t256)∧Aside0 (Kd.R (Kd.int .i64) 3 wc w.heap.size (fun _=>True) (.slice Ao16 t240.length co16) t240)∧Aside0 (wc.heap[gb238]?=some (.cells #[.int .u8 a0_0,.int .u8 a0_1,.int .u8 a0_2,.int .u8 a0_3,.int .u8 a0_4,.int .u8 a0_5,.int .u8 a0_6,.int .u8 a0_7,.int .u8 a0_8,.int .u8 a0_9,.int .u8 a0_10,.int .u8 a0_11] 24 (0,0)))∧Aside0 (wc.heap[gb246]?=some (.cells #[(.slice Ao16 t240.length co16),.int .i64 1,.int .i64 t244,.int .i64 t245] 29 (0,0)))∧Aside0 (Below w.heap.size w wc))
 case first =>
  have H:=HC10.out
  clear HC10
  by_cases c33 : t262=true
  ·subst c33
   have H1 : (if (t253.length : Int)=3 then (if 2 < (t253.length : Int) then (if ((rd_T42 t253 2).f1.f0)=(t247.length : Int) then (thresherlaw20_AggEnds.j0 k t239 t247 t253 t256 (!((rd_T42 t253 2).f0))) else (thresherlaw20_AggEnds.j0 k t239 t247 t253 t256 true)) else (none)) else (thresherlaw20_AggEnds.j0 k t239 t247 t253 t256 true))=some r:=by rw [if_pos rfl] at H;exact H
   clear H
   have H:=H1
   clear H1
   by_cases c34 : (t253.length : Int)=3
   ·rw [if_pos c34] at H
    have c34b0 : ((t253.length : Int) == 3)=true:=beq_iff_eq.mpr c34
    have c34b1 : ((t253.length : Int) != 3)=false:=bne_eq_false_iff_eq.mpr c34
    clear c34
    (first|rw [c34b0]|(simp only [i64_w,i32_w];rw [c34b0])|skip)
    by_cases c35 : 2 < (t253.length : Int)
    ·rw [if_pos c35] at H
     have c35b0 : decide (2 < (t253.length : Int))=true:=decide_eq_true c35
     have c35b1 : decide (2 < t253.length)=true:=decide_eq_true (by omega)
     clear c35
     by_cases c36 : ((rd_T42 t253 2).f1.f0)=(t247.length : Int)
     ·rw [if_pos c36] at H
      have c36b0 : (((rd_T42 t253 2).f1.f0) == (t247.length : Int))=true:=beq_iff_eq.mpr c36
      have c36b1 : (((rd_T42 t253 2).f1.f0) != (t247.length : Int))=false:=bne_eq_false_iff_eq.mpr c36
      clear c36
      have H':=Aside0.mk H
      clear H
      have p263 : 0≤(2 : Int):=(by omega)
      have q263 : 2 < (t253.length : Int):=of_decide_eq_true (by first|(with_reducible assumption)|assumption)
      obtain ⟨ad263,e263,hx263_0,hx263_1,hx263_2⟩:=at_T42 (Kd.R_reads' HO255.out).2.2 2 p263 q263
      cases e263
      (try simp only [show (2 : Int).toNat=2 from rfl,Nat.reduceMul,Nat.reduceEqDiff,Go.Addr.add,↓reduceIte] at hx263_0)
      (try simp only [show (2 : Int).toNat=2 from rfl,Nat.reduceMul,Nat.reduceEqDiff,Go.Addr.add,↓reduceIte] at hx263_1)
      (try simp only [show (2 : Int).toNat=2 from rfl,Nat.reduceMul,Nat.reduceEqDiff,Go.Addr.add,↓reduceIte] at hx263_2)
      have qi263 : (2 < t253.length)=True:=eq_true (by omega)
      (try rw [show ((2 : Int)).toNat=2 from rfl] at hx263_0)
      (try rw [show 2 * 3=6 from rfl] at hx263_0)
      (try rw [show ((2 : Int)).toNat=2 from rfl] at hx263_1)
      (try rw [show 2 * 3=6 from rfl] at hx263_1)
      (try rw [show ((2 : Int)).toNat=2 from rfl] at hx263_2)
      (try rw [show 2 * 3=6 from rfl] at hx263_2)
      replace p263:=eq_true p263
      replace q263:=eq_true q263
      have p264 : 0≤(2 : Int):=(by omega)
      have q264 : 2 < (t253.length : Int):=of_decide_eq_true (by first|(with_reducible assumption)|assumption)
      obtain ⟨ad264,e264,hx264_0,hx264_1,hx264_2⟩:=at_T42 (Kd.R_reads' HO255.out).2.2 2 p264 q264
      obtain rfl : ad263=ad264:=(by injection e264)
      (try simp only [show (2 : Int).toNat=2 from rfl,Nat.reduceMul,Nat.reduceEqDiff,Go.Addr.add,↓reduceIte] at hx264_0)
      (try simp only [show (2 : Int).toNat=2 from rfl,Nat.reduceMul,Nat.reduceEqDiff,Go.Addr.add,↓reduceIte] at hx264_1)
      (try simp only [show (2 : Int).toNat=2 from rfl,Nat.reduceMul,Nat.reduceEqDiff,Go.Addr.add,↓reduceIte] at hx264_2)
      have qi264 : (2 < t253.length)=True:=eq_true (by omega)
      (try rw [show ((2 : Int)).toNat=2 from rfl] at hx264_0)
      (try rw [show 2 * 3=6 from rfl] at hx264_0)
      (try rw [show ((2 : Int)).toNat=2 from rfl] at hx264_1)
      (try rw [show 2 * 3=6 from rfl] at hx264_1)
      (try rw [show ((2 : Int)).toNat=2 from rfl] at hx264_2)
      (try rw [show 2 * 3=6 from rfl] at hx264_2)
      replace p264:=eq_true p264
      replace q264:=eq_true q264
      go_wp2
      repeat (go_quiet (fail);try go_wp2)
      go_meet
      case rel=>exact ⟨_,(!((rd_T42 t253 2).f0)),(by first|rfl|(simp;done)|(simp [*];done)),(by first|exact H'|(subst_vars;exact H')),⟨by first|omega|exact Nat.le_refl _⟩,⟨by (with_reducible repeat (first|apply Kd.N_alloc|apply Kd.N_drewN|apply Kd.N_drew));exact Kd.N_mono HO249.out (fun _ hk=>⟨hk.1.1.2,⟨hk.1.2,⟨hk.1.1.1.1.1,⟨hk.1.1.1.1.2.1,hk.1.1.1.1.2.2⟩⟩⟩⟩)⟩,⟨by (with_reducible repeat (first|apply Kd.R_alloc|apply Kd.R_drewN|apply Kd.R_drew));exact Kd.R_mono HO255.out (fun _ hk=>trivial)⟩,⟨by (with_reducible repeat (first|apply Kd.N_alloc|apply Kd.N_drewN|apply Kd.N_drew));exact Kd.N_mono HO258.out (fun _ hk=>⟨hk.1.2.2.1,⟨hk.1.1,⟨hk.1.2.2.2.1,hk.1.2.2.2.2⟩⟩⟩)⟩,⟨by (with_reducible repeat (first|apply Kd.R_alloc|apply Kd.R_drewN|apply Kd.R_drew));exact HO242.out⟩,⟨by (with_reducible repeat (first|refine blk_drewN ?_ _|refine blk_drew ?_|refine blk_alloc ?_ _));exact BK238.out⟩,⟨by (with_reducible repeat (first|refine blk_drewN ?_ _|refine blk_drew ?_|refine blk_alloc ?_ _));exact BK246.out⟩,⟨by repeat (first|(with_reducible first|exact HB.out|apply below_alloc|apply pw_below_drewN|apply below_drew1|refine below_set ?_ GE238.out|refine below_set ?_ GE246.out)|exact HB.out)⟩⟩
     ·rw [if_neg c36] at H
      have c36b0 : (((rd_T42 t253 2).f1.f0) == (t247.length : Int))=false:=beq_eq_false_iff_ne.mpr c36
      have c36b1 : (((rd_T42 t253 2).f1.f0) != (t247.length : Int))=true:=bne_iff_ne.mpr c36
      have H':=Aside0.mk H
      clear H
      have p263 : 0≤(2 : Int):=(by omega)
      have q263 : 2 < (t253.length : Int):=of_decide_eq_true (by first|(with_reducible assumption)|assumption)
      obtain ⟨ad263,e263,hx263_0,hx263_1,hx263_2⟩:=at_T42 (Kd.R_reads' HO255.out).2.2 2 p263 q263
      cases e263
      (try simp only [show (2 : Int).toNat=2 from rfl,Nat.reduceMul,Nat.reduceEqDiff,Go.Addr.add,↓reduceIte] at hx263_0)
      (try simp only [show (2 : Int).toNat=2 from rfl,Nat.reduceMul,Nat.reduceEqDiff,Go.Addr.add,↓reduceIte] at hx263_1)
      (try simp only [show (2 : Int).toNat=2 from rfl,Nat.reduceMul,Nat.reduceEqDiff,Go.Addr.add,↓reduceIte] at hx263_2)
      have qi263 : (2 < t253.length)=True:=eq_true (by omega)
      (try rw [show ((2 : Int)).toNat=2 from rfl] at hx263_0)
      (try rw [show 2 * 3=6 from rfl] at hx263_0)
      (try rw [show ((2 : Int)).toNat=2 from rfl] at hx263_1)
      (try rw [show 2 * 3=6 from rfl] at hx263_1)
      (try rw [show ((2 : Int)).toNat=2 from rfl] at hx263_2)
      (try rw [show 2 * 3=6 from rfl] at hx263_2)
      replace p263:=eq_true p263
      replace q263:=eq_true q263
      go_wp2
      repeat (go_quiet (fail);try go_wp2)
      go_meet
      case rel=>exact ⟨_,(true),(by first|rfl|(simp;done)|(simp [*];done)),(by first|exact H'|(subst_vars;exact H')),⟨by first|omega|exact Nat.le_refl _⟩,⟨by (with_reducible repeat (first|apply Kd.N_alloc|apply Kd.N_drewN|apply Kd.N_drew));exact Kd.N_mono HO249.out (fun _ hk=>⟨hk.1.1.2,⟨hk.1.2,⟨hk.1.1.1.1.1,⟨hk.1.1.1.1.2.1,hk.1.1.1.1.2.2⟩⟩⟩⟩)⟩,⟨by (with_reducible repeat (first|apply Kd.R_alloc|apply Kd.R_drewN|apply Kd.R_drew));exact Kd.R_mono HO255.out (fun _ hk=>trivial)⟩,⟨by (with_reducible repeat (first|apply Kd.N_alloc|apply Kd.N_drewN|apply Kd.N_drew));exact Kd.N_mono HO258.out (fun _ hk=>⟨hk.1.2.2.1,⟨hk.1.1,⟨hk.1.2.2.2.1,hk.1.2.2.2.2⟩⟩⟩)⟩,⟨by (with_reducible repeat (first|apply Kd.R_alloc|apply Kd.R_drewN|apply Kd.R_drew));exact HO242.out⟩,⟨by (with_reducible repeat (first|refine blk_drewN ?_ _|refine blk_drew ?_|refine blk_alloc ?_ _));exact BK238.out⟩,⟨by (with_reducible repeat (first|refine blk_drewN ?_ _|refine blk_drew ?_|refine blk_alloc ?_ _));exact BK246.out⟩,⟨by repeat (first|(with_reducible first|exact HB.out|apply below_alloc|apply pw_below_drewN|apply below_drew1|refine below_set ?_ GE238.out|refine below_set ?_ GE246.out)|exact HB.out)⟩⟩
    ·rw [if_neg c35] at H
     exact absurd H (by simp)
   ·rw [if_neg c34] at H
    have c34b0 : ((t253.length : Int) == 3)=false:=beq_eq_false_iff_ne.mpr c34
    have c34b1 : ((t253.length : Int) != 3)=true:=bne_iff_ne.mpr c34
    (first|rw [c34b0]|(simp only [i64_w,i32_w];rw [c34b0])|skip)
    have H':=Aside0.mk H
    clear H
    go_wp2
    repeat (go_quiet (fail);try go_wp2)
    go_meet
    case rel=>exact ⟨_,(true),(by first|rfl|(simp;done)|(simp [*];done)),(by first|exact H'|(subst_vars;exact H')),⟨by first|omega|exact Nat.le_refl _⟩,⟨by (with_reducible repeat (first|apply Kd.N_alloc|apply Kd.N_drewN|apply Kd.N_drew));exact Kd.N_mono HO249.out (fun _ hk=>⟨hk.1.1.2,⟨hk.1.2,⟨hk.1.1.1.1.1,⟨hk.1.1.1.1.2.1,hk.1.1.1.1.2.2⟩⟩⟩⟩)⟩,⟨by (with_reducible repeat (first|apply Kd.R_alloc|apply Kd.R_drewN|apply Kd.R_drew));exact Kd.R_mono HO255.out (fun _ hk=>trivial)⟩,⟨by (with_reducible repeat (first|apply Kd.N_alloc|apply Kd.N_drewN|apply Kd.N_drew));exact Kd.N_mono HO258.out (fun _ hk=>⟨hk.1.2.2.1,⟨hk.1.1,⟨hk.1.2.2.2.1,hk.1.2.2.2.2⟩⟩⟩)⟩,⟨by (with_reducible repeat (first|apply Kd.R_alloc|apply Kd.R_drewN|apply Kd.R_drew));exact HO242.out⟩,⟨by (with_reducible repeat (first|refine blk_drewN ?_ _|refine blk_drew ?_|refine blk_alloc ?_ _));exact BK238.out⟩,⟨by (with_reducible repeat (first|refine blk_drewN ?_ _|refine blk_drew ?_|refine blk_alloc ?_ _));exact BK246.out⟩,⟨by repeat (first|(with_reducible first|exact HB.out|apply below_alloc|apply pw_below_drewN|apply below_drew1|refine below_set ?_ GE238.out|refine below_set ?_ GE246.out)|exact HB.out)⟩⟩
  ·replace c33:=Bool.eq_false_iff.mpr c33
   subst c33
   have H1 : (thresherlaw20_AggEnds.j0 k t239 t247 t253 t256 true)=some r:=by rw [if_neg (show ¬ (false=true) by decide)] at H;exact H
   clear H
   have H:=H1
   clear H1
   have H':=Aside0.mk H
   clear H
   go_wp2
   repeat (go_quiet (fail);try go_wp2)
   go_meet
   case rel=>exact ⟨_,(true),(by first|rfl|(simp;done)|(simp [*];done)),(by first|exact H'|(subst_vars;exact H')),⟨by first|omega|exact Nat.le_refl _⟩,⟨by (with_reducible repeat (first|apply Kd.N_alloc|apply Kd.N_drewN|apply Kd.N_drew));exact Kd.N_mono HO249.out (fun _ hk=>⟨hk.1.1.2,⟨hk.1.2,⟨hk.1.1.1.1.1,⟨hk.1.1.1.1.2.1,hk.1.1.1.1.2.2⟩⟩⟩⟩)⟩,⟨by (with_reducible repeat (first|apply Kd.R_alloc|apply Kd.R_drewN|apply Kd.R_drew));exact Kd.R_mono HO255.out (fun _ hk=>trivial)⟩,⟨by (with_reducible repeat (first|apply Kd.N_alloc|apply Kd.N_drewN|apply Kd.N_drew));exact Kd.N_mono HO258.out (fun _ hk=>⟨hk.1.2.2.1,⟨hk.1.1,⟨hk.1.2.2.2.1,hk.1.2.2.2.2⟩⟩⟩)⟩,⟨by (with_reducible repeat (first|apply Kd.R_alloc|apply Kd.R_drewN|apply Kd.R_drew));exact HO242.out⟩,⟨by (with_reducible repeat (first|refine blk_drewN ?_ _|refine blk_drew ?_|refine blk_alloc ?_ _));exact BK238.out⟩,⟨by (with_reducible repeat (first|refine blk_drewN ?_ _|refine blk_drew ?_|refine blk_alloc ?_ _));exact BK246.out⟩,⟨by repeat (first|(with_reducible first|exact HB.out|apply below_alloc|apply pw_below_drewN|apply below_drew1|refine below_set ?_ GE238.out|refine below_set ?_ GE246.out)|exact HB.out)⟩⟩
 case rest =>
  clear HC10
  try clear c1
  try clear c2
  try clear p2
  try clear q2
  try clear hx2
  try clear qi2
  try clear c3
  try clear c17
  try clear p26
  try clear q26
  try clear hx26
  try clear qi26
  try clear c33
  try clear c34
  try clear c34b0
  try clear c34b1
  try clear c35
  try clear c35b0
  try clear c35b1
  try clear c36
  try clear c36b0
  try clear c36b1
  try clear hcz13_0
  try clear hcz13_1
  try clear hcz13_10
  try clear hcz13_11
  try clear hcz13_2
  try clear hcz13_3
  try clear hcz13_4
  try clear hcz13_5
  try clear hcz13_6
  try clear hcz13_7
  try clear hcz13_8
  try clear hcz13_9
  try clear hcz18_0
  try clear hcz18_1
  try clear hcz18_2
  try clear hcz18_3
  try clear hcz22_0
  try clear hcz22_1
  try clear hcz22_2
  try clear hcz22_3
  try clear hcz26_0
  try clear hcz26_1
  try clear hcz26_2
  try clear hcz26_3
  try clear hcz28_0
  try clear hcz28_1
  try clear hcz28_2
  try clear hcz28_3
  try clear hfz13_0
  try clear hfz13_1
  try clear hfz13_10
  try clear hfz13_11
  try clear hfz13_2
  try clear hfz13_3
  try clear hfz13_4
  try clear hfz13_5
  try clear hfz13_6
  try clear hfz13_7
  try clear hfz13_8
  try clear hfz13_9
  try clear hfz18_0
  try clear hfz18_1
  try clear hfz18_2
  try clear hfz18_3
  try clear hfz22_0
  try clear hfz22_1
  try clear hfz22_2
  try clear hfz22_3
  try clear hfz26_0
  try clear hfz26_1
  try clear hfz26_2
  try clear hfz26_3
  try clear hfz28_0
  try clear hfz28_1
  try clear hfz28_2
  try clear hfz28_3
  try clear hx263_0
  try clear hx263_1
  try clear hx263_2
  try clear hx264_0
  try clear hx264_1
  try clear hx264_2
  try clear p263
  try clear p264
  try clear q263
  try clear q264
  obtain ⟨kq,x62_9,rfl,HA,HJ9,HO_7,HO_9,HO_10,HO_247000,BK238,BK246,HB⟩:=hcut
  cases kq with
  | zero=>exact absurd HA.out (by simp [thresherlaw20_AggEnds.j0])
  | succ kj9 =>
   have H:=HA.out
   clear HA
   simp only [thresherlaw20_AggEnds.j0] at H
   by_cases c37 : x62_9=true
   ·subst c37
    have H1 : (some false)=some r:=by rw [if_pos rfl] at H;exact H
    clear H
    have H:=H1
    clear H1
    obtain rfl:=Option.some.inj H
    go_wp2
    repeat (go_quiet (fail);try go_wp2)
    go_ret
    exact ⟨by first|rfl|(simp [errW_none,errW_some] <;> rfl)|(simp [*,errW_none,errW_some] <;> rfl),by repeat (first|(with_reducible first|exact HB.out|apply below_alloc|apply pw_below_drewN|apply below_drew1|refine below_set ?_ GE238.out|refine below_set ?_ GE246.out)|exact HB.out)⟩
   ·replace c37:=Bool.eq_false_iff.mpr c37
    subst c37
    have H1 : (if (t247.length : Int)=0 then (if t239=true then (if 0 < (t253.length : Int) then (if (!((rd_T42 t253 0).f0) && ((((rd_T42 t253 0).f1.f0) == 0 && ((((rd_T42 t253 0).f1.f1).toList) == ([] : List UInt8)))))=true then (if 1 < (t253.length : Int) then (thresherlaw20_AggEnds.j1 kj9 (!((rd_T42 t253 1).f0) && ((((rd_T42 t253 1).f1.f0) == 0 && ((((rd_T42 t253 1).f1.f1).toList) == ([] : List UInt8)))))) else (none)) else (thresherlaw20_AggEnds.j1 kj9 false)) else (none)) else (thresherlaw20_AggEnds.j1 kj9 false)) else (if t239=true then (if 0 < (t253.length : Int) then (if (rd_T42 t253 0).f0=true then (if 1 < (t253.length : Int) then (if (rd_T42 t253 1).f0=true then (if 0 < (t256.length : Int) then (if 0 < ((rd_L7 t256 0).length : Int) then (if (((rd_T42 t253 0).f1.f0) == ((rd_T40 (rd_L7 t256 0) 0).f0) && ((((rd_T42 t253 0).f1.f1).toList) == (((rd_T40 (rd_L7 t256 0) 0).f1).toList)))=true then (if 0≤(wrap64 ((t256.length : Int) - 1)) then (if (wrap64 ((t256.length : Int) - 1)) < (t256.length : Int) then (if 0 < ((rd_L7 t256 (wrap64 ((t256.length : Int) - 1))).length : Int) then (thresherlaw20_AggEnds.j2 kj9 (((rd_T42 t253 1).f1.f0) == ((rd_T40 (rd_L7 t256 (wrap64 ((t256.length : Int) - 1))) 0).f0) && ((((rd_T42 t253 1).f1.f1).toList) == (((rd_T40 (rd_L7 t256 (wrap64 ((t256.length : Int) - 1))) 0).f1).toList)))) else (none)) else (none)) else (none)) else (thresherlaw20_AggEnds.j2 kj9 false)) else (none)) else (none)) else (thresherlaw20_AggEnds.j2 kj9 false)) else (none)) else (thresherlaw20_AggEnds.j2 kj9 false)) else (none)) else (thresherlaw20_AggEnds.j2 kj9 false)))=some r:=by rw [if_neg (show ¬ (false=true) by decide)] at H;exact H
    clear H
    have H:=H1
    clear H1
    by_cases c38 : (t247.length : Int)=0
    ·rw [if_pos c38] at H
     have c38b0 : ((t247.length : Int) == 0)=true:=beq_iff_eq.mpr c38
     have c38b1 : ((t247.length : Int) != 0)=false:=bne_eq_false_iff_eq.mpr c38
     clear c38
     have HC39:=Aside0.mk H
     clear H
     go_upto_region 14 with (first|((with_reducible refine gate_dst (N:=13) rfl ?_);(try (refine gate_guard (by rfl) ?_;dsimp only));refine box_event ?hg (N:=13) ?hd (cs:=#[.bool false,.int .i64 0,.string (⟨#[]⟩ : ByteArray)]) (t:=42) ?hr ?_;(case hd=>rfl);(case hg=>rfl);(case hr=>first|(go_simp;done)|(go_simp;rfl));intro gb265 hg w40 hbox hb;have NX265:=Aside0.mk (Kd.fresh' (Kd.R_lt (R_up HO_9.out)) gb265 (Nat.le_of_eq hg.symm));have n0_:=Aside0.mk (Kd.N_below (Kd.N_elderB (N_up HO_7.out) gb265 (Nat.le_of_eq hg.symm)) hb);have n1_:=Aside0.mk (Kd.R_below (Kd.R_elderB (R_up HO_9.out) gb265 (Nat.le_of_eq hg.symm)) hb);have n2_:=Aside0.mk (Kd.N_below (Kd.N_elderB (N_up HO_10.out) gb265 (Nat.le_of_eq hg.symm)) hb);have n3_:=Aside0.mk (Kd.R_below (R_up HO_247000.out) hb);have n4_:=Aside0.mk (blk_below (blk_up BK238.out) hb);have n5_:=Aside0.mk (blk_below (blk_up BK246.out) hb);have n6_:=Aside0.mk (below_step (below_go HB.out) hb);have n7_:=Aside0.mk (hbox);have n8_:=Aside0.mk ((by rw [hg];exact (below_size (below_go HB.out)) : w.heap.size≤gb265));have n9_:=Aside0.mk ((by rw [hg];exact (below_size (below_go HB.out)) : w.heap.size≤gb265));have n10_:=Aside0.mk ((by rw [hg];exact Nat.ne_of_lt (blk_lt (blk_up BK238.out)) : gb238≠gb265));have n11_:=Aside0.mk ((by rw [hg];exact Nat.ne_of_gt (blk_lt (blk_up BK238.out)) : gb265≠gb238));have n12_:=Aside0.mk ((by rw [hg];exact Nat.ne_of_lt (blk_lt (blk_up BK246.out)) : gb246≠gb265));have n13_:=Aside0.mk ((by rw [hg];exact Nat.ne_of_gt (blk_lt (blk_up BK246.out)) : gb265≠gb246));clear HO_7;clear HO_9;clear HO_10;clear HO_247000;clear BK238;clear BK246;clear HB;have HO_7:=n0_;have HO_9:=n1_;have HO_10:=n2_;have HO_247000:=n3_;have BK238:=n4_;have BK246:=n5_;have HB:=n6_;have BK265:=n7_;have GW265:=n8_;have GE265:=n9_;have NB238_265:=n10_;have NB265_238:=n11_;have NB246_265:=n12_;have NB265_246:=n13_;clear n0_ n1_ n2_ n3_ n4_ n5_ n6_ n7_ n8_ n9_ n10_ n11_ n12_ n13_;clear hb hbox hg;have hnb41:=NB265_238.out;have hnc41:=NB238_265.out;have hnb42:=NB265_246.out;have hnc42:=NB246_265.out;have hcz43_0 : w40.cell? ⟨gb265,0,none⟩=some (.bool false):=(blk_cell BK265.out 0).trans rfl;have hcz43_1 : w40.cell? ⟨gb265,1,none⟩=some (.int .i64 0):=(blk_cell BK265.out 1).trans rfl;have hcz43_2 : w40.cell? ⟨gb265,2,none⟩=some (.string (⟨#[]⟩ : ByteArray)):=(blk_cell BK265.out 2).trans rfl;have hfz43_0:=blk_frozen BK265.out 0;have hfz43_1:=blk_frozen BK265.out 1;have hfz43_2:=blk_frozen BK265.out 2))
     repeat (go_quiet (first|((with_reducible refine gate_dst (N:=13) rfl ?_);(try (refine gate_guard (by rfl) ?_;dsimp only));refine box_event ?hg (N:=13) ?hd (cs:=#[.bool false,.int .i64 0,.string (⟨#[]⟩ : ByteArray)]) (t:=42) ?hr ?_;(case hd=>rfl);(case hg=>rfl);(case hr=>first|(go_simp;done)|(go_simp;rfl));intro gb265 hg w40 hbox hb;have NX265:=Aside0.mk (Kd.fresh' (Kd.R_lt (R_up HO_9.out)) gb265 (Nat.le_of_eq hg.symm));have n0_:=Aside0.mk (Kd.N_below (Kd.N_elderB (N_up HO_7.out) gb265 (Nat.le_of_eq hg.symm)) hb);have n1_:=Aside0.mk (Kd.R_below (Kd.R_elderB (R_up HO_9.out) gb265 (Nat.le_of_eq hg.symm)) hb);have n2_:=Aside0.mk (Kd.N_below (Kd.N_elderB (N_up HO_10.out) gb265 (Nat.le_of_eq hg.symm)) hb);have n3_:=Aside0.mk (Kd.R_below (R_up HO_247000.out) hb);have n4_:=Aside0.mk (blk_below (blk_up BK238.out) hb);have n5_:=Aside0.mk (blk_below (blk_up BK246.out) hb);have n6_:=Aside0.mk (below_step (below_go HB.out) hb);have n7_:=Aside0.mk (hbox);have n8_:=Aside0.mk ((by rw [hg];exact (below_size (below_go HB.out)) : w.heap.size≤gb265));have n9_:=Aside0.mk ((by rw [hg];exact (below_size (below_go HB.out)) : w.heap.size≤gb265));have n10_:=Aside0.mk ((by rw [hg];exact Nat.ne_of_lt (blk_lt (blk_up BK238.out)) : gb238≠gb265));have n11_:=Aside0.mk ((by rw [hg];exact Nat.ne_of_gt (blk_lt (blk_up BK238.out)) : gb265≠gb238));have n12_:=Aside0.mk ((by rw [hg];exact Nat.ne_of_lt (blk_lt (blk_up BK246.out)) : gb246≠gb265));have n13_:=Aside0.mk ((by rw [hg];exact Nat.ne_of_gt (blk_lt (blk_up BK246.out)) : gb265≠gb246));clear HO_7;clear HO_9;clear HO_10;clear HO_247000;clear BK238;clear BK246;clear HB;have HO_7:=n0_;have HO_9:=n1_;have HO_10:=n2_;have HO_247000:=n3_;have BK238:=n4_;have BK246:=n5_;have HB:=n6_;have BK265:=n7_;have GW265:=n8_;have GE265:=n9_;have NB238_265:=n10_;have NB265_238:=n11_;have NB246_265:=n12_;have NB265_246:=n13_;clear n0_ n1_ n2_ n3_ n4_ n5_ n6_ n7_ n8_ n9_ n10_ n11_ n12_ n13_;clear hb hbox hg;have hnb41:=NB265_238.out;have hnc41:=NB238_265.out;have hnb42:=NB265_246.out;have hnc42:=NB246_265.out;have hcz43_0 : w40.cell? ⟨gb265,0,none⟩=some (.bool false):=(blk_cell BK265.out 0).trans rfl;have hcz43_1 : w40.cell? ⟨gb265,1,none⟩=some (.int .i64 0):=(blk_cell BK265.out 1).trans rfl;have hcz43_2 : w40.cell? ⟨gb265,2,none⟩=some (.string (⟨#[]⟩ : ByteArray)):=(blk_cell BK265.out 2).trans rfl;have hfz43_0:=blk_frozen BK265.out 0;have hfz43_1:=blk_frozen BK265.out 1;have hfz43_2:=blk_frozen BK265.out 2));go_upto_region 14 with (first|((with_reducible refine gate_dst (N:=13) rfl ?_);(try (refine gate_guard (by rfl) ?_;dsimp only));refine box_event ?hg (N:=13) ?hd (cs:=#[.bool false,.int .i64 0,.string (⟨#[]⟩ : ByteArray)]) (t:=42) ?hr ?_;(case hd=>rfl);(case hg=>rfl);(case hr=>first|(go_simp;done)|(go_simp;rfl));intro gb265 hg w40 hbox hb;have NX265:=Aside0.mk (Kd.fresh' (Kd.R_lt (R_up HO_9.out)) gb265 (Nat.le_of_eq hg.symm));have n0_:=Aside0.mk (Kd.N_below (Kd.N_elderB (N_up HO_7.out) gb265 (Nat.le_of_eq hg.symm)) hb);have n1_:=Aside0.mk (Kd.R_below (Kd.R_elderB (R_up HO_9.out) gb265 (Nat.le_of_eq hg.symm)) hb);have n2_:=Aside0.mk (Kd.N_below (Kd.N_elderB (N_up HO_10.out) gb265 (Nat.le_of_eq hg.symm)) hb);have n3_:=Aside0.mk (Kd.R_below (R_up HO_247000.out) hb);have n4_:=Aside0.mk (blk_below (blk_up BK238.out) hb);have n5_:=Aside0.mk (blk_below (blk_up BK246.out) hb);have n6_:=Aside0.mk (below_step (below_go HB.out) hb);have n7_:=Aside0.mk (hbox);have n8_:=Aside0.mk ((by rw [hg];exact (below_size (below_go HB.out)) : w.heap.size≤gb265));have n9_:=Aside0.mk ((by rw [hg];exact (below_size (below_go HB.out)) : w.heap.size≤gb265));have n10_:=Aside0.mk ((by rw [hg];exact Nat.ne_of_lt (blk_lt (blk_up BK238.out)) : gb238≠gb265));have n11_:=Aside0.mk ((by rw [hg];exact Nat.ne_of_gt (blk_lt (blk_up BK238.out)) : gb265≠gb238));have n12_:=Aside0.mk ((by rw [hg];exact Nat.ne_of_lt (blk_lt (blk_up BK246.out)) : gb246≠gb265));have n13_:=Aside0.mk ((by rw [hg];exact Nat.ne_of_gt (blk_lt (blk_up BK246.out)) : gb265≠gb246));clear HO_7;clear HO_9;clear HO_10;clear HO_247000;clear BK238;clear BK246;clear HB;have HO_7:=n0_;have HO_9:=n1_;have HO_10:=n2_;have HO_247000:=n3_;have BK238:=n4_;have BK246:=n5_;have HB:=n6_;have BK265:=n7_;have GW265:=n8_;have GE265:=n9_;have NB238_265:=n10_;have NB265_238:=n11_;have NB246_265:=n12_;have NB265_246:=n13_;clear n0_ n1_ n2_ n3_ n4_ n5_ n6_ n7_ n8_ n9_ n10_ n11_ n12_ n13_;clear hb hbox hg;have hnb41:=NB265_238.out;have hnc41:=NB238_265.out;have hnb42:=NB265_246.out;have hnc42:=NB246_265.out;have hcz43_0 : w40.cell? ⟨gb265,0,none⟩=some (.bool false):=(blk_cell BK265.out 0).trans rfl;have hcz43_1 : w40.cell? ⟨gb265,1,none⟩=some (.int .i64 0):=(blk_cell BK265.out 1).trans rfl;have hcz43_2 : w40.cell? ⟨gb265,2,none⟩=some (.string (⟨#[]⟩ : ByteArray)):=(blk_cell BK265.out 2).trans rfl;have hfz43_0:=blk_frozen BK265.out 0;have hfz43_1:=blk_frozen BK265.out 1;have hfz43_2:=blk_frozen BK265.out 2)))
     (try simp only [Act.put,List.setIfInBounds_toArray,List.set_cons_zero,List.set_cons_succ])
     go_cut [4] (fun v4 wc=>∃ (kq : Nat) (x4_38 : Bool),v4=.bool x4_38∧Aside0 (thresherlaw20_AggEnds.j1 kq x4_38=some r)∧Aside0 (kq≤kj9)∧Aside0 (Kd.R (Kd.int .i64) 3 wc w.heap.size (fun _=>True) (.slice Ao16 t240.length co16) t240)∧Aside0 (wc.heap[gb238]?=some (.cells #[.int .u8 a0_0,.int .u8 a0_1,.int .u8 a0_2,.int .u8 a0_3,.int .u8 a0_4,.int .u8 a0_5,.int .u8 a0_6,.int .u8 a0_7,.int .u8 a0_8,.int .u8 a0_9,.int .u8 a0_10,.int .u8 a0_11] 24 (0,0)))∧Aside0 (wc.heap[gb246]?=some (.cells #[(.slice Ao16 t240.length co16),.int .i64 1,.int .i64 t244,.int .i64 t245] 29 (0,0)))∧Aside0 (wc.heap[gb265]?=some (.cells #[.bool false,.int .i64 0,.string (⟨#[]⟩ : ByteArray)] 42 (0,0)))∧Aside0 (Below w.heap.size w wc))
     case first =>
      have H:=HC39.out
      clear HC39
      by_cases c44 : t239=true
      ·subst c44
       have H1 : (if 0 < (t253.length : Int) then (if (!((rd_T42 t253 0).f0) && ((((rd_T42 t253 0).f1.f0) == 0 && ((((rd_T42 t253 0).f1.f1).toList) == ([] : List UInt8)))))=true then (if 1 < (t253.length : Int) then (thresherlaw20_AggEnds.j1 kj9 (!((rd_T42 t253 1).f0) && ((((rd_T42 t253 1).f1.f0) == 0 && ((((rd_T42 t253 1).f1.f1).toList) == ([] : List UInt8)))))) else (none)) else (thresherlaw20_AggEnds.j1 kj9 false)) else (none))=some r:=by rw [if_pos rfl] at H;exact H
       clear H
       have H:=H1
       clear H1
       by_cases c45 : 0 < (t253.length : Int)
       ·rw [if_pos c45] at H
        have c45b0 : decide (0 < (t253.length : Int))=true:=decide_eq_true c45
        have c45b1 : decide (0 < t253.length)=true:=decide_eq_true (by omega)
        clear c45
        (first|rw [c45b0]|(simp only [i64_w,i32_w];rw [c45b0])|skip)
        by_cases c46 : (!((rd_T42 t253 0).f0) && ((((rd_T42 t253 0).f1.f0) == 0 && ((((rd_T42 t253 0).f1.f1).toList) == ([] : List UInt8)))))=true
        ·rw [if_pos c46] at H
         have c46b0 : (!((rd_T42 t253 0).f0) && ((((rd_T42 t253 0).f1.f0) == 0 && ((((rd_T42 t253 0).f1.f1).toList) == ([] : List UInt8)))))=true:=c46
         have c46b0i:=c46b0
         rw [show ((((rd_T42 t253 0).f1.f1).toList) == ([] : List UInt8))=(((rd_T42 t253 0).f1.f1).toList).isEmpty from by cases ((rd_T42 t253 0).f1.f1).toList <;> rfl] at c46b0i
         clear c46
         by_cases c47 : 1 < (t253.length : Int)
         ·rw [if_pos c47] at H
          have c47b0 : decide (1 < (t253.length : Int))=true:=decide_eq_true c47
          have c47b1 : decide (1 < t253.length)=true:=decide_eq_true (by omega)
          clear c47
          have H':=Aside0.mk H
          clear H
          have p266 : 0≤(0 : Int):=(by omega)
          have q266 : 0 < (t253.length : Int):=of_decide_eq_true (by first|(with_reducible assumption)|assumption)
          obtain ⟨ad266,e266,hx266_0,hx266_1,hx266_2⟩:=at_T42 (Kd.R_reads' HO_9.out).2.2 0 p266 q266
          cases e266
          have qi266 : (0 < t253.length)=True:=eq_true (by omega)
          (try rw [show ((0 : Int)).toNat=0 from rfl] at hx266_0)
          (try rw [show 0 * 3=0 from rfl] at hx266_0)
          (try rw [Addr.add_zero'] at hx266_0)
          (try rw [show ((0 : Int)).toNat=0 from rfl] at hx266_1)
          (try rw [show 0 * 3=0 from rfl] at hx266_1)
          (try rw [Addr.add_zero'] at hx266_1)
          (try rw [show ((0 : Int)).toNat=0 from rfl] at hx266_2)
          (try rw [show 0 * 3=0 from rfl] at hx266_2)
          (try rw [Addr.add_zero'] at hx266_2)
          have hn266_0 : ad266.block≠gb265:=Kd.own_blk NX265.out
          have hn266_1 : ad266.block≠gb265:=Kd.own_blk NX265.out
          have hn266_2 : ad266.block≠gb265:=Kd.own_blk NX265.out
          replace hx266_0:=(cell_far (p:=⟨gb265,0,none⟩) (by first|(rw [add_block];exact hn266_0)|(show (Addr.add _ _).block≠_;rw [add_block];exact hn266_0)|exact hn266_0) (.bool false)).trans hx266_0
          replace hx266_1:=(cell_far (p:=⟨gb265,0,none⟩) (by first|(rw [add_block];exact hn266_0)|(show (Addr.add _ _).block≠_;rw [add_block];exact hn266_0)|exact hn266_0) (.bool false)).trans hx266_1
          replace hx266_2:=(cell_far (p:=⟨gb265,0,none⟩) (by first|(rw [add_block];exact hn266_0)|(show (Addr.add _ _).block≠_;rw [add_block];exact hn266_0)|exact hn266_0) (.bool false)).trans hx266_2
          replace hx266_0:=(cell_far (p:=⟨gb265,1,none⟩) (by first|(rw [add_block];exact hn266_1)|(show (Addr.add _ _).block≠_;rw [add_block];exact hn266_1)|exact hn266_1) (.int .i64 0)).trans hx266_0
          replace hx266_1:=(cell_far (p:=⟨gb265,1,none⟩) (by first|(rw [add_block];exact hn266_1)|(show (Addr.add _ _).block≠_;rw [add_block];exact hn266_1)|exact hn266_1) (.int .i64 0)).trans hx266_1
          replace hx266_2:=(cell_far (p:=⟨gb265,1,none⟩) (by first|(rw [add_block];exact hn266_1)|(show (Addr.add _ _).block≠_;rw [add_block];exact hn266_1)|exact hn266_1) (.int .i64 0)).trans hx266_2
          replace hx266_0:=(cell_far (p:=⟨gb265,2,none⟩) (by first|(rw [add_block];exact hn266_2)|(show (Addr.add _ _).block≠_;rw [add_block];exact hn266_2)|exact hn266_2) (.string (⟨#[]⟩ : ByteArray))).trans hx266_0
          replace hx266_1:=(cell_far (p:=⟨gb265,2,none⟩) (by first|(rw [add_block];exact hn266_2)|(show (Addr.add _ _).block≠_;rw [add_block];exact hn266_2)|exact hn266_2) (.string (⟨#[]⟩ : ByteArray))).trans hx266_1
          replace hx266_2:=(cell_far (p:=⟨gb265,2,none⟩) (by first|(rw [add_block];exact hn266_2)|(show (Addr.add _ _).block≠_;rw [add_block];exact hn266_2)|exact hn266_2) (.string (⟨#[]⟩ : ByteArray))).trans hx266_2
          (try have hy266_0:=fun (n_ : Nat)=>(show (((((w40.drewN n_).setCell ⟨gb265,0,none⟩ (.bool false)).setCell ⟨gb265,1,none⟩ (.int .i64 0)).setCell ⟨gb265,2,none⟩ (.string (⟨#[]⟩ : ByteArray)))).cell? _=some _ from hx266_0))
          (try have hy266_1:=fun (n_ : Nat)=>(show (((((w40.drewN n_).setCell ⟨gb265,0,none⟩ (.bool false)).setCell ⟨gb265,1,none⟩ (.int .i64 0)).setCell ⟨gb265,2,none⟩ (.string (⟨#[]⟩ : ByteArray)))).cell? _=some _ from hx266_1))
          (try have hy266_2:=fun (n_ : Nat)=>(show (((((w40.drewN n_).setCell ⟨gb265,0,none⟩ (.bool false)).setCell ⟨gb265,1,none⟩ (.int .i64 0)).setCell ⟨gb265,2,none⟩ (.string (⟨#[]⟩ : ByteArray)))).cell? _=some _ from hx266_2))
          clear hn266_0
          clear hn266_1
          clear hn266_2
          replace p266:=eq_true p266
          replace q266:=eq_true q266
          have hnb48:=NB265_238.out
          have hnc48:=NB238_265.out
          have hnb49:=NB265_246.out
          have hnc49:=NB246_265.out
          have hcz50_0 : w40.cell? ⟨gb265,0,none⟩=some (.bool false):=(blk_cell BK265.out 0).trans rfl
          have hcz50_1 : w40.cell? ⟨gb265,1,none⟩=some (.int .i64 0):=(blk_cell BK265.out 1).trans rfl
          have hcz50_2 : w40.cell? ⟨gb265,2,none⟩=some (.string (⟨#[]⟩ : ByteArray)):=(blk_cell BK265.out 2).trans rfl
          have hfz50_0:=blk_frozen BK265.out 0
          have hfz50_1:=blk_frozen BK265.out 1
          have hfz50_2:=blk_frozen BK265.out 2
          have p267 : 0≤(1 : Int):=(by omega)
          have q267 : 1 < (t253.length : Int):=of_decide_eq_true (by first|(with_reducible assumption)|assumption)
          obtain ⟨ad267,e267,hx267_0,hx267_1,hx267_2⟩:=at_T42 (Kd.R_reads' HO_9.out).2.2 1 p267 q267
          obtain rfl : ad266=ad267:=(by injection e267)
          (try simp only [show (1 : Int).toNat=1 from rfl,Nat.reduceMul,Nat.reduceEqDiff,Go.Addr.add,↓reduceIte] at hx267_0)
          (try simp only [show (1 : Int).toNat=1 from rfl,Nat.reduceMul,Nat.reduceEqDiff,Go.Addr.add,↓reduceIte] at hx267_1)
          (try simp only [show (1 : Int).toNat=1 from rfl,Nat.reduceMul,Nat.reduceEqDiff,Go.Addr.add,↓reduceIte] at hx267_2)
          have qi267 : (1 < t253.length)=True:=eq_true (by omega)
          (try rw [show ((1 : Int)).toNat=1 from rfl] at hx267_0)
          (try rw [show 1 * 3=3 from rfl] at hx267_0)
          (try rw [show ((1 : Int)).toNat=1 from rfl] at hx267_1)
          (try rw [show 1 * 3=3 from rfl] at hx267_1)
          (try rw [show ((1 : Int)).toNat=1 from rfl] at hx267_2)
          (try rw [show 1 * 3=3 from rfl] at hx267_2)
          have hn267_0 : ad266.block≠gb265:=Kd.own_blk NX265.out
          have hn267_1 : ad266.block≠gb265:=Kd.own_blk NX265.out
          have hn267_2 : ad266.block≠gb265:=Kd.own_blk NX265.out
          replace hx267_0:=(cell_far (p:=⟨gb265,0,none⟩) (by first|(rw [add_block];exact hn267_0)|(show (Addr.add _ _).block≠_;rw [add_block];exact hn267_0)|exact hn267_0) (.bool false)).trans hx267_0
          replace hx267_1:=(cell_far (p:=⟨gb265,0,none⟩) (by first|(rw [add_block];exact hn267_0)|(show (Addr.add _ _).block≠_;rw [add_block];exact hn267_0)|exact hn267_0) (.bool false)).trans hx267_1
          replace hx267_2:=(cell_far (p:=⟨gb265,0,none⟩) (by first|(rw [add_block];exact hn267_0)|(show (Addr.add _ _).block≠_;rw [add_block];exact hn267_0)|exact hn267_0) (.bool false)).trans hx267_2
          replace hx267_0:=(cell_far (p:=⟨gb265,1,none⟩) (by first|(rw [add_block];exact hn267_1)|(show (Addr.add _ _).block≠_;rw [add_block];exact hn267_1)|exact hn267_1) (.int .i64 0)).trans hx267_0
          replace hx267_1:=(cell_far (p:=⟨gb265,1,none⟩) (by first|(rw [add_block];exact hn267_1)|(show (Addr.add _ _).block≠_;rw [add_block];exact hn267_1)|exact hn267_1) (.int .i64 0)).trans hx267_1
          replace hx267_2:=(cell_far (p:=⟨gb265,1,none⟩) (by first|(rw [add_block];exact hn267_1)|(show (Addr.add _ _).block≠_;rw [add_block];exact hn267_1)|exact hn267_1) (.int .i64 0)).trans hx267_2
          replace hx267_0:=(cell_far (p:=⟨gb265,2,none⟩) (by first|(rw [add_block];exact hn267_2)|(show (Addr.add _ _).block≠_;rw [add_block];exact hn267_2)|exact hn267_2) (.string (⟨#[]⟩ : ByteArray))).trans hx267_0
          replace hx267_1:=(cell_far (p:=⟨gb265,2,none⟩) (by first|(rw [add_block];exact hn267_2)|(show (Addr.add _ _).block≠_;rw [add_block];exact hn267_2)|exact hn267_2) (.string (⟨#[]⟩ : ByteArray))).trans hx267_1
          replace hx267_2:=(cell_far (p:=⟨gb265,2,none⟩) (by first|(rw [add_block];exact hn267_2)|(show (Addr.add _ _).block≠_;rw [add_block];exact hn267_2)|exact hn267_2) (.string (⟨#[]⟩ : ByteArray))).trans hx267_2
          (try have hy267_0:=fun (n_ : Nat)=>(show (((((w40.drewN n_).setCell ⟨gb265,0,none⟩ (.bool false)).setCell ⟨gb265,1,none⟩ (.int .i64 0)).setCell ⟨gb265,2,none⟩ (.string (⟨#[]⟩ : ByteArray)))).cell? _=some _ from hx267_0))
          (try have hy267_1:=fun (n_ : Nat)=>(show (((((w40.drewN n_).setCell ⟨gb265,0,none⟩ (.bool false)).setCell ⟨gb265,1,none⟩ (.int .i64 0)).setCell ⟨gb265,2,none⟩ (.string (⟨#[]⟩ : ByteArray)))).cell? _=some _ from hx267_1))
          (try have hy267_2:=fun (n_ : Nat)=>(show (((((w40.drewN n_).setCell ⟨gb265,0,none⟩ (.bool false)).setCell ⟨gb265,1,none⟩ (.int .i64 0)).setCell ⟨gb265,2,none⟩ (.string (⟨#[]⟩ : ByteArray)))).cell? _=some _ from hx267_2))
          clear hn267_0
          clear hn267_1
          clear hn267_2
          replace p267:=eq_true p267
          replace q267:=eq_true q267
          have hid_ : (((w40.setCell ⟨gb265,0,none⟩ (.bool false)).setCell ⟨gb265,1,none⟩ (.int .i64 0)).setCell ⟨gb265,2,none⟩ (.string (⟨#[]⟩ : ByteArray)))=w40:=by rw [setCell_same hcz50_0,setCell_same hcz50_1,setCell_same hcz50_2]
          (try rw [hid_] at hx266_0)
          (try rw [hid_] at hx266_1)
          (try rw [hid_] at hx266_2)
          (try rw [hid_] at hx267_0)
          (try rw [hid_] at hx267_1)
          (try rw [hid_] at hx267_2)
          rw [hid_]
          go_wp2
          repeat (go_quiet (fail);try go_wp2)
          rw [← hid_]
          clear hid_
          go_meet
          case rel=>exact ⟨_,((!((rd_T42 t253 1).f0) && ((((rd_T42 t253 1).f1.f0) == 0 && ((((rd_T42 t253 1).f1.f1).toList) == ([] : List UInt8)))))),(by first|rfl|(simp;done)|(simp [*];done)),(by first|exact H'|(subst_vars;exact H')),⟨by have:=HJ9.out;first|omega|exact Nat.le_refl _⟩,⟨by (with_reducible repeat (first|apply Kd.R_alloc|apply Kd.R_drewN|apply Kd.R_drew));exact Kd.R_mono (Kd.R_far (p:=⟨gb265,2,none⟩) (Kd.R_far (p:=⟨gb265,1,none⟩) (Kd.R_far (p:=⟨gb265,0,none⟩) (Kd.R_types HO_247000.out BK265.out (by decide)) (fun _ hk=>hk.2) (.bool false)) (fun _ hk=>hk.2) (.int .i64 0)) (fun _ hk=>hk.2) (.string (⟨#[]⟩ : ByteArray))) (fun _ hk=>trivial)⟩,⟨by (with_reducible repeat (first|refine blk_drewN ?_ _|refine blk_drew ?_|refine blk_alloc ?_ _));refine blk_far ?_ NB238_265.out _;(with_reducible repeat (first|refine blk_drewN ?_ _|refine blk_drew ?_|refine blk_alloc ?_ _));refine blk_far ?_ NB238_265.out _;(with_reducible repeat (first|refine blk_drewN ?_ _|refine blk_drew ?_|refine blk_alloc ?_ _));refine blk_far ?_ NB238_265.out _;(with_reducible repeat (first|refine blk_drewN ?_ _|refine blk_drew ?_|refine blk_alloc ?_ _));exact BK238.out⟩,⟨by (with_reducible repeat (first|refine blk_drewN ?_ _|refine blk_drew ?_|refine blk_alloc ?_ _));refine blk_far ?_ NB246_265.out _;(with_reducible repeat (first|refine blk_drewN ?_ _|refine blk_drew ?_|refine blk_alloc ?_ _));refine blk_far ?_ NB246_265.out _;(with_reducible repeat (first|refine blk_drewN ?_ _|refine blk_drew ?_|refine blk_alloc ?_ _));refine blk_far ?_ NB246_265.out _;(with_reducible repeat (first|refine blk_drewN ?_ _|refine blk_drew ?_|refine blk_alloc ?_ _));exact BK246.out⟩,⟨by (with_reducible repeat (first|refine blk_drewN ?_ _|refine blk_drew ?_|refine blk_alloc ?_ _));refine blk_put (cs:=#[.bool false,.int .i64 0,.string (⟨#[]⟩ : ByteArray)]) ?_ 2 _ rfl;(with_reducible repeat (first|refine blk_drewN ?_ _|refine blk_drew ?_|refine blk_alloc ?_ _));refine blk_put (cs:=#[.bool false,.int .i64 0,.string (⟨#[]⟩ : ByteArray)]) ?_ 1 _ rfl;(with_reducible repeat (first|refine blk_drewN ?_ _|refine blk_drew ?_|refine blk_alloc ?_ _));refine blk_put (cs:=#[.bool false,.int .i64 0,.string (⟨#[]⟩ : ByteArray)]) ?_ 0 _ rfl;(with_reducible repeat (first|refine blk_drewN ?_ _|refine blk_drew ?_|refine blk_alloc ?_ _));exact BK265.out⟩,⟨by repeat (first|(with_reducible first|exact HB.out|apply below_alloc|apply pw_below_drewN|apply below_drew1|refine below_set ?_ GE238.out|refine below_set ?_ GE246.out|refine below_set ?_ GE265.out)|exact HB.out)⟩⟩
         ·rw [if_neg c47] at H
          exact absurd H (by simp)
        ·rw [if_neg c46] at H
         have c46b0 : (!((rd_T42 t253 0).f0) && ((((rd_T42 t253 0).f1.f0) == 0 && ((((rd_T42 t253 0).f1.f1).toList) == ([] : List UInt8)))))=false:=by simpa using c46
         have c46b0i:=c46b0
         rw [show ((((rd_T42 t253 0).f1.f1).toList) == ([] : List UInt8))=(((rd_T42 t253 0).f1.f1).toList).isEmpty from by cases ((rd_T42 t253 0).f1.f1).toList <;> rfl] at c46b0i
         clear c46
         have H':=Aside0.mk H
         clear H
         have p266 : 0≤(0 : Int):=(by omega)
         have q266 : 0 < (t253.length : Int):=of_decide_eq_true (by first|(with_reducible assumption)|assumption)
         obtain ⟨ad266,e266,hx266_0,hx266_1,hx266_2⟩:=at_T42 (Kd.R_reads' HO_9.out).2.2 0 p266 q266
         cases e266
         have qi266 : (0 < t253.length)=True:=eq_true (by omega)
         (try rw [show ((0 : Int)).toNat=0 from rfl] at hx266_0)
         (try rw [show 0 * 3=0 from rfl] at hx266_0)
         (try rw [Addr.add_zero'] at hx266_0)
         (try rw [show ((0 : Int)).toNat=0 from rfl] at hx266_1)
         (try rw [show 0 * 3=0 from rfl] at hx266_1)
         (try rw [Addr.add_zero'] at hx266_1)
         (try rw [show ((0 : Int)).toNat=0 from rfl] at hx266_2)
         (try rw [show 0 * 3=0 from rfl] at hx266_2)
         (try rw [Addr.add_zero'] at hx266_2)
         have hn266_0 : ad266.block≠gb265:=Kd.own_blk NX265.out
         have hn266_1 : ad266.block≠gb265:=Kd.own_blk NX265.out
         have hn266_2 : ad266.block≠gb265:=Kd.own_blk NX265.out
         replace hx266_0:=(cell_far (p:=⟨gb265,0,none⟩) (by first|(rw [add_block];exact hn266_0)|(show (Addr.add _ _).block≠_;rw [add_block];exact hn266_0)|exact hn266_0) (.bool false)).trans hx266_0
         replace hx266_1:=(cell_far (p:=⟨gb265,0,none⟩) (by first|(rw [add_block];exact hn266_0)|(show (Addr.add _ _).block≠_;rw [add_block];exact hn266_0)|exact hn266_0) (.bool false)).trans hx266_1
         replace hx266_2:=(cell_far (p:=⟨gb265,0,none⟩) (by first|(rw [add_block];exact hn266_0)|(show (Addr.add _ _).block≠_;rw [add_block];exact hn266_0)|exact hn266_0) (.bool false)).trans hx266_2
         replace hx266_0:=(cell_far (p:=⟨gb265,1,none⟩) (by first|(rw [add_block];exact hn266_1)|(show (Addr.add _ _).block≠_;rw [add_block];exact hn266_1)|exact hn266_1) (.int .i64 0)).trans hx266_0
         replace hx266_1:=(cell_far (p:=⟨gb265,1,none⟩) (by first|(rw [add_block];exact hn266_1)|(show (Addr.add _ _).block≠_;rw [add_block];exact hn266_1)|exact hn266_1) (.int .i64 0)).trans hx266_1
         replace hx266_2:=(cell_far (p:=⟨gb265,1,none⟩) (by first|(rw [add_block];exact hn266_1)|(show (Addr.add _ _).block≠_;rw [add_block];exact hn266_1)|exact hn266_1) (.int .i64 0)).trans hx266_2
         replace hx266_0:=(cell_far (p:=⟨gb265,2,none⟩) (by first|(rw [add_block];exact hn266_2)|(show (Addr.add _ _).block≠_;rw [add_block];exact hn266_2)|exact hn266_2) (.string (⟨#[]⟩ : ByteArray))).trans hx266_0
         replace hx266_1:=(cell_far (p:=⟨gb265,2,none⟩) (by first|(rw [add_block];exact hn266_2)|(show (Addr.add _ _).block≠_;rw [add_block];exact hn266_2)|exact hn266_2) (.string (⟨#[]⟩ : ByteArray))).trans hx266_1
         replace hx266_2:=(cell_far (p:=⟨gb265,2,none⟩) (by first|(rw [add_block];exact hn266_2)|(show (Addr.add _ _).block≠_;rw [add_block];exact hn266_2)|exact hn266_2) (.string (⟨#[]⟩ : ByteArray))).trans hx266_2
         (try have hy266_0:=fun (n_ : Nat)=>(show (((((w40.drewN n_).setCell ⟨gb265,0,none⟩ (.bool false)).setCell ⟨gb265,1,none⟩ (.int .i64 0)).setCell ⟨gb265,2,none⟩ (.string (⟨#[]⟩ : ByteArray)))).cell? _=some _ from hx266_0))
         (try have hy266_1:=fun (n_ : Nat)=>(show (((((w40.drewN n_).setCell ⟨gb265,0,none⟩ (.bool false)).setCell ⟨gb265,1,none⟩ (.int .i64 0)).setCell ⟨gb265,2,none⟩ (.string (⟨#[]⟩ : ByteArray)))).cell? _=some _ from hx266_1))
         (try have hy266_2:=fun (n_ : Nat)=>(show (((((w40.drewN n_).setCell ⟨gb265,0,none⟩ (.bool false)).setCell ⟨gb265,1,none⟩ (.int .i64 0)).setCell ⟨gb265,2,none⟩ (.string (⟨#[]⟩ : ByteArray)))).cell? _=some _ from hx266_2))
         clear hn266_0
         clear hn266_1
         clear hn266_2
         replace p266:=eq_true p266
         replace q266:=eq_true q266
         have hnb51:=NB265_238.out
         have hnc51:=NB238_265.out
         have hnb52:=NB265_246.out
         have hnc52:=NB246_265.out
         have hcz53_0 : w40.cell? ⟨gb265,0,none⟩=some (.bool false):=(blk_cell BK265.out 0).trans rfl
         have hcz53_1 : w40.cell? ⟨gb265,1,none⟩=some (.int .i64 0):=(blk_cell BK265.out 1).trans rfl
         have hcz53_2 : w40.cell? ⟨gb265,2,none⟩=some (.string (⟨#[]⟩ : ByteArray)):=(blk_cell BK265.out 2).trans rfl
         have hfz53_0:=blk_frozen BK265.out 0
         have hfz53_1:=blk_frozen BK265.out 1
         have hfz53_2:=blk_frozen BK265.out 2
         have hid_ : (((w40.setCell ⟨gb265,0,none⟩ (.bool false)).setCell ⟨gb265,1,none⟩ (.int .i64 0)).setCell ⟨gb265,2,none⟩ (.string (⟨#[]⟩ : ByteArray)))=w40:=by rw [setCell_same hcz53_0,setCell_same hcz53_1,setCell_same hcz53_2]
         (try rw [hid_] at hx266_0)
         (try rw [hid_] at hx266_1)
         (try rw [hid_] at hx266_2)
         (try rw [hid_] at hx267_0)
         (try rw [hid_] at hx267_1)
         (try rw [hid_] at hx267_2)
         rw [hid_]
         go_wp2
         repeat (go_quiet (fail);try go_wp2)
         rw [← hid_]
         clear hid_
         go_meet
         case rel=>exact ⟨_,(false),(by first|rfl|(simp;done)|(simp [*];done)),(by first|exact H'|(subst_vars;exact H')),⟨by have:=HJ9.out;first|omega|exact Nat.le_refl _⟩,⟨by (with_reducible repeat (first|apply Kd.R_alloc|apply Kd.R_drewN|apply Kd.R_drew));exact Kd.R_mono (Kd.R_far (p:=⟨gb265,2,none⟩) (Kd.R_far (p:=⟨gb265,1,none⟩) (Kd.R_far (p:=⟨gb265,0,none⟩) (Kd.R_types HO_247000.out BK265.out (by decide)) (fun _ hk=>hk.2) (.bool false)) (fun _ hk=>hk.2) (.int .i64 0)) (fun _ hk=>hk.2) (.string (⟨#[]⟩ : ByteArray))) (fun _ hk=>trivial)⟩,⟨by (with_reducible repeat (first|refine blk_drewN ?_ _|refine blk_drew ?_|refine blk_alloc ?_ _));refine blk_far ?_ NB238_265.out _;(with_reducible repeat (first|refine blk_drewN ?_ _|refine blk_drew ?_|refine blk_alloc ?_ _));refine blk_far ?_ NB238_265.out _;(with_reducible repeat (first|refine blk_drewN ?_ _|refine blk_drew ?_|refine blk_alloc ?_ _));refine blk_far ?_ NB238_265.out _;(with_reducible repeat (first|refine blk_drewN ?_ _|refine blk_drew ?_|refine blk_alloc ?_ _));exact BK238.out⟩,⟨by (with_reducible repeat (first|refine blk_drewN ?_ _|refine blk_drew ?_|refine blk_alloc ?_ _));refine blk_far ?_ NB246_265.out _;(with_reducible repeat (first|refine blk_drewN ?_ _|refine blk_drew ?_|refine blk_alloc ?_ _));refine blk_far ?_ NB246_265.out _;(with_reducible repeat (first|refine blk_drewN ?_ _|refine blk_drew ?_|refine blk_alloc ?_ _));refine blk_far ?_ NB246_265.out _;(with_reducible repeat (first|refine blk_drewN ?_ _|refine blk_drew ?_|refine blk_alloc ?_ _));exact BK246.out⟩,⟨by (with_reducible repeat (first|refine blk_drewN ?_ _|refine blk_drew ?_|refine blk_alloc ?_ _));refine blk_put (cs:=#[.bool false,.int .i64 0,.string (⟨#[]⟩ : ByteArray)]) ?_ 2 _ rfl;(with_reducible repeat (first|refine blk_drewN ?_ _|refine blk_drew ?_|refine blk_alloc ?_ _));refine blk_put (cs:=#[.bool false,.int .i64 0,.string (⟨#[]⟩ : ByteArray)]) ?_ 1 _ rfl;(with_reducible repeat (first|refine blk_drewN ?_ _|refine blk_drew ?_|refine blk_alloc ?_ _));refine blk_put (cs:=#[.bool false,.int .i64 0,.string (⟨#[]⟩ : ByteArray)]) ?_ 0 _ rfl;(with_reducible repeat (first|refine blk_drewN ?_ _|refine blk_drew ?_|refine blk_alloc ?_ _));exact BK265.out⟩,⟨by repeat (first|(with_reducible first|exact HB.out|apply below_alloc|apply pw_below_drewN|apply below_drew1|refine below_set ?_ GE238.out|refine below_set ?_ GE246.out|refine below_set ?_ GE265.out)|exact HB.out)⟩⟩
       ·rw [if_neg c45] at H
        exact absurd H (by simp)
      ·replace c44:=Bool.eq_false_iff.mpr c44
       subst c44
       have H1 : (thresherlaw20_AggEnds.j1 kj9 false)=some r:=by rw [if_neg (show ¬ (false=true) by decide)] at H;exact H
       clear H
       have H:=H1
       clear H1
       have H':=Aside0.mk H
       clear H
       go_wp2
       repeat (go_quiet (fail);try go_wp2)
       go_meet
       case rel=>exact ⟨_,(false),(by first|rfl|(simp;done)|(simp [*];done)),(by first|exact H'|(subst_vars;exact H')),⟨by have:=HJ9.out;first|omega|exact Nat.le_refl _⟩,⟨by (with_reducible repeat (first|apply Kd.R_alloc|apply Kd.R_drewN|apply Kd.R_drew));exact Kd.R_mono (Kd.R_far (p:=⟨gb265,2,none⟩) (Kd.R_far (p:=⟨gb265,1,none⟩) (Kd.R_far (p:=⟨gb265,0,none⟩) (Kd.R_types HO_247000.out BK265.out (by decide)) (fun _ hk=>hk.2) (.bool false)) (fun _ hk=>hk.2) (.int .i64 0)) (fun _ hk=>hk.2) (.string (⟨#[]⟩ : ByteArray))) (fun _ hk=>trivial)⟩,⟨by (with_reducible repeat (first|refine blk_drewN ?_ _|refine blk_drew ?_|refine blk_alloc ?_ _));refine blk_far ?_ NB238_265.out _;(with_reducible repeat (first|refine blk_drewN ?_ _|refine blk_drew ?_|refine blk_alloc ?_ _));refine blk_far ?_ NB238_265.out _;(with_reducible repeat (first|refine blk_drewN ?_ _|refine blk_drew ?_|refine blk_alloc ?_ _));refine blk_far ?_ NB238_265.out _;(with_reducible repeat (first|refine blk_drewN ?_ _|refine blk_drew ?_|refine blk_alloc ?_ _));exact BK238.out⟩,⟨by (with_reducible repeat (first|refine blk_drewN ?_ _|refine blk_drew ?_|refine blk_alloc ?_ _));refine blk_far ?_ NB246_265.out _;(with_reducible repeat (first|refine blk_drewN ?_ _|refine blk_drew ?_|refine blk_alloc ?_ _));refine blk_far ?_ NB246_265.out _;(with_reducible repeat (first|refine blk_drewN ?_ _|refine blk_drew ?_|refine blk_alloc ?_ _));refine blk_far ?_ NB246_265.out _;(with_reducible repeat (first|refine blk_drewN ?_ _|refine blk_drew ?_|refine blk_alloc ?_ _));exact BK246.out⟩,⟨by (with_reducible repeat (first|refine blk_drewN ?_ _|refine blk_drew ?_|refine blk_alloc ?_ _));refine blk_put (cs:=#[.bool false,.int .i64 0,.string (⟨#[]⟩ : ByteArray)]) ?_ 2 _ rfl;(with_reducible repeat (first|refine blk_drewN ?_ _|refine blk_drew ?_|refine blk_alloc ?_ _));refine blk_put (cs:=#[.bool false,.int .i64 0,.string (⟨#[]⟩ : ByteArray)]) ?_ 1 _ rfl;(with_reducible repeat (first|refine blk_drewN ?_ _|refine blk_drew ?_|refine blk_alloc ?_ _));refine blk_put (cs:=#[.bool false,.int .i64 0,.string (⟨#[]⟩ : ByteArray)]) ?_ 0 _ rfl;(with_reducible repeat (first|refine blk_drewN ?_ _|refine blk_drew ?_|refine blk_alloc ?_ _));exact BK265.out⟩,⟨by repeat (first|(with_reducible first|exact HB.out|apply below_alloc|apply pw_below_drewN|apply below_drew1|refine below_set ?_ GE238.out|refine below_set ?_ GE246.out|refine below_set ?_ GE265.out)|exact HB.out)⟩⟩
     case rest =>
      clear HC39
      try clear c1
      try clear c2
      try clear p2
      try clear q2
      try clear hx2
      try clear qi2
      try clear c3
      try clear c4
      try clear c5
      try clear p6
      try clear c17
      try clear p26
      try clear q26
      try clear hx26
      try clear qi26
      try clear c33
      try clear c34
      try clear c34b0
      try clear c34b1
      try clear c35
      try clear c35b0
      try clear c35b1
      try clear c36
      try clear c36b0
      try clear c36b1
      try clear c37
      try clear c38
      try clear c38b0
      try clear c38b1
      try clear c41
      try clear c42
      try clear c44
      try clear c45
      try clear c45b0
      try clear c45b1
      try clear c46
      try clear c46b0
      try clear c47
      try clear c47b0
      try clear c47b1
      try clear c48
      try clear c49
      try clear c51
      try clear c52
      try clear hcz13_0
      try clear hcz13_1
      try clear hcz13_10
      try clear hcz13_11
      try clear hcz13_2
      try clear hcz13_3
      try clear hcz13_4
      try clear hcz13_5
      try clear hcz13_6
      try clear hcz13_7
      try clear hcz13_8
      try clear hcz13_9
      try clear hcz18_0
      try clear hcz18_1
      try clear hcz18_2
      try clear hcz18_3
      try clear hcz22_0
      try clear hcz22_1
      try clear hcz22_2
      try clear hcz22_3
      try clear hcz26_0
      try clear hcz26_1
      try clear hcz26_2
      try clear hcz26_3
      try clear hcz28_0
      try clear hcz28_1
      try clear hcz28_2
      try clear hcz28_3
      try clear hcz43_0
      try clear hcz43_1
      try clear hcz43_2
      try clear hcz50_0
      try clear hcz50_1
      try clear hcz50_2
      try clear hcz53_0
      try clear hcz53_1
      try clear hcz53_2
      try clear hfz13_0
      try clear hfz13_1
      try clear hfz13_10
      try clear hfz13_11
      try clear hfz13_2
      try clear hfz13_3
      try clear hfz13_4
      try clear hfz13_5
      try clear hfz13_6
      try clear hfz13_7
      try clear hfz13_8
      try clear hfz13_9
      try clear hfz18_0
      try clear hfz18_1
      try clear hfz18_2
      try clear hfz18_3
      try clear hfz22_0
      try clear hfz22_1
      try clear hfz22_2
      try clear hfz22_3
      try clear hfz26_0
      try clear hfz26_1
      try clear hfz26_2
      try clear hfz26_3
      try clear hfz28_0
      try clear hfz28_1
      try clear hfz28_2
      try clear hfz28_3
      try clear hfz43_0
      try clear hfz43_1
      try clear hfz43_2
      try clear hfz50_0
      try clear hfz50_1
      try clear hfz50_2
      try clear hfz53_0
      try clear hfz53_1
      try clear hfz53_2
      try clear hx263_0
      try clear hx263_1
      try clear hx263_2
      try clear hx264_0
      try clear hx264_1
      try clear hx264_2
      try clear hx266_0
      try clear hx266_1
      try clear hx266_2
      try clear hx267_0
      try clear hx267_1
      try clear hx267_2
      try clear p2
      try clear p26
      try clear p263
      try clear p264
      try clear p266
      try clear p267
      try clear q2
      try clear q26
      try clear q263
      try clear q264
      try clear q266
      try clear q267
      obtain ⟨kq,x4_38,rfl,HA,HJ38,HO_247000,BK238,BK246,BK265,HB⟩:=hcut
      cases kq with
      | zero=>exact absurd HA.out (by simp [thresherlaw20_AggEnds.j1])
      | succ kj38 =>
       have H:=HA.out
       clear HA
       simp only [thresherlaw20_AggEnds.j1] at H
       obtain rfl:=Option.some.inj H
       go_wp2
       repeat (go_quiet (fail);try go_wp2)
       go_ret
       exact ⟨by first|rfl|(simp [errW_none,errW_some] <;> rfl)|(simp [*,errW_none,errW_some] <;> rfl),by repeat (first|(with_reducible first|exact HB.out|apply below_alloc|apply pw_below_drewN|apply below_drew1|refine below_set ?_ GE238.out|refine below_set ?_ GE246.out|refine below_set ?_ GE265.out)|exact HB.out)⟩
    ·rw [if_neg c38] at H
     have c38b0 : ((t247.length : Int) == 0)=false:=beq_eq_false_iff_ne.mpr c38
     have c38b1 : ((t247.length : Int) != 0)=true:=bne_iff_ne.mpr c38
     have c38b2 : ¬ (t247=[]):=fun h_=>c38 (by rw [h_];rfl)
     have HC54:=Aside0.mk H
     clear H
     go_upto_region 15 with (fail)
     repeat (go_quiet (fail);go_upto_region 15 with (fail))
     go_cut [4] (fun v4 wc=>∃ (kq : Nat) (x4_53 : Bool),v4=.bool x4_53∧Aside0 (thresherlaw20_AggEnds.j2 kq x4_53=some r)∧Aside0 (kq≤kj9)∧Aside0 (Kd.R (Kd.int .i64) 3 wc w.heap.size (fun _=>True) (.slice Ao16 t240.length co16) t240)∧Aside0 (wc.heap[gb238]?=some (.cells #[.int .u8 a0_0,.int .u8 a0_1,.int .u8 a0_2,.int .u8 a0_3,.int .u8 a0_4,.int .u8 a0_5,.int .u8 a0_6,.int .u8 a0_7,.int .u8 a0_8,.int .u8 a0_9,.int .u8 a0_10,.int .u8 a0_11] 24 (0,0)))∧Aside0 (wc.heap[gb246]?=some (.cells #[(.slice Ao16 t240.length co16),.int .i64 1,.int .i64 t244,.int .i64 t245] 29 (0,0)))∧Aside0 (Below w.heap.size w wc))
     case first =>
      have H:=HC54.out
      clear HC54
      by_cases c55 : t239=true
      ·subst c55
       have H1 : (if 0 < (t253.length : Int) then (if (rd_T42 t253 0).f0=true then (if 1 < (t253.length : Int) then (if (rd_T42 t253 1).f0=true then (if 0 < (t256.length : Int) then (if 0 < ((rd_L7 t256 0).length : Int) then (if (((rd_T42 t253 0).f1.f0) == ((rd_T40 (rd_L7 t256 0) 0).f0) && ((((rd_T42 t253 0).f1.f1).toList) == (((rd_T40 (rd_L7 t256 0) 0).f1).toList)))=true then (if 0≤(wrap64 ((t256.length : Int) - 1)) then (if (wrap64 ((t256.length : Int) - 1)) < (t256.length : Int) then (if 0 < ((rd_L7 t256 (wrap64 ((t256.length : Int) - 1))).length : Int) then (thresherlaw20_AggEnds.j2 kj9 (((rd_T42 t253 1).f1.f0) == ((rd_T40 (rd_L7 t256 (wrap64 ((t256.length : Int) - 1))) 0).f0) && ((((rd_T42 t253 1).f1.f1).toList) == (((rd_T40 (rd_L7 t256 (wrap64 ((t256.length : Int) - 1))) 0).f1).toList)))) else (none)) else (none)) else (none)) else (thresherlaw20_AggEnds.j2 kj9 false)) else (none)) else (none)) else (thresherlaw20_AggEnds.j2 kj9 false)) else (none)) else (thresherlaw20_AggEnds.j2 kj9 false)) else (none))=some r:=by rw [if_pos rfl] at H;exact H
       clear H
       have H:=H1
       clear H1
       by_cases c56 : 0 < (t253.length : Int)
       ·rw [if_pos c56] at H
        have c56b0 : decide (0 < (t253.length : Int))=true:=decide_eq_true c56
        have c56b1 : decide (0 < t253.length)=true:=decide_eq_true (by omega)
        clear c56
        (first|rw [c56b0]|(simp only [i64_w,i32_w];rw [c56b0])|skip)
        obtain ⟨bq57,hbq57⟩ : ∃ b_ : Bool,b_=((rd_T42 t253 0).f0):=⟨_,rfl⟩
        replace H : (if bq57=true then (if 1 < (t253.length : Int) then (if (rd_T42 t253 1).f0=true then (if 0 < (t256.length : Int) then (if 0 < ((rd_L7 t256 0).length : Int) then (if (((rd_T42 t253 0).f1.f0) == ((rd_T40 (rd_L7 t256 0) 0).f0) && ((((rd_T42 t253 0).f1.f1).toList) == (((rd_T40 (rd_L7 t256 0) 0).f1).toList)))=true then (if 0≤(wrap64 ((t256.length : Int) - 1)) then (if (wrap64 ((t256.length : Int) - 1)) < (t256.length : Int) then (if 0 < ((rd_L7 t256 (wrap64 ((t256.length : Int) - 1))).length : Int) then (thresherlaw20_AggEnds.j2 kj9 (((rd_T42 t253 1).f1.f0) == ((rd_T40 (rd_L7 t256 (wrap64 ((t256.length : Int) - 1))) 0).f0) && ((((rd_T42 t253 1).f1.f1).toList) == (((rd_T40 (rd_L7 t256 (wrap64 ((t256.length : Int) - 1))) 0).f1).toList)))) else (none)) else (none)) else (none)) else (thresherlaw20_AggEnds.j2 kj9 false)) else (none)) else (none)) else (thresherlaw20_AggEnds.j2 kj9 false)) else (none)) else (thresherlaw20_AggEnds.j2 kj9 false))=some r:=by rw [← hbq57] at H;exact H
        have Nbq57:=Aside0.mk hbq57
        clear hbq57
        by_cases c58 : bq57=true
        ·subst c58
         have H1 : (if 1 < (t253.length : Int) then (if (rd_T42 t253 1).f0=true then (if 0 < (t256.length : Int) then (if 0 < ((rd_L7 t256 0).length : Int) then (if (((rd_T42 t253 0).f1.f0) == ((rd_T40 (rd_L7 t256 0) 0).f0) && ((((rd_T42 t253 0).f1.f1).toList) == (((rd_T40 (rd_L7 t256 0) 0).f1).toList)))=true then (if 0≤(wrap64 ((t256.length : Int) - 1)) then (if (wrap64 ((t256.length : Int) - 1)) < (t256.length : Int) then (if 0 < ((rd_L7 t256 (wrap64 ((t256.length : Int) - 1))).length : Int) then (thresherlaw20_AggEnds.j2 kj9 (((rd_T42 t253 1).f1.f0) == ((rd_T40 (rd_L7 t256 (wrap64 ((t256.length : Int) - 1))) 0).f0) && ((((rd_T42 t253 1).f1.f1).toList) == (((rd_T40 (rd_L7 t256 (wrap64 ((t256.length : Int) - 1))) 0).f1).toList)))) else (none)) else (none)) else (none)) else (thresherlaw20_AggEnds.j2 kj9 false)) else (none)) else (none)) else (thresherlaw20_AggEnds.j2 kj9 false)) else (none))=some r:=by rw [if_pos rfl] at H;exact H
         clear H
         have H:=H1
         clear H1
         by_cases c59 : 1 < (t253.length : Int)
         ·rw [if_pos c59] at H
          have c59b0 : decide (1 < (t253.length : Int))=true:=decide_eq_true c59
          have c59b1 : decide (1 < t253.length)=true:=decide_eq_true (by omega)
          clear c59
          obtain ⟨bq60,hbq60⟩ : ∃ b_ : Bool,b_=((rd_T42 t253 1).f0):=⟨_,rfl⟩
          replace H : (if bq60=true then (if 0 < (t256.length : Int) then (if 0 < ((rd_L7 t256 0).length : Int) then (if (((rd_T42 t253 0).f1.f0) == ((rd_T40 (rd_L7 t256 0) 0).f0) && ((((rd_T42 t253 0).f1.f1).toList) == (((rd_T40 (rd_L7 t256 0) 0).f1).toList)))=true then (if 0≤(wrap64 ((t256.length : Int) - 1)) then (if (wrap64 ((t256.length : Int) - 1)) < (t256.length : Int) then (if 0 < ((rd_L7 t256 (wrap64 ((t256.length : Int) - 1))).length : Int) then (thresherlaw20_AggEnds.j2 kj9 (((rd_T42 t253 1).f1.f0) == ((rd_T40 (rd_L7 t256 (wrap64 ((t256.length : Int) - 1))) 0).f0) && ((((rd_T42 t253 1).f1.f1).toList) == (((rd_T40 (rd_L7 t256 (wrap64 ((t256.length : Int) - 1))) 0).f1).toList)))) else (none)) else (none)) else (none)) else (thresherlaw20_AggEnds.j2 kj9 false)) else (none)) else (none)) else (thresherlaw20_AggEnds.j2 kj9 false))=some r:=by rw [← hbq60] at H;exact H
          have Nbq60:=Aside0.mk hbq60
          clear hbq60
          by_cases c61 : bq60=true
          ·subst c61
           have H1 : (if 0 < (t256.length : Int) then (if 0 < ((rd_L7 t256 0).length : Int) then (if (((rd_T42 t253 0).f1.f0) == ((rd_T40 (rd_L7 t256 0) 0).f0) && ((((rd_T42 t253 0).f1.f1).toList) == (((rd_T40 (rd_L7 t256 0) 0).f1).toList)))=true then (if 0≤(wrap64 ((t256.length : Int) - 1)) then (if (wrap64 ((t256.length : Int) - 1)) < (t256.length : Int) then (if 0 < ((rd_L7 t256 (wrap64 ((t256.length : Int) - 1))).length : Int) then (thresherlaw20_AggEnds.j2 kj9 (((rd_T42 t253 1).f1.f0) == ((rd_T40 (rd_L7 t256 (wrap64 ((t256.length : Int) - 1))) 0).f0) && ((((rd_T42 t253 1).f1.f1).toList) == (((rd_T40 (rd_L7 t256 (wrap64 ((t256.length : Int) - 1))) 0).f1).toList)))) else (none)) else (none)) else (none)) else (thresherlaw20_AggEnds.j2 kj9 false)) else (none)) else (none))=some r:=by rw [if_pos rfl] at H;exact H
           clear H
           have H:=H1
           clear H1
           by_cases c62 : 0 < (t256.length : Int)
           ·rw [if_pos c62] at H
            have c62b0 : decide (0 < (t256.length : Int))=true:=decide_eq_true c62
            have c62b1 : decide (0 < t256.length)=true:=decide_eq_true (by omega)
            clear c62
            by_cases c63 : 0 < ((rd_L7 t256 0).length : Int)
            ·rw [if_pos c63] at H
             have c63b0 : decide (0 < ((rd_L7 t256 0).length : Int))=true:=decide_eq_true c63
             have c63b1 : decide (0 < (rd_L7 t256 0).length)=true:=decide_eq_true (by omega)
             clear c63
             by_cases c64 : (((rd_T42 t253 0).f1.f0) == ((rd_T40 (rd_L7 t256 0) 0).f0) && ((((rd_T42 t253 0).f1.f1).toList) == (((rd_T40 (rd_L7 t256 0) 0).f1).toList)))=true
             ·rw [if_pos c64] at H
              have c64b0 : (((rd_T42 t253 0).f1.f0) == ((rd_T40 (rd_L7 t256 0) 0).f0) && ((((rd_T42 t253 0).f1.f1).toList) == (((rd_T40 (rd_L7 t256 0) 0).f1).toList)))=true:=c64
              (try (have c64b1 : decide (((rd_T42 t253 0).f1.f0)=((rd_T40 (rd_L7 t256 0) 0).f0) && ((((rd_T42 t253 0).f1.f1).toList) == (((rd_T40 (rd_L7 t256 0) 0).f1).toList)))=true:=by simpa using c64))
              (try (have c64b2 : (((rd_T42 t253 0).f1.f0) == ((rd_T40 (rd_L7 t256 0) 0).f0) && ((((rd_T42 t253 0).f1.f1).toList) == (((rd_T40 (rd_L7 t256 0) 0).f1).toList)))=true:=by simpa using c64))
              clear c64
              obtain ⟨ji65,hji65⟩ : ∃ j_ : Int,(wrap64 ((t256.length : Int) - 1))=j_:=⟨_,rfl⟩
              replace H : (if 0≤(ji65) then (if (ji65) < (t256.length : Int) then (if 0 < ((rd_L7 t256 (ji65)).length : Int) then (thresherlaw20_AggEnds.j2 kj9 (((rd_T42 t253 1).f1.f0) == ((rd_T40 (rd_L7 t256 (ji65)) 0).f0) && ((((rd_T42 t253 1).f1.f1).toList) == (((rd_T40 (rd_L7 t256 (ji65)) 0).f1).toList)))) else (none)) else (none)) else (none))=some r:=by first|(rw [hji65] at H;exact H)|(simp only [hji65] at H ⊢;exact H)
              have hji65w : (IntKind.i64.wrap ((t256.length : Int) - 1))=ji65:=(i64_w _).trans hji65
              by_cases c66 : 0≤(ji65)
              ·rw [if_pos c66] at H
               have c66b0 : decide (0≤(ji65))=true:=decide_eq_true c66
               clear c66
               by_cases c67 : (ji65) < (t256.length : Int)
               ·rw [if_pos c67] at H
                have c67b0 : decide ((ji65) < (t256.length : Int))=true:=decide_eq_true c67
                clear c67
                by_cases c68 : 0 < ((rd_L7 t256 (ji65)).length : Int)
                ·rw [if_pos c68] at H
                 have c68b0 : decide (0 < ((rd_L7 t256 (ji65)).length : Int))=true:=decide_eq_true c68
                 have c68b1 : decide (0 < (rd_L7 t256 (ji65)).length)=true:=decide_eq_true (by omega)
                 clear c68
                 have H':=Aside0.mk H
                 clear H
                 have p268 : 0≤(0 : Int):=(by omega)
                 have q268 : 0 < (t253.length : Int):=of_decide_eq_true (by first|(with_reducible assumption)|assumption)
                 obtain ⟨ad268,e268,hx268_0,hx268_1,hx268_2⟩:=at_T42 (Kd.R_reads' HO_9.out).2.2 0 p268 q268
                 (try rw [← Nbq57.out] at hx268_0)
                 (try rw [← Nbq60.out] at hx268_0)
                 cases e268
                 have qi268 : (0 < t253.length)=True:=eq_true (by omega)
                 (try rw [show ((0 : Int)).toNat=0 from rfl] at hx268_0)
                 (try rw [show 0 * 3=0 from rfl] at hx268_0)
                 (try rw [Addr.add_zero'] at hx268_0)
                 (try rw [show ((0 : Int)).toNat=0 from rfl] at hx268_1)
                 (try rw [show 0 * 3=0 from rfl] at hx268_1)
                 (try rw [Addr.add_zero'] at hx268_1)
                 (try rw [show ((0 : Int)).toNat=0 from rfl] at hx268_2)
                 (try rw [show 0 * 3=0 from rfl] at hx268_2)
                 (try rw [Addr.add_zero'] at hx268_2)
                 replace p268:=eq_true p268
                 replace q268:=eq_true q268
                 have p269 : 0≤(1 : Int):=(by omega)
                 have q269 : 1 < (t253.length : Int):=of_decide_eq_true (by first|(with_reducible assumption)|assumption)
                 obtain ⟨ad269,e269,hx269_0,hx269_1,hx269_2⟩:=at_T42 (Kd.R_reads' HO_9.out).2.2 1 p269 q269
                 (try rw [← Nbq57.out] at hx269_0)
                 (try rw [← Nbq60.out] at hx269_0)
                 obtain rfl : ad268=ad269:=(by injection e269)
                 (try simp only [show (1 : Int).toNat=1 from rfl,Nat.reduceMul,Nat.reduceEqDiff,Go.Addr.add,↓reduceIte] at hx269_0)
                 (try simp only [show (1 : Int).toNat=1 from rfl,Nat.reduceMul,Nat.reduceEqDiff,Go.Addr.add,↓reduceIte] at hx269_1)
                 (try simp only [show (1 : Int).toNat=1 from rfl,Nat.reduceMul,Nat.reduceEqDiff,Go.Addr.add,↓reduceIte] at hx269_2)
                 have qi269 : (1 < t253.length)=True:=eq_true (by omega)
                 (try rw [show ((1 : Int)).toNat=1 from rfl] at hx269_0)
                 (try rw [show 1 * 3=3 from rfl] at hx269_0)
                 (try rw [show ((1 : Int)).toNat=1 from rfl] at hx269_1)
                 (try rw [show 1 * 3=3 from rfl] at hx269_1)
                 (try rw [show ((1 : Int)).toNat=1 from rfl] at hx269_2)
                 (try rw [show 1 * 3=3 from rfl] at hx269_2)
                 replace p269:=eq_true p269
                 replace q269:=eq_true q269
                 have p270 : 0≤(0 : Int):=(by omega)
                 have q270 : 0 < (t253.length : Int):=of_decide_eq_true (by first|(with_reducible assumption)|assumption)
                 obtain ⟨ad270,e270,hx270_0,hx270_1,hx270_2⟩:=at_T42 (Kd.R_reads' HO_9.out).2.2 0 p270 q270
                 (try rw [← Nbq57.out] at hx270_0)
                 (try rw [← Nbq60.out] at hx270_0)
                 obtain rfl : ad268=ad270:=(by injection e270)
                 have qi270 : (0 < t253.length)=True:=eq_true (by omega)
                 (try rw [show ((0 : Int)).toNat=0 from rfl] at hx270_0)
                 (try rw [show 0 * 3=0 from rfl] at hx270_0)
                 (try rw [Addr.add_zero'] at hx270_0)
                 (try rw [show ((0 : Int)).toNat=0 from rfl] at hx270_1)
                 (try rw [show 0 * 3=0 from rfl] at hx270_1)
                 (try rw [Addr.add_zero'] at hx270_1)
                 (try rw [show ((0 : Int)).toNat=0 from rfl] at hx270_2)
                 (try rw [show 0 * 3=0 from rfl] at hx270_2)
                 (try rw [Addr.add_zero'] at hx270_2)
                 replace p270:=eq_true p270
                 replace q270:=eq_true q270
                 have p271 : 0≤(0 : Int):=(by omega)
                 have q271 : 0 < (t256.length : Int):=of_decide_eq_true (by first|(with_reducible assumption)|assumption)
                 obtain ⟨ad271,A271_0,c271_0,e271,hx271_0,hl271_0,hi271_0⟩:=at_L7 (Kd.N_reads' HO_10.out).2.2 0 p271 q271
                 cases e271
                 obtain ⟨ce271,hce271,hMe271,hcc271⟩:=Kd.N_get HO_10.out [] 0 p271 (by first|exact q271|exact of_decide_eq_true (by first|(with_reducible assumption)|assumption)|(have e_:=(Kd.N_reads' HO_10.out).1;omega))
                 obtain ⟨ua271_0,uc271_0,rfl,ul271_0,ge271_0⟩:=Kd.FK_slice_open hMe271
                 have hv271_0:=hcc271 0 _ rfl
                 rw [Nat.add_zero,show ((Kd.slice 40 k40)).sz=1 from rfl,Nat.mul_one] at hv271_0
                 replace hv271_0:=Option.some.inj (hv271_0.symm.trans hx271_0)
                 injection hv271_0 with hva_ hvn_ hvc_
                 rw [hva_] at ge271_0
                 rw [hvc_] at ul271_0
                 have HL271_0:=Aside0.mk (show Kd.V k40 40 _ w.heap.size _ _ (rd_L7 t256 0) from Kd.V_mk ul271_0 ge271_0)
                 clear hva_ hvn_ hvc_ ge271_0 ul271_0
                 clear hcc271 hce271
                 have qi271 : (0 < t256.length)=True:=eq_true (by omega)
                 (try rw [show ((0 : Int)).toNat=0 from rfl] at hx271_0)
                 (try rw [Addr.add_zero'] at hx271_0)
                 have HR271_0:=Aside0.mk hi271_0
                 have HC271_0:=Aside0.mk hl271_0
                 clear hi271_0 hl271_0
                 replace p271:=eq_true p271
                 replace q271:=eq_true q271
                 have p272 : 0≤(0 : Int):=(by omega)
                 have q272 : 0 < ((rd_L7 t256 0).length : Int):=of_decide_eq_true (by first|(with_reducible assumption)|assumption)
                 obtain ⟨ad272,e272,hx272_0,hx272_1⟩:=at_T40 (by repeat (first|(with_reducible exact HR271_0.out)|(with_reducible refine Kd.C_alloc ?_ _)|(with_reducible refine Kd.C_drewN ?_ _)|(with_reducible refine Kd.C_drew ?_)|exact HR271_0.out)) 0 p272 q272
                 cases e272
                 have qi272 : (0 < (rd_L7 t256 0).length)=True:=eq_true (by omega)
                 (try rw [show ((0 : Int)).toNat=0 from rfl] at hx272_0)
                 (try rw [show 0 * 2=0 from rfl] at hx272_0)
                 (try rw [Addr.add_zero'] at hx272_0)
                 (try rw [show ((0 : Int)).toNat=0 from rfl] at hx272_1)
                 (try rw [show 0 * 2=0 from rfl] at hx272_1)
                 (try rw [Addr.add_zero'] at hx272_1)
                 replace p272:=eq_true p272
                 replace q272:=eq_true q272
                 have p273 : 0≤(1 : Int):=(by omega)
                 have q273 : 1 < (t253.length : Int):=of_decide_eq_true (by first|(with_reducible assumption)|assumption)
                 obtain ⟨ad273,e273,hx273_0,hx273_1,hx273_2⟩:=at_T42 (Kd.R_reads' HO_9.out).2.2 1 p273 q273
                 (try rw [← Nbq57.out] at hx273_0)
                 (try rw [← Nbq60.out] at hx273_0)
                 obtain rfl : ad268=ad273:=(by injection e273)
                 (try simp only [show (1 : Int).toNat=1 from rfl,Nat.reduceMul,Nat.reduceEqDiff,Go.Addr.add,↓reduceIte] at hx273_0)
                 (try simp only [show (1 : Int).toNat=1 from rfl,Nat.reduceMul,Nat.reduceEqDiff,Go.Addr.add,↓reduceIte] at hx273_1)
                 (try simp only [show (1 : Int).toNat=1 from rfl,Nat.reduceMul,Nat.reduceEqDiff,Go.Addr.add,↓reduceIte] at hx273_2)
                 have qi273 : (1 < t253.length)=True:=eq_true (by omega)
                 (try rw [show ((1 : Int)).toNat=1 from rfl] at hx273_0)
                 (try rw [show 1 * 3=3 from rfl] at hx273_0)
                 (try rw [show ((1 : Int)).toNat=1 from rfl] at hx273_1)
                 (try rw [show 1 * 3=3 from rfl] at hx273_1)
                 (try rw [show ((1 : Int)).toNat=1 from rfl] at hx273_2)
                 (try rw [show 1 * 3=3 from rfl] at hx273_2)
                 replace p273:=eq_true p273
                 replace q273:=eq_true q273
                 have p274 : 0≤((ji65) : Int):=of_decide_eq_true (by first|(with_reducible assumption)|assumption)
                 have q274 : (ji65) < (t256.length : Int):=of_decide_eq_true (by first|(with_reducible assumption)|assumption)
                 obtain ⟨ad274,A274_0,c274_0,e274,hx274_0,hl274_0,hi274_0⟩:=at_L7 (Kd.N_reads' HO_10.out).2.2 (ji65) p274 q274
                 obtain rfl : ad271=ad274:=(by injection e274)
                 obtain ⟨ce274,hce274,hMe274,hcc274⟩:=Kd.N_get HO_10.out [] (ji65) p274 (by first|exact q274|exact of_decide_eq_true (by first|(with_reducible assumption)|assumption)|(have e_:=(Kd.N_reads' HO_10.out).1;omega))
                 obtain ⟨ua274_0,uc274_0,rfl,ul274_0,ge274_0⟩:=Kd.FK_slice_open hMe274
                 have hv274_0:=hcc274 0 _ rfl
                 rw [Nat.add_zero,show ((Kd.slice 40 k40)).sz=1 from rfl,Nat.mul_one] at hv274_0
                 replace hv274_0:=Option.some.inj (hv274_0.symm.trans hx274_0)
                 injection hv274_0 with hva_ hvn_ hvc_
                 rw [hva_] at ge274_0
                 rw [hvc_] at ul274_0
                 have HL274_0:=Aside0.mk (show Kd.V k40 40 _ w.heap.size _ _ (rd_L7 t256 (ji65)) from Kd.V_mk ul274_0 ge274_0)
                 clear hva_ hvn_ hvc_ ge274_0 ul274_0
                 clear hcc274 hce274
                 have HR274_0:=Aside0.mk hi274_0
                 have HC274_0:=Aside0.mk hl274_0
                 clear hi274_0 hl274_0
                 replace p274:=eq_true p274
                 replace q274:=eq_true q274
                 have p275 : 0≤(0 : Int):=(by omega)
                 have q275 : 0 < ((rd_L7 t256 (ji65)).length : Int):=of_decide_eq_true (by first|(with_reducible assumption)|assumption)
                 obtain ⟨ad275,e275,hx275_0,hx275_1⟩:=at_T40 (by repeat (first|(with_reducible exact HR274_0.out)|(with_reducible refine Kd.C_alloc ?_ _)|(with_reducible refine Kd.C_drewN ?_ _)|(with_reducible refine Kd.C_drew ?_)|exact HR274_0.out)) 0 p275 q275
                 cases e275
                 have qi275 : (0 < (rd_L7 t256 (ji65)).length)=True:=eq_true (by omega)
                 (try rw [show ((0 : Int)).toNat=0 from rfl] at hx275_0)
                 (try rw [show 0 * 2=0 from rfl] at hx275_0)
                 (try rw [Addr.add_zero'] at hx275_0)
                 (try rw [show ((0 : Int)).toNat=0 from rfl] at hx275_1)
                 (try rw [show 0 * 2=0 from rfl] at hx275_1)
                 (try rw [Addr.add_zero'] at hx275_1)
                 replace p275:=eq_true p275
                 replace q275:=eq_true q275
                 go_wp2
                 repeat (go_quiet (fail);try go_wp2)
                 go_meet
                 case rel=>exact ⟨_,((((rd_T42 t253 1).f1.f0) == ((rd_T40 (rd_L7 t256 (ji65)) 0).f0) && ((((rd_T42 t253 1).f1.f1).toList) == (((rd_T40 (rd_L7 t256 (ji65)) 0).f1).toList)))),(by first|rfl|(simp;done)|(simp only [← hji65] <;> (first|rfl|simp))|(simp [*];done)),(by first|exact H'|(subst_vars;exact H')),⟨by have:=HJ9.out;first|omega|exact Nat.le_refl _⟩,⟨by (with_reducible repeat (first|apply Kd.R_alloc|apply Kd.R_drewN|apply Kd.R_drew));exact HO_247000.out⟩,⟨by (with_reducible repeat (first|refine blk_drewN ?_ _|refine blk_drew ?_|refine blk_alloc ?_ _));exact BK238.out⟩,⟨by (with_reducible repeat (first|refine blk_drewN ?_ _|refine blk_drew ?_|refine blk_alloc ?_ _));exact BK246.out⟩,⟨by repeat (first|(with_reducible first|exact HB.out|apply below_alloc|apply pw_below_drewN|apply below_drew1|refine below_set ?_ GE238.out|refine below_set ?_ GE246.out)|exact HB.out)⟩⟩
                ·rw [if_neg c68] at H
                 exact absurd H (by simp)
               ·rw [if_neg c67] at H
                exact absurd H (by simp)
              ·rw [if_neg c66] at H
               exact absurd H (by simp)
             ·rw [if_neg c64] at H
              have c64b0 : (((rd_T42 t253 0).f1.f0) == ((rd_T40 (rd_L7 t256 0) 0).f0) && ((((rd_T42 t253 0).f1.f1).toList) == (((rd_T40 (rd_L7 t256 0) 0).f1).toList)))=false:=by simpa using c64
              (try (have c64b1 : decide (((rd_T42 t253 0).f1.f0)=((rd_T40 (rd_L7 t256 0) 0).f0) && ((((rd_T42 t253 0).f1.f1).toList) == (((rd_T40 (rd_L7 t256 0) 0).f1).toList)))=false:=by simpa using c64))
              (try (have c64b2 : (((rd_T42 t253 0).f1.f0) == ((rd_T40 (rd_L7 t256 0) 0).f0) && ((((rd_T42 t253 0).f1.f1).toList) == (((rd_T40 (rd_L7 t256 0) 0).f1).toList)))=false:=by simpa using c64))
              (try (have c64b3 : ¬ (((rd_T42 t253 0).f1.f0)=((rd_T40 (rd_L7 t256 0) 0).f0) && ((((rd_T42 t253 0).f1.f1).toList) == (((rd_T40 (rd_L7 t256 0) 0).f1).toList))):=by simpa using c64))
              clear c64
              have H':=Aside0.mk H
              clear H
              have p268 : 0≤(0 : Int):=(by omega)
              have q268 : 0 < (t253.length : Int):=of_decide_eq_true (by first|(with_reducible assumption)|assumption)
              obtain ⟨ad268,e268,hx268_0,hx268_1,hx268_2⟩:=at_T42 (Kd.R_reads' HO_9.out).2.2 0 p268 q268
              (try rw [← Nbq57.out] at hx268_0)
              (try rw [← Nbq60.out] at hx268_0)
              cases e268
              have qi268 : (0 < t253.length)=True:=eq_true (by omega)
              (try rw [show ((0 : Int)).toNat=0 from rfl] at hx268_0)
              (try rw [show 0 * 3=0 from rfl] at hx268_0)
              (try rw [Addr.add_zero'] at hx268_0)
              (try rw [show ((0 : Int)).toNat=0 from rfl] at hx268_1)
              (try rw [show 0 * 3=0 from rfl] at hx268_1)
              (try rw [Addr.add_zero'] at hx268_1)
              (try rw [show ((0 : Int)).toNat=0 from rfl] at hx268_2)
              (try rw [show 0 * 3=0 from rfl] at hx268_2)
              (try rw [Addr.add_zero'] at hx268_2)
              replace p268:=eq_true p268
              replace q268:=eq_true q268
              have p269 : 0≤(1 : Int):=(by omega)
              have q269 : 1 < (t253.length : Int):=of_decide_eq_true (by first|(with_reducible assumption)|assumption)
              obtain ⟨ad269,e269,hx269_0,hx269_1,hx269_2⟩:=at_T42 (Kd.R_reads' HO_9.out).2.2 1 p269 q269
              (try rw [← Nbq57.out] at hx269_0)
              (try rw [← Nbq60.out] at hx269_0)
              obtain rfl : ad268=ad269:=(by injection e269)
              (try simp only [show (1 : Int).toNat=1 from rfl,Nat.reduceMul,Nat.reduceEqDiff,Go.Addr.add,↓reduceIte] at hx269_0)
              (try simp only [show (1 : Int).toNat=1 from rfl,Nat.reduceMul,Nat.reduceEqDiff,Go.Addr.add,↓reduceIte] at hx269_1)
              (try simp only [show (1 : Int).toNat=1 from rfl,Nat.reduceMul,Nat.reduceEqDiff,Go.Addr.add,↓reduceIte] at hx269_2)
              have qi269 : (1 < t253.length)=True:=eq_true (by omega)
              (try rw [show ((1 : Int)).toNat=1 from rfl] at hx269_0)
              (try rw [show 1 * 3=3 from rfl] at hx269_0)
              (try rw [show ((1 : Int)).toNat=1 from rfl] at hx269_1)
              (try rw [show 1 * 3=3 from rfl] at hx269_1)
              (try rw [show ((1 : Int)).toNat=1 from rfl] at hx269_2)
              (try rw [show 1 * 3=3 from rfl] at hx269_2)
              replace p269:=eq_true p269
              replace q269:=eq_true q269
              have p270 : 0≤(0 : Int):=(by omega)
              have q270 : 0 < (t253.length : Int):=of_decide_eq_true (by first|(with_reducible assumption)|assumption)
              obtain ⟨ad270,e270,hx270_0,hx270_1,hx270_2⟩:=at_T42 (Kd.R_reads' HO_9.out).2.2 0 p270 q270
              (try rw [← Nbq57.out] at hx270_0)
              (try rw [← Nbq60.out] at hx270_0)
              obtain rfl : ad268=ad270:=(by injection e270)
              have qi270 : (0 < t253.length)=True:=eq_true (by omega)
              (try rw [show ((0 : Int)).toNat=0 from rfl] at hx270_0)
              (try rw [show 0 * 3=0 from rfl] at hx270_0)
              (try rw [Addr.add_zero'] at hx270_0)
              (try rw [show ((0 : Int)).toNat=0 from rfl] at hx270_1)
              (try rw [show 0 * 3=0 from rfl] at hx270_1)
              (try rw [Addr.add_zero'] at hx270_1)
              (try rw [show ((0 : Int)).toNat=0 from rfl] at hx270_2)
              (try rw [show 0 * 3=0 from rfl] at hx270_2)
              (try rw [Addr.add_zero'] at hx270_2)
              replace p270:=eq_true p270
              replace q270:=eq_true q270
              have p271 : 0≤(0 : Int):=(by omega)
              have q271 : 0 < (t256.length : Int):=of_decide_eq_true (by first|(with_reducible assumption)|assumption)
              obtain ⟨ad271,A271_0,c271_0,e271,hx271_0,hl271_0,hi271_0⟩:=at_L7 (Kd.N_reads' HO_10.out).2.2 0 p271 q271
              cases e271
              obtain ⟨ce271,hce271,hMe271,hcc271⟩:=Kd.N_get HO_10.out [] 0 p271 (by first|exact q271|exact of_decide_eq_true (by first|(with_reducible assumption)|assumption)|(have e_:=(Kd.N_reads' HO_10.out).1;omega))
              obtain ⟨ua271_0,uc271_0,rfl,ul271_0,ge271_0⟩:=Kd.FK_slice_open hMe271
              have hv271_0:=hcc271 0 _ rfl
              rw [Nat.add_zero,show ((Kd.slice 40 k40)).sz=1 from rfl,Nat.mul_one] at hv271_0
              replace hv271_0:=Option.some.inj (hv271_0.symm.trans hx271_0)
              injection hv271_0 with hva_ hvn_ hvc_
              rw [hva_] at ge271_0
              rw [hvc_] at ul271_0
              have HL271_0:=Aside0.mk (show Kd.V k40 40 _ w.heap.size _ _ (rd_L7 t256 0) from Kd.V_mk ul271_0 ge271_0)
              clear hva_ hvn_ hvc_ ge271_0 ul271_0
              clear hcc271 hce271
              have qi271 : (0 < t256.length)=True:=eq_true (by omega)
              (try rw [show ((0 : Int)).toNat=0 from rfl] at hx271_0)
              (try rw [Addr.add_zero'] at hx271_0)
              have HR271_0:=Aside0.mk hi271_0
              have HC271_0:=Aside0.mk hl271_0
              clear hi271_0 hl271_0
              replace p271:=eq_true p271
              replace q271:=eq_true q271
              have p272 : 0≤(0 : Int):=(by omega)
              have q272 : 0 < ((rd_L7 t256 0).length : Int):=of_decide_eq_true (by first|(with_reducible assumption)|assumption)
              obtain ⟨ad272,e272,hx272_0,hx272_1⟩:=at_T40 (by repeat (first|(with_reducible exact HR271_0.out)|(with_reducible refine Kd.C_alloc ?_ _)|(with_reducible refine Kd.C_drewN ?_ _)|(with_reducible refine Kd.C_drew ?_)|exact HR271_0.out)) 0 p272 q272
              cases e272
              have qi272 : (0 < (rd_L7 t256 0).length)=True:=eq_true (by omega)
              (try rw [show ((0 : Int)).toNat=0 from rfl] at hx272_0)
              (try rw [show 0 * 2=0 from rfl] at hx272_0)
              (try rw [Addr.add_zero'] at hx272_0)
              (try rw [show ((0 : Int)).toNat=0 from rfl] at hx272_1)
              (try rw [show 0 * 2=0 from rfl] at hx272_1)
              (try rw [Addr.add_zero'] at hx272_1)
              replace p272:=eq_true p272
              replace q272:=eq_true q272
              go_wp2
              repeat (go_quiet (fail);try go_wp2)
              go_meet
              case rel=>exact ⟨_,(false),(by first|rfl|(simp;done)|(simp [*];done)),(by first|exact H'|(subst_vars;exact H')),⟨by have:=HJ9.out;first|omega|exact Nat.le_refl _⟩,⟨by (with_reducible repeat (first|apply Kd.R_alloc|apply Kd.R_drewN|apply Kd.R_drew));exact HO_247000.out⟩,⟨by (with_reducible repeat (first|refine blk_drewN ?_ _|refine blk_drew ?_|refine blk_alloc ?_ _));exact BK238.out⟩,⟨by (with_reducible repeat (first|refine blk_drewN ?_ _|refine blk_drew ?_|refine blk_alloc ?_ _));exact BK246.out⟩,⟨by repeat (first|(with_reducible first|exact HB.out|apply below_alloc|apply pw_below_drewN|apply below_drew1|refine below_set ?_ GE238.out|refine below_set ?_ GE246.out)|exact HB.out)⟩⟩
            ·rw [if_neg c63] at H
             exact absurd H (by simp)
           ·rw [if_neg c62] at H
            exact absurd H (by simp)
          ·replace c61:=Bool.eq_false_iff.mpr c61
           subst c61
           have H1 : (thresherlaw20_AggEnds.j2 kj9 false)=some r:=by rw [if_neg (show ¬ (false=true) by decide)] at H;exact H
           clear H
           have H:=H1
           clear H1
           have H':=Aside0.mk H
           clear H
           have p268 : 0≤(0 : Int):=(by omega)
           have q268 : 0 < (t253.length : Int):=of_decide_eq_true (by first|(with_reducible assumption)|assumption)
           obtain ⟨ad268,e268,hx268_0,hx268_1,hx268_2⟩:=at_T42 (Kd.R_reads' HO_9.out).2.2 0 p268 q268
           (try rw [← Nbq57.out] at hx268_0)
           (try rw [← Nbq60.out] at hx268_0)
           cases e268
           have qi268 : (0 < t253.length)=True:=eq_true (by omega)
           (try rw [show ((0 : Int)).toNat=0 from rfl] at hx268_0)
           (try rw [show 0 * 3=0 from rfl] at hx268_0)
           (try rw [Addr.add_zero'] at hx268_0)
           (try rw [show ((0 : Int)).toNat=0 from rfl] at hx268_1)
           (try rw [show 0 * 3=0 from rfl] at hx268_1)
           (try rw [Addr.add_zero'] at hx268_1)
           (try rw [show ((0 : Int)).toNat=0 from rfl] at hx268_2)
           (try rw [show 0 * 3=0 from rfl] at hx268_2)
           (try rw [Addr.add_zero'] at hx268_2)
           replace p268:=eq_true p268
           replace q268:=eq_true q268
           have p269 : 0≤(1 : Int):=(by omega)
           have q269 : 1 < (t253.length : Int):=of_decide_eq_true (by first|(with_reducible assumption)|assumption)
           obtain ⟨ad269,e269,hx269_0,hx269_1,hx269_2⟩:=at_T42 (Kd.R_reads' HO_9.out).2.2 1 p269 q269
           (try rw [← Nbq57.out] at hx269_0)
           (try rw [← Nbq60.out] at hx269_0)
           obtain rfl : ad268=ad269:=(by injection e269)
           (try simp only [show (1 : Int).toNat=1 from rfl,Nat.reduceMul,Nat.reduceEqDiff,Go.Addr.add,↓reduceIte] at hx269_0)
           (try simp only [show (1 : Int).toNat=1 from rfl,Nat.reduceMul,Nat.reduceEqDiff,Go.Addr.add,↓reduceIte] at hx269_1)
           (try simp only [show (1 : Int).toNat=1 from rfl,Nat.reduceMul,Nat.reduceEqDiff,Go.Addr.add,↓reduceIte] at hx269_2)
           have qi269 : (1 < t253.length)=True:=eq_true (by omega)
           (try rw [show ((1 : Int)).toNat=1 from rfl] at hx269_0)
           (try rw [show 1 * 3=3 from rfl] at hx269_0)
           (try rw [show ((1 : Int)).toNat=1 from rfl] at hx269_1)
           (try rw [show 1 * 3=3 from rfl] at hx269_1)
           (try rw [show ((1 : Int)).toNat=1 from rfl] at hx269_2)
           (try rw [show 1 * 3=3 from rfl] at hx269_2)
           replace p269:=eq_true p269
           replace q269:=eq_true q269
           go_wp2
           repeat (go_quiet (fail);try go_wp2)
           go_meet
           case rel=>exact ⟨_,(false),(by first|rfl|(simp;done)|(simp [*];done)),(by first|exact H'|(subst_vars;exact H')),⟨by have:=HJ9.out;first|omega|exact Nat.le_refl _⟩,⟨by (with_reducible repeat (first|apply Kd.R_alloc|apply Kd.R_drewN|apply Kd.R_drew));exact HO_247000.out⟩,⟨by (with_reducible repeat (first|refine blk_drewN ?_ _|refine blk_drew ?_|refine blk_alloc ?_ _));exact BK238.out⟩,⟨by (with_reducible repeat (first|refine blk_drewN ?_ _|refine blk_drew ?_|refine blk_alloc ?_ _));exact BK246.out⟩,⟨by repeat (first|(with_reducible first|exact HB.out|apply below_alloc|apply pw_below_drewN|apply below_drew1|refine below_set ?_ GE238.out|refine below_set ?_ GE246.out)|exact HB.out)⟩⟩
         ·rw [if_neg c59] at H
          exact absurd H (by simp)
        ·replace c58:=Bool.eq_false_iff.mpr c58
         subst c58
         have H1 : (thresherlaw20_AggEnds.j2 kj9 false)=some r:=by rw [if_neg (show ¬ (false=true) by decide)] at H;exact H
         clear H
         have H:=H1
         clear H1
         have H':=Aside0.mk H
         clear H
         have p268 : 0≤(0 : Int):=(by omega)
         have q268 : 0 < (t253.length : Int):=of_decide_eq_true (by first|(with_reducible assumption)|assumption)
         obtain ⟨ad268,e268,hx268_0,hx268_1,hx268_2⟩:=at_T42 (Kd.R_reads' HO_9.out).2.2 0 p268 q268
         (try rw [← Nbq57.out] at hx268_0)
         cases e268
         have qi268 : (0 < t253.length)=True:=eq_true (by omega)
         (try rw [show ((0 : Int)).toNat=0 from rfl] at hx268_0)
         (try rw [show 0 * 3=0 from rfl] at hx268_0)
         (try rw [Addr.add_zero'] at hx268_0)
         (try rw [show ((0 : Int)).toNat=0 from rfl] at hx268_1)
         (try rw [show 0 * 3=0 from rfl] at hx268_1)
         (try rw [Addr.add_zero'] at hx268_1)
         (try rw [show ((0 : Int)).toNat=0 from rfl] at hx268_2)
         (try rw [show 0 * 3=0 from rfl] at hx268_2)
         (try rw [Addr.add_zero'] at hx268_2)
         replace p268:=eq_true p268
         replace q268:=eq_true q268
         go_wp2
         repeat (go_quiet (fail);try go_wp2)
         go_meet
         case rel=>exact ⟨_,(false),(by first|rfl|(simp;done)|(simp [*];done)),(by first|exact H'|(subst_vars;exact H')),⟨by have:=HJ9.out;first|omega|exact Nat.le_refl _⟩,⟨by (with_reducible repeat (first|apply Kd.R_alloc|apply Kd.R_drewN|apply Kd.R_drew));exact HO_247000.out⟩,⟨by (with_reducible repeat (first|refine blk_drewN ?_ _|refine blk_drew ?_|refine blk_alloc ?_ _));exact BK238.out⟩,⟨by (with_reducible repeat (first|refine blk_drewN ?_ _|refine blk_drew ?_|refine blk_alloc ?_ _));exact BK246.out⟩,⟨by repeat (first|(with_reducible first|exact HB.out|apply below_alloc|apply pw_below_drewN|apply below_drew1|refine below_set ?_ GE238.out|refine below_set ?_ GE246.out)|exact HB.out)⟩⟩
       ·rw [if_neg c56] at H
        exact absurd H (by simp)
      ·replace c55:=Bool.eq_false_iff.mpr c55
       subst c55
       have H1 : (thresherlaw20_AggEnds.j2 kj9 false)=some r:=by rw [if_neg (show ¬ (false=true) by decide)] at H;exact H
       clear H
       have H:=H1
       clear H1
       have H':=Aside0.mk H
       clear H
       go_wp2
       repeat (go_quiet (fail);try go_wp2)
       go_meet
       case rel=>exact ⟨_,(false),(by first|rfl|(simp;done)|(simp [*];done)),(by first|exact H'|(subst_vars;exact H')),⟨by have:=HJ9.out;first|omega|exact Nat.le_refl _⟩,⟨by (with_reducible repeat (first|apply Kd.R_alloc|apply Kd.R_drewN|apply Kd.R_drew));exact HO_247000.out⟩,⟨by (with_reducible repeat (first|refine blk_drewN ?_ _|refine blk_drew ?_|refine blk_alloc ?_ _));exact BK238.out⟩,⟨by (with_reducible repeat (first|refine blk_drewN ?_ _|refine blk_drew ?_|refine blk_alloc ?_ _));exact BK246.out⟩,⟨by repeat (first|(with_reducible first|exact HB.out|apply below_alloc|apply pw_below_drewN|apply below_drew1|refine below_set ?_ GE238.out|refine below_set ?_ GE246.out)|exact HB.out)⟩⟩
     case rest =>
      clear HC54
      try clear c1
      try clear c2
      try clear p2
      try clear q2
      try clear hx2
      try clear qi2
      try clear c3
      try clear c4
      try clear c5
      try clear q5
      try clear c6
      try clear p6
      try clear q6
      try clear c17
      try clear p26
      try clear q26
      try clear hx26
      try clear qi26
      try clear c27
      try clear p27
      try clear q27
      try clear hx27
      try clear qi27
      try clear c33
      try clear c34
      try clear c34b0
      try clear c34b1
      try clear c35
      try clear c35b0
      try clear c35b1
      try clear c36
      try clear c36b0
      try clear c36b1
      try clear c37
      try clear c38
      try clear c38b0
      try clear c38b1
      try clear c38b2
      try clear c41
      try clear c42
      try clear c44
      try clear c45
      try clear c45b0
      try clear c45b1
      try clear c46
      try clear c46b0
      try clear c47
      try clear c47b0
      try clear c47b1
      try clear c48
      try clear c49
      try clear c51
      try clear c52
      try clear c55
      try clear c56
      try clear c56b0
      try clear c56b1
      try clear q57
      try clear c58
      try clear c59
      try clear c59b0
      try clear c59b1
      try clear q60
      try clear c61
      try clear c62
      try clear c62b0
      try clear c62b1
      try clear c63
      try clear c63b0
      try clear c63b1
      try clear c64
      try clear c64b0
      try clear c64b1
      try clear c64b2
      try clear p64
      try clear c66
      try clear c66b0
      try clear c67
      try clear c67b0
      try clear c68
      try clear c68b0
      try clear c68b1
      try clear hcz13_0
      try clear hcz13_1
      try clear hcz13_10
      try clear hcz13_11
      try clear hcz13_2
      try clear hcz13_3
      try clear hcz13_4
      try clear hcz13_5
      try clear hcz13_6
      try clear hcz13_7
      try clear hcz13_8
      try clear hcz13_9
      try clear hcz18_0
      try clear hcz18_1
      try clear hcz18_2
      try clear hcz18_3
      try clear hcz22_0
      try clear hcz22_1
      try clear hcz22_2
      try clear hcz22_3
      try clear hcz26_0
      try clear hcz26_1
      try clear hcz26_2
      try clear hcz26_3
      try clear hcz28_0
      try clear hcz28_1
      try clear hcz28_2
      try clear hcz28_3
      try clear hcz43_0
      try clear hcz43_1
      try clear hcz43_2
      try clear hcz50_0
      try clear hcz50_1
      try clear hcz50_2
      try clear hcz53_0
      try clear hcz53_1
      try clear hcz53_2
      try clear hfz13_0
      try clear hfz13_1
      try clear hfz13_10
      try clear hfz13_11
      try clear hfz13_2
      try clear hfz13_3
      try clear hfz13_4
      try clear hfz13_5
      try clear hfz13_6
      try clear hfz13_7
      try clear hfz13_8
      try clear hfz13_9
      try clear hfz18_0
      try clear hfz18_1
      try clear hfz18_2
      try clear hfz18_3
      try clear hfz22_0
      try clear hfz22_1
      try clear hfz22_2
      try clear hfz22_3
      try clear hfz26_0
      try clear hfz26_1
      try clear hfz26_2
      try clear hfz26_3
      try clear hfz28_0
      try clear hfz28_1
      try clear hfz28_2
      try clear hfz28_3
      try clear hfz43_0
      try clear hfz43_1
      try clear hfz43_2
      try clear hfz50_0
      try clear hfz50_1
      try clear hfz50_2
      try clear hfz53_0
      try clear hfz53_1
      try clear hfz53_2
      try clear hx263_0
      try clear hx263_1
      try clear hx263_2
      try clear hx264_0
      try clear hx264_1
      try clear hx264_2
      try clear hx266_0
      try clear hx266_1
      try clear hx266_2
      try clear hx267_0
      try clear hx267_1
      try clear hx267_2
      try clear hx268_0
      try clear hx268_1
      try clear hx268_2
      try clear hx269_0
      try clear hx269_1
      try clear hx269_2
      try clear hx270_0
      try clear hx270_1
      try clear hx270_2
      try clear hx271_0
      try clear hx272_0
      try clear hx272_1
      try clear hx273_0
      try clear hx273_1
      try clear hx273_2
      try clear hx274_0
      try clear hx275_0
      try clear hx275_1
      try clear p2
      try clear p26
      try clear p263
      try clear p264
      try clear p266
      try clear p267
      try clear p268
      try clear p269
      try clear p270
      try clear p271
      try clear p272
      try clear p273
      try clear p274
      try clear p275
      try clear p6
      try clear q2
      try clear q26
      try clear q263
      try clear q264
      try clear q266
      try clear q267
      try clear q268
      try clear q269
      try clear q270
      try clear q271
      try clear q272
      try clear q273
      try clear q274
      try clear q275
      obtain ⟨kq,x4_53,rfl,HA,HJ53,HO_247000,BK238,BK246,HB⟩:=hcut
      cases kq with
      | zero=>exact absurd HA.out (by simp [thresherlaw20_AggEnds.j2])
      | succ kj53 =>
       have H:=HA.out
       clear HA
       simp only [thresherlaw20_AggEnds.j2] at H
       obtain rfl:=Option.some.inj H
       go_wp2
       repeat (go_quiet (fail);try go_wp2)
       go_ret
       exact ⟨by first|rfl|(simp [errW_none,errW_some] <;> rfl)|(simp [*,errW_none,errW_some] <;> rfl),by repeat (first|(with_reducible first|exact HB.out|apply below_alloc|apply pw_below_drewN|apply below_drew1|refine below_set ?_ GE238.out|refine below_set ?_ GE246.out)|exact HB.out)⟩
end Go.Proofs.Ytapaldcdoahfeaa.P

