/- Texts of FilterMay. Merged: Px6. -/
import Derived.Test.YtbkpifcjgedjaaaQFilterMayPx0
namespace Go.Proofs.Ytbkpifcjgedjaaa.P
open Go.RowKit Go.Proofs.YtbkpifcjgedjaaaW.PrintWords Go.Proofs.YtbkpifcjgedjaaaW.PrintLast Go.Proofs.YtbkpifcjgedjaaaW.PrintMore
attribute [local go_sem] max2_int min2_int max_two min_two max_three min_three max_four min_four   -- for this text's walks alone
set_option linter.unusedVariables false
set_option linter.unusedSimpArgs false
mutual
def thresherref19_Fit.l0 : Nat→List (S39)→Int→List (S39)→Int→List Int→Int→Int→Int→Option ((List (S39)))
 | 0,_,_,_,_,_,_,_,_=>none
 | k + 1,x1,x2,x7,x8,x151000,x151001,x151002,x151003=>if x8 < (x1.length : Int) then (thresherref19_Fit.j1 k x1 x2 x7 x8 (decide (x8 < x2)) x151000 x151001 x151002 x151003) else (thresherref19_Fit.j1 k x1 x2 x7 x8 false x151000 x151001 x151002 x151003)
def thresherref19_Fit.j1 : Nat→List (S39)→Int→List (S39)→Int→Bool→List Int→Int→Int→Int→Option ((List (S39)))
 | 0,_,_,_,_,_,_,_,_,_=>none
 | k + 1,x1,x2,x7,x8,x22,x151000,x151001,x151002,x151003=>if x22=true then (if 0≤x8 then (if x8 < (x1.length : Int) then (if (x151000.length : Int)=0 then (none) else (if (Int.tmod ((rd_T39 x1 x8).f0) (x151000.length : Int)) < 0 then (thresherref19_Fit.j2 k x1 x2 x7 x8 (wrap64 ((Int.tmod ((rd_T39 x1 x8).f0) (x151000.length : Int)) + (x151000.length : Int))) x151000 x151001 x151002 x151003) else (thresherref19_Fit.j2 k x1 x2 x7 x8 (Int.tmod ((rd_T39 x1 x8).f0) (x151000.length : Int)) x151000 x151001 x151002 x151003))) else (none)) else (none)) else (some x7)
def thresherref19_Fit.j2 : Nat→List (S39)→Int→List (S39)→Int→Int→List Int→Int→Int→Int→Option ((List (S39)))
 | 0,_,_,_,_,_,_,_,_,_=>none
 | k + 1,x1,x2,x7,x8,x9,x151000,x151001,x151002,x151003=>if 0≤x8 then (if x8 < (x1.length : Int) then (if (Int.tmod ((rd_T39 x1 x8).f1) 7) < 0 then (thresherref19_Fit.j3 k x1 x2 x7 x8 x9 (wrap64 ((Int.tmod ((rd_T39 x1 x8).f1) 7) + 7)) x151000 x151001 x151002 x151003) else (thresherref19_Fit.j3 k x1 x2 x7 x8 x9 (Int.tmod ((rd_T39 x1 x8).f1) 7) x151000 x151001 x151002 x151003)) else (none)) else (none)
def thresherref19_Fit.j3 : Nat→List (S39)→Int→List (S39)→Int→Int→Int→List Int→Int→Int→Int→Option ((List (S39)))
 | 0,_,_,_,_,_,_,_,_,_,_=>none
 | k + 1,x1,x2,x7,x8,x9,x10,x151000,x151001,x151002,x151003=>if 0≤x8 then (if x8 < (x1.length : Int) then (if 0≤x9 then (if x9 < (x151000.length : Int) then (if (rd x151000 x9)=3 then (if 0≤(mn (((rd_T39 x1 x8).f2.f1).size : Int) 60) then (if (mn (((rd_T39 x1 x8).f2.f1).size : Int) 60)≤(((rd_T39 x1 x8).f2.f1).size : Int) then (thresherref19_Fit.j5 k x1 x2 x7 x8 x151000 x151001 x151002 x151003 x9 (wrap64 (1 + x10)) 0 (((rd_T39 x1 x8).f2.f1).extract 0 ((mn (((rd_T39 x1 x8).f2.f1).size : Int) 60) : Int).toNat)) else (none)) else (none)) else (if (wrap64 (1 + x10))=7 then (thresherref19_Fit.j4 k x1 x2 x7 x8 x151000 x151001 x151002 x151003 x9 1 ((rd_T39 x1 x8).f2.f0) (⟨#[]⟩ : ByteArray)) else (thresherref19_Fit.j4 k x1 x2 x7 x8 x151000 x151001 x151002 x151003 x9 (wrap64 (1 + x10)) ((rd_T39 x1 x8).f2.f0) (⟨#[]⟩ : ByteArray)))) else (none)) else (none)) else (none)) else (none)
def thresherref19_Fit.j5 : Nat→List (S39)→Int→List (S39)→Int→List Int→Int→Int→Int→Int→Int→Int→ByteArray→Option ((List (S39)))
 | 0,_,_,_,_,_,_,_,_,_,_,_,_=>none
 | k + 1,x1,x2,x7,x8,x151000,x151001,x151002,x151003,x158000,x158001,x158002,x158003=>if x7.length < 3518437208883 then (thresherref19_Fit.l0 k x1 x2 (x7 ++ [(⟨x158000,x158001,(⟨x158002,x158003⟩ : S37)⟩ : S39)]) (wrap64 (x8 + 1)) x151000 x151001 x151002 x151003) else (none)
def thresherref19_Fit.j4 : Nat→List (S39)→Int→List (S39)→Int→List Int→Int→Int→Int→Int→Int→Int→ByteArray→Option ((List (S39)))
 | 0,_,_,_,_,_,_,_,_,_,_,_,_=>none
 | k + 1,x1,x2,x7,x8,x151000,x151001,x151002,x151003,x158000,x158001,x158002,x158003=>thresherref19_Fit.j5 k x1 x2 x7 x8 x151000 x151001 x151002 x151003 x158000 x158001 x158002 x158003
end
def thresherref19_Fit.f (k : Nat) (l0_0 : List Int) (a0_1 : Int) (a0_2 : Int) (a0_3 : Int) (l1 : List (S39)) (a2 : Int) : Option ((List (S39))):=thresherref19_Fit.l0 k l1 a2 (([] : List (S39))) 0 l0_0 a0_1 a0_2 a0_3
theorem thresherref19_Fit.mono_l : ∀ k,(∀ y0 y1 y2 y3 y4 y5 y6 y7,LeO (thresherref19_Fit.l0 k y0 y1 y2 y3 y4 y5 y6 y7) (thresherref19_Fit.l0 (k + 1) y0 y1 y2 y3 y4 y5 y6 y7))∧(∀ y0 y1 y2 y3 y4 y5 y6 y7 y8,LeO (thresherref19_Fit.j1 k y0 y1 y2 y3 y4 y5 y6 y7 y8) (thresherref19_Fit.j1 (k + 1) y0 y1 y2 y3 y4 y5 y6 y7 y8))∧(∀ y0 y1 y2 y3 y4 y5 y6 y7 y8,LeO (thresherref19_Fit.j2 k y0 y1 y2 y3 y4 y5 y6 y7 y8) (thresherref19_Fit.j2 (k + 1) y0 y1 y2 y3 y4 y5 y6 y7 y8))∧(∀ y0 y1 y2 y3 y4 y5 y6 y7 y8 y9,LeO (thresherref19_Fit.j3 k y0 y1 y2 y3 y4 y5 y6 y7 y8 y9) (thresherref19_Fit.j3 (k + 1) y0 y1 y2 y3 y4 y5 y6 y7 y8 y9))∧(∀ y0 y1 y2 y3 y4 y5 y6 y7 y8 y9 y10 y11,LeO (thresherref19_Fit.j5 k y0 y1 y2 y3 y4 y5 y6 y7 y8 y9 y10 y11) (thresherref19_Fit.j5 (k + 1) y0 y1 y2 y3 y4 y5 y6 y7 y8 y9 y10 y11))∧(∀ y0 y1 y2 y3 y4 y5 y6 y7 y8 y9 y10 y11,LeO (thresherref19_Fit.j4 k y0 y1 y2 y3 y4 y5 y6 y7 y8 y9 y10 y11) (thresherref19_Fit.j4 (k + 1) y0 y1 y2 y3 y4 y5 y6 y7 y8 y9 y10 y11))
 | 0=>⟨fun _ _ _ _ _ _ _ _ r h=>by simp [thresherref19_Fit.l0] at h,fun _ _ _ _ _ _ _ _ _ r h=>by simp [thresherref19_Fit.j1] at h,fun _ _ _ _ _ _ _ _ _ r h=>by simp [thresherref19_Fit.j2] at h,fun _ _ _ _ _ _ _ _ _ _ r h=>by simp [thresherref19_Fit.j3] at h,fun _ _ _ _ _ _ _ _ _ _ _ _ r h=>by simp [thresherref19_Fit.j5] at h,fun _ _ _ _ _ _ _ _ _ _ _ _ r h=>by simp [thresherref19_Fit.j4] at h⟩
 | k + 1=>by
  obtain ⟨ih0,ih1,ih2,ih3,ih4,ih5⟩:=thresherref19_Fit.mono_l k
  refine ⟨?_,?_,?_,?_,?_,?_⟩
  ·intro y0 y1 y2 y3 y4 y5 y6 y7
   unfold thresherref19_Fit.l0
   repeat' first
   | (with_reducible exact ih0 _ _ _ _ _ _ _ _)
   | (with_reducible exact ih1 _ _ _ _ _ _ _ _ _)
   | (with_reducible exact ih2 _ _ _ _ _ _ _ _ _)
   | (with_reducible exact ih3 _ _ _ _ _ _ _ _ _ _)
   | (with_reducible exact ih4 _ _ _ _ _ _ _ _ _ _ _ _)
   | (with_reducible exact ih5 _ _ _ _ _ _ _ _ _ _ _ _)
   | (with_reducible exact LeO.refl _)
   | (with_reducible exact LeO.none _)
   | (with_reducible refine LeO.ite ?_ ?_)
   | (with_reducible refine LeO.bind ?_ (fun _=>?_))
   | exact ih0 _ _ _ _ _ _ _ _
   | exact ih1 _ _ _ _ _ _ _ _ _
   | exact ih2 _ _ _ _ _ _ _ _ _
   | exact ih3 _ _ _ _ _ _ _ _ _ _
   | exact ih4 _ _ _ _ _ _ _ _ _ _ _ _
   | exact ih5 _ _ _ _ _ _ _ _ _ _ _ _
   | exact LeO.none _
   | refine LeO.ite ?_ ?_
   | refine LeO.bind ?_ (fun _=>?_)
  ·intro y0 y1 y2 y3 y4 y5 y6 y7 y8
   unfold thresherref19_Fit.j1
   repeat' first
   | (with_reducible exact ih0 _ _ _ _ _ _ _ _)
   | (with_reducible exact ih1 _ _ _ _ _ _ _ _ _)
   | (with_reducible exact ih2 _ _ _ _ _ _ _ _ _)
   | (with_reducible exact ih3 _ _ _ _ _ _ _ _ _ _)
   | (with_reducible exact ih4 _ _ _ _ _ _ _ _ _ _ _ _)
   | (with_reducible exact ih5 _ _ _ _ _ _ _ _ _ _ _ _)
   | (with_reducible exact LeO.refl _)
   | (with_reducible exact LeO.none _)
   | (with_reducible refine LeO.ite ?_ ?_)
   | (with_reducible refine LeO.bind ?_ (fun _=>?_))
   | exact ih0 _ _ _ _ _ _ _ _
   | exact ih1 _ _ _ _ _ _ _ _ _
   | exact ih2 _ _ _ _ _ _ _ _ _
   | exact ih3 _ _ _ _ _ _ _ _ _ _
   | exact ih4 _ _ _ _ _ _ _ _ _ _ _ _
   | exact ih5 _ _ _ _ _ _ _ _ _ _ _ _
   | exact LeO.none _
   | refine LeO.ite ?_ ?_
   | refine LeO.bind ?_ (fun _=>?_)
  ·intro y0 y1 y2 y3 y4 y5 y6 y7 y8
   unfold thresherref19_Fit.j2
   repeat' first
   | (with_reducible exact ih0 _ _ _ _ _ _ _ _)
   | (with_reducible exact ih1 _ _ _ _ _ _ _ _ _)
   | (with_reducible exact ih2 _ _ _ _ _ _ _ _ _)
   | (with_reducible exact ih3 _ _ _ _ _ _ _ _ _ _)
   | (with_reducible exact ih4 _ _ _ _ _ _ _ _ _ _ _ _)
   | (with_reducible exact ih5 _ _ _ _ _ _ _ _ _ _ _ _)
   | (with_reducible exact LeO.refl _)
   | (with_reducible exact LeO.none _)
   | (with_reducible refine LeO.ite ?_ ?_)
   | (with_reducible refine LeO.bind ?_ (fun _=>?_))
   | exact ih0 _ _ _ _ _ _ _ _
   | exact ih1 _ _ _ _ _ _ _ _ _
   | exact ih2 _ _ _ _ _ _ _ _ _
   | exact ih3 _ _ _ _ _ _ _ _ _ _
   | exact ih4 _ _ _ _ _ _ _ _ _ _ _ _
   | exact ih5 _ _ _ _ _ _ _ _ _ _ _ _
   | exact LeO.none _
   | refine LeO.ite ?_ ?_
   | refine LeO.bind ?_ (fun _=>?_)
  ·intro y0 y1 y2 y3 y4 y5 y6 y7 y8 y9
   unfold thresherref19_Fit.j3
   repeat' first
   | (with_reducible exact ih0 _ _ _ _ _ _ _ _)
   | (with_reducible exact ih1 _ _ _ _ _ _ _ _ _)
   | (with_reducible exact ih2 _ _ _ _ _ _ _ _ _)
   | (with_reducible exact ih3 _ _ _ _ _ _ _ _ _ _)
   | (with_reducible exact ih4 _ _ _ _ _ _ _ _ _ _ _ _)
   | (with_reducible exact ih5 _ _ _ _ _ _ _ _ _ _ _ _)
   | (with_reducible exact LeO.refl _)
   | (with_reducible exact LeO.none _)
   | (with_reducible refine LeO.ite ?_ ?_)
   | (with_reducible refine LeO.bind ?_ (fun _=>?_))
   | exact ih0 _ _ _ _ _ _ _ _
   | exact ih1 _ _ _ _ _ _ _ _ _
   | exact ih2 _ _ _ _ _ _ _ _ _
   | exact ih3 _ _ _ _ _ _ _ _ _ _
   | exact ih4 _ _ _ _ _ _ _ _ _ _ _ _
   | exact ih5 _ _ _ _ _ _ _ _ _ _ _ _
   | exact LeO.none _
   | refine LeO.ite ?_ ?_
   | refine LeO.bind ?_ (fun _=>?_)
  ·intro y0 y1 y2 y3 y4 y5 y6 y7 y8 y9 y10 y11
   unfold thresherref19_Fit.j5
   repeat' first
   | (with_reducible exact ih0 _ _ _ _ _ _ _ _)
   | (with_reducible exact ih1 _ _ _ _ _ _ _ _ _)
   | (with_reducible exact ih2 _ _ _ _ _ _ _ _ _)
   | (with_reducible exact ih3 _ _ _ _ _ _ _ _ _ _)
   | (with_reducible exact ih4 _ _ _ _ _ _ _ _ _ _ _ _)
   | (with_reducible exact ih5 _ _ _ _ _ _ _ _ _ _ _ _)
   | (with_reducible exact LeO.refl _)
   | (with_reducible exact LeO.none _)
   | (with_reducible refine LeO.ite ?_ ?_)
   | (with_reducible refine LeO.bind ?_ (fun _=>?_))
   | exact ih0 _ _ _ _ _ _ _ _
   | exact ih1 _ _ _ _ _ _ _ _ _
   | exact ih2 _ _ _ _ _ _ _ _ _
   | exact ih3 _ _ _ _ _ _ _ _ _ _
   | exact ih4 _ _ _ _ _ _ _ _ _ _ _ _
   | exact ih5 _ _ _ _ _ _ _ _ _ _ _ _
   | exact LeO.none _
   | refine LeO.ite ?_ ?_
   | refine LeO.bind ?_ (fun _=>?_)
  ·intro y0 y1 y2 y3 y4 y5 y6 y7 y8 y9 y10 y11
   unfold thresherref19_Fit.j4
   repeat' first
   | (with_reducible exact ih0 _ _ _ _ _ _ _ _)
   | (with_reducible exact ih1 _ _ _ _ _ _ _ _ _)
   | (with_reducible exact ih2 _ _ _ _ _ _ _ _ _)
   | (with_reducible exact ih3 _ _ _ _ _ _ _ _ _ _)
   | (with_reducible exact ih4 _ _ _ _ _ _ _ _ _ _ _ _)
   | (with_reducible exact ih5 _ _ _ _ _ _ _ _ _ _ _ _)
   | (with_reducible exact LeO.refl _)
   | (with_reducible exact LeO.none _)
   | (with_reducible refine LeO.ite ?_ ?_)
   | (with_reducible refine LeO.bind ?_ (fun _=>?_))
   | exact ih0 _ _ _ _ _ _ _ _
   | exact ih1 _ _ _ _ _ _ _ _ _
   | exact ih2 _ _ _ _ _ _ _ _ _
   | exact ih3 _ _ _ _ _ _ _ _ _ _
   | exact ih4 _ _ _ _ _ _ _ _ _ _ _ _
   | exact ih5 _ _ _ _ _ _ _ _ _ _ _ _
   | exact LeO.none _
   | refine LeO.ite ?_ ?_
   | refine LeO.bind ?_ (fun _=>?_)
theorem thresherref19_Fit.mono : ∀ a0 a1 a2 a3 a4 a5 k,LeO (thresherref19_Fit.f k a0 a1 a2 a3 a4 a5) (thresherref19_Fit.f (k + 1) a0 a1 a2 a3 a4 a5):=by
 intro a0 a1 a2 a3 a4 a5 k
 obtain ⟨ih0,ih1,ih2,ih3,ih4,ih5⟩:=thresherref19_Fit.mono_l k
 unfold thresherref19_Fit.f
 repeat' first
   | (with_reducible exact ih0 _ _ _ _ _ _ _ _)
   | (with_reducible exact ih1 _ _ _ _ _ _ _ _ _)
   | (with_reducible exact ih2 _ _ _ _ _ _ _ _ _)
   | (with_reducible exact ih3 _ _ _ _ _ _ _ _ _ _)
   | (with_reducible exact ih4 _ _ _ _ _ _ _ _ _ _ _ _)
   | (with_reducible exact ih5 _ _ _ _ _ _ _ _ _ _ _ _)
   | (with_reducible exact LeO.refl _)
   | (with_reducible exact LeO.none _)
   | (with_reducible refine LeO.ite ?_ ?_)
   | (with_reducible refine LeO.bind ?_ (fun _=>?_))
   | exact ih0 _ _ _ _ _ _ _ _
   | exact ih1 _ _ _ _ _ _ _ _ _
   | exact ih2 _ _ _ _ _ _ _ _ _
   | exact ih3 _ _ _ _ _ _ _ _ _ _
   | exact ih4 _ _ _ _ _ _ _ _ _ _ _ _
   | exact ih5 _ _ _ _ _ _ _ _ _ _ _ _
   | exact LeO.none _
   | refine LeO.ite ?_ ?_
   | refine LeO.bind ?_ (fun _=>?_)
set_option maxHeartbeats 40000000 in
set_option maxRecDepth 100000 in
theorem thresherref19_Fit.calls (k : Nat) (A0_0 : Option Addr) (c0_0 : Nat) (l0_0 : List Int) (a0_1 : Int) (a0_2 : Int) (a0_3 : Int) (A1 : Option Addr) (c1 : Nat) (l1 : List (S39)) (a2 : Int) (r : List (S39)) (w : World) (hr0_0 : Kd.C (Kd.int .i64) w A0_0 l0_0.length l0_0) (hc0_0 : l0_0.length≤c0_0) (hr1 : Kd.C k39 w A1 l1.length l1) (hc1 : l1.length≤c1) (h : thresherref19_Fit.f k l0_0 a0_1 a0_2 a0_3 l1 a2=some r) :
  Calls Try.prog 10 #[.agg #[.slice A0_0 l0_0.length c0_0,.int .i64 a0_1,.int .i64 a0_2,.int .i64 a0_3],.slice A1 l1.length c1,.int .i64 a2] w fun e w'=>∃ v0_ : Value,e=.returned (v0_)∧Kd.R k39 39 w' w.heap.size (fun _=>True) v0_ r∧Below w.heap.size w w':=by
 have hu32:=Try.underlying32
 have hu37:=Try.underlying37
 have hu39:=Try.underlying39
 have HR0_0:=Aside0.mk hr0_0
 have HC0_0:=Aside0.mk hc0_0
 clear hr0_0 hc0_0
 have HR1:=Aside0.mk hr1
 have HC1:=Aside0.mk hc1
 clear hr1 hc1
 have HB:=Aside0.mk (Below.refl w.heap.size w)
 have H : (thresherref19_Fit.l0 k l1 a2 (([] : List (S39))) 0 l0_0 a0_1 a0_2 a0_3)=some r:=h
 clear h
 obtain ⟨y151,hy151⟩ : ∃ y_ : List (S39),y_=(([] : List (S39))):=⟨_,rfl⟩
 replace H : (thresherref19_Fit.l0 k l1 a2 y151 0 l0_0 a0_1 a0_2 a0_3)=some r:=by first|(rw [hy151];with_reducible exact H)|(have H2_:=(Option.bind_some _ _).symm.trans H;rw [hy151];with_reducible exact H2_)|(have H2_:=(Option.bind_some _ _).symm.trans H;with_reducible exact H2_)|with_reducible exact H|(rw [hy151];exact H)|exact H
 have Ny151:=Aside0.mk hy151
 clear hy151
 have H':=Aside0.mk H
 clear H
 go_enter Try.func10,Try.ntmps10
 go_wp2_with (first|((with_reducible refine gate_dst (N:=3) rfl ?_);refine box_event ?hg (N:=3) ?hd (cs:=#[.slice A0_0 l0_0.length c0_0,.int .i64 a0_1,.int .i64 a0_2,.int .i64 a0_3]) (t:=32) ?hr ?_;(case hd=>rfl);(case hg=>rfl);(case hr=>first|(go_simp;done)|(go_simp;rfl));intro gb150 hg w4 hbox hb;have n0_:=Aside0.mk (below_step (below_up HB.out) hb);have n1_:=Aside0.mk (hbox);have n2_:=Aside0.mk ((by rw [hg];exact (below_size (below_up HB.out)) : w.heap.size≤gb150));have n3_:=Aside0.mk ((by rw [hg];exact (below_size (below_up HB.out)) : w.heap.size≤gb150));clear HB;have HB:=n0_;have BK150:=n1_;have GW150:=n2_;have GE150:=n3_;clear n0_ n1_ n2_ n3_;clear hb hbox hg)|((with_reducible refine gate_dst (N:=13) rfl ?_);refine Kd.R_lit k39 _ 39 ?hg (N:=13) ?hd (xs:=([] : List (S39))) (inner:=[]) (ok:=fun _=>True) (okp:=fun _=>True) ?hr ?hp (fun _ hk=>hk) trivial (Below.refl _ _) (Nat.le_refl _) (by simp) ?_;(case hd=>rfl);(case hg=>rfl);(case hr=>first|(go_simp;done)|(go_simp;rfl));(case hp=>exact (Reps.none _ _));intro v152 w5 ho6 hb hg_ hnew_;clear hg_ hnew_;(first|rw [← Ny151.out] at ho6|(simp only [Int.reduceToNat] at ho6;rw [← Ny151.out] at ho6));have n0_:=Aside0.mk (Kd.R_lower ho6 (below_size (below_go HB.out)));have n1_:=Aside0.mk (blk_below (blk_up BK150.out) hb);have n2_:=Aside0.mk (below_step (below_go HB.out) hb);clear BK150;clear HB;have HO153:=n0_;have BK150:=n1_;have HB:=n2_;clear n0_ n1_ n2_;clear hb ho6))
 repeat (go_quiet (first|((with_reducible refine gate_dst (N:=3) rfl ?_);refine box_event ?hg (N:=3) ?hd (cs:=#[.slice A0_0 l0_0.length c0_0,.int .i64 a0_1,.int .i64 a0_2,.int .i64 a0_3]) (t:=32) ?hr ?_;(case hd=>rfl);(case hg=>rfl);(case hr=>first|(go_simp;done)|(go_simp;rfl));intro gb150 hg w4 hbox hb;have n0_:=Aside0.mk (below_step (below_up HB.out) hb);have n1_:=Aside0.mk (hbox);have n2_:=Aside0.mk ((by rw [hg];exact (below_size (below_up HB.out)) : w.heap.size≤gb150));have n3_:=Aside0.mk ((by rw [hg];exact (below_size (below_up HB.out)) : w.heap.size≤gb150));clear HB;have HB:=n0_;have BK150:=n1_;have GW150:=n2_;have GE150:=n3_;clear n0_ n1_ n2_ n3_;clear hb hbox hg)|((with_reducible refine gate_dst (N:=13) rfl ?_);refine Kd.R_lit k39 _ 39 ?hg (N:=13) ?hd (xs:=([] : List (S39))) (inner:=[]) (ok:=fun _=>True) (okp:=fun _=>True) ?hr ?hp (fun _ hk=>hk) trivial (Below.refl _ _) (Nat.le_refl _) (by simp) ?_;(case hd=>rfl);(case hg=>rfl);(case hr=>first|(go_simp;done)|(go_simp;rfl));(case hp=>exact (Reps.none _ _));intro v152 w5 ho6 hb hg_ hnew_;clear hg_ hnew_;(first|rw [← Ny151.out] at ho6|(simp only [Int.reduceToNat] at ho6;rw [← Ny151.out] at ho6));have n0_:=Aside0.mk (Kd.R_lower ho6 (below_size (below_go HB.out)));have n1_:=Aside0.mk (blk_below (blk_up BK150.out) hb);have n2_:=Aside0.mk (below_step (below_go HB.out) hb);clear BK150;clear HB;have HO153:=n0_;have BK150:=n1_;have HB:=n2_;clear n0_ n1_ n2_;clear hb ho6));try go_wp2_with (first|((with_reducible refine gate_dst (N:=3) rfl ?_);refine box_event ?hg (N:=3) ?hd (cs:=#[.slice A0_0 l0_0.length c0_0,.int .i64 a0_1,.int .i64 a0_2,.int .i64 a0_3]) (t:=32) ?hr ?_;(case hd=>rfl);(case hg=>rfl);(case hr=>first|(go_simp;done)|(go_simp;rfl));intro gb150 hg w4 hbox hb;have n0_:=Aside0.mk (below_step (below_up HB.out) hb);have n1_:=Aside0.mk (hbox);have n2_:=Aside0.mk ((by rw [hg];exact (below_size (below_up HB.out)) : w.heap.size≤gb150));have n3_:=Aside0.mk ((by rw [hg];exact (below_size (below_up HB.out)) : w.heap.size≤gb150));clear HB;have HB:=n0_;have BK150:=n1_;have GW150:=n2_;have GE150:=n3_;clear n0_ n1_ n2_ n3_;clear hb hbox hg)|((with_reducible refine gate_dst (N:=13) rfl ?_);refine Kd.R_lit k39 _ 39 ?hg (N:=13) ?hd (xs:=([] : List (S39))) (inner:=[]) (ok:=fun _=>True) (okp:=fun _=>True) ?hr ?hp (fun _ hk=>hk) trivial (Below.refl _ _) (Nat.le_refl _) (by simp) ?_;(case hd=>rfl);(case hg=>rfl);(case hr=>first|(go_simp;done)|(go_simp;rfl));(case hp=>exact (Reps.none _ _));intro v152 w5 ho6 hb hg_ hnew_;clear hg_ hnew_;(first|rw [← Ny151.out] at ho6|(simp only [Int.reduceToNat] at ho6;rw [← Ny151.out] at ho6));have n0_:=Aside0.mk (Kd.R_lower ho6 (below_size (below_go HB.out)));have n1_:=Aside0.mk (blk_below (blk_up BK150.out) hb);have n2_:=Aside0.mk (below_step (below_go HB.out) hb);clear BK150;clear HB;have HO153:=n0_;have BK150:=n1_;have HB:=n2_;clear n0_ n1_ n2_;clear hb ho6)))
 go_loopg [7,8] k (fun kq v7 v8 w'=>∃ (x7_1 : List (S39)) (x8_1 : Int),v8=.int .i64 x8_1∧Aside0 (thresherref19_Fit.l0 kq l1 a2 x7_1 x8_1 l0_0 a0_1 a0_2 a0_3=some r)∧Aside0 (kq≤k)∧Aside0 (Kd.R k39 39 w' w.heap.size (fun _=>True) v7 x7_1)∧Aside0 (w'.heap[gb150]?=some (.cells #[(.slice A0_0 l0_0.length c0_0),.int .i64 a0_1,.int .i64 a0_2,.int .i64 a0_3] 32 (0,0)))∧Aside0 (Below w.heap.size w w'))
 case atStart=>exact ⟨(y151),(0),(by first|rfl|(simp;done)|(simp [*];done)),H',⟨Nat.le_refl _⟩,⟨by (with_reducible repeat (first|apply Kd.R_alloc|apply Kd.R_drewN|apply Kd.R_drew));exact HO153.out⟩,⟨by (with_reducible repeat (first|refine blk_drewN ?_ _|refine blk_drew ?_|refine blk_alloc ?_ _));exact BK150.out⟩,⟨by repeat (first|(with_reducible first|exact HB.out|apply below_alloc|apply pw_below_drewN|apply below_drew1|refine below_set ?_ GE150.out)|exact HB.out)⟩⟩
 case round =>
  clear H'
  try clear c1
  try clear p2
  obtain ⟨x7_1,x8_1,rfl,HA,HK1,HO_7,BK150,HB⟩:=hrel
  cases gk with
  | zero=>exact absurd HA.out (by simp [thresherref19_Fit.l0])
  | succ k1 =>
   have H:=HA.out
   clear HA
   simp only [thresherref19_Fit.l0] at H
   have HC7:=Aside0.mk H
   clear H
   go_upto_region 3 with (fail)
   repeat (go_quiet (fail);go_upto_region 3 with (fail))
   go_cut [22] (fun v22 wc=>∃ (kq : Nat) (x22_6 : Bool),v22=.bool x22_6∧Aside0 (thresherref19_Fit.j1 kq l1 a2 x7_1 x8_1 x22_6 l0_0 a0_1 a0_2 a0_3=some r)∧Aside0 (kq≤k1)∧Aside0 (Kd.R k39 39 wc w.heap.size (fun _=>True) u7 x7_1)∧Aside0 (wc.heap[gb150]?=some (.cells #[(.slice A0_0 l0_0.length c0_0),.int .i64 a0_1,.int .i64 a0_2,.int .i64 a0_3] 32 (0,0)))∧Aside0 (Below w.heap.size w wc))
   case first =>
    have H:=HC7.out
    clear HC7
    by_cases c8 : x8_1 < (l1.length : Int)
    ·rw [if_pos c8] at H
     have c8b0 : decide (x8_1 < (l1.length : Int))=true:=decide_eq_true c8
     clear c8
     (first|rw [c8b0]|(simp only [i64_w,i32_w];rw [c8b0])|skip)
     have H':=Aside0.mk H
     clear H
     go_wp2
     repeat (go_quiet (fail);try go_wp2)
     go_meet
     case rel=>exact ⟨_,(decide (x8_1 < a2)),(by first|rfl|(simp;done)|(simp [*];done)),(by first|exact H'|(subst_vars;exact H')),⟨by have:=HK1.out;first|omega|exact Nat.le_refl _⟩,⟨by (with_reducible repeat (first|apply Kd.R_alloc|apply Kd.R_drewN|apply Kd.R_drew));exact HO_7.out⟩,⟨by (with_reducible repeat (first|refine blk_drewN ?_ _|refine blk_drew ?_|refine blk_alloc ?_ _));exact BK150.out⟩,⟨by repeat (first|(with_reducible first|exact HB.out|apply below_alloc|apply pw_below_drewN|apply below_drew1|refine below_set ?_ GE150.out)|exact HB.out)⟩⟩
    ·rw [if_neg c8] at H
     have c8b0 : decide (x8_1 < (l1.length : Int))=false:=decide_eq_false c8
     clear c8
     (first|rw [c8b0]|(simp only [i64_w,i32_w];rw [c8b0])|skip)
     have H':=Aside0.mk H
     clear H
     go_wp2
     repeat (go_quiet (fail);try go_wp2)
     go_meet
     case rel=>exact ⟨_,(false),(by first|rfl|(simp;done)|(simp [*];done)),(by first|exact H'|(subst_vars;exact H')),⟨by have:=HK1.out;first|omega|exact Nat.le_refl _⟩,⟨by (with_reducible repeat (first|apply Kd.R_alloc|apply Kd.R_drewN|apply Kd.R_drew));exact HO_7.out⟩,⟨by (with_reducible repeat (first|refine blk_drewN ?_ _|refine blk_drew ?_|refine blk_alloc ?_ _));exact BK150.out⟩,⟨by repeat (first|(with_reducible first|exact HB.out|apply below_alloc|apply pw_below_drewN|apply below_drew1|refine below_set ?_ GE150.out)|exact HB.out)⟩⟩
   case rest =>
    clear HC7
    try clear c1
    try clear p2
    try clear c8
    try clear c8b0
    try clear p2
    obtain ⟨kq,x22_6,rfl,HA,HJ6,HO_7,BK150,HB⟩:=hcut
    cases kq with
    | zero=>exact absurd HA.out (by simp [thresherref19_Fit.j1])
    | succ kj6 =>
     have H:=HA.out
     clear HA
     simp only [thresherref19_Fit.j1] at H
     by_cases c9 : x22_6=true
     ·subst c9
      have H1 : (if 0≤x8_1 then (if x8_1 < (l1.length : Int) then (if (l0_0.length : Int)=0 then (none) else (if (Int.tmod ((rd_T39 l1 x8_1).f0) (l0_0.length : Int)) < 0 then (thresherref19_Fit.j2 kj6 l1 a2 x7_1 x8_1 (wrap64 ((Int.tmod ((rd_T39 l1 x8_1).f0) (l0_0.length : Int)) + (l0_0.length : Int))) l0_0 a0_1 a0_2 a0_3) else (thresherref19_Fit.j2 kj6 l1 a2 x7_1 x8_1 (Int.tmod ((rd_T39 l1 x8_1).f0) (l0_0.length : Int)) l0_0 a0_1 a0_2 a0_3))) else (none)) else (none))=some r:=by rw [if_pos rfl] at H;exact H
      clear H
      have H:=H1
      clear H1
      by_cases c10 : 0≤x8_1
      ·rw [if_pos c10] at H
       have c10b0 : decide (0≤x8_1)=true:=decide_eq_true c10
       clear c10
       by_cases c11 : x8_1 < (l1.length : Int)
       ·rw [if_pos c11] at H
        have c11b0 : decide (x8_1 < (l1.length : Int))=true:=decide_eq_true c11
        clear c11
        by_cases c12 : (l0_0.length : Int)=0
        ·rw [if_pos c12] at H
         exact absurd H (by simp)
        ·rw [if_neg c12] at H
         have c12b0 : ((l0_0.length : Int) == 0)=false:=beq_eq_false_iff_ne.mpr c12
         have c12b1 : ((l0_0.length : Int) != 0)=true:=bne_iff_ne.mpr c12
         have c12b2 : ¬ (l0_0=[]):=fun h_=>c12 (by rw [h_];rfl)
         have HC13:=Aside0.mk H
         clear H
         have p154 : 0≤(x8_1 : Int):=of_decide_eq_true (by first|(with_reducible assumption)|assumption)
         have q154 : x8_1 < (l1.length : Int):=of_decide_eq_true (by first|(with_reducible assumption)|assumption)
         obtain ⟨ad154,e154,hx154_0,hx154_1,hx154_2,hx154_3⟩:=at_T39 HR1.out x8_1 p154 q154
         cases e154
         replace hx154_0:=(HB.out.cell (World.block_lt_of_cell? w _ hx154_0)).trans hx154_0
         replace hx154_1:=(HB.out.cell (World.block_lt_of_cell? w _ hx154_1)).trans hx154_1
         replace hx154_2:=(HB.out.cell (World.block_lt_of_cell? w _ hx154_2)).trans hx154_2
         replace hx154_3:=(HB.out.cell (World.block_lt_of_cell? w _ hx154_3)).trans hx154_3
         replace p154:=eq_true p154
         replace q154:=eq_true q154
         have hcz14_0 : wc.cell? ⟨gb150,0,none⟩=some (.slice A0_0 l0_0.length c0_0):=(blk_cell BK150.out 0).trans rfl
         have hcz14_1 : wc.cell? ⟨gb150,1,none⟩=some (.int .i64 a0_1):=(blk_cell BK150.out 1).trans rfl
         have hcz14_2 : wc.cell? ⟨gb150,2,none⟩=some (.int .i64 a0_2):=(blk_cell BK150.out 2).trans rfl
         have hcz14_3 : wc.cell? ⟨gb150,3,none⟩=some (.int .i64 a0_3):=(blk_cell BK150.out 3).trans rfl
         have hfz14_0:=blk_frozen BK150.out 0
         have hfz14_1:=blk_frozen BK150.out 1
         have hfz14_2:=blk_frozen BK150.out 2
         have hfz14_3:=blk_frozen BK150.out 3
         go_upto_if 35 with (fail)
         repeat (go_quiet (fail);go_upto_if 35 with (fail))
         go_cut [9] (fun v9 wc=>∃ (kq : Nat) (x9_12 : Int),v9=.int .i64 x9_12∧Aside0 (thresherref19_Fit.j2 kq l1 a2 x7_1 x8_1 x9_12 l0_0 a0_1 a0_2 a0_3=some r)∧Aside0 (kq≤kj6)∧Aside0 (Kd.R k39 39 wc w.heap.size (fun _=>True) u7 x7_1)∧Aside0 (wc.heap[gb150]?=some (.cells #[(.slice A0_0 l0_0.length c0_0),.int .i64 a0_1,.int .i64 a0_2,.int .i64 a0_3] 32 (0,0)))∧Aside0 (Below w.heap.size w wc))
         case first =>
          have H:=HC13.out
          clear HC13
          by_cases c15 : (Int.tmod ((rd_T39 l1 x8_1).f0) (l0_0.length : Int)) < 0
          ·rw [if_pos c15] at H
           have c15b0 : decide ((Int.tmod ((rd_T39 l1 x8_1).f0) (l0_0.length : Int)) < 0)=true:=decide_eq_true c15
           clear c15
           (first|rw [c15b0]|(simp only [i64_w,i32_w];rw [c15b0])|skip)
           have H':=Aside0.mk H
           clear H
           have hcz16_0 : wc.cell? ⟨gb150,0,none⟩=some (.slice A0_0 l0_0.length c0_0):=(blk_cell BK150.out 0).trans rfl
           have hcz16_1 : wc.cell? ⟨gb150,1,none⟩=some (.int .i64 a0_1):=(blk_cell BK150.out 1).trans rfl
           have hcz16_2 : wc.cell? ⟨gb150,2,none⟩=some (.int .i64 a0_2):=(blk_cell BK150.out 2).trans rfl
           have hcz16_3 : wc.cell? ⟨gb150,3,none⟩=some (.int .i64 a0_3):=(blk_cell BK150.out 3).trans rfl
           have hfz16_0:=blk_frozen BK150.out 0
           have hfz16_1:=blk_frozen BK150.out 1
           have hfz16_2:=blk_frozen BK150.out 2
           have hfz16_3:=blk_frozen BK150.out 3
           go_wp2
           repeat (go_quiet (fail);try go_wp2)
           go_meet
           case rel=>exact ⟨_,(wrap64 ((Int.tmod ((rd_T39 l1 x8_1).f0) (l0_0.length : Int)) + (l0_0.length : Int))),(by first|rfl|(simp;done)|(simp [*];done)),(by first|exact H'|(subst_vars;exact H')),⟨by have:=HK1.out;have:=HJ6.out;first|omega|exact Nat.le_refl _⟩,⟨by (with_reducible repeat (first|apply Kd.R_alloc|apply Kd.R_drewN|apply Kd.R_drew));exact HO_7.out⟩,⟨by (with_reducible repeat (first|refine blk_drewN ?_ _|refine blk_drew ?_|refine blk_alloc ?_ _));exact BK150.out⟩,⟨by repeat (first|(with_reducible first|exact HB.out|apply below_alloc|apply pw_below_drewN|apply below_drew1|refine below_set ?_ GE150.out)|exact HB.out)⟩⟩
          ·rw [if_neg c15] at H
           have c15b0 : decide ((Int.tmod ((rd_T39 l1 x8_1).f0) (l0_0.length : Int)) < 0)=false:=decide_eq_false c15
           clear c15
           (first|rw [c15b0]|(simp only [i64_w,i32_w];rw [c15b0])|skip)
           have H':=Aside0.mk H
           clear H
           go_wp2
           repeat (go_quiet (fail);try go_wp2)
           go_meet
           case rel=>exact ⟨_,(Int.tmod ((rd_T39 l1 x8_1).f0) (l0_0.length : Int)),(by first|rfl|(simp;done)|(simp [*];done)),(by first|exact H'|(subst_vars;exact H')),⟨by have:=HK1.out;have:=HJ6.out;first|omega|exact Nat.le_refl _⟩,⟨by (with_reducible repeat (first|apply Kd.R_alloc|apply Kd.R_drewN|apply Kd.R_drew));exact HO_7.out⟩,⟨by (with_reducible repeat (first|refine blk_drewN ?_ _|refine blk_drew ?_|refine blk_alloc ?_ _));exact BK150.out⟩,⟨by repeat (first|(with_reducible first|exact HB.out|apply below_alloc|apply pw_below_drewN|apply below_drew1|refine below_set ?_ GE150.out)|exact HB.out)⟩⟩
         case rest =>
          clear HC13
          try clear c1
          try clear p1
          try clear q1
          try clear hx1
          try clear p2
          try clear p6
          try clear c8
          try clear c8b0
          try clear c9
          try clear c10
          try clear c10b0
          try clear c11
          try clear c11b0
          try clear c12
          try clear c12b0
          try clear c12b1
          try clear c12b2
          try clear c15
          try clear c15b0
          try clear p15
          try clear q15
          try clear hx15
          try clear hcz14_0
          try clear hcz14_1
          try clear hcz14_2
          try clear hcz14_3
          try clear hcz16_0
          try clear hcz16_1
          try clear hcz16_2
          try clear hcz16_3
          try clear hfz14_0
          try clear hfz14_1
          try clear hfz14_2
          try clear hfz14_3
          try clear hfz16_0
          try clear hfz16_1
          try clear hfz16_2
          try clear hfz16_3
          try clear hx154_0
          try clear hx154_1
          try clear hx154_2
          try clear hx154_3
          try clear p154
          try clear p2
          try clear q154
          obtain ⟨kq,x9_12,rfl,HA,HJ12,HO_7,BK150,HB⟩:=hcut
          cases kq with
          | zero=>exact absurd HA.out (by simp [thresherref19_Fit.j2])
          | succ kj12 =>
           have H:=HA.out
           clear HA
           simp only [thresherref19_Fit.j2] at H
           by_cases c17 : 0≤x8_1
           ·rw [if_pos c17] at H
            have c17b0 : decide (0≤x8_1)=true:=decide_eq_true c17
            clear c17
            by_cases c18 : x8_1 < (l1.length : Int)
            ·rw [if_pos c18] at H
             have c18b0 : decide (x8_1 < (l1.length : Int))=true:=decide_eq_true c18
             clear c18
             have HC19:=Aside0.mk H
             clear H
             have p155 : 0≤(x8_1 : Int):=of_decide_eq_true (by first|(with_reducible assumption)|assumption)
             have q155 : x8_1 < (l1.length : Int):=of_decide_eq_true (by first|(with_reducible assumption)|assumption)
             obtain ⟨ad155,e155,hx155_0,hx155_1,hx155_2,hx155_3⟩:=at_T39 HR1.out x8_1 p155 q155
             obtain rfl : ad154=ad155:=(by injection e155)
             replace hx155_0:=(HB.out.cell (World.block_lt_of_cell? w _ hx155_0)).trans hx155_0
             replace hx155_1:=(HB.out.cell (World.block_lt_of_cell? w _ hx155_1)).trans hx155_1
             replace hx155_2:=(HB.out.cell (World.block_lt_of_cell? w _ hx155_2)).trans hx155_2
             replace hx155_3:=(HB.out.cell (World.block_lt_of_cell? w _ hx155_3)).trans hx155_3
             replace p155:=eq_true p155
             replace q155:=eq_true q155
             go_upto_if 48 with (fail)
             repeat (go_quiet (fail);go_upto_if 48 with (fail))
             go_cut [10] (fun v10 wc=>∃ (kq : Nat) (x10_18 : Int),v10=.int .i64 x10_18∧Aside0 (thresherref19_Fit.j3 kq l1 a2 x7_1 x8_1 x9_12 x10_18 l0_0 a0_1 a0_2 a0_3=some r)∧Aside0 (kq≤kj12)∧Aside0 (Kd.R k39 39 wc w.heap.size (fun _=>True) u7 x7_1)∧Aside0 (wc.heap[gb150]?=some (.cells #[(.slice A0_0 l0_0.length c0_0),.int .i64 a0_1,.int .i64 a0_2,.int .i64 a0_3] 32 (0,0)))∧Aside0 (Below w.heap.size w wc))
             case first =>
              have H:=HC19.out
              clear HC19
              by_cases c20 : (Int.tmod ((rd_T39 l1 x8_1).f1) 7) < 0
              ·rw [if_pos c20] at H
               have c20b0 : decide ((Int.tmod ((rd_T39 l1 x8_1).f1) 7) < 0)=true:=decide_eq_true c20
               clear c20
               (first|rw [c20b0]|(simp only [i64_w,i32_w];rw [c20b0])|skip)
               have H':=Aside0.mk H
               clear H
               go_wp2
               repeat (go_quiet (fail);try go_wp2)
               go_meet
               case rel=>exact ⟨_,(wrap64 ((Int.tmod ((rd_T39 l1 x8_1).f1) 7) + 7)),(by first|rfl|(simp;done)|(simp [*];done)),(by first|exact H'|(subst_vars;exact H')),⟨by have:=HK1.out;have:=HJ6.out;have:=HJ12.out;first|omega|exact Nat.le_refl _⟩,⟨by (with_reducible repeat (first|apply Kd.R_alloc|apply Kd.R_drewN|apply Kd.R_drew));exact HO_7.out⟩,⟨by (with_reducible repeat (first|refine blk_drewN ?_ _|refine blk_drew ?_|refine blk_alloc ?_ _));exact BK150.out⟩,⟨by repeat (first|(with_reducible first|exact HB.out|apply below_alloc|apply pw_below_drewN|apply below_drew1|refine below_set ?_ GE150.out)|exact HB.out)⟩⟩
              ·rw [if_neg c20] at H
               have c20b0 : decide ((Int.tmod ((rd_T39 l1 x8_1).f1) 7) < 0)=false:=decide_eq_false c20
               clear c20
               (first|rw [c20b0]|(simp only [i64_w,i32_w];rw [c20b0])|skip)
               have H':=Aside0.mk H
               clear H
               go_wp2
               repeat (go_quiet (fail);try go_wp2)
               go_meet
               case rel=>exact ⟨_,(Int.tmod ((rd_T39 l1 x8_1).f1) 7),(by first|rfl|(simp;done)|(simp [*];done)),(by first|exact H'|(subst_vars;exact H')),⟨by have:=HK1.out;have:=HJ6.out;have:=HJ12.out;first|omega|exact Nat.le_refl _⟩,⟨by (with_reducible repeat (first|apply Kd.R_alloc|apply Kd.R_drewN|apply Kd.R_drew));exact HO_7.out⟩,⟨by (with_reducible repeat (first|refine blk_drewN ?_ _|refine blk_drew ?_|refine blk_alloc ?_ _));exact BK150.out⟩,⟨by repeat (first|(with_reducible first|exact HB.out|apply below_alloc|apply pw_below_drewN|apply below_drew1|refine below_set ?_ GE150.out)|exact HB.out)⟩⟩
             case rest =>
              clear HC19
              try clear c1
              try clear p1
              try clear q1
              try clear hx1
              try clear c2
              try clear p2
              try clear p6
              try clear c8
              try clear c8b0
              try clear c9
              try clear c10
              try clear c10b0
              try clear c11
              try clear c11b0
              try clear c12
              try clear c12b0
              try clear c12b1
              try clear c12b2
              try clear c15
              try clear c15b0
              try clear p15
              try clear q15
              try clear hx15
              try clear c17
              try clear c17b0
              try clear c18
              try clear c18b0
              try clear c20
              try clear c20b0
              try clear hcz14_0
              try clear hcz14_1
              try clear hcz14_2
              try clear hcz14_3
              try clear hcz16_0
              try clear hcz16_1
              try clear hcz16_2
              try clear hcz16_3
              try clear hfz14_0
              try clear hfz14_1
              try clear hfz14_2
              try clear hfz14_3
              try clear hfz16_0
              try clear hfz16_1
              try clear hfz16_2
              try clear hfz16_3
              try clear hx154_0
              try clear hx154_1
              try clear hx154_2
              try clear hx154_3
              try clear hx155_0
              try clear hx155_1
              try clear hx155_2
              try clear hx155_3
              try clear p1
              try clear p15
              try clear p154
              try clear p155
              try clear p2
              try clear p6
              try clear q1
              try clear q15
              try clear q154
              try clear q155
              obtain ⟨kq,x10_18,rfl,HA,HJ18,HO_7,BK150,HB⟩:=hcut
              cases kq with
              | zero=>exact absurd HA.out (by simp [thresherref19_Fit.j3])
              | succ kj18 =>
               have H:=HA.out
               clear HA
               simp only [thresherref19_Fit.j3] at H
               by_cases c21 : 0≤x8_1
               ·rw [if_pos c21] at H
                have c21b0 : decide (0≤x8_1)=true:=decide_eq_true c21
                clear c21
                by_cases c22 : x8_1 < (l1.length : Int)
                ·rw [if_pos c22] at H
                 have c22b0 : decide (x8_1 < (l1.length : Int))=true:=decide_eq_true c22
                 clear c22
                 by_cases c23 : 0≤x9_12
                 ·rw [if_pos c23] at H
                  have c23b0 : decide (0≤x9_12)=true:=decide_eq_true c23
                  clear c23
                  by_cases c24 : x9_12 < (l0_0.length : Int)
                  ·rw [if_pos c24] at H
                   have c24b0 : decide (x9_12 < (l0_0.length : Int))=true:=decide_eq_true c24
                   clear c24
                   have HC25:=Aside0.mk H
                   clear H
                   have p156 : 0≤(x8_1 : Int):=of_decide_eq_true (by first|(with_reducible assumption)|assumption)
                   have q156 : x8_1 < (l1.length : Int):=of_decide_eq_true (by first|(with_reducible assumption)|assumption)
                   obtain ⟨ad156,e156,hx156_0,hx156_1,hx156_2,hx156_3⟩:=at_T39 HR1.out x8_1 p156 q156
                   obtain rfl : ad154=ad156:=(by injection e156)
                   replace hx156_0:=(HB.out.cell (World.block_lt_of_cell? w _ hx156_0)).trans hx156_0
                   replace hx156_1:=(HB.out.cell (World.block_lt_of_cell? w _ hx156_1)).trans hx156_1
                   replace hx156_2:=(HB.out.cell (World.block_lt_of_cell? w _ hx156_2)).trans hx156_2
                   replace hx156_3:=(HB.out.cell (World.block_lt_of_cell? w _ hx156_3)).trans hx156_3
                   replace p156:=eq_true p156
                   replace q156:=eq_true q156
                   go_upto_if 67 with (first|((with_reducible refine gate_dst (N:=11) rfl ?_);refine box_event ?hg (N:=11) ?hd (cs:=#[.int .i64 0,.int .i64 0,.int .i64 0,.string (⟨#[]⟩ : ByteArray)]) (t:=39) ?hr ?_;(case hd=>rfl);(case hg=>rfl);(case hr=>first|(go_simp;done)|(go_simp;rfl));intro gb157 hg w26 hbox hb;have n0_:=Aside0.mk (Kd.R_below (Kd.R_elderB (R_up HO_7.out) gb157 (Nat.le_of_eq hg.symm)) hb);have n1_:=Aside0.mk (blk_below (blk_up BK150.out) hb);have n2_:=Aside0.mk (below_step (below_go HB.out) hb);have n3_:=Aside0.mk (hbox);have n4_:=Aside0.mk ((by rw [hg];exact (below_size (below_go HB.out)) : w.heap.size≤gb157));have n5_:=Aside0.mk ((by rw [hg];exact (below_size (below_go HB.out)) : w.heap.size≤gb157));have n6_:=Aside0.mk ((by rw [hg];exact Nat.ne_of_lt (blk_lt (blk_up BK150.out)) : gb150≠gb157));have n7_:=Aside0.mk ((by rw [hg];exact Nat.ne_of_gt (blk_lt (blk_up BK150.out)) : gb157≠gb150));clear HO_7;clear BK150;clear HB;have HO_7:=n0_;have BK150:=n1_;have HB:=n2_;have BK157:=n3_;have GW157:=n4_;have GE157:=n5_;have NB150_157:=n6_;have NB157_150:=n7_;clear n0_ n1_ n2_ n3_ n4_ n5_ n6_ n7_;clear hb hbox hg;have hnb27:=NB157_150.out;have hnc27:=NB150_157.out;have hcz28_0 : w26.cell? ⟨gb157,0,none⟩=some (.int .i64 0):=(blk_cell BK157.out 0).trans rfl;have hcz28_1 : w26.cell? ⟨gb157,1,none⟩=some (.int .i64 0):=(blk_cell BK157.out 1).trans rfl;have hcz28_2 : w26.cell? ⟨gb157,2,none⟩=some (.int .i64 0):=(blk_cell BK157.out 2).trans rfl;have hcz28_3 : w26.cell? ⟨gb157,3,none⟩=some (.string (⟨#[]⟩ : ByteArray)):=(blk_cell BK157.out 3).trans rfl;have hfz28_0:=blk_frozen BK157.out 0;have hfz28_1:=blk_frozen BK157.out 1;have hfz28_2:=blk_frozen BK157.out 2;have hfz28_3:=blk_frozen BK157.out 3;have hcz29_0 : w26.cell? ⟨gb150,0,none⟩=some (.slice A0_0 l0_0.length c0_0):=(blk_cell BK150.out 0).trans rfl;have hcz29_1 : w26.cell? ⟨gb150,1,none⟩=some (.int .i64 a0_1):=(blk_cell BK150.out 1).trans rfl;have hcz29_2 : w26.cell? ⟨gb150,2,none⟩=some (.int .i64 a0_2):=(blk_cell BK150.out 2).trans rfl;have hcz29_3 : w26.cell? ⟨gb150,3,none⟩=some (.int .i64 a0_3):=(blk_cell BK150.out 3).trans rfl;have hfz29_0:=blk_frozen BK150.out 0;have hfz29_1:=blk_frozen BK150.out 1;have hfz29_2:=blk_frozen BK150.out 2;have hfz29_3:=blk_frozen BK150.out 3;have p158 : 0≤(x9_12 : Int):=of_decide_eq_true (by first|(with_reducible assumption)|assumption);have q158 : x9_12 < (l0_0.length : Int):=of_decide_eq_true (by first|(with_reducible assumption)|assumption);obtain ⟨ad158,e158,hx158_0⟩:=Kd.at_int HR0_0.out x9_12 p158 q158;cases e158;have hn158_0 : ad158.block≠gb157:=Nat.ne_of_lt (Nat.lt_of_lt_of_le (by have:=World.block_lt_of_cell? _ _ hx158_0;first|rwa [add_block] at this|exact this) GW157.out);have hn158_1 : ad158.block≠gb157:=Nat.ne_of_lt (Nat.lt_of_lt_of_le (by have:=World.block_lt_of_cell? _ _ hx158_0;first|rwa [add_block] at this|exact this) GW157.out);have hn158_2 : ad158.block≠gb157:=Nat.ne_of_lt (Nat.lt_of_lt_of_le (by have:=World.block_lt_of_cell? _ _ hx158_0;first|rwa [add_block] at this|exact this) GW157.out);have hn158_3 : ad158.block≠gb157:=Nat.ne_of_lt (Nat.lt_of_lt_of_le (by have:=World.block_lt_of_cell? _ _ hx158_0;first|rwa [add_block] at this|exact this) GW157.out);replace hx158_0:=(HB.out.cell (World.block_lt_of_cell? w _ hx158_0)).trans hx158_0;replace hx158_0:=(cell_far (p:=⟨gb157,0,none⟩) (by first|(rw [add_block];exact hn158_0)|(show (Addr.add _ _).block≠_;rw [add_block];exact hn158_0)|exact hn158_0) (.int .i64 x9_12)).trans hx158_0;replace hx158_0:=(cell_far (p:=⟨gb157,1,none⟩) (by first|(rw [add_block];exact hn158_1)|(show (Addr.add _ _).block≠_;rw [add_block];exact hn158_1)|exact hn158_1) (.int .i64 (wrap64 (1 + x10_18)))).trans hx158_0;replace hx158_0:=(cell_far (p:=⟨gb157,2,none⟩) (by first|(rw [add_block];exact hn158_2)|(show (Addr.add _ _).block≠_;rw [add_block];exact hn158_2)|exact hn158_2) (.int .i64 ((rd_T39 l1 x8_1).f2.f0))).trans hx158_0;replace hx158_0:=(cell_far (p:=⟨gb157,3,none⟩) (by first|(rw [add_block];exact hn158_3)|(show (Addr.add _ _).block≠_;rw [add_block];exact hn158_3)|exact hn158_3) (.string (⟨#[]⟩ : ByteArray))).trans hx158_0;(try have hy158_0:=fun (n_ : Nat)=>(show ((((((w26.drewN n_).setCell ⟨gb157,0,none⟩ (.int .i64 x9_12)).setCell ⟨gb157,1,none⟩ (.int .i64 (wrap64 (1 + x10_18)))).setCell ⟨gb157,2,none⟩ (.int .i64 ((rd_T39 l1 x8_1).f2.f0))).setCell ⟨gb157,3,none⟩ (.string (⟨#[]⟩ : ByteArray)))).cell? _=some _ from hx158_0));clear hn158_0;clear hn158_1;clear hn158_2;clear hn158_3;replace p158:=eq_true p158;replace q158:=eq_true q158))
                   repeat (go_quiet (first|((with_reducible refine gate_dst (N:=11) rfl ?_);refine box_event ?hg (N:=11) ?hd (cs:=#[.int .i64 0,.int .i64 0,.int .i64 0,.string (⟨#[]⟩ : ByteArray)]) (t:=39) ?hr ?_;(case hd=>rfl);(case hg=>rfl);(case hr=>first|(go_simp;done)|(go_simp;rfl));intro gb157 hg w26 hbox hb;have n0_:=Aside0.mk (Kd.R_below (Kd.R_elderB (R_up HO_7.out) gb157 (Nat.le_of_eq hg.symm)) hb);have n1_:=Aside0.mk (blk_below (blk_up BK150.out) hb);have n2_:=Aside0.mk (below_step (below_go HB.out) hb);have n3_:=Aside0.mk (hbox);have n4_:=Aside0.mk ((by rw [hg];exact (below_size (below_go HB.out)) : w.heap.size≤gb157));have n5_:=Aside0.mk ((by rw [hg];exact (below_size (below_go HB.out)) : w.heap.size≤gb157));have n6_:=Aside0.mk ((by rw [hg];exact Nat.ne_of_lt (blk_lt (blk_up BK150.out)) : gb150≠gb157));have n7_:=Aside0.mk ((by rw [hg];exact Nat.ne_of_gt (blk_lt (blk_up BK150.out)) : gb157≠gb150));clear HO_7;clear BK150;clear HB;have HO_7:=n0_;have BK150:=n1_;have HB:=n2_;have BK157:=n3_;have GW157:=n4_;have GE157:=n5_;have NB150_157:=n6_;have NB157_150:=n7_;clear n0_ n1_ n2_ n3_ n4_ n5_ n6_ n7_;clear hb hbox hg;have hnb27:=NB157_150.out;have hnc27:=NB150_157.out;have hcz28_0 : w26.cell? ⟨gb157,0,none⟩=some (.int .i64 0):=(blk_cell BK157.out 0).trans rfl;have hcz28_1 : w26.cell? ⟨gb157,1,none⟩=some (.int .i64 0):=(blk_cell BK157.out 1).trans rfl;have hcz28_2 : w26.cell? ⟨gb157,2,none⟩=some (.int .i64 0):=(blk_cell BK157.out 2).trans rfl;have hcz28_3 : w26.cell? ⟨gb157,3,none⟩=some (.string (⟨#[]⟩ : ByteArray)):=(blk_cell BK157.out 3).trans rfl;have hfz28_0:=blk_frozen BK157.out 0;have hfz28_1:=blk_frozen BK157.out 1;have hfz28_2:=blk_frozen BK157.out 2;have hfz28_3:=blk_frozen BK157.out 3;have hcz29_0 : w26.cell? ⟨gb150,0,none⟩=some (.slice A0_0 l0_0.length c0_0):=(blk_cell BK150.out 0).trans rfl;have hcz29_1 : w26.cell? ⟨gb150,1,none⟩=some (.int .i64 a0_1):=(blk_cell BK150.out 1).trans rfl;have hcz29_2 : w26.cell? ⟨gb150,2,none⟩=some (.int .i64 a0_2):=(blk_cell BK150.out 2).trans rfl;have hcz29_3 : w26.cell? ⟨gb150,3,none⟩=some (.int .i64 a0_3):=(blk_cell BK150.out 3).trans rfl;have hfz29_0:=blk_frozen BK150.out 0;have hfz29_1:=blk_frozen BK150.out 1;have hfz29_2:=blk_frozen BK150.out 2;have hfz29_3:=blk_frozen BK150.out 3;have p158 : 0≤(x9_12 : Int):=of_decide_eq_true (by first|(with_reducible assumption)|assumption);have q158 : x9_12 < (l0_0.length : Int):=of_decide_eq_true (by first|(with_reducible assumption)|assumption);obtain ⟨ad158,e158,hx158_0⟩:=Kd.at_int HR0_0.out x9_12 p158 q158;cases e158;have hn158_0 : ad158.block≠gb157:=Nat.ne_of_lt (Nat.lt_of_lt_of_le (by have:=World.block_lt_of_cell? _ _ hx158_0;first|rwa [add_block] at this|exact this) GW157.out);have hn158_1 : ad158.block≠gb157:=Nat.ne_of_lt (Nat.lt_of_lt_of_le (by have:=World.block_lt_of_cell? _ _ hx158_0;first|rwa [add_block] at this|exact this) GW157.out);have hn158_2 : ad158.block≠gb157:=Nat.ne_of_lt (Nat.lt_of_lt_of_le (by have:=World.block_lt_of_cell? _ _ hx158_0;first|rwa [add_block] at this|exact this) GW157.out);have hn158_3 : ad158.block≠gb157:=Nat.ne_of_lt (Nat.lt_of_lt_of_le (by have:=World.block_lt_of_cell? _ _ hx158_0;first|rwa [add_block] at this|exact this) GW157.out);replace hx158_0:=(HB.out.cell (World.block_lt_of_cell? w _ hx158_0)).trans hx158_0;replace hx158_0:=(cell_far (p:=⟨gb157,0,none⟩) (by first|(rw [add_block];exact hn158_0)|(show (Addr.add _ _).block≠_;rw [add_block];exact hn158_0)|exact hn158_0) (.int .i64 x9_12)).trans hx158_0;replace hx158_0:=(cell_far (p:=⟨gb157,1,none⟩) (by first|(rw [add_block];exact hn158_1)|(show (Addr.add _ _).block≠_;rw [add_block];exact hn158_1)|exact hn158_1) (.int .i64 (wrap64 (1 + x10_18)))).trans hx158_0;replace hx158_0:=(cell_far (p:=⟨gb157,2,none⟩) (by first|(rw [add_block];exact hn158_2)|(show (Addr.add _ _).block≠_;rw [add_block];exact hn158_2)|exact hn158_2) (.int .i64 ((rd_T39 l1 x8_1).f2.f0))).trans hx158_0;replace hx158_0:=(cell_far (p:=⟨gb157,3,none⟩) (by first|(rw [add_block];exact hn158_3)|(show (Addr.add _ _).block≠_;rw [add_block];exact hn158_3)|exact hn158_3) (.string (⟨#[]⟩ : ByteArray))).trans hx158_0;(try have hy158_0:=fun (n_ : Nat)=>(show ((((((w26.drewN n_).setCell ⟨gb157,0,none⟩ (.int .i64 x9_12)).setCell ⟨gb157,1,none⟩ (.int .i64 (wrap64 (1 + x10_18)))).setCell ⟨gb157,2,none⟩ (.int .i64 ((rd_T39 l1 x8_1).f2.f0))).setCell ⟨gb157,3,none⟩ (.string (⟨#[]⟩ : ByteArray)))).cell? _=some _ from hx158_0));clear hn158_0;clear hn158_1;clear hn158_2;clear hn158_3;replace p158:=eq_true p158;replace q158:=eq_true q158));go_upto_if 67 with (first|((with_reducible refine gate_dst (N:=11) rfl ?_);refine box_event ?hg (N:=11) ?hd (cs:=#[.int .i64 0,.int .i64 0,.int .i64 0,.string (⟨#[]⟩ : ByteArray)]) (t:=39) ?hr ?_;(case hd=>rfl);(case hg=>rfl);(case hr=>first|(go_simp;done)|(go_simp;rfl));intro gb157 hg w26 hbox hb;have n0_:=Aside0.mk (Kd.R_below (Kd.R_elderB (R_up HO_7.out) gb157 (Nat.le_of_eq hg.symm)) hb);have n1_:=Aside0.mk (blk_below (blk_up BK150.out) hb);have n2_:=Aside0.mk (below_step (below_go HB.out) hb);have n3_:=Aside0.mk (hbox);have n4_:=Aside0.mk ((by rw [hg];exact (below_size (below_go HB.out)) : w.heap.size≤gb157));have n5_:=Aside0.mk ((by rw [hg];exact (below_size (below_go HB.out)) : w.heap.size≤gb157));have n6_:=Aside0.mk ((by rw [hg];exact Nat.ne_of_lt (blk_lt (blk_up BK150.out)) : gb150≠gb157));have n7_:=Aside0.mk ((by rw [hg];exact Nat.ne_of_gt (blk_lt (blk_up BK150.out)) : gb157≠gb150));clear HO_7;clear BK150;clear HB;have HO_7:=n0_;have BK150:=n1_;have HB:=n2_;have BK157:=n3_;have GW157:=n4_;have GE157:=n5_;have NB150_157:=n6_;have NB157_150:=n7_;clear n0_ n1_ n2_ n3_ n4_ n5_ n6_ n7_;clear hb hbox hg;have hnb27:=NB157_150.out;have hnc27:=NB150_157.out;have hcz28_0 : w26.cell? ⟨gb157,0,none⟩=some (.int .i64 0):=(blk_cell BK157.out 0).trans rfl;have hcz28_1 : w26.cell? ⟨gb157,1,none⟩=some (.int .i64 0):=(blk_cell BK157.out 1).trans rfl;have hcz28_2 : w26.cell? ⟨gb157,2,none⟩=some (.int .i64 0):=(blk_cell BK157.out 2).trans rfl;have hcz28_3 : w26.cell? ⟨gb157,3,none⟩=some (.string (⟨#[]⟩ : ByteArray)):=(blk_cell BK157.out 3).trans rfl;have hfz28_0:=blk_frozen BK157.out 0;have hfz28_1:=blk_frozen BK157.out 1;have hfz28_2:=blk_frozen BK157.out 2;have hfz28_3:=blk_frozen BK157.out 3;have hcz29_0 : w26.cell? ⟨gb150,0,none⟩=some (.slice A0_0 l0_0.length c0_0):=(blk_cell BK150.out 0).trans rfl;have hcz29_1 : w26.cell? ⟨gb150,1,none⟩=some (.int .i64 a0_1):=(blk_cell BK150.out 1).trans rfl;have hcz29_2 : w26.cell? ⟨gb150,2,none⟩=some (.int .i64 a0_2):=(blk_cell BK150.out 2).trans rfl;have hcz29_3 : w26.cell? ⟨gb150,3,none⟩=some (.int .i64 a0_3):=(blk_cell BK150.out 3).trans rfl;have hfz29_0:=blk_frozen BK150.out 0;have hfz29_1:=blk_frozen BK150.out 1;have hfz29_2:=blk_frozen BK150.out 2;have hfz29_3:=blk_frozen BK150.out 3;have p158 : 0≤(x9_12 : Int):=of_decide_eq_true (by first|(with_reducible assumption)|assumption);have q158 : x9_12 < (l0_0.length : Int):=of_decide_eq_true (by first|(with_reducible assumption)|assumption);obtain ⟨ad158,e158,hx158_0⟩:=Kd.at_int HR0_0.out x9_12 p158 q158;cases e158;have hn158_0 : ad158.block≠gb157:=Nat.ne_of_lt (Nat.lt_of_lt_of_le (by have:=World.block_lt_of_cell? _ _ hx158_0;first|rwa [add_block] at this|exact this) GW157.out);have hn158_1 : ad158.block≠gb157:=Nat.ne_of_lt (Nat.lt_of_lt_of_le (by have:=World.block_lt_of_cell? _ _ hx158_0;first|rwa [add_block] at this|exact this) GW157.out);have hn158_2 : ad158.block≠gb157:=Nat.ne_of_lt (Nat.lt_of_lt_of_le (by have:=World.block_lt_of_cell? _ _ hx158_0;first|rwa [add_block] at this|exact this) GW157.out);have hn158_3 : ad158.block≠gb157:=Nat.ne_of_lt (Nat.lt_of_lt_of_le (by have:=World.block_lt_of_cell? _ _ hx158_0;first|rwa [add_block] at this|exact this) GW157.out);replace hx158_0:=(HB.out.cell (World.block_lt_of_cell? w _ hx158_0)).trans hx158_0;replace hx158_0:=(cell_far (p:=⟨gb157,0,none⟩) (by first|(rw [add_block];exact hn158_0)|(show (Addr.add _ _).block≠_;rw [add_block];exact hn158_0)|exact hn158_0) (.int .i64 x9_12)).trans hx158_0;replace hx158_0:=(cell_far (p:=⟨gb157,1,none⟩) (by first|(rw [add_block];exact hn158_1)|(show (Addr.add _ _).block≠_;rw [add_block];exact hn158_1)|exact hn158_1) (.int .i64 (wrap64 (1 + x10_18)))).trans hx158_0;replace hx158_0:=(cell_far (p:=⟨gb157,2,none⟩) (by first|(rw [add_block];exact hn158_2)|(show (Addr.add _ _).block≠_;rw [add_block];exact hn158_2)|exact hn158_2) (.int .i64 ((rd_T39 l1 x8_1).f2.f0))).trans hx158_0;replace hx158_0:=(cell_far (p:=⟨gb157,3,none⟩) (by first|(rw [add_block];exact hn158_3)|(show (Addr.add _ _).block≠_;rw [add_block];exact hn158_3)|exact hn158_3) (.string (⟨#[]⟩ : ByteArray))).trans hx158_0;(try have hy158_0:=fun (n_ : Nat)=>(show ((((((w26.drewN n_).setCell ⟨gb157,0,none⟩ (.int .i64 x9_12)).setCell ⟨gb157,1,none⟩ (.int .i64 (wrap64 (1 + x10_18)))).setCell ⟨gb157,2,none⟩ (.int .i64 ((rd_T39 l1 x8_1).f2.f0))).setCell ⟨gb157,3,none⟩ (.string (⟨#[]⟩ : ByteArray)))).cell? _=some _ from hx158_0));clear hn158_0;clear hn158_1;clear hn158_2;clear hn158_3;replace p158:=eq_true p158;replace q158:=eq_true q158)))
                   (try simp only [Act.put,List.setIfInBounds_toArray,List.set_cons_zero,List.set_cons_succ])
                   go_cut [] (fun wc=>∃ (kq : Nat) (x158001_24 : Int) (x158002_24 : Int) (x158003_24 : ByteArray),Aside0 (thresherref19_Fit.j5 kq l1 a2 x7_1 x8_1 l0_0 a0_1 a0_2 a0_3 x9_12 x158001_24 x158002_24 x158003_24=some r)∧Aside0 (kq≤kj18)∧Aside0 (Kd.R k39 39 wc w.heap.size (fun k_=>k_≠gb157) u7 x7_1)∧Aside0 (wc.heap[gb150]?=some (.cells #[(.slice (some ad158) l0_0.length c0_0),.int .i64 a0_1,.int .i64 a0_2,.int .i64 a0_3] 32 (0,0)))∧Aside0 (wc.heap[gb157]?=some (.cells #[.int .i64 x9_12,.int .i64 x158001_24,.int .i64 x158002_24,.string x158003_24] 39 (0,0)))∧Aside0 (Below w.heap.size w wc))
                   case first =>
                    have H:=HC25.out
                    clear HC25
                    by_cases c30 : (rd l0_0 x9_12)=3
                    ·rw [if_pos c30] at H
                     have c30b0 : ((rd l0_0 x9_12) == 3)=true:=beq_iff_eq.mpr c30
                     have c30b1 : ((rd l0_0 x9_12) != 3)=false:=bne_eq_false_iff_eq.mpr c30
                     clear c30
                     (first|rw [c30b0]|(simp only [i64_w,i32_w];rw [c30b0])|skip)
                     obtain ⟨ji31,hji31⟩ : ∃ j_ : Int,(mn (((rd_T39 l1 x8_1).f2.f1).size : Int) 60)=j_:=⟨_,rfl⟩
                     replace H : (if 0≤(ji31) then (if (ji31)≤(((rd_T39 l1 x8_1).f2.f1).size : Int) then (thresherref19_Fit.j5 kj18 l1 a2 x7_1 x8_1 l0_0 a0_1 a0_2 a0_3 x9_12 (wrap64 (1 + x10_18)) 0 (((rd_T39 l1 x8_1).f2.f1).extract 0 ((ji31) : Int).toNat)) else (none)) else (none))=some r:=by first|(rw [hji31] at H;exact H)|(simp only [hji31] at H ⊢;exact H)
                     have hji31_ : (if 60 < (((rd_T39 l1 x8_1).f2.f1).size : Int) then 60 else (((rd_T39 l1 x8_1).f2.f1).size : Int))=ji31:=hji31
                     by_cases c32 : 0≤(ji31)
                     ·rw [if_pos c32] at H
                      have c32b0:=eq_true c32
                      have c32b1 : decide (0≤(ji31))=true:=decide_eq_true c32
                      clear c32
                      by_cases c33 : (ji31)≤(((rd_T39 l1 x8_1).f2.f1).size : Int)
                      ·rw [if_pos c33] at H
                       have c33b0:=eq_true c33
                       have c33b1 : decide ((ji31)≤(((rd_T39 l1 x8_1).f2.f1).size : Int))=true:=decide_eq_true c33
                       clear c33
                       have H':=Aside0.mk H
                       clear H
                       have p159 : 0≤(x8_1 : Int):=of_decide_eq_true (by first|(with_reducible assumption)|assumption)
                       have q159 : x8_1 < (l1.length : Int):=of_decide_eq_true (by first|(with_reducible assumption)|assumption)
                       obtain ⟨ad159,e159,hx159_0,hx159_1,hx159_2,hx159_3⟩:=at_T39 HR1.out x8_1 p159 q159
                       obtain rfl : ad154=ad159:=(by injection e159)
                       have hn159_0 : ad154.block≠gb157:=Nat.ne_of_lt (Nat.lt_of_lt_of_le (by have:=World.block_lt_of_cell? _ _ hx159_0;first|rwa [add_block] at this|exact this) GW157.out)
                       have hn159_1 : ad154.block≠gb157:=Nat.ne_of_lt (Nat.lt_of_lt_of_le (by have:=World.block_lt_of_cell? _ _ hx159_0;first|rwa [add_block] at this|exact this) GW157.out)
                       have hn159_2 : ad154.block≠gb157:=Nat.ne_of_lt (Nat.lt_of_lt_of_le (by have:=World.block_lt_of_cell? _ _ hx159_0;first|rwa [add_block] at this|exact this) GW157.out)
                       have hn159_3 : ad154.block≠gb157:=Nat.ne_of_lt (Nat.lt_of_lt_of_le (by have:=World.block_lt_of_cell? _ _ hx159_0;first|rwa [add_block] at this|exact this) GW157.out)
                       replace hx159_0:=(HB.out.cell (World.block_lt_of_cell? w _ hx159_0)).trans hx159_0
                       replace hx159_1:=(HB.out.cell (World.block_lt_of_cell? w _ hx159_1)).trans hx159_1
                       replace hx159_2:=(HB.out.cell (World.block_lt_of_cell? w _ hx159_2)).trans hx159_2
                       replace hx159_3:=(HB.out.cell (World.block_lt_of_cell? w _ hx159_3)).trans hx159_3
                       replace hx159_0:=(cell_far (p:=⟨gb157,0,none⟩) (by first|(rw [add_block];exact hn159_0)|(show (Addr.add _ _).block≠_;rw [add_block];exact hn159_0)|exact hn159_0) (.int .i64 x9_12)).trans hx159_0
                       replace hx159_1:=(cell_far (p:=⟨gb157,0,none⟩) (by first|(rw [add_block];exact hn159_0)|(show (Addr.add _ _).block≠_;rw [add_block];exact hn159_0)|exact hn159_0) (.int .i64 x9_12)).trans hx159_1
                       replace hx159_2:=(cell_far (p:=⟨gb157,0,none⟩) (by first|(rw [add_block];exact hn159_0)|(show (Addr.add _ _).block≠_;rw [add_block];exact hn159_0)|exact hn159_0) (.int .i64 x9_12)).trans hx159_2
                       replace hx159_3:=(cell_far (p:=⟨gb157,0,none⟩) (by first|(rw [add_block];exact hn159_0)|(show (Addr.add _ _).block≠_;rw [add_block];exact hn159_0)|exact hn159_0) (.int .i64 x9_12)).trans hx159_3
                       replace hx159_0:=(cell_far (p:=⟨gb157,1,none⟩) (by first|(rw [add_block];exact hn159_1)|(show (Addr.add _ _).block≠_;rw [add_block];exact hn159_1)|exact hn159_1) (.int .i64 (wrap64 (1 + x10_18)))).trans hx159_0
                       replace hx159_1:=(cell_far (p:=⟨gb157,1,none⟩) (by first|(rw [add_block];exact hn159_1)|(show (Addr.add _ _).block≠_;rw [add_block];exact hn159_1)|exact hn159_1) (.int .i64 (wrap64 (1 + x10_18)))).trans hx159_1
                       replace hx159_2:=(cell_far (p:=⟨gb157,1,none⟩) (by first|(rw [add_block];exact hn159_1)|(show (Addr.add _ _).block≠_;rw [add_block];exact hn159_1)|exact hn159_1) (.int .i64 (wrap64 (1 + x10_18)))).trans hx159_2
                       replace hx159_3:=(cell_far (p:=⟨gb157,1,none⟩) (by first|(rw [add_block];exact hn159_1)|(show (Addr.add _ _).block≠_;rw [add_block];exact hn159_1)|exact hn159_1) (.int .i64 (wrap64 (1 + x10_18)))).trans hx159_3
                       replace hx159_0:=(cell_far (p:=⟨gb157,2,none⟩) (by first|(rw [add_block];exact hn159_2)|(show (Addr.add _ _).block≠_;rw [add_block];exact hn159_2)|exact hn159_2) (.int .i64 ((rd_T39 l1 x8_1).f2.f0))).trans hx159_0
                       replace hx159_1:=(cell_far (p:=⟨gb157,2,none⟩) (by first|(rw [add_block];exact hn159_2)|(show (Addr.add _ _).block≠_;rw [add_block];exact hn159_2)|exact hn159_2) (.int .i64 ((rd_T39 l1 x8_1).f2.f0))).trans hx159_1
                       replace hx159_2:=(cell_far (p:=⟨gb157,2,none⟩) (by first|(rw [add_block];exact hn159_2)|(show (Addr.add _ _).block≠_;rw [add_block];exact hn159_2)|exact hn159_2) (.int .i64 ((rd_T39 l1 x8_1).f2.f0))).trans hx159_2
                       replace hx159_3:=(cell_far (p:=⟨gb157,2,none⟩) (by first|(rw [add_block];exact hn159_2)|(show (Addr.add _ _).block≠_;rw [add_block];exact hn159_2)|exact hn159_2) (.int .i64 ((rd_T39 l1 x8_1).f2.f0))).trans hx159_3
                       replace hx159_0:=(cell_far (p:=⟨gb157,3,none⟩) (by first|(rw [add_block];exact hn159_3)|(show (Addr.add _ _).block≠_;rw [add_block];exact hn159_3)|exact hn159_3) (.string (⟨#[]⟩ : ByteArray))).trans hx159_0
                       replace hx159_1:=(cell_far (p:=⟨gb157,3,none⟩) (by first|(rw [add_block];exact hn159_3)|(show (Addr.add _ _).block≠_;rw [add_block];exact hn159_3)|exact hn159_3) (.string (⟨#[]⟩ : ByteArray))).trans hx159_1
                       replace hx159_2:=(cell_far (p:=⟨gb157,3,none⟩) (by first|(rw [add_block];exact hn159_3)|(show (Addr.add _ _).block≠_;rw [add_block];exact hn159_3)|exact hn159_3) (.string (⟨#[]⟩ : ByteArray))).trans hx159_2
                       replace hx159_3:=(cell_far (p:=⟨gb157,3,none⟩) (by first|(rw [add_block];exact hn159_3)|(show (Addr.add _ _).block≠_;rw [add_block];exact hn159_3)|exact hn159_3) (.string (⟨#[]⟩ : ByteArray))).trans hx159_3
                       (try have hy159_0:=fun (n_ : Nat)=>(show ((((((w26.drewN n_).setCell ⟨gb157,0,none⟩ (.int .i64 x9_12)).setCell ⟨gb157,1,none⟩ (.int .i64 (wrap64 (1 + x10_18)))).setCell ⟨gb157,2,none⟩ (.int .i64 ((rd_T39 l1 x8_1).f2.f0))).setCell ⟨gb157,3,none⟩ (.string (⟨#[]⟩ : ByteArray)))).cell? _=some _ from hx159_0))
                       (try have hy159_1:=fun (n_ : Nat)=>(show ((((((w26.drewN n_).setCell ⟨gb157,0,none⟩ (.int .i64 x9_12)).setCell ⟨gb157,1,none⟩ (.int .i64 (wrap64 (1 + x10_18)))).setCell ⟨gb157,2,none⟩ (.int .i64 ((rd_T39 l1 x8_1).f2.f0))).setCell ⟨gb157,3,none⟩ (.string (⟨#[]⟩ : ByteArray)))).cell? _=some _ from hx159_1))
                       (try have hy159_2:=fun (n_ : Nat)=>(show ((((((w26.drewN n_).setCell ⟨gb157,0,none⟩ (.int .i64 x9_12)).setCell ⟨gb157,1,none⟩ (.int .i64 (wrap64 (1 + x10_18)))).setCell ⟨gb157,2,none⟩ (.int .i64 ((rd_T39 l1 x8_1).f2.f0))).setCell ⟨gb157,3,none⟩ (.string (⟨#[]⟩ : ByteArray)))).cell? _=some _ from hx159_2))
                       (try have hy159_3:=fun (n_ : Nat)=>(show ((((((w26.drewN n_).setCell ⟨gb157,0,none⟩ (.int .i64 x9_12)).setCell ⟨gb157,1,none⟩ (.int .i64 (wrap64 (1 + x10_18)))).setCell ⟨gb157,2,none⟩ (.int .i64 ((rd_T39 l1 x8_1).f2.f0))).setCell ⟨gb157,3,none⟩ (.string (⟨#[]⟩ : ByteArray)))).cell? _=some _ from hx159_3))
                       clear hn159_0
                       clear hn159_1
                       clear hn159_2
                       clear hn159_3
                       replace p159:=eq_true p159
                       replace q159:=eq_true q159
                       have hnb34:=NB157_150.out
                       have hnc34:=NB150_157.out
                       have hcz35_0 : w26.cell? ⟨gb157,0,none⟩=some (.int .i64 0):=(blk_cell BK157.out 0).trans rfl
                       have hcz35_1 : w26.cell? ⟨gb157,1,none⟩=some (.int .i64 0):=(blk_cell BK157.out 1).trans rfl
                       have hcz35_2 : w26.cell? ⟨gb157,2,none⟩=some (.int .i64 0):=(blk_cell BK157.out 2).trans rfl
                       have hcz35_3 : w26.cell? ⟨gb157,3,none⟩=some (.string (⟨#[]⟩ : ByteArray)):=(blk_cell BK157.out 3).trans rfl
                       have hfz35_0:=blk_frozen BK157.out 0
                       have hfz35_1:=blk_frozen BK157.out 1
                       have hfz35_2:=blk_frozen BK157.out 2
                       have hfz35_3:=blk_frozen BK157.out 3
                       go_wp2
                       repeat (go_quiet (fail);try go_wp2)
                       go_meet
                       case rel=>exact ⟨_,(wrap64 (1 + x10_18)),(0),(((rd_T39 l1 x8_1).f2.f1).extract 0 ((ji31) : Int).toNat),(by first|exact H'|(subst_vars;exact H')),⟨by have:=HK1.out;have:=HJ6.out;have:=HJ12.out;have:=HJ18.out;first|omega|exact Nat.le_refl _⟩,⟨by (with_reducible repeat (first|apply Kd.R_alloc|apply Kd.R_drewN|apply Kd.R_drew));exact Kd.R_mono (Kd.R_far (p:=⟨gb157,3,none⟩) (Kd.R_far (p:=⟨gb157,2,none⟩) (Kd.R_far (p:=⟨gb157,3,none⟩) (Kd.R_far (p:=⟨gb157,2,none⟩) (Kd.R_far (p:=⟨gb157,1,none⟩) (Kd.R_far (p:=⟨gb157,0,none⟩) (Kd.R_mono HO_7.out (fun k_ hk=>(⟨hk,hk.2⟩ : _∧k_≠gb157))) (fun _ hk=>hk.2) (.int .i64 x9_12)) (fun _ hk=>hk.2) (.int .i64 (wrap64 (1 + x10_18)))) (fun _ hk=>hk.2) (.int .i64 ((rd_T39 l1 x8_1).f2.f0))) (fun _ hk=>hk.2) (.string (⟨#[]⟩ : ByteArray))) (fun _ hk=>hk.2) (.int .i64 0)) (fun _ hk=>hk.2) (.string (((rd_T39 l1 x8_1).f2.f1).extract 0 ((ji31) : Int).toNat))) (fun _ hk=>hk.1.2)⟩,⟨by (with_reducible repeat (first|refine blk_drewN ?_ _|refine blk_drew ?_|refine blk_alloc ?_ _));refine blk_far ?_ NB150_157.out _;(with_reducible repeat (first|refine blk_drewN ?_ _|refine blk_drew ?_|refine blk_alloc ?_ _));refine blk_far ?_ NB150_157.out _;(with_reducible repeat (first|refine blk_drewN ?_ _|refine blk_drew ?_|refine blk_alloc ?_ _));refine blk_far ?_ NB150_157.out _;(with_reducible repeat (first|refine blk_drewN ?_ _|refine blk_drew ?_|refine blk_alloc ?_ _));refine blk_far ?_ NB150_157.out _;(with_reducible repeat (first|refine blk_drewN ?_ _|refine blk_drew ?_|refine blk_alloc ?_ _));refine blk_far ?_ NB150_157.out _;(with_reducible repeat (first|refine blk_drewN ?_ _|refine blk_drew ?_|refine blk_alloc ?_ _));refine blk_far ?_ NB150_157.out _;(with_reducible repeat (first|refine blk_drewN ?_ _|refine blk_drew ?_|refine blk_alloc ?_ _));exact BK150.out⟩,⟨by (with_reducible repeat (first|refine blk_drewN ?_ _|refine blk_drew ?_|refine blk_alloc ?_ _));refine blk_put (cs:=#[.int .i64 x9_12,.int .i64 (wrap64 (1 + x10_18)),.int .i64 0,.string (⟨#[]⟩ : ByteArray)]) ?_ 3 _ rfl;(with_reducible repeat (first|refine blk_drewN ?_ _|refine blk_drew ?_|refine blk_alloc ?_ _));refine blk_put (cs:=#[.int .i64 x9_12,.int .i64 (wrap64 (1 + x10_18)),.int .i64 ((rd_T39 l1 x8_1).f2.f0),.string (⟨#[]⟩ : ByteArray)]) ?_ 2 _ rfl;(with_reducible repeat (first|refine blk_drewN ?_ _|refine blk_drew ?_|refine blk_alloc ?_ _));refine blk_put (cs:=#[.int .i64 x9_12,.int .i64 (wrap64 (1 + x10_18)),.int .i64 ((rd_T39 l1 x8_1).f2.f0),.string (⟨#[]⟩ : ByteArray)]) ?_ 3 _ rfl;(with_reducible repeat (first|refine blk_drewN ?_ _|refine blk_drew ?_|refine blk_alloc ?_ _));refine blk_put (cs:=#[.int .i64 x9_12,.int .i64 (wrap64 (1 + x10_18)),.int .i64 0,.string (⟨#[]⟩ : ByteArray)]) ?_ 2 _ rfl;(with_reducible repeat (first|refine blk_drewN ?_ _|refine blk_drew ?_|refine blk_alloc ?_ _));refine blk_put (cs:=#[.int .i64 x9_12,.int .i64 0,.int .i64 0,.string (⟨#[]⟩ : ByteArray)]) ?_ 1 _ rfl;(with_reducible repeat (first|refine blk_drewN ?_ _|refine blk_drew ?_|refine blk_alloc ?_ _));refine blk_put (cs:=#[.int .i64 0,.int .i64 0,.int .i64 0,.string (⟨#[]⟩ : ByteArray)]) ?_ 0 _ rfl;(with_reducible repeat (first|refine blk_drewN ?_ _|refine blk_drew ?_|refine blk_alloc ?_ _));exact BK157.out⟩,⟨by repeat (first|(with_reducible first|exact HB.out|apply below_alloc|apply pw_below_drewN|apply below_drew1|refine below_set ?_ GE150.out|refine below_set ?_ GE157.out)|exact HB.out)⟩⟩
                      ·rw [if_neg c33] at H
                       exact absurd H (by simp)
                     ·rw [if_neg c32] at H
                      exact absurd H (by simp)
                    ·rw [if_neg c30] at H
                     have c30b0 : ((rd l0_0 x9_12) == 3)=false:=beq_eq_false_iff_ne.mpr c30
                     have c30b1 : ((rd l0_0 x9_12) != 3)=true:=bne_iff_ne.mpr c30
                     (first|rw [c30b0]|(simp only [i64_w,i32_w];rw [c30b0])|skip)
                     have HC36:=Aside0.mk H
                     clear H
                     have hnb37:=NB157_150.out
                     have hnc37:=NB150_157.out
                     have hcz38_0 : w26.cell? ⟨gb157,0,none⟩=some (.int .i64 0):=(blk_cell BK157.out 0).trans rfl
                     have hcz38_1 : w26.cell? ⟨gb157,1,none⟩=some (.int .i64 0):=(blk_cell BK157.out 1).trans rfl
                     have hcz38_2 : w26.cell? ⟨gb157,2,none⟩=some (.int .i64 0):=(blk_cell BK157.out 2).trans rfl
                     have hcz38_3 : w26.cell? ⟨gb157,3,none⟩=some (.string (⟨#[]⟩ : ByteArray)):=(blk_cell BK157.out 3).trans rfl
                     have hfz38_0:=blk_frozen BK157.out 0
                     have hfz38_1:=blk_frozen BK157.out 1
                     have hfz38_2:=blk_frozen BK157.out 2
                     have hfz38_3:=blk_frozen BK157.out 3
                     go_upto_if 83 with (fail)
                     repeat (go_quiet (fail);go_upto_if 83 with (fail))
                     go_cut [] (fun wc=>∃ (kq : Nat) (x158001_35 : Int),Aside0 (thresherref19_Fit.j4 kq l1 a2 x7_1 x8_1 l0_0 a0_1 a0_2 a0_3 x9_12 x158001_35 ((rd_T39 l1 x8_1).f2.f0) (⟨#[]⟩ : ByteArray)=some r)∧Aside0 (kq≤kj18)∧Aside0 (Kd.R k39 39 wc w.heap.size (fun k_=>k_≠gb157) u7 x7_1)∧Aside0 (wc.heap[gb150]?=some (.cells #[(.slice (some ad158) l0_0.length c0_0),.int .i64 a0_1,.int .i64 a0_2,.int .i64 a0_3] 32 (0,0)))∧Aside0 (wc.heap[gb157]?=some (.cells #[.int .i64 x9_12,.int .i64 x158001_35,.int .i64 ((rd_T39 l1 x8_1).f2.f0),.string (⟨#[]⟩ : ByteArray)] 39 (0,0)))∧Aside0 (Below w.heap.size w wc))
                     case first =>
                      have H:=HC36.out
                      clear HC36
                      by_cases c39 : (wrap64 (1 + x10_18))=7
                      ·rw [if_pos c39] at H
                       have c39b0 : ((wrap64 (1 + x10_18)) == 7)=true:=beq_iff_eq.mpr c39
                       have c39b1 : ((wrap64 (1 + x10_18)) != 7)=false:=bne_eq_false_iff_eq.mpr c39
                       clear c39
                       (first|rw [c39b0]|(simp only [i64_w,i32_w];rw [c39b0])|skip)
                       have H':=Aside0.mk H
                       clear H
                       have hnb40:=NB157_150.out
                       have hnc40:=NB150_157.out
                       have hcz41_0 : w26.cell? ⟨gb157,0,none⟩=some (.int .i64 0):=(blk_cell BK157.out 0).trans rfl
                       have hcz41_1 : w26.cell? ⟨gb157,1,none⟩=some (.int .i64 0):=(blk_cell BK157.out 1).trans rfl
                       have hcz41_2 : w26.cell? ⟨gb157,2,none⟩=some (.int .i64 0):=(blk_cell BK157.out 2).trans rfl
                       have hcz41_3 : w26.cell? ⟨gb157,3,none⟩=some (.string (⟨#[]⟩ : ByteArray)):=(blk_cell BK157.out 3).trans rfl
                       have hfz41_0:=blk_frozen BK157.out 0
                       have hfz41_1:=blk_frozen BK157.out 1
                       have hfz41_2:=blk_frozen BK157.out 2
                       have hfz41_3:=blk_frozen BK157.out 3
                       go_wp2
                       repeat (go_quiet (fail);try go_wp2)
                       go_meet
                       case rel=>exact ⟨_,(1),(by first|exact H'|(subst_vars;exact H')),⟨by have:=HK1.out;have:=HJ6.out;have:=HJ12.out;have:=HJ18.out;first|omega|exact Nat.le_refl _⟩,⟨by (with_reducible repeat (first|apply Kd.R_alloc|apply Kd.R_drewN|apply Kd.R_drew));exact Kd.R_mono (Kd.R_far (p:=⟨gb157,1,none⟩) (Kd.R_far (p:=⟨gb157,3,none⟩) (Kd.R_far (p:=⟨gb157,2,none⟩) (Kd.R_far (p:=⟨gb157,1,none⟩) (Kd.R_far (p:=⟨gb157,0,none⟩) (Kd.R_mono HO_7.out (fun k_ hk=>(⟨hk,hk.2⟩ : _∧k_≠gb157))) (fun _ hk=>hk.2) (.int .i64 x9_12)) (fun _ hk=>hk.2) (.int .i64 (wrap64 (1 + x10_18)))) (fun _ hk=>hk.2) (.int .i64 ((rd_T39 l1 x8_1).f2.f0))) (fun _ hk=>hk.2) (.string (⟨#[]⟩ : ByteArray))) (fun _ hk=>hk.2) (.int .i64 1)) (fun _ hk=>hk.1.2)⟩,⟨by (with_reducible repeat (first|refine blk_drewN ?_ _|refine blk_drew ?_|refine blk_alloc ?_ _));refine blk_far ?_ NB150_157.out _;(with_reducible repeat (first|refine blk_drewN ?_ _|refine blk_drew ?_|refine blk_alloc ?_ _));refine blk_far ?_ NB150_157.out _;(with_reducible repeat (first|refine blk_drewN ?_ _|refine blk_drew ?_|refine blk_alloc ?_ _));refine blk_far ?_ NB150_157.out _;(with_reducible repeat (first|refine blk_drewN ?_ _|refine blk_drew ?_|refine blk_alloc ?_ _));refine blk_far ?_ NB150_157.out _;(with_reducible repeat (first|refine blk_drewN ?_ _|refine blk_drew ?_|refine blk_alloc ?_ _));refine blk_far ?_ NB150_157.out _;(with_reducible repeat (first|refine blk_drewN ?_ _|refine blk_drew ?_|refine blk_alloc ?_ _));exact BK150.out⟩,⟨by (with_reducible repeat (first|refine blk_drewN ?_ _|refine blk_drew ?_|refine blk_alloc ?_ _));refine blk_put (cs:=#[.int .i64 x9_12,.int .i64 (wrap64 (1 + x10_18)),.int .i64 ((rd_T39 l1 x8_1).f2.f0),.string (⟨#[]⟩ : ByteArray)]) ?_ 1 _ rfl;(with_reducible repeat (first|refine blk_drewN ?_ _|refine blk_drew ?_|refine blk_alloc ?_ _));refine blk_put (cs:=#[.int .i64 x9_12,.int .i64 (wrap64 (1 + x10_18)),.int .i64 ((rd_T39 l1 x8_1).f2.f0),.string (⟨#[]⟩ : ByteArray)]) ?_ 3 _ rfl;(with_reducible repeat (first|refine blk_drewN ?_ _|refine blk_drew ?_|refine blk_alloc ?_ _));refine blk_put (cs:=#[.int .i64 x9_12,.int .i64 (wrap64 (1 + x10_18)),.int .i64 0,.string (⟨#[]⟩ : ByteArray)]) ?_ 2 _ rfl;(with_reducible repeat (first|refine blk_drewN ?_ _|refine blk_drew ?_|refine blk_alloc ?_ _));refine blk_put (cs:=#[.int .i64 x9_12,.int .i64 0,.int .i64 0,.string (⟨#[]⟩ : ByteArray)]) ?_ 1 _ rfl;(with_reducible repeat (first|refine blk_drewN ?_ _|refine blk_drew ?_|refine blk_alloc ?_ _));refine blk_put (cs:=#[.int .i64 0,.int .i64 0,.int .i64 0,.string (⟨#[]⟩ : ByteArray)]) ?_ 0 _ rfl;(with_reducible repeat (first|refine blk_drewN ?_ _|refine blk_drew ?_|refine blk_alloc ?_ _));exact BK157.out⟩,⟨by repeat (first|(with_reducible first|exact HB.out|apply below_alloc|apply pw_below_drewN|apply below_drew1|refine below_set ?_ GE150.out|refine below_set ?_ GE157.out)|exact HB.out)⟩⟩
                      ·rw [if_neg c39] at H
                       have c39b0 : ((wrap64 (1 + x10_18)) == 7)=false:=beq_eq_false_iff_ne.mpr c39
                       have c39b1 : ((wrap64 (1 + x10_18)) != 7)=true:=bne_iff_ne.mpr c39
                       (first|rw [c39b0]|(simp only [i64_w,i32_w];rw [c39b0])|skip)
                       have H':=Aside0.mk H
                       clear H
                       go_wp2
                       repeat (go_quiet (fail);try go_wp2)
                       go_meet
                       case rel=>exact ⟨_,(wrap64 (1 + x10_18)),(by first|exact H'|(subst_vars;exact H')),⟨by have:=HK1.out;have:=HJ6.out;have:=HJ12.out;have:=HJ18.out;first|omega|exact Nat.le_refl _⟩,⟨by (with_reducible repeat (first|apply Kd.R_alloc|apply Kd.R_drewN|apply Kd.R_drew));exact Kd.R_mono (Kd.R_far (p:=⟨gb157,3,none⟩) (Kd.R_far (p:=⟨gb157,2,none⟩) (Kd.R_far (p:=⟨gb157,1,none⟩) (Kd.R_far (p:=⟨gb157,0,none⟩) (Kd.R_mono HO_7.out (fun k_ hk=>(⟨hk,hk.2⟩ : _∧k_≠gb157))) (fun _ hk=>hk.2) (.int .i64 x9_12)) (fun _ hk=>hk.2) (.int .i64 (wrap64 (1 + x10_18)))) (fun _ hk=>hk.2) (.int .i64 ((rd_T39 l1 x8_1).f2.f0))) (fun _ hk=>hk.2) (.string (⟨#[]⟩ : ByteArray))) (fun _ hk=>hk.1.2)⟩,⟨by (with_reducible repeat (first|refine blk_drewN ?_ _|refine blk_drew ?_|refine blk_alloc ?_ _));refine blk_far ?_ NB150_157.out _;(with_reducible repeat (first|refine blk_drewN ?_ _|refine blk_drew ?_|refine blk_alloc ?_ _));refine blk_far ?_ NB150_157.out _;(with_reducible repeat (first|refine blk_drewN ?_ _|refine blk_drew ?_|refine blk_alloc ?_ _));refine blk_far ?_ NB150_157.out _;(with_reducible repeat (first|refine blk_drewN ?_ _|refine blk_drew ?_|refine blk_alloc ?_ _));refine blk_far ?_ NB150_157.out _;(with_reducible repeat (first|refine blk_drewN ?_ _|refine blk_drew ?_|refine blk_alloc ?_ _));exact BK150.out⟩,⟨by (with_reducible repeat (first|refine blk_drewN ?_ _|refine blk_drew ?_|refine blk_alloc ?_ _));refine blk_put (cs:=#[.int .i64 x9_12,.int .i64 (wrap64 (1 + x10_18)),.int .i64 ((rd_T39 l1 x8_1).f2.f0),.string (⟨#[]⟩ : ByteArray)]) ?_ 3 _ rfl;(with_reducible repeat (first|refine blk_drewN ?_ _|refine blk_drew ?_|refine blk_alloc ?_ _));refine blk_put (cs:=#[.int .i64 x9_12,.int .i64 (wrap64 (1 + x10_18)),.int .i64 0,.string (⟨#[]⟩ : ByteArray)]) ?_ 2 _ rfl;(with_reducible repeat (first|refine blk_drewN ?_ _|refine blk_drew ?_|refine blk_alloc ?_ _));refine blk_put (cs:=#[.int .i64 x9_12,.int .i64 0,.int .i64 0,.string (⟨#[]⟩ : ByteArray)]) ?_ 1 _ rfl;(with_reducible repeat (first|refine blk_drewN ?_ _|refine blk_drew ?_|refine blk_alloc ?_ _));refine blk_put (cs:=#[.int .i64 0,.int .i64 0,.int .i64 0,.string (⟨#[]⟩ : ByteArray)]) ?_ 0 _ rfl;(with_reducible repeat (first|refine blk_drewN ?_ _|refine blk_drew ?_|refine blk_alloc ?_ _));exact BK157.out⟩,⟨by repeat (first|(with_reducible first|exact HB.out|apply below_alloc|apply pw_below_drewN|apply below_drew1|refine below_set ?_ GE150.out|refine below_set ?_ GE157.out)|exact HB.out)⟩⟩
                     case rest =>
                      clear HC36
                      try clear c1
                      try clear p1
                      try clear q1
                      try clear hx1
                      try clear c2
                      try clear p2
                      try clear c3
                      try clear c4
                      try clear p6
                      try clear c8
                      try clear c8b0
                      try clear c9
                      try clear c10
                      try clear c10b0
                      try clear c11
                      try clear c11b0
                      try clear c12
                      try clear c12b0
                      try clear c12b1
                      try clear c12b2
                      try clear c15
                      try clear c15b0
                      try clear p15
                      try clear q15
                      try clear hx15
                      try clear c17
                      try clear c17b0
                      try clear c18
                      try clear c18b0
                      try clear c20
                      try clear c20b0
                      try clear c21
                      try clear c21b0
                      try clear c22
                      try clear c22b0
                      try clear c23
                      try clear c23b0
                      try clear c24
                      try clear c24b0
                      try clear c27
                      try clear c30
                      try clear c30b0
                      try clear c30b1
                      try clear c32
                      try clear c32b0
                      try clear c32b1
                      try clear c33
                      try clear c33b0
                      try clear c33b1
                      try clear c34
                      try clear c37
                      try clear c39
                      try clear c39b0
                      try clear c39b1
                      try clear c40
                      try clear hcz14_0
                      try clear hcz14_1
                      try clear hcz14_2
                      try clear hcz14_3
                      try clear hcz16_0
                      try clear hcz16_1
                      try clear hcz16_2
                      try clear hcz16_3
                      try clear hcz28_0
                      try clear hcz28_1
                      try clear hcz28_2
                      try clear hcz28_3
                      try clear hcz29_0
                      try clear hcz29_1
                      try clear hcz29_2
                      try clear hcz29_3
                      try clear hcz35_0
                      try clear hcz35_1
                      try clear hcz35_2
                      try clear hcz35_3
                      try clear hcz38_0
                      try clear hcz38_1
                      try clear hcz38_2
                      try clear hcz38_3
                      try clear hcz41_0
                      try clear hcz41_1
                      try clear hcz41_2
                      try clear hcz41_3
                      try clear hfz14_0
                      try clear hfz14_1
                      try clear hfz14_2
                      try clear hfz14_3
                      try clear hfz16_0
                      try clear hfz16_1
                      try clear hfz16_2
                      try clear hfz16_3
                      try clear hfz28_0
                      try clear hfz28_1
                      try clear hfz28_2
                      try clear hfz28_3
                      try clear hfz29_0
                      try clear hfz29_1
                      try clear hfz29_2
                      try clear hfz29_3
                      try clear hfz35_0
                      try clear hfz35_1
                      try clear hfz35_2
                      try clear hfz35_3
                      try clear hfz38_0
                      try clear hfz38_1
                      try clear hfz38_2
                      try clear hfz38_3
                      try clear hfz41_0
                      try clear hfz41_1
                      try clear hfz41_2
                      try clear hfz41_3
                      try clear hx154_0
                      try clear hx154_1
                      try clear hx154_2
                      try clear hx154_3
                      try clear hx155_0
                      try clear hx155_1
                      try clear hx155_2
                      try clear hx155_3
                      try clear hx156_0
                      try clear hx156_1
                      try clear hx156_2
                      try clear hx156_3
                      try clear hx158_0
                      try clear hx159_0
                      try clear hx159_1
                      try clear hx159_2
                      try clear hx159_3
                      try clear p1
                      try clear p15
                      try clear p154
                      try clear p155
                      try clear p156
                      try clear p158
                      try clear p159
                      try clear p2
                      try clear p6
                      try clear q1
                      try clear q15
                      try clear q154
                      try clear q155
                      try clear q156
                      try clear q158
                      try clear q159
                      obtain ⟨kq,x158001_35,HA,HJ35,HO_7,BK150,BK157,HB⟩:=hcut
                      cases kq with
                      | zero=>exact absurd HA.out (by simp [thresherref19_Fit.j4])
                      | succ kj35 =>
                       have H:=HA.out
                       clear HA
                       simp only [thresherref19_Fit.j4] at H
                       have H':=Aside0.mk H
                       clear H
                       go_wp2
                       repeat (go_quiet (fail);try go_wp2)
                       go_meet
                       case rel=>exact ⟨_,(x158001_35),(((rd_T39 l1 x8_1).f2.f0)),((⟨#[]⟩ : ByteArray)),(by first|exact H'|(subst_vars;exact H')),⟨by have:=HK1.out;have:=HJ6.out;have:=HJ12.out;have:=HJ18.out;have:=HJ35.out;first|omega|exact Nat.le_refl _⟩,⟨by (with_reducible repeat (first|apply Kd.R_alloc|apply Kd.R_drewN|apply Kd.R_drew));exact HO_7.out⟩,⟨by (with_reducible repeat (first|refine blk_drewN ?_ _|refine blk_drew ?_|refine blk_alloc ?_ _));exact BK150.out⟩,⟨by (with_reducible repeat (first|refine blk_drewN ?_ _|refine blk_drew ?_|refine blk_alloc ?_ _));exact BK157.out⟩,⟨by repeat (first|(with_reducible first|exact HB.out|apply below_alloc|apply pw_below_drewN|apply below_drew1|refine below_set ?_ GE150.out|refine below_set ?_ GE157.out)|exact HB.out)⟩⟩
                   case rest =>
                    clear HC25
                    try clear c1
                    try clear p1
                    try clear q1
                    try clear hx1
                    try clear c2
                    try clear p2
                    try clear c3
                    try clear c4
                    try clear p6
                    try clear c8
                    try clear c8b0
                    try clear c9
                    try clear c10
                    try clear c10b0
                    try clear c11
                    try clear c11b0
                    try clear c12
                    try clear c12b0
                    try clear c12b1
                    try clear c12b2
                    try clear c15
                    try clear c15b0
                    try clear p15
                    try clear q15
                    try clear hx15
                    try clear c17
                    try clear c17b0
                    try clear c18
                    try clear c18b0
                    try clear c20
                    try clear c20b0
                    try clear c21
                    try clear c21b0
                    try clear c22
                    try clear c22b0
                    try clear c23
                    try clear c23b0
                    try clear c24
                    try clear c24b0
                    try clear c27
                    try clear c30
                    try clear c30b0
                    try clear c30b1
                    try clear c32
                    try clear c32b0
                    try clear c32b1
                    try clear c33
                    try clear c33b0
                    try clear c33b1
                    try clear c34
                    try clear c37
                    try clear c39
                    try clear c39b0
                    try clear c39b1
                    try clear c40
                    try clear hcz14_0
                    try clear hcz14_1
                    try clear hcz14_2
                    try clear hcz14_3
                    try clear hcz16_0
                    try clear hcz16_1
                    try clear hcz16_2
                    try clear hcz16_3
                    try clear hcz28_0
                    try clear hcz28_1
                    try clear hcz28_2
                    try clear hcz28_3
                    try clear hcz29_0
                    try clear hcz29_1
                    try clear hcz29_2
                    try clear hcz29_3
                    try clear hcz35_0
                    try clear hcz35_1
                    try clear hcz35_2
                    try clear hcz35_3
                    try clear hcz38_0
                    try clear hcz38_1
                    try clear hcz38_2
                    try clear hcz38_3
                    try clear hcz41_0
                    try clear hcz41_1
                    try clear hcz41_2
                    try clear hcz41_3
                    try clear hfz14_0
                    try clear hfz14_1
                    try clear hfz14_2
                    try clear hfz14_3
                    try clear hfz16_0
                    try clear hfz16_1
                    try clear hfz16_2
                    try clear hfz16_3
                    try clear hfz28_0
                    try clear hfz28_1
                    try clear hfz28_2
                    try clear hfz28_3
                    try clear hfz29_0
                    try clear hfz29_1
                    try clear hfz29_2
                    try clear hfz29_3
                    try clear hfz35_0
                    try clear hfz35_1
                    try clear hfz35_2
                    try clear hfz35_3
                    try clear hfz38_0
                    try clear hfz38_1
                    try clear hfz38_2
                    try clear hfz38_3
                    try clear hfz41_0
                    try clear hfz41_1
                    try clear hfz41_2
                    try clear hfz41_3
                    try clear hx154_0
                    try clear hx154_1
                    try clear hx154_2
                    try clear hx154_3
                    try clear hx155_0
                    try clear hx155_1
                    try clear hx155_2
                    try clear hx155_3
                    try clear hx156_0
                    try clear hx156_1
                    try clear hx156_2
                    try clear hx156_3
                    try clear hx158_0
                    try clear hx159_0
                    try clear hx159_1
                    try clear hx159_2
                    try clear hx159_3
                    try clear p1
                    try clear p15
                    try clear p154
                    try clear p155
                    try clear p156
                    try clear p158
                    try clear p159
                    try clear p2
                    try clear p6
                    try clear q1
                    try clear q15
                    try clear q154
                    try clear q155
                    try clear q156
                    try clear q158
                    try clear q159
                    obtain ⟨kq,x158001_24,x158002_24,x158003_24,HA,HJ24,HO_7,BK150,BK157,HB⟩:=hcut
                    cases kq with
                    | zero=>exact absurd HA.out (by simp [thresherref19_Fit.j5])
                    | succ kj24 =>
                     have H:=HA.out
                     clear HA
                     simp only [thresherref19_Fit.j5] at H
                     by_cases c42 : x7_1.length < 3518437208883
                     ·rw [if_pos c42] at H
                      have LMc42:=Aside0.mk c42
                      clear c42
                      obtain ⟨y160,hy160⟩ : ∃ y_ : List (S39),y_=(x7_1 ++ [(⟨x9_12,x158001_24,(⟨x158002_24,x158003_24⟩ : S37)⟩ : S39)]):=⟨_,rfl⟩
                      replace H : (thresherref19_Fit.l0 kj24 l1 a2 y160 (wrap64 (x8_1 + 1)) l0_0 a0_1 a0_2 a0_3)=some r:=by first|(rw [hy160];with_reducible exact H)|(have H2_:=(Option.bind_some _ _).symm.trans H;rw [hy160];with_reducible exact H2_)|(have H2_:=(Option.bind_some _ _).symm.trans H;with_reducible exact H2_)|with_reducible exact H|(rw [hy160];exact H)|exact H
                      have Ny160:=Aside0.mk hy160
                      clear hy160
                      have H':=Aside0.mk H
                      clear H
                      have hnb43:=NB157_150.out
                      have hnc43:=NB150_157.out
                      have hcz44_0 : wc.cell? ⟨gb157,0,none⟩=some (.int .i64 x9_12):=(blk_cell BK157.out 0).trans rfl
                      have hcz44_1 : wc.cell? ⟨gb157,1,none⟩=some (.int .i64 x158001_24):=(blk_cell BK157.out 1).trans rfl
                      have hcz44_2 : wc.cell? ⟨gb157,2,none⟩=some (.int .i64 x158002_24):=(blk_cell BK157.out 2).trans rfl
                      have hcz44_3 : wc.cell? ⟨gb157,3,none⟩=some (.string x158003_24):=(blk_cell BK157.out 3).trans rfl
                      have hfz44_0:=blk_frozen BK157.out 0
                      have hfz44_1:=blk_frozen BK157.out 1
                      have hfz44_2:=blk_frozen BK157.out 2
                      have hfz44_3:=blk_frozen BK157.out 3
                      go_wp2_with (first|((with_reducible refine gate_builtin (b:=.append) (xs:=#[.tmp 85,.tmp 87]) rfl ?_);at_builtin;refine Kd.R_append k39 (w0:=w) w.heap.size rfl (.tmp 85) (.tmp 87) 25 39 (.agg #[(.int .i64 0),(.int .i64 0),(.int .i64 0),(.string ⟨#[]⟩)]) 40 rfl Try.underlying25 info39 rfl (by decide) (by omega) u7 x7_1 (⟨x9_12,x158001_24,(⟨x158002_24,x158003_24⟩ : S37)⟩ : S39) [.int .i64 x9_12,.int .i64 x158001_24,.int .i64 x158002_24,.string x158003_24] (fun k_=>k_≠gb157) (fun _=>False) rfl rfl ?aP (fun _ hk=>hk.elim) ?aF ?aO ?aB ?aS ?aL ?_;(case aP=>exact k39_mkM _ _ _ (⟨x9_12,x158001_24,(⟨x158002_24,x158003_24⟩ : S37)⟩ : S39));(case aB=>exact (below_go HB.out));(case aF=>exact (fun k_ hk=>Kd.freshB (blk_up BK157.out) k_ hk));(case aO=>exact (R_up HO_7.out));(case aS=>exact (below_size (below_go HB.out)));(case aL=>have:=LMc42.out;omega);intro v161 w45 ho hb hg hat;rw [← Ny160.out] at ho;have n0_:=Aside0.mk (blk_grown (blk_up BK150.out) hg (Kd.R_ne HO_7.out BK150.out (by decide)));have n1_:=Aside0.mk (blk_grown (blk_up BK157.out) hg (Kd.R_away HO_7.out (fun _ hk=>hk)));have n2_:=Aside0.mk (hb);have n3_:=Aside0.mk (ho);clear BK150;clear BK157;clear HB;clear HO_7;have BK150:=n0_;have BK157:=n1_;have HB:=n2_;have HO162:=n3_;clear n0_ n1_ n2_ n3_;clear ho hb hg hat))
                      repeat (go_quiet (first|((with_reducible refine gate_builtin (b:=.append) (xs:=#[.tmp 85,.tmp 87]) rfl ?_);at_builtin;refine Kd.R_append k39 (w0:=w) w.heap.size rfl (.tmp 85) (.tmp 87) 25 39 (.agg #[(.int .i64 0),(.int .i64 0),(.int .i64 0),(.string ⟨#[]⟩)]) 40 rfl Try.underlying25 info39 rfl (by decide) (by omega) u7 x7_1 (⟨x9_12,x158001_24,(⟨x158002_24,x158003_24⟩ : S37)⟩ : S39) [.int .i64 x9_12,.int .i64 x158001_24,.int .i64 x158002_24,.string x158003_24] (fun k_=>k_≠gb157) (fun _=>False) rfl rfl ?aP (fun _ hk=>hk.elim) ?aF ?aO ?aB ?aS ?aL ?_;(case aP=>exact k39_mkM _ _ _ (⟨x9_12,x158001_24,(⟨x158002_24,x158003_24⟩ : S37)⟩ : S39));(case aB=>exact (below_go HB.out));(case aF=>exact (fun k_ hk=>Kd.freshB (blk_up BK157.out) k_ hk));(case aO=>exact (R_up HO_7.out));(case aS=>exact (below_size (below_go HB.out)));(case aL=>have:=LMc42.out;omega);intro v161 w45 ho hb hg hat;rw [← Ny160.out] at ho;have n0_:=Aside0.mk (blk_grown (blk_up BK150.out) hg (Kd.R_ne HO_7.out BK150.out (by decide)));have n1_:=Aside0.mk (blk_grown (blk_up BK157.out) hg (Kd.R_away HO_7.out (fun _ hk=>hk)));have n2_:=Aside0.mk (hb);have n3_:=Aside0.mk (ho);clear BK150;clear BK157;clear HB;clear HO_7;have BK150:=n0_;have BK157:=n1_;have HB:=n2_;have HO162:=n3_;clear n0_ n1_ n2_ n3_;clear ho hb hg hat));try go_wp2_with (first|((with_reducible refine gate_builtin (b:=.append) (xs:=#[.tmp 85,.tmp 87]) rfl ?_);at_builtin;refine Kd.R_append k39 (w0:=w) w.heap.size rfl (.tmp 85) (.tmp 87) 25 39 (.agg #[(.int .i64 0),(.int .i64 0),(.int .i64 0),(.string ⟨#[]⟩)]) 40 rfl Try.underlying25 info39 rfl (by decide) (by omega) u7 x7_1 (⟨x9_12,x158001_24,(⟨x158002_24,x158003_24⟩ : S37)⟩ : S39) [.int .i64 x9_12,.int .i64 x158001_24,.int .i64 x158002_24,.string x158003_24] (fun k_=>k_≠gb157) (fun _=>False) rfl rfl ?aP (fun _ hk=>hk.elim) ?aF ?aO ?aB ?aS ?aL ?_;(case aP=>exact k39_mkM _ _ _ (⟨x9_12,x158001_24,(⟨x158002_24,x158003_24⟩ : S37)⟩ : S39));(case aB=>exact (below_go HB.out));(case aF=>exact (fun k_ hk=>Kd.freshB (blk_up BK157.out) k_ hk));(case aO=>exact (R_up HO_7.out));(case aS=>exact (below_size (below_go HB.out)));(case aL=>have:=LMc42.out;omega);intro v161 w45 ho hb hg hat;rw [← Ny160.out] at ho;have n0_:=Aside0.mk (blk_grown (blk_up BK150.out) hg (Kd.R_ne HO_7.out BK150.out (by decide)));have n1_:=Aside0.mk (blk_grown (blk_up BK157.out) hg (Kd.R_away HO_7.out (fun _ hk=>hk)));have n2_:=Aside0.mk (hb);have n3_:=Aside0.mk (ho);clear BK150;clear BK157;clear HB;clear HO_7;have BK150:=n0_;have BK157:=n1_;have HB:=n2_;have HO162:=n3_;clear n0_ n1_ n2_ n3_;clear ho hb hg hat)))
                      go_roundg kj24
                      case measure=>have:=HK1.out;have:=HJ6.out;have:=HJ12.out;have:=HJ18.out;have:=HJ24.out;omega
                      case rel=>exact ⟨(y160),(wrap64 (x8_1 + 1)),(by first|rfl|(simp;done)|(simp [*];done)),(by first|exact H'|(subst_vars;exact H')),⟨by have:=HK1.out;have:=HJ6.out;have:=HJ12.out;have:=HJ18.out;have:=HJ24.out;omega⟩,⟨by (with_reducible repeat (first|apply Kd.R_alloc|apply Kd.R_drewN|apply Kd.R_drew));exact Kd.R_mono HO162.out (fun _ hk=>trivial)⟩,⟨by (with_reducible repeat (first|refine blk_drewN ?_ _|refine blk_drew ?_|refine blk_alloc ?_ _));exact BK150.out⟩,⟨by repeat (first|(with_reducible first|exact HB.out|apply below_alloc|apply pw_below_drewN|apply below_drew1|refine below_set ?_ GE150.out|refine below_set ?_ GE157.out)|exact HB.out)⟩⟩
                     ·rw [if_neg c42] at H
                      exact absurd H (by simp)
                  ·rw [if_neg c24] at H
                   exact absurd H (by simp)
                 ·rw [if_neg c23] at H
                  exact absurd H (by simp)
                ·rw [if_neg c22] at H
                 exact absurd H (by simp)
               ·rw [if_neg c21] at H
                exact absurd H (by simp)
            ·rw [if_neg c18] at H
             exact absurd H (by simp)
           ·rw [if_neg c17] at H
            exact absurd H (by simp)
       ·rw [if_neg c11] at H
        exact absurd H (by simp)
      ·rw [if_neg c10] at H
       exact absurd H (by simp)
     ·replace c9:=Bool.eq_false_iff.mpr c9
      subst c9
      have H1 : (some x7_1)=some r:=by rw [if_neg (show ¬ (false=true) by decide)] at H;exact H
      clear H
      have H:=H1
      clear H1
      obtain rfl:=Option.some.inj H
      go_wp2
      repeat (go_quiet (fail);try go_wp2)
      go_ret
      exact ⟨_,by first|rfl|(simp [errW_none,errW_some] <;> rfl)|(simp [*,errW_none,errW_some] <;> rfl),by (with_reducible repeat (first|apply Kd.R_alloc|apply Kd.R_drewN|apply Kd.R_drew));exact HO_7.out,by repeat (first|(with_reducible first|exact HB.out|apply below_alloc|apply pw_below_drewN|apply below_drew1|refine below_set ?_ GE150.out)|exact HB.out)⟩
end Go.Proofs.Ytbkpifcjgedjaaa.P

