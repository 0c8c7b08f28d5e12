/- Texts of AggAll. Merged: Px12. -/
import Derived.Test.YtapaldcdoahfeaaQAggAllPx0
-- Written by wip/tools/myprint.py over the kit's print (a program's print; Lean checks it).
namespace Go.Proofs.Ytapaldcdoahfeaa.P
open Go.RowKit Go.Proofs.YtapaldcdoahfeaaW.PrintWords Go.Proofs.YtapaldcdoahfeaaW.PrintLast Go.Proofs.YtapaldcdoahfeaaW.PrintMore
attribute [local go_sem] max2_int min2_int max_two min_two max_three min_three max_four min_four   -- for this text's walks alone
set_option linter.unusedVariables false
set_option linter.unusedSimpArgs false

/-! ### thresherref20_Fit: function 14 -/
mutual
def thresherref20_Fit.l0 : Nat→List (S33)→Int→List (S33)→Int→List Int→Int→Int→Int→Option ((List (S33)))
 | 0,_,_,_,_,_,_,_,_=>none
 | k + 1,x1,x2,x7,x8,x277000,x277001,x277002,x277003=>if x8 < (x1.length : Int) then (thresherref20_Fit.j1 k x1 x2 x7 x8 (decide (x8 < x2)) x277000 x277001 x277002 x277003) else (thresherref20_Fit.j1 k x1 x2 x7 x8 false x277000 x277001 x277002 x277003)
def thresherref20_Fit.j1 : Nat→List (S33)→Int→List (S33)→Int→Bool→List Int→Int→Int→Int→Option ((List (S33)))
 | 0,_,_,_,_,_,_,_,_,_=>none
 | k + 1,x1,x2,x7,x8,x20,x277000,x277001,x277002,x277003=>if x20=true then (if 0≤x8 then (if x8 < (x1.length : Int) then (if (x277000.length : Int)=0 then (none) else (if (Int.tmod ((rd_T33 x1 x8).f1) (x277000.length : Int)) < 0 then (thresherref20_Fit.j2 k x1 x2 x7 x8 (wrap64 ((Int.tmod ((rd_T33 x1 x8).f1) (x277000.length : Int)) + (x277000.length : Int))) x277000 x277001 x277002 x277003) else (thresherref20_Fit.j2 k x1 x2 x7 x8 (Int.tmod ((rd_T33 x1 x8).f1) (x277000.length : Int)) x277000 x277001 x277002 x277003))) else (none)) else (none)) else (some x7)
def thresherref20_Fit.j2 : Nat→List (S33)→Int→List (S33)→Int→Int→List Int→Int→Int→Int→Option ((List (S33)))
 | 0,_,_,_,_,_,_,_,_,_=>none
 | k + 1,x1,x2,x7,x8,x9,x277000,x277001,x277002,x277003=>if 0≤x8 then (if x8 < (x1.length : Int) then (if (wrap64 (1 + (Go.bits .and .i64 ((rd_T33 x1 x8).f0) 3)))=2 then (if 0≤x9 then (if x9 < (x277000.length : Int) then (thresherref20_Fit.j3 k x1 x2 x7 x8 x9 (wrap64 (1 + (Go.bits .and .i64 ((rd_T33 x1 x8).f0) 3))) ((rd x277000 x9) == 3) x277000 x277001 x277002 x277003) else (none)) else (none)) else (thresherref20_Fit.j3 k x1 x2 x7 x8 x9 (wrap64 (1 + (Go.bits .and .i64 ((rd_T33 x1 x8).f0) 3))) false x277000 x277001 x277002 x277003)) else (none)) else (none)
def thresherref20_Fit.j3 : Nat→List (S33)→Int→List (S33)→Int→Int→Int→Bool→List Int→Int→Int→Int→Option ((List (S33)))
 | 0,_,_,_,_,_,_,_,_,_,_,_=>none
 | k + 1,x1,x2,x7,x8,x9,x10,x55,x277000,x277001,x277002,x277003=>if x55=true then (thresherref20_Fit.j4 k x1 x2 x7 x8 x9 4 x277000 x277001 x277002 x277003) else (thresherref20_Fit.j4 k x1 x2 x7 x8 x9 x10 x277000 x277001 x277002 x277003)
def thresherref20_Fit.j4 : Nat→List (S33)→Int→List (S33)→Int→Int→Int→List Int→Int→Int→Int→Option ((List (S33)))
 | 0,_,_,_,_,_,_,_,_,_,_=>none
 | k + 1,x1,x2,x7,x8,x9,x10,x277000,x277001,x277002,x277003=>if x10=1 then (if x7.length < 8796093022208 then (thresherref20_Fit.l0 k x1 x2 (x7 ++ [(⟨x10,0⟩ : S33)]) (wrap64 (x8 + 1)) x277000 x277001 x277002 x277003) else (none)) else (if x7.length < 8796093022208 then (thresherref20_Fit.l0 k x1 x2 (x7 ++ [(⟨x10,x9⟩ : S33)]) (wrap64 (x8 + 1)) x277000 x277001 x277002 x277003) else (none))
end
def thresherref20_Fit.f (k : Nat) (l0_0 : List Int) (a0_1 : Int) (a0_2 : Int) (a0_3 : Int) (l1 : List (S33)) (a2 : Int) : Option ((List (S33))):=thresherref20_Fit.l0 k l1 a2 (([] : List (S33))) 0 l0_0 a0_1 a0_2 a0_3
theorem thresherref20_Fit.mono_l : ∀ k,(∀ y0 y1 y2 y3 y4 y5 y6 y7,LeO (thresherref20_Fit.l0 k y0 y1 y2 y3 y4 y5 y6 y7) (thresherref20_Fit.l0 (k + 1) y0 y1 y2 y3 y4 y5 y6 y7))∧(∀ y0 y1 y2 y3 y4 y5 y6 y7 y8,LeO (thresherref20_Fit.j1 k y0 y1 y2 y3 y4 y5 y6 y7 y8) (thresherref20_Fit.j1 (k + 1) y0 y1 y2 y3 y4 y5 y6 y7 y8))∧(∀ y0 y1 y2 y3 y4 y5 y6 y7 y8,LeO (thresherref20_Fit.j2 k y0 y1 y2 y3 y4 y5 y6 y7 y8) (thresherref20_Fit.j2 (k + 1) y0 y1 y2 y3 y4 y5 y6 y7 y8))∧(∀ y0 y1 y2 y3 y4 y5 y6 y7 y8 y9 y10,LeO (thresherref20_Fit.j3 k y0 y1 y2 y3 y4 y5 y6 y7 y8 y9 y10) (thresherref20_Fit.j3 (k + 1) y0 y1 y2 y3 y4 y5 y6 y7 y8 y9 y10))∧(∀ y0 y1 y2 y3 y4 y5 y6 y7 y8 y9,LeO (thresherref20_Fit.j4 k y0 y1 y2 y3 y4 y5 y6 y7 y8 y9) (thresherref20_Fit.j4 (k + 1) y0 y1 y2 y3 y4 y5 y6 y7 y8 y9))
 | 0=>⟨fun _ _ _ _ _ _ _ _ r h=>by simp [thresherref20_Fit.l0] at h,fun _ _ _ _ _ _ _ _ _ r h=>by simp [thresherref20_Fit.j1] at h,fun _ _ _ _ _ _ _ _ _ r h=>by simp [thresherref20_Fit.j2] at h,fun _ _ _ _ _ _ _ _ _ _ _ r h=>by simp [thresherref20_Fit.j3] at h,fun _ _ _ _ _ _ _ _ _ _ r h=>by simp [thresherref20_Fit.j4] at h⟩
 | k + 1=>by
  obtain ⟨ih0,ih1,ih2,ih3,ih4⟩:=thresherref20_Fit.mono_l k
  refine ⟨?_,?_,?_,?_,?_⟩
  ·intro y0 y1 y2 y3 y4 y5 y6 y7
   unfold thresherref20_Fit.l0
   repeat' first
   | (with_reducible exact ih0 _ _ _ _ _ _ _ _)
   | (with_reducible exact ih1 _ _ _ _ _ _ _ _ _)
   | (with_reducible exact ih2 _ _ _ _ _ _ _ _ _)
   | (with_reducible exact ih3 _ _ _ _ _ _ _ _ _ _ _)
   | (with_reducible exact ih4 _ _ _ _ _ _ _ _ _ _)
   | (with_reducible exact LeO.refl _)
   | (with_reducible exact LeO.none _)
   | (with_reducible refine LeO.ite ?_ ?_)
   | (with_reducible refine LeO.bind ?_ (fun _=>?_))
   | exact ih0 _ _ _ _ _ _ _ _
   | exact ih1 _ _ _ _ _ _ _ _ _
   | exact ih2 _ _ _ _ _ _ _ _ _
   | exact ih3 _ _ _ _ _ _ _ _ _ _ _
   | exact ih4 _ _ _ _ _ _ _ _ _ _
   | exact LeO.none _
   | refine LeO.ite ?_ ?_
   | refine LeO.bind ?_ (fun _=>?_)
  ·intro y0 y1 y2 y3 y4 y5 y6 y7 y8
   unfold thresherref20_Fit.j1
   repeat' first
   | (with_reducible exact ih0 _ _ _ _ _ _ _ _)
   | (with_reducible exact ih1 _ _ _ _ _ _ _ _ _)
   | (with_reducible exact ih2 _ _ _ _ _ _ _ _ _)
   | (with_reducible exact ih3 _ _ _ _ _ _ _ _ _ _ _)
   | (with_reducible exact ih4 _ _ _ _ _ _ _ _ _ _)
   | (with_reducible exact LeO.refl _)
   | (with_reducible exact LeO.none _)
   | (with_reducible refine LeO.ite ?_ ?_)
   | (with_reducible refine LeO.bind ?_ (fun _=>?_))
   | exact ih0 _ _ _ _ _ _ _ _
   | exact ih1 _ _ _ _ _ _ _ _ _
   | exact ih2 _ _ _ _ _ _ _ _ _
   | exact ih3 _ _ _ _ _ _ _ _ _ _ _
   | exact ih4 _ _ _ _ _ _ _ _ _ _
   | exact LeO.none _
   | refine LeO.ite ?_ ?_
   | refine LeO.bind ?_ (fun _=>?_)
  ·intro y0 y1 y2 y3 y4 y5 y6 y7 y8
   unfold thresherref20_Fit.j2
   repeat' first
   | (with_reducible exact ih0 _ _ _ _ _ _ _ _)
   | (with_reducible exact ih1 _ _ _ _ _ _ _ _ _)
   | (with_reducible exact ih2 _ _ _ _ _ _ _ _ _)
   | (with_reducible exact ih3 _ _ _ _ _ _ _ _ _ _ _)
   | (with_reducible exact ih4 _ _ _ _ _ _ _ _ _ _)
   | (with_reducible exact LeO.refl _)
   | (with_reducible exact LeO.none _)
   | (with_reducible refine LeO.ite ?_ ?_)
   | (with_reducible refine LeO.bind ?_ (fun _=>?_))
   | exact ih0 _ _ _ _ _ _ _ _
   | exact ih1 _ _ _ _ _ _ _ _ _
   | exact ih2 _ _ _ _ _ _ _ _ _
   | exact ih3 _ _ _ _ _ _ _ _ _ _ _
   | exact ih4 _ _ _ _ _ _ _ _ _ _
   | exact LeO.none _
   | refine LeO.ite ?_ ?_
   | refine LeO.bind ?_ (fun _=>?_)
  ·intro y0 y1 y2 y3 y4 y5 y6 y7 y8 y9 y10
   unfold thresherref20_Fit.j3
   repeat' first
   | (with_reducible exact ih0 _ _ _ _ _ _ _ _)
   | (with_reducible exact ih1 _ _ _ _ _ _ _ _ _)
   | (with_reducible exact ih2 _ _ _ _ _ _ _ _ _)
   | (with_reducible exact ih3 _ _ _ _ _ _ _ _ _ _ _)
   | (with_reducible exact ih4 _ _ _ _ _ _ _ _ _ _)
   | (with_reducible exact LeO.refl _)
   | (with_reducible exact LeO.none _)
   | (with_reducible refine LeO.ite ?_ ?_)
   | (with_reducible refine LeO.bind ?_ (fun _=>?_))
   | exact ih0 _ _ _ _ _ _ _ _
   | exact ih1 _ _ _ _ _ _ _ _ _
   | exact ih2 _ _ _ _ _ _ _ _ _
   | exact ih3 _ _ _ _ _ _ _ _ _ _ _
   | exact ih4 _ _ _ _ _ _ _ _ _ _
   | exact LeO.none _
   | refine LeO.ite ?_ ?_
   | refine LeO.bind ?_ (fun _=>?_)
  ·intro y0 y1 y2 y3 y4 y5 y6 y7 y8 y9
   unfold thresherref20_Fit.j4
   repeat' first
   | (with_reducible exact ih0 _ _ _ _ _ _ _ _)
   | (with_reducible exact ih1 _ _ _ _ _ _ _ _ _)
   | (with_reducible exact ih2 _ _ _ _ _ _ _ _ _)
   | (with_reducible exact ih3 _ _ _ _ _ _ _ _ _ _ _)
   | (with_reducible exact ih4 _ _ _ _ _ _ _ _ _ _)
   | (with_reducible exact LeO.refl _)
   | (with_reducible exact LeO.none _)
   | (with_reducible refine LeO.ite ?_ ?_)
   | (with_reducible refine LeO.bind ?_ (fun _=>?_))
   | exact ih0 _ _ _ _ _ _ _ _
   | exact ih1 _ _ _ _ _ _ _ _ _
   | exact ih2 _ _ _ _ _ _ _ _ _
   | exact ih3 _ _ _ _ _ _ _ _ _ _ _
   | exact ih4 _ _ _ _ _ _ _ _ _ _
   | exact LeO.none _
   | refine LeO.ite ?_ ?_
   | refine LeO.bind ?_ (fun _=>?_)
theorem thresherref20_Fit.mono : ∀ a0 a1 a2 a3 a4 a5 k,LeO (thresherref20_Fit.f k a0 a1 a2 a3 a4 a5) (thresherref20_Fit.f (k + 1) a0 a1 a2 a3 a4 a5):=by
 intro a0 a1 a2 a3 a4 a5 k
 obtain ⟨ih0,ih1,ih2,ih3,ih4⟩:=thresherref20_Fit.mono_l k
 unfold thresherref20_Fit.f
 repeat' first
   | (with_reducible exact ih0 _ _ _ _ _ _ _ _)
   | (with_reducible exact ih1 _ _ _ _ _ _ _ _ _)
   | (with_reducible exact ih2 _ _ _ _ _ _ _ _ _)
   | (with_reducible exact ih3 _ _ _ _ _ _ _ _ _ _ _)
   | (with_reducible exact ih4 _ _ _ _ _ _ _ _ _ _)
   | (with_reducible exact LeO.refl _)
   | (with_reducible exact LeO.none _)
   | (with_reducible refine LeO.ite ?_ ?_)
   | (with_reducible refine LeO.bind ?_ (fun _=>?_))
   | exact ih0 _ _ _ _ _ _ _ _
   | exact ih1 _ _ _ _ _ _ _ _ _
   | exact ih2 _ _ _ _ _ _ _ _ _
   | exact ih3 _ _ _ _ _ _ _ _ _ _ _
   | exact ih4 _ _ _ _ _ _ _ _ _ _
   | exact LeO.none _
   | refine LeO.ite ?_ ?_
   | refine LeO.bind ?_ (fun _=>?_)
set_option maxHeartbeats 8000000 in
set_option maxRecDepth 100000 in
theorem thresherref20_Fit.calls (k : Nat) (A0_0 : Option Addr) (c0_0 : Nat) (l0_0 : List Int) (a0_1 : Int) (a0_2 : Int) (a0_3 : Int) (A1 : Option Addr) (c1 : Nat) (l1 : List (S33)) (a2 : Int) (r : List (S33)) (w : World) (hr0_0 : Kd.C (Kd.int .i64) w A0_0 l0_0.length l0_0) (hc0_0 : l0_0.length≤c0_0) (hr1 : Kd.C k33 w A1 l1.length l1) (hc1 : l1.length≤c1) (h : thresherref20_Fit.f k l0_0 a0_1 a0_2 a0_3 l1 a2=some r) :
  Calls Try.prog 14 #[.agg #[.slice A0_0 l0_0.length c0_0,.int .i64 a0_1,.int .i64 a0_2,.int .i64 a0_3],.slice A1 l1.length c1,.int .i64 a2] w fun e w'=>∃ v0_ : Value,e=.returned (v0_)∧Kd.R k33 33 w' w.heap.size (fun _=>True) v0_ r∧Below w.heap.size w w':=by
 have hu29:=Try.underlying29
 have hu33:=Try.underlying33
 have HR0_0:=Aside0.mk hr0_0
 have HC0_0:=Aside0.mk hc0_0
 clear hr0_0 hc0_0
 have HR1:=Aside0.mk hr1
 have HC1:=Aside0.mk hc1
 clear hr1 hc1
 have HB:=Aside0.mk (Below.refl w.heap.size w)
 have H : (thresherref20_Fit.l0 k l1 a2 (([] : List (S33))) 0 l0_0 a0_1 a0_2 a0_3)=some r:=h
 clear h
 obtain ⟨y277,hy277⟩ : ∃ y_ : List (S33),y_=(([] : List (S33))):=⟨_,rfl⟩
 replace H : (thresherref20_Fit.l0 k l1 a2 y277 0 l0_0 a0_1 a0_2 a0_3)=some r:=by first|(rw [hy277];with_reducible exact H)|(have H2_:=(Option.bind_some _ _).symm.trans H;rw [hy277];with_reducible exact H2_)|(have H2_:=(Option.bind_some _ _).symm.trans H;with_reducible exact H2_)|with_reducible exact H|(rw [hy277];exact H)|exact H
 have Ny277:=Aside0.mk hy277
 clear hy277
 have H':=Aside0.mk H
 clear H
 go_enter Try.func14,Try.ntmps14
 go_wp2_with (first|((with_reducible refine gate_dst (N:=3) rfl ?_);refine box_event ?hg (N:=3) ?hd (cs:=#[.slice A0_0 l0_0.length c0_0,.int .i64 a0_1,.int .i64 a0_2,.int .i64 a0_3]) (t:=29) ?hr ?_;(case hd=>rfl);(case hg=>rfl);(case hr=>first|(go_simp;done)|(go_simp;rfl));intro gb276 hg w4 hbox hb;have n0_:=Aside0.mk (below_step (by repeat (first|(with_reducible first|exact HB.out|apply below_alloc|apply pw_below_drewN|apply below_drew1)|exact HB.out)) hb);have n1_:=Aside0.mk (hbox);have n2_:=Aside0.mk ((by rw [hg];exact (below_size (by repeat (first|(with_reducible first|exact HB.out|apply below_alloc|apply pw_below_drewN|apply below_drew1)|exact HB.out))) : w.heap.size≤gb276));have n3_:=Aside0.mk ((by rw [hg];exact (below_size (by repeat (first|(with_reducible first|exact HB.out|apply below_alloc|apply pw_below_drewN|apply below_drew1)|exact HB.out))) : w.heap.size≤gb276));clear HB;have HB:=n0_;have BK276:=n1_;have GW276:=n2_;have GE276:=n3_;clear n0_ n1_ n2_ n3_;clear hb hbox hg)|((with_reducible refine gate_dst (N:=11) rfl ?_);refine Kd.R_lit k33 _ 33 ?hg (N:=11) ?hd (xs:=([] : List (S33))) (inner:=[]) (ok:=fun _=>True) (okp:=fun _=>True) ?hr ?hp (fun _ hk=>hk) trivial (Below.refl _ _) (Nat.le_refl _) (by simp) ?_;(case hd=>rfl);(case hg=>rfl);(case hr=>first|(go_simp;done)|(go_simp;rfl));(case hp=>exact (Reps.none _ _));intro v278 w5 ho6 hb hg_ hnew_;clear hg_ hnew_;(first|rw [← Ny277.out] at ho6|(simp only [Int.reduceToNat] at ho6;rw [← Ny277.out] at ho6));have n0_:=Aside0.mk (Kd.R_lower ho6 (below_size (by repeat (first|(with_reducible first|exact HB.out|apply below_alloc|apply pw_below_drewN|apply below_drew1|refine below_set ?_ GE276.out)|exact HB.out))));have n1_:=Aside0.mk (blk_below (g:=gb276) (o:=.cells #[.slice A0_0 l0_0.length c0_0,.int .i64 a0_1,.int .i64 a0_2,.int .i64 a0_3] 29 (0,0)) (by (with_reducible repeat (first|refine blk_drewN ?_ _|refine blk_drew ?_|refine blk_alloc ?_ _));exact BK276.out) hb);have n2_:=Aside0.mk (below_step (by repeat (first|(with_reducible first|exact HB.out|apply below_alloc|apply pw_below_drewN|apply below_drew1|refine below_set ?_ GE276.out)|exact HB.out)) hb);clear BK276;clear HB;have HO279:=n0_;have BK276:=n1_;have HB:=n2_;clear n0_ n1_ n2_;clear hb ho6))
 repeat (go_quiet (first|((with_reducible refine gate_dst (N:=3) rfl ?_);refine box_event ?hg (N:=3) ?hd (cs:=#[.slice A0_0 l0_0.length c0_0,.int .i64 a0_1,.int .i64 a0_2,.int .i64 a0_3]) (t:=29) ?hr ?_;(case hd=>rfl);(case hg=>rfl);(case hr=>first|(go_simp;done)|(go_simp;rfl));intro gb276 hg w4 hbox hb;have n0_:=Aside0.mk (below_step (by repeat (first|(with_reducible first|exact HB.out|apply below_alloc|apply pw_below_drewN|apply below_drew1)|exact HB.out)) hb);have n1_:=Aside0.mk (hbox);have n2_:=Aside0.mk ((by rw [hg];exact (below_size (by repeat (first|(with_reducible first|exact HB.out|apply below_alloc|apply pw_below_drewN|apply below_drew1)|exact HB.out))) : w.heap.size≤gb276));have n3_:=Aside0.mk ((by rw [hg];exact (below_size (by repeat (first|(with_reducible first|exact HB.out|apply below_alloc|apply pw_below_drewN|apply below_drew1)|exact HB.out))) : w.heap.size≤gb276));clear HB;have HB:=n0_;have BK276:=n1_;have GW276:=n2_;have GE276:=n3_;clear n0_ n1_ n2_ n3_;clear hb hbox hg)|((with_reducible refine gate_dst (N:=11) rfl ?_);refine Kd.R_lit k33 _ 33 ?hg (N:=11) ?hd (xs:=([] : List (S33))) (inner:=[]) (ok:=fun _=>True) (okp:=fun _=>True) ?hr ?hp (fun _ hk=>hk) trivial (Below.refl _ _) (Nat.le_refl _) (by simp) ?_;(case hd=>rfl);(case hg=>rfl);(case hr=>first|(go_simp;done)|(go_simp;rfl));(case hp=>exact (Reps.none _ _));intro v278 w5 ho6 hb hg_ hnew_;clear hg_ hnew_;(first|rw [← Ny277.out] at ho6|(simp only [Int.reduceToNat] at ho6;rw [← Ny277.out] at ho6));have n0_:=Aside0.mk (Kd.R_lower ho6 (below_size (by repeat (first|(with_reducible first|exact HB.out|apply below_alloc|apply pw_below_drewN|apply below_drew1|refine below_set ?_ GE276.out)|exact HB.out))));have n1_:=Aside0.mk (blk_below (g:=gb276) (o:=.cells #[.slice A0_0 l0_0.length c0_0,.int .i64 a0_1,.int .i64 a0_2,.int .i64 a0_3] 29 (0,0)) (by (with_reducible repeat (first|refine blk_drewN ?_ _|refine blk_drew ?_|refine blk_alloc ?_ _));exact BK276.out) hb);have n2_:=Aside0.mk (below_step (by repeat (first|(with_reducible first|exact HB.out|apply below_alloc|apply pw_below_drewN|apply below_drew1|refine below_set ?_ GE276.out)|exact HB.out)) hb);clear BK276;clear HB;have HO279:=n0_;have BK276:=n1_;have HB:=n2_;clear n0_ n1_ n2_;clear hb ho6));try go_wp2_with (first|((with_reducible refine gate_dst (N:=3) rfl ?_);refine box_event ?hg (N:=3) ?hd (cs:=#[.slice A0_0 l0_0.length c0_0,.int .i64 a0_1,.int .i64 a0_2,.int .i64 a0_3]) (t:=29) ?hr ?_;(case hd=>rfl);(case hg=>rfl);(case hr=>first|(go_simp;done)|(go_simp;rfl));intro gb276 hg w4 hbox hb;have n0_:=Aside0.mk (below_step (by repeat (first|(with_reducible first|exact HB.out|apply below_alloc|apply pw_below_drewN|apply below_drew1)|exact HB.out)) hb);have n1_:=Aside0.mk (hbox);have n2_:=Aside0.mk ((by rw [hg];exact (below_size (by repeat (first|(with_reducible first|exact HB.out|apply below_alloc|apply pw_below_drewN|apply below_drew1)|exact HB.out))) : w.heap.size≤gb276));have n3_:=Aside0.mk ((by rw [hg];exact (below_size (by repeat (first|(with_reducible first|exact HB.out|apply below_alloc|apply pw_below_drewN|apply below_drew1)|exact HB.out))) : w.heap.size≤gb276));clear HB;have HB:=n0_;have BK276:=n1_;have GW276:=n2_;have GE276:=n3_;clear n0_ n1_ n2_ n3_;clear hb hbox hg)|((with_reducible refine gate_dst (N:=11) rfl ?_);refine Kd.R_lit k33 _ 33 ?hg (N:=11) ?hd (xs:=([] : List (S33))) (inner:=[]) (ok:=fun _=>True) (okp:=fun _=>True) ?hr ?hp (fun _ hk=>hk) trivial (Below.refl _ _) (Nat.le_refl _) (by simp) ?_;(case hd=>rfl);(case hg=>rfl);(case hr=>first|(go_simp;done)|(go_simp;rfl));(case hp=>exact (Reps.none _ _));intro v278 w5 ho6 hb hg_ hnew_;clear hg_ hnew_;(first|rw [← Ny277.out] at ho6|(simp only [Int.reduceToNat] at ho6;rw [← Ny277.out] at ho6));have n0_:=Aside0.mk (Kd.R_lower ho6 (below_size (by repeat (first|(with_reducible first|exact HB.out|apply below_alloc|apply pw_below_drewN|apply below_drew1|refine below_set ?_ GE276.out)|exact HB.out))));have n1_:=Aside0.mk (blk_below (g:=gb276) (o:=.cells #[.slice A0_0 l0_0.length c0_0,.int .i64 a0_1,.int .i64 a0_2,.int .i64 a0_3] 29 (0,0)) (by (with_reducible repeat (first|refine blk_drewN ?_ _|refine blk_drew ?_|refine blk_alloc ?_ _));exact BK276.out) hb);have n2_:=Aside0.mk (below_step (by repeat (first|(with_reducible first|exact HB.out|apply below_alloc|apply pw_below_drewN|apply below_drew1|refine below_set ?_ GE276.out)|exact HB.out)) hb);clear BK276;clear HB;have HO279:=n0_;have BK276:=n1_;have HB:=n2_;clear n0_ n1_ n2_;clear hb ho6)))
 go_loopg [7,8] k (fun kq v7 v8 w'=>∃ (x7_1 : List (S33)) (x8_1 : Int),v8=.int .i64 x8_1∧Aside0 (thresherref20_Fit.l0 kq l1 a2 x7_1 x8_1 l0_0 a0_1 a0_2 a0_3=some r)∧Aside0 (kq≤k)∧Aside0 (Kd.R k33 33 w' w.heap.size (fun _=>True) v7 x7_1)∧Aside0 (w'.heap[gb276]?=some (.cells #[(.slice A0_0 l0_0.length c0_0),.int .i64 a0_1,.int .i64 a0_2,.int .i64 a0_3] 29 (0,0)))∧Aside0 (Below w.heap.size w w'))
 case atStart=>exact ⟨(y277),(0),(by first|rfl|(simp;done)|(simp [*];done)),H',⟨Nat.le_refl _⟩,⟨by (with_reducible repeat (first|apply Kd.R_alloc|apply Kd.R_drewN|apply Kd.R_drew));exact HO279.out⟩,⟨by (with_reducible repeat (first|refine blk_drewN ?_ _|refine blk_drew ?_|refine blk_alloc ?_ _));exact BK276.out⟩,⟨by repeat (first|(with_reducible first|exact HB.out|apply below_alloc|apply pw_below_drewN|apply below_drew1|refine below_set ?_ GE276.out)|exact HB.out)⟩⟩
 case round =>
  clear H'
  try clear c1
  try clear p2
  obtain ⟨x7_1,x8_1,rfl,HA,HK1,HO_7,BK276,HB⟩:=hrel
  cases gk with
  | zero=>exact absurd HA.out (by simp [thresherref20_Fit.l0])
  | succ k1 =>
   have H:=HA.out
   clear HA
   simp only [thresherref20_Fit.l0] at H
   have HC7:=Aside0.mk H
   clear H
   go_upto_region 3 with (fail)
   repeat (go_quiet (fail);go_upto_region 3 with (fail))
   go_cut [20] (fun v20 wc=>∃ (kq : Nat) (x20_6 : Bool),v20=.bool x20_6∧Aside0 (thresherref20_Fit.j1 kq l1 a2 x7_1 x8_1 x20_6 l0_0 a0_1 a0_2 a0_3=some r)∧Aside0 (kq≤k1)∧Aside0 (Kd.R k33 33 wc w.heap.size (fun _=>True) u7 x7_1)∧Aside0 (wc.heap[gb276]?=some (.cells #[(.slice A0_0 l0_0.length c0_0),.int .i64 a0_1,.int .i64 a0_2,.int .i64 a0_3] 29 (0,0)))∧Aside0 (Below w.heap.size w wc))
   case first =>
    have H:=HC7.out
    clear HC7
    by_cases c8 : x8_1 < (l1.length : Int)
    ·rw [if_pos c8] at H
     have c8b0 : decide (x8_1 < (l1.length : Int))=true:=decide_eq_true c8
     clear c8
     (first|rw [c8b0]|(simp only [i64_w,i32_w];rw [c8b0])|skip)
     have H':=Aside0.mk H
     clear H
     go_wp2
     repeat (go_quiet (fail);try go_wp2)
     go_meet
     case rel=>exact ⟨_,(decide (x8_1 < a2)),(by first|rfl|(simp;done)|(simp [*];done)),(by first|exact H'|(subst_vars;exact H')),⟨by have:=HK1.out;first|omega|exact Nat.le_refl _⟩,⟨by (with_reducible repeat (first|apply Kd.R_alloc|apply Kd.R_drewN|apply Kd.R_drew));exact HO_7.out⟩,⟨by (with_reducible repeat (first|refine blk_drewN ?_ _|refine blk_drew ?_|refine blk_alloc ?_ _));exact BK276.out⟩,⟨by repeat (first|(with_reducible first|exact HB.out|apply below_alloc|apply pw_below_drewN|apply below_drew1|refine below_set ?_ GE276.out)|exact HB.out)⟩⟩
    ·rw [if_neg c8] at H
     have c8b0 : decide (x8_1 < (l1.length : Int))=false:=decide_eq_false c8
     clear c8
     (first|rw [c8b0]|(simp only [i64_w,i32_w];rw [c8b0])|skip)
     have H':=Aside0.mk H
     clear H
     go_wp2
     repeat (go_quiet (fail);try go_wp2)
     go_meet
     case rel=>exact ⟨_,(false),(by first|rfl|(simp;done)|(simp [*];done)),(by first|exact H'|(subst_vars;exact H')),⟨by have:=HK1.out;first|omega|exact Nat.le_refl _⟩,⟨by (with_reducible repeat (first|apply Kd.R_alloc|apply Kd.R_drewN|apply Kd.R_drew));exact HO_7.out⟩,⟨by (with_reducible repeat (first|refine blk_drewN ?_ _|refine blk_drew ?_|refine blk_alloc ?_ _));exact BK276.out⟩,⟨by repeat (first|(with_reducible first|exact HB.out|apply below_alloc|apply pw_below_drewN|apply below_drew1|refine below_set ?_ GE276.out)|exact HB.out)⟩⟩
   case rest =>
    clear HC7
    try clear c1
    try clear p2
    try clear c8
    try clear c8b0
    try clear p2
    obtain ⟨kq,x20_6,rfl,HA,HJ6,HO_7,BK276,HB⟩:=hcut
    cases kq with
    | zero=>exact absurd HA.out (by simp [thresherref20_Fit.j1])
    | succ kj6 =>
     have H:=HA.out
     clear HA
     simp only [thresherref20_Fit.j1] at H
     by_cases c9 : x20_6=true
     ·subst c9
      have H1 : (if 0≤x8_1 then (if x8_1 < (l1.length : Int) then (if (l0_0.length : Int)=0 then (none) else (if (Int.tmod ((rd_T33 l1 x8_1).f1) (l0_0.length : Int)) < 0 then (thresherref20_Fit.j2 kj6 l1 a2 x7_1 x8_1 (wrap64 ((Int.tmod ((rd_T33 l1 x8_1).f1) (l0_0.length : Int)) + (l0_0.length : Int))) l0_0 a0_1 a0_2 a0_3) else (thresherref20_Fit.j2 kj6 l1 a2 x7_1 x8_1 (Int.tmod ((rd_T33 l1 x8_1).f1) (l0_0.length : Int)) l0_0 a0_1 a0_2 a0_3))) else (none)) else (none))=some r:=by rw [if_pos rfl] at H;exact H
      clear H
      have H:=H1
      clear H1
      by_cases c10 : 0≤x8_1
      ·rw [if_pos c10] at H
       have c10b0 : decide (0≤x8_1)=true:=decide_eq_true c10
       clear c10
       by_cases c11 : x8_1 < (l1.length : Int)
       ·rw [if_pos c11] at H
        have c11b0 : decide (x8_1 < (l1.length : Int))=true:=decide_eq_true c11
        clear c11
        by_cases c12 : (l0_0.length : Int)=0
        ·rw [if_pos c12] at H
         exact absurd H (by simp)
        ·rw [if_neg c12] at H
         have c12b0 : ((l0_0.length : Int) == 0)=false:=beq_eq_false_iff_ne.mpr c12
         have c12b1 : ((l0_0.length : Int) != 0)=true:=bne_iff_ne.mpr c12
         have c12b2 : ¬ (l0_0=[]):=fun h_=>c12 (by rw [h_];rfl)
         have HC13:=Aside0.mk H
         clear H
         have p280 : 0≤(x8_1 : Int):=of_decide_eq_true (by first|(with_reducible assumption)|assumption)
         have q280 : x8_1 < (l1.length : Int):=of_decide_eq_true (by first|(with_reducible assumption)|assumption)
         obtain ⟨ad280,e280,hx280_0,hx280_1⟩:=at_T33 HR1.out x8_1 p280 q280
         cases e280
         replace hx280_0:=(HB.out.cell (World.block_lt_of_cell? w _ hx280_0)).trans hx280_0
         replace hx280_1:=(HB.out.cell (World.block_lt_of_cell? w _ hx280_1)).trans hx280_1
         replace p280:=eq_true p280
         replace q280:=eq_true q280
         have hcz14_0 : wc.cell? ⟨gb276,0,none⟩=some (.slice A0_0 l0_0.length c0_0):=(blk_cell BK276.out 0).trans rfl
         have hcz14_1 : wc.cell? ⟨gb276,1,none⟩=some (.int .i64 a0_1):=(blk_cell BK276.out 1).trans rfl
         have hcz14_2 : wc.cell? ⟨gb276,2,none⟩=some (.int .i64 a0_2):=(blk_cell BK276.out 2).trans rfl
         have hcz14_3 : wc.cell? ⟨gb276,3,none⟩=some (.int .i64 a0_3):=(blk_cell BK276.out 3).trans rfl
         have hfz14_0:=blk_frozen BK276.out 0
         have hfz14_1:=blk_frozen BK276.out 1
         have hfz14_2:=blk_frozen BK276.out 2
         have hfz14_3:=blk_frozen BK276.out 3
         go_upto_if 33 with (fail)
         repeat (go_quiet (fail);go_upto_if 33 with (fail))
         go_cut [9] (fun v9 wc=>∃ (kq : Nat) (x9_12 : Int),v9=.int .i64 x9_12∧Aside0 (thresherref20_Fit.j2 kq l1 a2 x7_1 x8_1 x9_12 l0_0 a0_1 a0_2 a0_3=some r)∧Aside0 (kq≤kj6)∧Aside0 (Kd.R k33 33 wc w.heap.size (fun _=>True) u7 x7_1)∧Aside0 (wc.heap[gb276]?=some (.cells #[(.slice A0_0 l0_0.length c0_0),.int .i64 a0_1,.int .i64 a0_2,.int .i64 a0_3] 29 (0,0)))∧Aside0 (Below w.heap.size w wc))
         case first =>
          have H:=HC13.out
          clear HC13
          by_cases c15 : (Int.tmod ((rd_T33 l1 x8_1).f1) (l0_0.length : Int)) < 0
          ·rw [if_pos c15] at H
           have c15b0 : decide ((Int.tmod ((rd_T33 l1 x8_1).f1) (l0_0.length : Int)) < 0)=true:=decide_eq_true c15
           clear c15
           (first|rw [c15b0]|(simp only [i64_w,i32_w];rw [c15b0])|skip)
           have H':=Aside0.mk H
           clear H
           have hcz16_0 : wc.cell? ⟨gb276,0,none⟩=some (.slice A0_0 l0_0.length c0_0):=(blk_cell BK276.out 0).trans rfl
           have hcz16_1 : wc.cell? ⟨gb276,1,none⟩=some (.int .i64 a0_1):=(blk_cell BK276.out 1).trans rfl
           have hcz16_2 : wc.cell? ⟨gb276,2,none⟩=some (.int .i64 a0_2):=(blk_cell BK276.out 2).trans rfl
           have hcz16_3 : wc.cell? ⟨gb276,3,none⟩=some (.int .i64 a0_3):=(blk_cell BK276.out 3).trans rfl
           have hfz16_0:=blk_frozen BK276.out 0
           have hfz16_1:=blk_frozen BK276.out 1
           have hfz16_2:=blk_frozen BK276.out 2
           have hfz16_3:=blk_frozen BK276.out 3
           go_wp2
           repeat (go_quiet (fail);try go_wp2)
           go_meet
           case rel=>exact ⟨_,(wrap64 ((Int.tmod ((rd_T33 l1 x8_1).f1) (l0_0.length : Int)) + (l0_0.length : Int))),(by first|rfl|(simp;done)|(simp [*];done)),(by first|exact H'|(subst_vars;exact H')),⟨by have:=HK1.out;have:=HJ6.out;first|omega|exact Nat.le_refl _⟩,⟨by (with_reducible repeat (first|apply Kd.R_alloc|apply Kd.R_drewN|apply Kd.R_drew));exact HO_7.out⟩,⟨by (with_reducible repeat (first|refine blk_drewN ?_ _|refine blk_drew ?_|refine blk_alloc ?_ _));exact BK276.out⟩,⟨by repeat (first|(with_reducible first|exact HB.out|apply below_alloc|apply pw_below_drewN|apply below_drew1|refine below_set ?_ GE276.out)|exact HB.out)⟩⟩
          ·rw [if_neg c15] at H
           have c15b0 : decide ((Int.tmod ((rd_T33 l1 x8_1).f1) (l0_0.length : Int)) < 0)=false:=decide_eq_false c15
           clear c15
           (first|rw [c15b0]|(simp only [i64_w,i32_w];rw [c15b0])|skip)
           have H':=Aside0.mk H
           clear H
           go_wp2
           repeat (go_quiet (fail);try go_wp2)
           go_meet
           case rel=>exact ⟨_,(Int.tmod ((rd_T33 l1 x8_1).f1) (l0_0.length : Int)),(by first|rfl|(simp;done)|(simp [*];done)),(by first|exact H'|(subst_vars;exact H')),⟨by have:=HK1.out;have:=HJ6.out;first|omega|exact Nat.le_refl _⟩,⟨by (with_reducible repeat (first|apply Kd.R_alloc|apply Kd.R_drewN|apply Kd.R_drew));exact HO_7.out⟩,⟨by (with_reducible repeat (first|refine blk_drewN ?_ _|refine blk_drew ?_|refine blk_alloc ?_ _));exact BK276.out⟩,⟨by repeat (first|(with_reducible first|exact HB.out|apply below_alloc|apply pw_below_drewN|apply below_drew1|refine below_set ?_ GE276.out)|exact HB.out)⟩⟩
         case rest =>
          clear HC13
          try clear c1
          try clear p2
          try clear q2
          try clear hx2
          try clear p6
          try clear c8
          try clear c8b0
          try clear c9
          try clear c10
          try clear c10b0
          try clear c11
          try clear c11b0
          try clear c12
          try clear c12b0
          try clear c12b1
          try clear c12b2
          try clear c14
          try clear c15
          try clear c15b0
          try clear hcz14_0
          try clear hcz14_1
          try clear hcz14_2
          try clear hcz14_3
          try clear hcz16_0
          try clear hcz16_1
          try clear hcz16_2
          try clear hcz16_3
          try clear hfz14_0
          try clear hfz14_1
          try clear hfz14_2
          try clear hfz14_3
          try clear hfz16_0
          try clear hfz16_1
          try clear hfz16_2
          try clear hfz16_3
          try clear hx280_0
          try clear hx280_1
          try clear p2
          try clear p280
          try clear q280
          obtain ⟨kq,x9_12,rfl,HA,HJ12,HO_7,BK276,HB⟩:=hcut
          cases kq with
          | zero=>exact absurd HA.out (by simp [thresherref20_Fit.j2])
          | succ kj12 =>
           have H:=HA.out
           clear HA
           simp only [thresherref20_Fit.j2] at H
           by_cases c17 : 0≤x8_1
           ·rw [if_pos c17] at H
            have c17b0 : decide (0≤x8_1)=true:=decide_eq_true c17
            clear c17
            by_cases c18 : x8_1 < (l1.length : Int)
            ·rw [if_pos c18] at H
             have c18b0 : decide (x8_1 < (l1.length : Int))=true:=decide_eq_true c18
             clear c18
             have HC19:=Aside0.mk H
             clear H
             have p281 : 0≤(x8_1 : Int):=of_decide_eq_true (by first|(with_reducible assumption)|assumption)
             have q281 : x8_1 < (l1.length : Int):=of_decide_eq_true (by first|(with_reducible assumption)|assumption)
             obtain ⟨ad281,e281,hx281_0,hx281_1⟩:=at_T33 HR1.out x8_1 p281 q281
             obtain rfl : ad280=ad281:=(by injection e281)
             replace hx281_0:=(HB.out.cell (World.block_lt_of_cell? w _ hx281_0)).trans hx281_0
             replace hx281_1:=(HB.out.cell (World.block_lt_of_cell? w _ hx281_1)).trans hx281_1
             replace p281:=eq_true p281
             replace q281:=eq_true q281
             go_upto_region 9 with (fail)
             repeat (go_quiet (fail);go_upto_region 9 with (fail))
             go_cut [55] (fun v55 wc=>∃ (kq : Nat) (x55_18 : Bool),v55=.bool x55_18∧Aside0 (thresherref20_Fit.j3 kq l1 a2 x7_1 x8_1 x9_12 (wrap64 (1 + (Go.bits .and .i64 ((rd_T33 l1 x8_1).f0) 3))) x55_18 l0_0 a0_1 a0_2 a0_3=some r)∧Aside0 (kq≤kj12)∧Aside0 (Kd.R k33 33 wc w.heap.size (fun _=>True) u7 x7_1)∧Aside0 (wc.heap[gb276]?=some (.cells #[(.slice A0_0 l0_0.length c0_0),.int .i64 a0_1,.int .i64 a0_2,.int .i64 a0_3] 29 (0,0)))∧Aside0 (Below w.heap.size w wc))
             case first =>
              have H:=HC19.out
              clear HC19
              by_cases c20 : (wrap64 (1 + (Go.bits .and .i64 ((rd_T33 l1 x8_1).f0) 3)))=2
              ·rw [if_pos c20] at H
               have c20b0 : ((wrap64 (1 + (Go.bits .and .i64 ((rd_T33 l1 x8_1).f0) 3))) == 2)=true:=beq_iff_eq.mpr c20
               have c20b1 : ((wrap64 (1 + (Go.bits .and .i64 ((rd_T33 l1 x8_1).f0) 3))) != 2)=false:=bne_eq_false_iff_eq.mpr c20
               clear c20
               (first|rw [c20b0]|(simp only [i64_w,i32_w];rw [c20b0])|skip)
               by_cases c21 : 0≤x9_12
               ·rw [if_pos c21] at H
                have c21b0 : decide (0≤x9_12)=true:=decide_eq_true c21
                clear c21
                by_cases c22 : x9_12 < (l0_0.length : Int)
                ·rw [if_pos c22] at H
                 have c22b0 : decide (x9_12 < (l0_0.length : Int))=true:=decide_eq_true c22
                 clear c22
                 have H':=Aside0.mk H
                 clear H
                 have hcz23_0 : wc.cell? ⟨gb276,0,none⟩=some (.slice A0_0 l0_0.length c0_0):=(blk_cell BK276.out 0).trans rfl
                 have hcz23_1 : wc.cell? ⟨gb276,1,none⟩=some (.int .i64 a0_1):=(blk_cell BK276.out 1).trans rfl
                 have hcz23_2 : wc.cell? ⟨gb276,2,none⟩=some (.int .i64 a0_2):=(blk_cell BK276.out 2).trans rfl
                 have hcz23_3 : wc.cell? ⟨gb276,3,none⟩=some (.int .i64 a0_3):=(blk_cell BK276.out 3).trans rfl
                 have hfz23_0:=blk_frozen BK276.out 0
                 have hfz23_1:=blk_frozen BK276.out 1
                 have hfz23_2:=blk_frozen BK276.out 2
                 have hfz23_3:=blk_frozen BK276.out 3
                 have p282 : 0≤(x9_12 : Int):=of_decide_eq_true (by first|(with_reducible assumption)|assumption)
                 have q282 : x9_12 < (l0_0.length : Int):=of_decide_eq_true (by first|(with_reducible assumption)|assumption)
                 obtain ⟨ad282,e282,hx282_0⟩:=Kd.at_int HR0_0.out x9_12 p282 q282
                 cases e282
                 replace hx282_0:=(HB.out.cell (World.block_lt_of_cell? w _ hx282_0)).trans hx282_0
                 replace p282:=eq_true p282
                 replace q282:=eq_true q282
                 go_wp2
                 repeat (go_quiet (fail);try go_wp2)
                 go_meet
                 case rel=>exact ⟨_,(((rd l0_0 x9_12) == 3)),(by first|rfl|(simp;done)|(simp [*];done)),(by first|exact H'|(subst_vars;exact H')),⟨by have:=HK1.out;have:=HJ6.out;have:=HJ12.out;first|omega|exact Nat.le_refl _⟩,⟨by (with_reducible repeat (first|apply Kd.R_alloc|apply Kd.R_drewN|apply Kd.R_drew));exact HO_7.out⟩,⟨by (with_reducible repeat (first|refine blk_drewN ?_ _|refine blk_drew ?_|refine blk_alloc ?_ _));exact BK276.out⟩,⟨by repeat (first|(with_reducible first|exact HB.out|apply below_alloc|apply pw_below_drewN|apply below_drew1|refine below_set ?_ GE276.out)|exact HB.out)⟩⟩
                ·rw [if_neg c22] at H
                 exact absurd H (by simp)
               ·rw [if_neg c21] at H
                exact absurd H (by simp)
              ·rw [if_neg c20] at H
               have c20b0 : ((wrap64 (1 + (Go.bits .and .i64 ((rd_T33 l1 x8_1).f0) 3))) == 2)=false:=beq_eq_false_iff_ne.mpr c20
               have c20b1 : ((wrap64 (1 + (Go.bits .and .i64 ((rd_T33 l1 x8_1).f0) 3))) != 2)=true:=bne_iff_ne.mpr c20
               (first|rw [c20b0]|(simp only [i64_w,i32_w];rw [c20b0])|skip)
               have H':=Aside0.mk H
               clear H
               go_wp2
               repeat (go_quiet (fail);try go_wp2)
               go_meet
               case rel=>exact ⟨_,(false),(by first|rfl|(simp;done)|(simp [*];done)),(by first|exact H'|(subst_vars;exact H')),⟨by have:=HK1.out;have:=HJ6.out;have:=HJ12.out;first|omega|exact Nat.le_refl _⟩,⟨by (with_reducible repeat (first|apply Kd.R_alloc|apply Kd.R_drewN|apply Kd.R_drew));exact HO_7.out⟩,⟨by (with_reducible repeat (first|refine blk_drewN ?_ _|refine blk_drew ?_|refine blk_alloc ?_ _));exact BK276.out⟩,⟨by repeat (first|(with_reducible first|exact HB.out|apply below_alloc|apply pw_below_drewN|apply below_drew1|refine below_set ?_ GE276.out)|exact HB.out)⟩⟩
             case rest =>
              clear HC19
              try clear c1
              try clear c2
              try clear p2
              try clear q2
              try clear hx2
              try clear p6
              try clear c8
              try clear c8b0
              try clear c9
              try clear c10
              try clear c10b0
              try clear c11
              try clear c11b0
              try clear c12
              try clear c12b0
              try clear c12b1
              try clear c12b2
              try clear c14
              try clear c15
              try clear c15b0
              try clear c17
              try clear c17b0
              try clear c18
              try clear c18b0
              try clear c20
              try clear c20b0
              try clear c20b1
              try clear c21
              try clear c21b0
              try clear c22
              try clear c22b0
              try clear hcz14_0
              try clear hcz14_1
              try clear hcz14_2
              try clear hcz14_3
              try clear hcz16_0
              try clear hcz16_1
              try clear hcz16_2
              try clear hcz16_3
              try clear hcz23_0
              try clear hcz23_1
              try clear hcz23_2
              try clear hcz23_3
              try clear hfz14_0
              try clear hfz14_1
              try clear hfz14_2
              try clear hfz14_3
              try clear hfz16_0
              try clear hfz16_1
              try clear hfz16_2
              try clear hfz16_3
              try clear hfz23_0
              try clear hfz23_1
              try clear hfz23_2
              try clear hfz23_3
              try clear hx280_0
              try clear hx280_1
              try clear hx281_0
              try clear hx281_1
              try clear hx282_0
              try clear p2
              try clear p280
              try clear p281
              try clear p282
              try clear p6
              try clear q2
              try clear q280
              try clear q281
              try clear q282
              obtain ⟨kq,x55_18,rfl,HA,HJ18,HO_7,BK276,HB⟩:=hcut
              cases kq with
              | zero=>exact absurd HA.out (by simp [thresherref20_Fit.j3])
              | succ kj18 =>
               have H:=HA.out
               clear HA
               simp only [thresherref20_Fit.j3] at H
               have HC24:=Aside0.mk H
               clear H
               go_upto_if 55 with (fail)
               repeat (go_quiet (fail);go_upto_if 55 with (fail))
               go_cut [10] (fun v10 wc=>∃ (kq : Nat) (x10_23 : Int),v10=.int .i64 x10_23∧Aside0 (thresherref20_Fit.j4 kq l1 a2 x7_1 x8_1 x9_12 x10_23 l0_0 a0_1 a0_2 a0_3=some r)∧Aside0 (kq≤kj18)∧Aside0 (Kd.R k33 33 wc w.heap.size (fun _=>True) u7 x7_1)∧Aside0 (wc.heap[gb276]?=some (.cells #[(.slice A0_0 l0_0.length c0_0),.int .i64 a0_1,.int .i64 a0_2,.int .i64 a0_3] 29 (0,0)))∧Aside0 (Below w.heap.size w wc))
               case first =>
                have H:=HC24.out
                clear HC24
                by_cases c25 : x55_18=true
                ·subst c25
                 have H1 : (thresherref20_Fit.j4 kj18 l1 a2 x7_1 x8_1 x9_12 4 l0_0 a0_1 a0_2 a0_3)=some r:=by rw [if_pos rfl] at H;exact H
                 clear H
                 have H:=H1
                 clear H1
                 have H':=Aside0.mk H
                 clear H
                 go_wp2
                 repeat (go_quiet (fail);try go_wp2)
                 go_meet
                 case rel=>exact ⟨_,(4),(by first|rfl|(simp;done)|(simp [*];done)),(by first|exact H'|(subst_vars;exact H')),⟨by have:=HK1.out;have:=HJ6.out;have:=HJ12.out;have:=HJ18.out;first|omega|exact Nat.le_refl _⟩,⟨by (with_reducible repeat (first|apply Kd.R_alloc|apply Kd.R_drewN|apply Kd.R_drew));exact HO_7.out⟩,⟨by (with_reducible repeat (first|refine blk_drewN ?_ _|refine blk_drew ?_|refine blk_alloc ?_ _));exact BK276.out⟩,⟨by repeat (first|(with_reducible first|exact HB.out|apply below_alloc|apply pw_below_drewN|apply below_drew1|refine below_set ?_ GE276.out)|exact HB.out)⟩⟩
                ·replace c25:=Bool.eq_false_iff.mpr c25
                 subst c25
                 have H1 : (thresherref20_Fit.j4 kj18 l1 a2 x7_1 x8_1 x9_12 (wrap64 (1 + (Go.bits .and .i64 ((rd_T33 l1 x8_1).f0) 3))) l0_0 a0_1 a0_2 a0_3)=some r:=by rw [if_neg (show ¬ (false=true) by decide)] at H;exact H
                 clear H
                 have H:=H1
                 clear H1
                 have H':=Aside0.mk H
                 clear H
                 go_wp2
                 repeat (go_quiet (fail);try go_wp2)
                 go_meet
                 case rel=>exact ⟨_,((wrap64 (1 + (Go.bits .and .i64 ((rd_T33 l1 x8_1).f0) 3)))),(by first|rfl|(simp;done)|(simp [*];done)),(by first|exact H'|(subst_vars;exact H')),⟨by have:=HK1.out;have:=HJ6.out;have:=HJ12.out;have:=HJ18.out;first|omega|exact Nat.le_refl _⟩,⟨by (with_reducible repeat (first|apply Kd.R_alloc|apply Kd.R_drewN|apply Kd.R_drew));exact HO_7.out⟩,⟨by (with_reducible repeat (first|refine blk_drewN ?_ _|refine blk_drew ?_|refine blk_alloc ?_ _));exact BK276.out⟩,⟨by repeat (first|(with_reducible first|exact HB.out|apply below_alloc|apply pw_below_drewN|apply below_drew1|refine below_set ?_ GE276.out)|exact HB.out)⟩⟩
               case rest =>
                clear HC24
                try clear c1
                try clear c2
                try clear p2
                try clear q2
                try clear hx2
                try clear p6
                try clear c8
                try clear c8b0
                try clear c9
                try clear c10
                try clear c10b0
                try clear c11
                try clear c11b0
                try clear c12
                try clear c12b0
                try clear c12b1
                try clear c12b2
                try clear c14
                try clear c15
                try clear c15b0
                try clear c17
                try clear c17b0
                try clear c18
                try clear c18b0
                try clear c20
                try clear c20b0
                try clear c20b1
                try clear c21
                try clear c21b0
                try clear c22
                try clear c22b0
                try clear c25
                try clear hcz14_0
                try clear hcz14_1
                try clear hcz14_2
                try clear hcz14_3
                try clear hcz16_0
                try clear hcz16_1
                try clear hcz16_2
                try clear hcz16_3
                try clear hcz23_0
                try clear hcz23_1
                try clear hcz23_2
                try clear hcz23_3
                try clear hfz14_0
                try clear hfz14_1
                try clear hfz14_2
                try clear hfz14_3
                try clear hfz16_0
                try clear hfz16_1
                try clear hfz16_2
                try clear hfz16_3
                try clear hfz23_0
                try clear hfz23_1
                try clear hfz23_2
                try clear hfz23_3
                try clear hx280_0
                try clear hx280_1
                try clear hx281_0
                try clear hx281_1
                try clear hx282_0
                try clear p2
                try clear p280
                try clear p281
                try clear p282
                try clear p6
                try clear q2
                try clear q280
                try clear q281
                try clear q282
                obtain ⟨kq,x10_23,rfl,HA,HJ23,HO_7,BK276,HB⟩:=hcut
                cases kq with
                | zero=>exact absurd HA.out (by simp [thresherref20_Fit.j4])
                | succ kj23 =>
                 have H:=HA.out
                 clear HA
                 simp only [thresherref20_Fit.j4] at H
                 by_cases c26 : x10_23=1
                 ·rw [if_pos c26] at H
                  have c26b0 : (x10_23 == 1)=true:=beq_iff_eq.mpr c26
                  have c26b1 : (x10_23 != 1)=false:=bne_eq_false_iff_eq.mpr c26
                  clear c26
                  by_cases c27 : x7_1.length < 8796093022208
                  ·rw [if_pos c27] at H
                   have LMc27:=Aside0.mk c27
                   clear c27
                   obtain ⟨y283,hy283⟩ : ∃ y_ : List (S33),y_=(x7_1 ++ [(⟨x10_23,0⟩ : S33)]):=⟨_,rfl⟩
                   replace H : (thresherref20_Fit.l0 kj23 l1 a2 y283 (wrap64 (x8_1 + 1)) l0_0 a0_1 a0_2 a0_3)=some r:=by first|(rw [hy283];with_reducible exact H)|(have H2_:=(Option.bind_some _ _).symm.trans H;rw [hy283];with_reducible exact H2_)|(have H2_:=(Option.bind_some _ _).symm.trans H;with_reducible exact H2_)|with_reducible exact H|(rw [hy283];exact H)|exact H
                   have Ny283:=Aside0.mk hy283
                   clear hy283
                   have H':=Aside0.mk H
                   clear H
                   go_wp2_with (first|((with_reducible refine gate_builtin (b:=.append) (xs:=#[.tmp 58,.tmp 62]) rfl ?_);at_builtin;refine Kd.R_append k33 (w0:=w) w.heap.size rfl (.tmp 58) (.tmp 62) 34 33 (.agg #[(.int .i64 0),(.int .i64 0)]) 16 rfl Try.underlying34 info33 rfl (by decide) (by omega) u7 x7_1 (⟨x10_23,0⟩ : S33) [.int .i64 x10_23,.int .i64 0] (fun _=>True) (fun _=>False) rfl rfl ?aP (fun _ hk=>hk.elim) ?aF ?aO ?aB ?aS ?aL ?_;(case aP=>exact k33_mkM _ _ _ (⟨x10_23,0⟩ : S33));(case aB=>exact (by repeat (first|(with_reducible first|exact HB.out|apply below_alloc|apply pw_below_drewN|apply below_drew1|refine below_set ?_ GE276.out)|exact HB.out)));(case aF=>exact (fun _ _=>trivial));(case aO=>exact (by (with_reducible repeat (first|apply Kd.R_alloc|apply Kd.R_drewN|apply Kd.R_drew));exact HO_7.out));(case aS=>exact (below_size (by repeat (first|(with_reducible first|exact HB.out|apply below_alloc|apply pw_below_drewN|apply below_drew1|refine below_set ?_ GE276.out)|exact HB.out))));(case aL=>have:=LMc27.out;omega);intro v284 w28 ho hb hg hat;rw [← Ny283.out] at ho;have n0_:=Aside0.mk (blk_grown (g:=gb276) (o:=.cells #[.slice A0_0 l0_0.length c0_0,.int .i64 a0_1,.int .i64 a0_2,.int .i64 a0_3] 29 (0,0)) (by (with_reducible repeat (first|refine blk_drewN ?_ _|refine blk_drew ?_|refine blk_alloc ?_ _));exact BK276.out) hg (Kd.R_ne HO_7.out BK276.out (by decide)));have n1_:=Aside0.mk (hb);have n2_:=Aside0.mk (ho);clear BK276;clear HB;clear HO_7;have BK276:=n0_;have HB:=n1_;have HO285:=n2_;clear n0_ n1_ n2_;clear ho hb hg hat))
                   repeat (go_quiet (first|((with_reducible refine gate_builtin (b:=.append) (xs:=#[.tmp 58,.tmp 62]) rfl ?_);at_builtin;refine Kd.R_append k33 (w0:=w) w.heap.size rfl (.tmp 58) (.tmp 62) 34 33 (.agg #[(.int .i64 0),(.int .i64 0)]) 16 rfl Try.underlying34 info33 rfl (by decide) (by omega) u7 x7_1 (⟨x10_23,0⟩ : S33) [.int .i64 x10_23,.int .i64 0] (fun _=>True) (fun _=>False) rfl rfl ?aP (fun _ hk=>hk.elim) ?aF ?aO ?aB ?aS ?aL ?_;(case aP=>exact k33_mkM _ _ _ (⟨x10_23,0⟩ : S33));(case aB=>exact (by repeat (first|(with_reducible first|exact HB.out|apply below_alloc|apply pw_below_drewN|apply below_drew1|refine below_set ?_ GE276.out)|exact HB.out)));(case aF=>exact (fun _ _=>trivial));(case aO=>exact (by (with_reducible repeat (first|apply Kd.R_alloc|apply Kd.R_drewN|apply Kd.R_drew));exact HO_7.out));(case aS=>exact (below_size (by repeat (first|(with_reducible first|exact HB.out|apply below_alloc|apply pw_below_drewN|apply below_drew1|refine below_set ?_ GE276.out)|exact HB.out))));(case aL=>have:=LMc27.out;omega);intro v284 w28 ho hb hg hat;rw [← Ny283.out] at ho;have n0_:=Aside0.mk (blk_grown (g:=gb276) (o:=.cells #[.slice A0_0 l0_0.length c0_0,.int .i64 a0_1,.int .i64 a0_2,.int .i64 a0_3] 29 (0,0)) (by (with_reducible repeat (first|refine blk_drewN ?_ _|refine blk_drew ?_|refine blk_alloc ?_ _));exact BK276.out) hg (Kd.R_ne HO_7.out BK276.out (by decide)));have n1_:=Aside0.mk (hb);have n2_:=Aside0.mk (ho);clear BK276;clear HB;clear HO_7;have BK276:=n0_;have HB:=n1_;have HO285:=n2_;clear n0_ n1_ n2_;clear ho hb hg hat));try go_wp2_with (first|((with_reducible refine gate_builtin (b:=.append) (xs:=#[.tmp 58,.tmp 62]) rfl ?_);at_builtin;refine Kd.R_append k33 (w0:=w) w.heap.size rfl (.tmp 58) (.tmp 62) 34 33 (.agg #[(.int .i64 0),(.int .i64 0)]) 16 rfl Try.underlying34 info33 rfl (by decide) (by omega) u7 x7_1 (⟨x10_23,0⟩ : S33) [.int .i64 x10_23,.int .i64 0] (fun _=>True) (fun _=>False) rfl rfl ?aP (fun _ hk=>hk.elim) ?aF ?aO ?aB ?aS ?aL ?_;(case aP=>exact k33_mkM _ _ _ (⟨x10_23,0⟩ : S33));(case aB=>exact (by repeat (first|(with_reducible first|exact HB.out|apply below_alloc|apply pw_below_drewN|apply below_drew1|refine below_set ?_ GE276.out)|exact HB.out)));(case aF=>exact (fun _ _=>trivial));(case aO=>exact (by (with_reducible repeat (first|apply Kd.R_alloc|apply Kd.R_drewN|apply Kd.R_drew));exact HO_7.out));(case aS=>exact (below_size (by repeat (first|(with_reducible first|exact HB.out|apply below_alloc|apply pw_below_drewN|apply below_drew1|refine below_set ?_ GE276.out)|exact HB.out))));(case aL=>have:=LMc27.out;omega);intro v284 w28 ho hb hg hat;rw [← Ny283.out] at ho;have n0_:=Aside0.mk (blk_grown (g:=gb276) (o:=.cells #[.slice A0_0 l0_0.length c0_0,.int .i64 a0_1,.int .i64 a0_2,.int .i64 a0_3] 29 (0,0)) (by (with_reducible repeat (first|refine blk_drewN ?_ _|refine blk_drew ?_|refine blk_alloc ?_ _));exact BK276.out) hg (Kd.R_ne HO_7.out BK276.out (by decide)));have n1_:=Aside0.mk (hb);have n2_:=Aside0.mk (ho);clear BK276;clear HB;clear HO_7;have BK276:=n0_;have HB:=n1_;have HO285:=n2_;clear n0_ n1_ n2_;clear ho hb hg hat)))
                   go_roundg kj23
                   case measure=>have:=HK1.out;have:=HJ6.out;have:=HJ12.out;have:=HJ18.out;have:=HJ23.out;omega
                   case rel=>exact ⟨(y283),(wrap64 (x8_1 + 1)),(by first|rfl|(simp;done)|(simp [*];done)),(by first|exact H'|(subst_vars;exact H')),⟨by have:=HK1.out;have:=HJ6.out;have:=HJ12.out;have:=HJ18.out;have:=HJ23.out;omega⟩,⟨by (with_reducible repeat (first|apply Kd.R_alloc|apply Kd.R_drewN|apply Kd.R_drew));exact HO285.out⟩,⟨by (with_reducible repeat (first|refine blk_drewN ?_ _|refine blk_drew ?_|refine blk_alloc ?_ _));exact BK276.out⟩,⟨by repeat (first|(with_reducible first|exact HB.out|apply below_alloc|apply pw_below_drewN|apply below_drew1|refine below_set ?_ GE276.out)|exact HB.out)⟩⟩
                  ·rw [if_neg c27] at H
                   exact absurd H (by simp)
                 ·rw [if_neg c26] at H
                  have c26b0 : (x10_23 == 1)=false:=beq_eq_false_iff_ne.mpr c26
                  have c26b1 : (x10_23 != 1)=true:=bne_iff_ne.mpr c26
                  by_cases c29 : x7_1.length < 8796093022208
                  ·rw [if_pos c29] at H
                   have LMc29:=Aside0.mk c29
                   clear c29
                   obtain ⟨y286,hy286⟩ : ∃ y_ : List (S33),y_=(x7_1 ++ [(⟨x10_23,x9_12⟩ : S33)]):=⟨_,rfl⟩
                   replace H : (thresherref20_Fit.l0 kj23 l1 a2 y286 (wrap64 (x8_1 + 1)) l0_0 a0_1 a0_2 a0_3)=some r:=by first|(rw [hy286];with_reducible exact H)|(have H2_:=(Option.bind_some _ _).symm.trans H;rw [hy286];with_reducible exact H2_)|(have H2_:=(Option.bind_some _ _).symm.trans H;with_reducible exact H2_)|with_reducible exact H|(rw [hy286];exact H)|exact H
                   have Ny286:=Aside0.mk hy286
                   clear hy286
                   have H':=Aside0.mk H
                   clear H
                   go_wp2_with (first|((with_reducible refine gate_builtin (b:=.append) (xs:=#[.tmp 58,.tmp 62]) rfl ?_);at_builtin;refine Kd.R_append k33 (w0:=w) w.heap.size rfl (.tmp 58) (.tmp 62) 34 33 (.agg #[(.int .i64 0),(.int .i64 0)]) 16 rfl Try.underlying34 info33 rfl (by decide) (by omega) u7 x7_1 (⟨x10_23,x9_12⟩ : S33) [.int .i64 x10_23,.int .i64 x9_12] (fun _=>True) (fun _=>False) rfl rfl ?aP (fun _ hk=>hk.elim) ?aF ?aO ?aB ?aS ?aL ?_;(case aP=>exact k33_mkM _ _ _ (⟨x10_23,x9_12⟩ : S33));(case aB=>exact (by repeat (first|(with_reducible first|exact HB.out|apply below_alloc|apply pw_below_drewN|apply below_drew1|refine below_set ?_ GE276.out)|exact HB.out)));(case aF=>exact (fun _ _=>trivial));(case aO=>exact (by (with_reducible repeat (first|apply Kd.R_alloc|apply Kd.R_drewN|apply Kd.R_drew));exact HO_7.out));(case aS=>exact (below_size (by repeat (first|(with_reducible first|exact HB.out|apply below_alloc|apply pw_below_drewN|apply below_drew1|refine below_set ?_ GE276.out)|exact HB.out))));(case aL=>have:=LMc29.out;omega);intro v287 w30 ho hb hg hat;rw [← Ny286.out] at ho;have n0_:=Aside0.mk (blk_grown (g:=gb276) (o:=.cells #[.slice A0_0 l0_0.length c0_0,.int .i64 a0_1,.int .i64 a0_2,.int .i64 a0_3] 29 (0,0)) (by (with_reducible repeat (first|refine blk_drewN ?_ _|refine blk_drew ?_|refine blk_alloc ?_ _));exact BK276.out) hg (Kd.R_ne HO_7.out BK276.out (by decide)));have n1_:=Aside0.mk (hb);have n2_:=Aside0.mk (ho);clear BK276;clear HB;clear HO_7;have BK276:=n0_;have HB:=n1_;have HO288:=n2_;clear n0_ n1_ n2_;clear ho hb hg hat))
                   repeat (go_quiet (first|((with_reducible refine gate_builtin (b:=.append) (xs:=#[.tmp 58,.tmp 62]) rfl ?_);at_builtin;refine Kd.R_append k33 (w0:=w) w.heap.size rfl (.tmp 58) (.tmp 62) 34 33 (.agg #[(.int .i64 0),(.int .i64 0)]) 16 rfl Try.underlying34 info33 rfl (by decide) (by omega) u7 x7_1 (⟨x10_23,x9_12⟩ : S33) [.int .i64 x10_23,.int .i64 x9_12] (fun _=>True) (fun _=>False) rfl rfl ?aP (fun _ hk=>hk.elim) ?aF ?aO ?aB ?aS ?aL ?_;(case aP=>exact k33_mkM _ _ _ (⟨x10_23,x9_12⟩ : S33));(case aB=>exact (by repeat (first|(with_reducible first|exact HB.out|apply below_alloc|apply pw_below_drewN|apply below_drew1|refine below_set ?_ GE276.out)|exact HB.out)));(case aF=>exact (fun _ _=>trivial));(case aO=>exact (by (with_reducible repeat (first|apply Kd.R_alloc|apply Kd.R_drewN|apply Kd.R_drew));exact HO_7.out));(case aS=>exact (below_size (by repeat (first|(with_reducible first|exact HB.out|apply below_alloc|apply pw_below_drewN|apply below_drew1|refine below_set ?_ GE276.out)|exact HB.out))));(case aL=>have:=LMc29.out;omega);intro v287 w30 ho hb hg hat;rw [← Ny286.out] at ho;have n0_:=Aside0.mk (blk_grown (g:=gb276) (o:=.cells #[.slice A0_0 l0_0.length c0_0,.int .i64 a0_1,.int .i64 a0_2,.int .i64 a0_3] 29 (0,0)) (by (with_reducible repeat (first|refine blk_drewN ?_ _|refine blk_drew ?_|refine blk_alloc ?_ _));exact BK276.out) hg (Kd.R_ne HO_7.out BK276.out (by decide)));have n1_:=Aside0.mk (hb);have n2_:=Aside0.mk (ho);clear BK276;clear HB;clear HO_7;have BK276:=n0_;have HB:=n1_;have HO288:=n2_;clear n0_ n1_ n2_;clear ho hb hg hat));try go_wp2_with (first|((with_reducible refine gate_builtin (b:=.append) (xs:=#[.tmp 58,.tmp 62]) rfl ?_);at_builtin;refine Kd.R_append k33 (w0:=w) w.heap.size rfl (.tmp 58) (.tmp 62) 34 33 (.agg #[(.int .i64 0),(.int .i64 0)]) 16 rfl Try.underlying34 info33 rfl (by decide) (by omega) u7 x7_1 (⟨x10_23,x9_12⟩ : S33) [.int .i64 x10_23,.int .i64 x9_12] (fun _=>True) (fun _=>False) rfl rfl ?aP (fun _ hk=>hk.elim) ?aF ?aO ?aB ?aS ?aL ?_;(case aP=>exact k33_mkM _ _ _ (⟨x10_23,x9_12⟩ : S33));(case aB=>exact (by repeat (first|(with_reducible first|exact HB.out|apply below_alloc|apply pw_below_drewN|apply below_drew1|refine below_set ?_ GE276.out)|exact HB.out)));(case aF=>exact (fun _ _=>trivial));(case aO=>exact (by (with_reducible repeat (first|apply Kd.R_alloc|apply Kd.R_drewN|apply Kd.R_drew));exact HO_7.out));(case aS=>exact (below_size (by repeat (first|(with_reducible first|exact HB.out|apply below_alloc|apply pw_below_drewN|apply below_drew1|refine below_set ?_ GE276.out)|exact HB.out))));(case aL=>have:=LMc29.out;omega);intro v287 w30 ho hb hg hat;rw [← Ny286.out] at ho;have n0_:=Aside0.mk (blk_grown (g:=gb276) (o:=.cells #[.slice A0_0 l0_0.length c0_0,.int .i64 a0_1,.int .i64 a0_2,.int .i64 a0_3] 29 (0,0)) (by (with_reducible repeat (first|refine blk_drewN ?_ _|refine blk_drew ?_|refine blk_alloc ?_ _));exact BK276.out) hg (Kd.R_ne HO_7.out BK276.out (by decide)));have n1_:=Aside0.mk (hb);have n2_:=Aside0.mk (ho);clear BK276;clear HB;clear HO_7;have BK276:=n0_;have HB:=n1_;have HO288:=n2_;clear n0_ n1_ n2_;clear ho hb hg hat)))
                   go_roundg kj23
                   case measure=>have:=HK1.out;have:=HJ6.out;have:=HJ12.out;have:=HJ18.out;have:=HJ23.out;omega
                   case rel=>exact ⟨(y286),(wrap64 (x8_1 + 1)),(by first|rfl|(simp;done)|(simp [*];done)),(by first|exact H'|(subst_vars;exact H')),⟨by have:=HK1.out;have:=HJ6.out;have:=HJ12.out;have:=HJ18.out;have:=HJ23.out;omega⟩,⟨by (with_reducible repeat (first|apply Kd.R_alloc|apply Kd.R_drewN|apply Kd.R_drew));exact HO288.out⟩,⟨by (with_reducible repeat (first|refine blk_drewN ?_ _|refine blk_drew ?_|refine blk_alloc ?_ _));exact BK276.out⟩,⟨by repeat (first|(with_reducible first|exact HB.out|apply below_alloc|apply pw_below_drewN|apply below_drew1|refine below_set ?_ GE276.out)|exact HB.out)⟩⟩
                  ·rw [if_neg c29] at H
                   exact absurd H (by simp)
            ·rw [if_neg c18] at H
             exact absurd H (by simp)
           ·rw [if_neg c17] at H
            exact absurd H (by simp)
       ·rw [if_neg c11] at H
        exact absurd H (by simp)
      ·rw [if_neg c10] at H
       exact absurd H (by simp)
     ·replace c9:=Bool.eq_false_iff.mpr c9
      subst c9
      have H1 : (some x7_1)=some r:=by rw [if_neg (show ¬ (false=true) by decide)] at H;exact H
      clear H
      have H:=H1
      clear H1
      obtain rfl:=Option.some.inj H
      go_wp2
      repeat (go_quiet (fail);try go_wp2)
      go_ret
      exact ⟨_,by first|rfl|(simp [errW_none,errW_some] <;> rfl)|(simp [*,errW_none,errW_some] <;> rfl),by (with_reducible repeat (first|apply Kd.R_alloc|apply Kd.R_drewN|apply Kd.R_drew));exact HO_7.out,by repeat (first|(with_reducible first|exact HB.out|apply below_alloc|apply pw_below_drewN|apply below_drew1|refine below_set ?_ GE276.out)|exact HB.out)⟩

end Go.Proofs.Ytapaldcdoahfeaa.P

