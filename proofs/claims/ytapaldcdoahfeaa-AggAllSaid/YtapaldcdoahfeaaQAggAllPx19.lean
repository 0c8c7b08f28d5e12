/- Texts of AggAll. Merged: Px19. -/
import Derived.Test.YtapaldcdoahfeaaQAggAllPx0
import Derived.Test.YtapaldcdoahfeaaQAggAllPx5
import Derived.Test.YtapaldcdoahfeaaQAggAllPx6
import Derived.Test.YtapaldcdoahfeaaQAggAllPx10
import Derived.Test.YtapaldcdoahfeaaQAggAllPx12
import Derived.Test.YtapaldcdoahfeaaQAggAllPx15
import Derived.Test.YtapaldcdoahfeaaQAggAllPx16
import Derived.Test.YtapaldcdoahfeaaQAggAllPx18
import Derived.Test.YtapaldcdoahfeaaQAggAllHAggD
-- Written by wip/tools/myprint.py over the kit's print (a program's print; Lean checks it).
namespace Go.Proofs.Ytapaldcdoahfeaa.P
open Go.RowKit Go.Proofs.YtapaldcdoahfeaaW.PrintWords Go.Proofs.YtapaldcdoahfeaaW.PrintLast Go.Proofs.YtapaldcdoahfeaaW.PrintMore
attribute [local go_sem] max2_int min2_int max_two min_two max_three min_three max_four min_four   -- for this text's walks alone
set_option linter.unusedVariables false
set_option linter.unusedSimpArgs false

/-! ### thresherlaw20_AggAll: function 6 -/
def thresherlaw20_AggAll.j0 : Nat→List (S33)→List (List (S40))→Bool→List Int→Int→Int→Int→Option (Bool)
 | 0,_,_,_,_,_,_,_=>none
 | k + 1,x1,x2,x7,x420000,x420001,x420002,x420003=>(thresherref04_Fits.f k x420000 x420001 x420002 x420003 x2 60).bind fun t425=>((agg_May.f k x420000 x420001 x420002 x420003 x1).bind fun t428=>((thresherref20_May.f k x420000 x420001 x420002 x420003 x1).bind fun t429=>(if (t428 != t429)=true then (some false) else ((thresherref20_Fit.f k x420000 x420001 x420002 x420003 x1 16).bind fun t430=>((agg_Rows.f k x420000 x420001 x420002 x420003 t430 t425).bind fun t433=>((thresherref20_Rows.f k x420000 x420001 x420002 x420003 t430 t425).bind fun t436=>((thresherref20_Same.f k t433 t436).bind fun t439=>(if x7=true then (if t439=true then ((agg_May.f k x420000 x420001 x420002 x420003 t430).bind fun t440=>(some t440)) else (some false)) else (some false)))))))))
def thresherlaw20_AggAll.f (k : Nat) (a0_0 : Int) (a0_1 : Int) (a0_2 : Int) (a0_3 : Int) (a0_4 : Int) (a0_5 : Int) (a0_6 : Int) (a0_7 : Int) (a0_8 : Int) (a0_9 : Int) (a0_10 : Int) (a0_11 : Int) (l1 : List (S33)) (l2 : List (List (S40))) : Option (Bool):=(thresherlaw20_shown.f k).bind fun t412=>((thresherlaw20_made.f k a0_0 a0_1 a0_2 a0_3 a0_4 a0_5 a0_6 a0_7 a0_8 a0_9 a0_10 a0_11).bind fun bt413=>(if (l1.length : Int) > 20 then (if 20≤(l1.length : Int) then (thresherlaw20_AggAll.j0 k (l1.take 20) l2 t412 bt413.1 bt413.2.1 bt413.2.2.1 bt413.2.2.2) else (none)) else (thresherlaw20_AggAll.j0 k l1 l2 t412 bt413.1 bt413.2.1 bt413.2.2.1 bt413.2.2.2)))
theorem thresherlaw20_AggAll.mono_l : ∀ k,(∀ y0 y1 y2 y3 y4 y5 y6,LeO (thresherlaw20_AggAll.j0 k y0 y1 y2 y3 y4 y5 y6) (thresherlaw20_AggAll.j0 (k + 1) y0 y1 y2 y3 y4 y5 y6))
 | 0=>fun _ _ _ _ _ _ _ r h=>by simp [thresherlaw20_AggAll.j0] at h
 | k + 1=>by
  have ih0:=thresherlaw20_AggAll.mono_l k
  ·intro y0 y1 y2 y3 y4 y5 y6
   unfold thresherlaw20_AggAll.j0
   repeat' first
   | (with_reducible exact ih0 _ _ _ _ _ _ _)
   | (with_reducible exact agg_May.mono _ _ _ _ _ _)
   | (with_reducible exact agg_Rows.mono _ _ _ _ _ _ _)
   | (with_reducible exact thresherlaw20_made.mono _ _ _ _ _ _ _ _ _ _ _ _ _)
   | (with_reducible exact thresherlaw20_shown.mono _)
   | (with_reducible exact thresherref04_Fits.mono _ _ _ _ _ _ _)
   | (with_reducible exact thresherref20_Fit.mono _ _ _ _ _ _ _)
   | (with_reducible exact thresherref20_May.mono _ _ _ _ _ _)
   | (with_reducible exact thresherref20_Rows.mono _ _ _ _ _ _ _)
   | (with_reducible exact thresherref20_Same.mono _ _ _)
   | (with_reducible exact LeO.refl _)
   | (with_reducible exact LeO.none _)
   | (with_reducible refine LeO.ite ?_ ?_)
   | (with_reducible refine LeO.bind ?_ (fun _=>?_))
   | exact ih0 _ _ _ _ _ _ _
   | exact agg_May.mono _ _ _ _ _ _
   | exact agg_Rows.mono _ _ _ _ _ _ _
   | exact thresherlaw20_made.mono _ _ _ _ _ _ _ _ _ _ _ _ _
   | exact thresherlaw20_shown.mono _
   | exact thresherref04_Fits.mono _ _ _ _ _ _ _
   | exact thresherref20_Fit.mono _ _ _ _ _ _ _
   | exact thresherref20_May.mono _ _ _ _ _ _
   | exact thresherref20_Rows.mono _ _ _ _ _ _ _
   | exact thresherref20_Same.mono _ _ _
   | exact LeO.none _
   | refine LeO.ite ?_ ?_
   | refine LeO.bind ?_ (fun _=>?_)
theorem thresherlaw20_AggAll.mono : ∀ a0 a1 a2 a3 a4 a5 a6 a7 a8 a9 a10 a11 a12 a13 k,LeO (thresherlaw20_AggAll.f k a0 a1 a2 a3 a4 a5 a6 a7 a8 a9 a10 a11 a12 a13) (thresherlaw20_AggAll.f (k + 1) a0 a1 a2 a3 a4 a5 a6 a7 a8 a9 a10 a11 a12 a13):=by
 intro a0 a1 a2 a3 a4 a5 a6 a7 a8 a9 a10 a11 a12 a13 k
 have ih0:=thresherlaw20_AggAll.mono_l k
 unfold thresherlaw20_AggAll.f
 repeat' first
   | (with_reducible exact ih0 _ _ _ _ _ _ _)
   | (with_reducible exact agg_May.mono _ _ _ _ _ _)
   | (with_reducible exact agg_Rows.mono _ _ _ _ _ _ _)
   | (with_reducible exact thresherlaw20_made.mono _ _ _ _ _ _ _ _ _ _ _ _ _)
   | (with_reducible exact thresherlaw20_shown.mono _)
   | (with_reducible exact thresherref04_Fits.mono _ _ _ _ _ _ _)
   | (with_reducible exact thresherref20_Fit.mono _ _ _ _ _ _ _)
   | (with_reducible exact thresherref20_May.mono _ _ _ _ _ _)
   | (with_reducible exact thresherref20_Rows.mono _ _ _ _ _ _ _)
   | (with_reducible exact thresherref20_Same.mono _ _ _)
   | (with_reducible exact LeO.refl _)
   | (with_reducible exact LeO.none _)
   | (with_reducible refine LeO.ite ?_ ?_)
   | (with_reducible refine LeO.bind ?_ (fun _=>?_))
   | exact ih0 _ _ _ _ _ _ _
   | exact agg_May.mono _ _ _ _ _ _
   | exact agg_Rows.mono _ _ _ _ _ _ _
   | exact thresherlaw20_made.mono _ _ _ _ _ _ _ _ _ _ _ _ _
   | exact thresherlaw20_shown.mono _
   | exact thresherref04_Fits.mono _ _ _ _ _ _ _
   | exact thresherref20_Fit.mono _ _ _ _ _ _ _
   | exact thresherref20_May.mono _ _ _ _ _ _
   | exact thresherref20_Rows.mono _ _ _ _ _ _ _
   | exact thresherref20_Same.mono _ _ _
   | exact LeO.none _
   | refine LeO.ite ?_ ?_
   | refine LeO.bind ?_ (fun _=>?_)
def thresherlaw20_AggAll.T9 : Bool × List (List Nat × List Nat):=(true,[([],[]),([],[]),([],[]),([0,1,2],[0,1,2]),([],[]),([],[]),([],[]),([4,5,6,3],[4,5,6]),([3,7,7],[3,7]),([8,8,0,1,2,3,4,5,6,7,8],[8])])
def thresherlaw20_AggAll.B9 : List Nat:=[0,0,0,7,0,0,0,127,255,511]
theorem thresherlaw20_AggAll.tab9 : rtab .any (opsOf Try.f6 9)=thresherlaw20_AggAll.T9:=by kernel_rfl
theorem thresherlaw20_AggAll.bits9 : waitsOk thresherlaw20_AggAll.T9.2 thresherlaw20_AggAll.B9=true:=by kernel_rfl
set_option maxHeartbeats 8000000 in
set_option maxRecDepth 100000 in
theorem thresherlaw20_AggAll.calls (k : Nat) (a0_0 : Int) (a0_1 : Int) (a0_2 : Int) (a0_3 : Int) (a0_4 : Int) (a0_5 : Int) (a0_6 : Int) (a0_7 : Int) (a0_8 : Int) (a0_9 : Int) (a0_10 : Int) (a0_11 : Int) (P1_ : Nat→Prop) (A1 : Option Addr) (c1 : Nat) (l1 : List (S33)) (A2 : Option Addr) (c2 : Nat) (l2 : List (List (S40))) (r : Bool) (w : World) (hs1 : Kd.V k33 33 w w.heap.size (fun k_=>P1_ k_) (.slice A1 l1.length c1) l1) (hr2 : Kd.C (Kd.slice 40 k40) w A2 l2.length l2) (hc2 : l2.length≤c2) (h : thresherlaw20_AggAll.f k a0_0 a0_1 a0_2 a0_3 a0_4 a0_5 a0_6 a0_7 a0_8 a0_9 a0_10 a0_11 l1 l2=some r) :
  Calls Try.prog 6 #[.agg #[.int .u8 a0_0,.int .u8 a0_1,.int .u8 a0_2,.int .u8 a0_3,.int .u8 a0_4,.int .u8 a0_5,.int .u8 a0_6,.int .u8 a0_7,.int .u8 a0_8,.int .u8 a0_9,.int .u8 a0_10,.int .u8 a0_11],.slice A1 l1.length c1,.slice A2 l2.length c2] w fun e w'=>e=.returned (.bool r)∧Below w.heap.size w w':=by
 have hu24:=Try.underlying24
 have hu29:=Try.underlying29
 have HO1:=Aside0.mk (show Kd.V k33 33 w w.heap.size (fun k_=>(P1_ k_ ∨ w.heap.size≤k_)) (.slice A1 l1.length c1) l1 from Kd.V_mono hs1 (fun k_ hk=>.inl hk))
 have HR2:=Aside0.mk hr2
 have HC2:=Aside0.mk hc2
 clear hr2 hc2
 have HB:=Aside0.mk (Below.refl w.heap.size w)
 have H : ((thresherlaw20_shown.f k).bind fun t412=>((thresherlaw20_made.f k a0_0 a0_1 a0_2 a0_3 a0_4 a0_5 a0_6 a0_7 a0_8 a0_9 a0_10 a0_11).bind fun bt413=>(if (l1.length : Int) > 20 then (if 20≤(l1.length : Int) then (thresherlaw20_AggAll.j0 k (l1.take 20) l2 t412 bt413.1 bt413.2.1 bt413.2.2.1 bt413.2.2.2) else (none)) else (thresherlaw20_AggAll.j0 k l1 l2 t412 bt413.1 bt413.2.1 bt413.2.2.1 bt413.2.2.2))))=some r:=h
 clear h
 replace H:=Option.bind_eq_some_iff.mp H
 obtain ⟨t412,A40,H⟩:=H
 replace H : ((thresherlaw20_made.f k a0_0 a0_1 a0_2 a0_3 a0_4 a0_5 a0_6 a0_7 a0_8 a0_9 a0_10 a0_11).bind fun bt413=>(if (l1.length : Int) > 20 then (if 20≤(l1.length : Int) then (thresherlaw20_AggAll.j0 k (l1.take 20) l2 t412 bt413.1 bt413.2.1 bt413.2.2.1 bt413.2.2.2) else (none)) else (thresherlaw20_AggAll.j0 k l1 l2 t412 bt413.1 bt413.2.1 bt413.2.2.1 bt413.2.2.2)))=some r:=H
 have A4:=Aside0.mk A40
 clear A40
 replace H:=Option.bind_eq_some_iff.mp H
 obtain ⟨⟨t413,t416,t417,t418⟩,A50,H⟩:=H
 replace H : (if (l1.length : Int) > 20 then (if 20≤(l1.length : Int) then (thresherlaw20_AggAll.j0 k (l1.take 20) l2 t412 t413 t416 t417 t418) else (none)) else (thresherlaw20_AggAll.j0 k l1 l2 t412 t413 t416 t417 t418))=some r:=H
 have A5:=Aside0.mk A50
 clear A50
 have HC6:=Aside0.mk H
 clear H
 go_enter Try.func6,Try.ntmps6
 go_upto_if 17 with (first|((with_reducible refine gate_dst (N:=3) rfl ?_);refine box_event ?hg (N:=3) ?hd (cs:=#[.int .u8 a0_0,.int .u8 a0_1,.int .u8 a0_2,.int .u8 a0_3,.int .u8 a0_4,.int .u8 a0_5,.int .u8 a0_6,.int .u8 a0_7,.int .u8 a0_8,.int .u8 a0_9,.int .u8 a0_10,.int .u8 a0_11]) (t:=24) ?hr ?_;(case hd=>rfl);(case hg=>rfl);(case hr=>first|(go_simp;done)|(go_simp;rfl));intro gb411 hg w7 hbox hb;have n0_:=Aside0.mk (Kd.V_below (Kd.V_elderB (by (with_reducible repeat (first|apply Kd.V_alloc|apply Kd.V_drewN|apply Kd.V_drew));exact HO1.out) gb411 (Nat.le_of_eq hg.symm)) hb);have n1_:=Aside0.mk (below_step (by repeat (first|(with_reducible first|exact HB.out|apply below_alloc|apply pw_below_drewN|apply below_drew1)|exact HB.out)) hb);have n2_:=Aside0.mk (hbox);have n3_:=Aside0.mk ((by rw [hg];exact (below_size (by repeat (first|(with_reducible first|exact HB.out|apply below_alloc|apply pw_below_drewN|apply below_drew1)|exact HB.out))) : w.heap.size≤gb411));have n4_:=Aside0.mk ((by rw [hg];exact (below_size (by repeat (first|(with_reducible first|exact HB.out|apply below_alloc|apply pw_below_drewN|apply below_drew1)|exact HB.out))) : w.heap.size≤gb411));clear HO1;clear HB;have HO1:=n0_;have HB:=n1_;have BK411:=n2_;have GW411:=n3_;have GE411:=n4_;clear n0_ n1_ n2_ n3_ n4_;clear hb hbox hg)|((with_reducible refine gate_callee (f:=8) rfl ?_);refine goesL_ (some 12) rfl rfl Try.func8 (by kernel_rfl) rfl #[] rfl (by (try simp only [List.map_toArray,List.map_cons,List.map_nil]);first|done|rfl|(simp only [List.length_drop,List.length_take];rfl)) ?_;(with_reducible refine (thresherlaw20_shown.calls k  t412 _ A4.out).mono ?_);rintro e w8 ⟨rfl,hb⟩;refine ⟨_,rfl,?_⟩;have n0_:=Aside0.mk (Kd.V_below (by (with_reducible repeat (first|apply Kd.V_alloc|apply Kd.V_drewN|apply Kd.V_drew));exact HO1.out) hb);have n1_:=Aside0.mk (blk_below (g:=gb411) (o:=.cells #[.int .u8 a0_0,.int .u8 a0_1,.int .u8 a0_2,.int .u8 a0_3,.int .u8 a0_4,.int .u8 a0_5,.int .u8 a0_6,.int .u8 a0_7,.int .u8 a0_8,.int .u8 a0_9,.int .u8 a0_10,.int .u8 a0_11] 24 (0,0)) (by (with_reducible repeat (first|refine blk_drewN ?_ _|refine blk_drew ?_|refine blk_alloc ?_ _));exact BK411.out) hb);have n2_:=Aside0.mk (below_step (by repeat (first|(with_reducible first|exact HB.out|apply below_alloc|apply pw_below_drewN|apply below_drew1|refine below_set ?_ GE411.out)|exact HB.out)) hb);clear HO1;clear BK411;clear HB;have HO1:=n0_;have BK411:=n1_;have HB:=n2_;clear n0_ n1_ n2_;(try clear hb);(try clear hb2);(try clear hk);(try clear hi);have hcz9_0 : w8.cell? ⟨gb411,0,none⟩=some (.int .u8 a0_0):=(blk_cell BK411.out 0).trans rfl;have hcz9_1 : w8.cell? ⟨gb411,1,none⟩=some (.int .u8 a0_1):=(blk_cell BK411.out 1).trans rfl;have hcz9_2 : w8.cell? ⟨gb411,2,none⟩=some (.int .u8 a0_2):=(blk_cell BK411.out 2).trans rfl;have hcz9_3 : w8.cell? ⟨gb411,3,none⟩=some (.int .u8 a0_3):=(blk_cell BK411.out 3).trans rfl;have hcz9_4 : w8.cell? ⟨gb411,4,none⟩=some (.int .u8 a0_4):=(blk_cell BK411.out 4).trans rfl;have hcz9_5 : w8.cell? ⟨gb411,5,none⟩=some (.int .u8 a0_5):=(blk_cell BK411.out 5).trans rfl;have hcz9_6 : w8.cell? ⟨gb411,6,none⟩=some (.int .u8 a0_6):=(blk_cell BK411.out 6).trans rfl;have hcz9_7 : w8.cell? ⟨gb411,7,none⟩=some (.int .u8 a0_7):=(blk_cell BK411.out 7).trans rfl;have hcz9_8 : w8.cell? ⟨gb411,8,none⟩=some (.int .u8 a0_8):=(blk_cell BK411.out 8).trans rfl;have hcz9_9 : w8.cell? ⟨gb411,9,none⟩=some (.int .u8 a0_9):=(blk_cell BK411.out 9).trans rfl;have hcz9_10 : w8.cell? ⟨gb411,10,none⟩=some (.int .u8 a0_10):=(blk_cell BK411.out 10).trans rfl;have hcz9_11 : w8.cell? ⟨gb411,11,none⟩=some (.int .u8 a0_11):=(blk_cell BK411.out 11).trans rfl;have hfz9_0:=blk_frozen BK411.out 0;have hfz9_1:=blk_frozen BK411.out 1;have hfz9_2:=blk_frozen BK411.out 2;have hfz9_3:=blk_frozen BK411.out 3;have hfz9_4:=blk_frozen BK411.out 4;have hfz9_5:=blk_frozen BK411.out 5;have hfz9_6:=blk_frozen BK411.out 6;have hfz9_7:=blk_frozen BK411.out 7;have hfz9_8:=blk_frozen BK411.out 8;have hfz9_9:=blk_frozen BK411.out 9;have hfz9_10:=blk_frozen BK411.out 10;have hfz9_11:=blk_frozen BK411.out 11)|((with_reducible refine gate_callee (f:=9) rfl ?_);refine goesL_ (some 14) rfl rfl Try.func9 (by kernel_rfl) rfl #[.agg #[.int .u8 a0_0,.int .u8 a0_1,.int .u8 a0_2,.int .u8 a0_3,.int .u8 a0_4,.int .u8 a0_5,.int .u8 a0_6,.int .u8 a0_7,.int .u8 a0_8,.int .u8 a0_9,.int .u8 a0_10,.int .u8 a0_11]] rfl (by (try simp only [List.map_toArray,List.map_cons,List.map_nil]);first|done|rfl|(simp only [List.length_drop,List.length_take];rfl)) ?_;(with_reducible refine (thresherlaw20_made.calls k a0_0 a0_1 a0_2 a0_3 a0_4 a0_5 a0_6 a0_7 a0_8 a0_9 a0_10 a0_11 t413 t416 t417 t418 _ A5.out).mono ?_);rintro e w10 ⟨v414,rfl,ho0,hb⟩;refine ⟨_,rfl,?_⟩;have n0_:=Aside0.mk (Kd.V_elder' (by (with_reducible repeat (first|apply Kd.V_alloc|apply Kd.V_drewN|apply Kd.V_drew));exact HO1.out) (Kd.R_base ho0) hb);have n1_:=Aside0.mk (Kd.R_lower (Kd.R_newM (M:=fun k_=>(w.heap.size≤k_)) ho0 (below_size (by repeat (first|(with_reducible first|exact HB.out|apply below_alloc|apply pw_below_drewN|apply below_drew1|refine below_set ?_ GE411.out)|exact HB.out))) (fun k_ h_=>h_)) (below_size (by repeat (first|(with_reducible first|exact HB.out|apply below_alloc|apply pw_below_drewN|apply below_drew1|refine below_set ?_ GE411.out)|exact HB.out))));have n2_:=Aside0.mk (blk_below (g:=gb411) (o:=.cells #[.int .u8 a0_0,.int .u8 a0_1,.int .u8 a0_2,.int .u8 a0_3,.int .u8 a0_4,.int .u8 a0_5,.int .u8 a0_6,.int .u8 a0_7,.int .u8 a0_8,.int .u8 a0_9,.int .u8 a0_10,.int .u8 a0_11] 24 (0,0)) (by (with_reducible repeat (first|refine blk_drewN ?_ _|refine blk_drew ?_|refine blk_alloc ?_ _));exact BK411.out) hb);have n3_:=Aside0.mk (below_step (by repeat (first|(with_reducible first|exact HB.out|apply below_alloc|apply pw_below_drewN|apply below_drew1|refine below_set ?_ GE411.out)|exact HB.out)) hb);clear HO1;clear BK411;clear HB;have HO1:=n0_;have HO415:=n1_;have BK411:=n2_;have HB:=n3_;clear n0_ n1_ n2_ n3_;(try clear hb);(try clear hb2);(try clear hk);(try clear hi);(try clear ho0))|((with_reducible refine gate_dst (N:=8) rfl ?_);refine box_event ?hg (N:=8) ?hd (cs:=#[.slice none 0 0,.int .i64 0,.int .i64 0,.int .i64 0]) (t:=29) ?hr ?_;(case hd=>rfl);(case hg=>rfl);(case hr=>first|(go_simp;done)|(go_simp;rfl));intro gb419 hg w11 hbox hb;have n0_:=Aside0.mk (Kd.V_below (Kd.V_elderB (by (with_reducible repeat (first|apply Kd.V_alloc|apply Kd.V_drewN|apply Kd.V_drew));exact HO1.out) gb419 (Nat.le_of_eq hg.symm)) hb);have n1_:=Aside0.mk (Kd.R_below (by (with_reducible repeat (first|apply Kd.R_alloc|apply Kd.R_drewN|apply Kd.R_drew));exact HO415.out) hb);have n2_:=Aside0.mk (blk_below (g:=gb411) (o:=.cells #[.int .u8 a0_0,.int .u8 a0_1,.int .u8 a0_2,.int .u8 a0_3,.int .u8 a0_4,.int .u8 a0_5,.int .u8 a0_6,.int .u8 a0_7,.int .u8 a0_8,.int .u8 a0_9,.int .u8 a0_10,.int .u8 a0_11] 24 (0,0)) (by (with_reducible repeat (first|refine blk_drewN ?_ _|refine blk_drew ?_|refine blk_alloc ?_ _));exact BK411.out) hb);have n3_:=Aside0.mk (below_step (by repeat (first|(with_reducible first|exact HB.out|apply below_alloc|apply pw_below_drewN|apply below_drew1|refine below_set ?_ GE411.out)|exact HB.out)) hb);have n4_:=Aside0.mk (hbox);have n5_:=Aside0.mk ((by rw [hg];exact (below_size (by repeat (first|(with_reducible first|exact HB.out|apply below_alloc|apply pw_below_drewN|apply below_drew1|refine below_set ?_ GE411.out)|exact HB.out))) : w.heap.size≤gb419));have n6_:=Aside0.mk ((by rw [hg];exact (below_size (by repeat (first|(with_reducible first|exact HB.out|apply below_alloc|apply pw_below_drewN|apply below_drew1|refine below_set ?_ GE411.out)|exact HB.out))) : w.heap.size≤gb419));have n7_:=Aside0.mk ((by rw [hg];exact Nat.ne_of_lt (blk_lt (g:=gb411) (o:=.cells #[.int .u8 a0_0,.int .u8 a0_1,.int .u8 a0_2,.int .u8 a0_3,.int .u8 a0_4,.int .u8 a0_5,.int .u8 a0_6,.int .u8 a0_7,.int .u8 a0_8,.int .u8 a0_9,.int .u8 a0_10,.int .u8 a0_11] 24 (0,0)) (by (with_reducible repeat (first|refine blk_drewN ?_ _|refine blk_drew ?_|refine blk_alloc ?_ _));exact BK411.out)) : gb411≠gb419));have n8_:=Aside0.mk ((by rw [hg];exact Nat.ne_of_gt (blk_lt (g:=gb411) (o:=.cells #[.int .u8 a0_0,.int .u8 a0_1,.int .u8 a0_2,.int .u8 a0_3,.int .u8 a0_4,.int .u8 a0_5,.int .u8 a0_6,.int .u8 a0_7,.int .u8 a0_8,.int .u8 a0_9,.int .u8 a0_10,.int .u8 a0_11] 24 (0,0)) (by (with_reducible repeat (first|refine blk_drewN ?_ _|refine blk_drew ?_|refine blk_alloc ?_ _));exact BK411.out)) : gb419≠gb411));clear HO1;clear HO415;clear BK411;clear HB;have HO1:=n0_;have HO415:=n1_;have BK411:=n2_;have HB:=n3_;have BK419:=n4_;have GW419:=n5_;have GE419:=n6_;have NB411_419:=n7_;have NB419_411:=n8_;clear n0_ n1_ n2_ n3_ n4_ n5_ n6_ n7_ n8_;clear hb hbox hg;obtain ⟨Ao12,co12,eo12⟩:=Kd.R_slice HO415.out;subst eo12;have hnb13:=NB419_411.out;have hnc13:=NB411_419.out;have hcz14_0 : w11.cell? ⟨gb419,0,none⟩=some (.slice none 0 0):=(blk_cell BK419.out 0).trans rfl;have hcz14_1 : w11.cell? ⟨gb419,1,none⟩=some (.int .i64 0):=(blk_cell BK419.out 1).trans rfl;have hcz14_2 : w11.cell? ⟨gb419,2,none⟩=some (.int .i64 0):=(blk_cell BK419.out 2).trans rfl;have hcz14_3 : w11.cell? ⟨gb419,3,none⟩=some (.int .i64 0):=(blk_cell BK419.out 3).trans rfl;have hfz14_0:=blk_frozen BK419.out 0;have hfz14_1:=blk_frozen BK419.out 1;have hfz14_2:=blk_frozen BK419.out 2;have hfz14_3:=blk_frozen BK419.out 3)|((with_reducible refine gate_store (t:=29) (p:=8) rfl ?_);refine store_event (t:=29) (p:=8) (v:=?vo_w15) (w1:=((((w11.setCell ⟨gb419,0,none⟩ (.slice Ao12 t413.length co12)).setCell ⟨gb419,1,none⟩ (.int .i64 t416)).setCell ⟨gb419,2,none⟩ (.int .i64 t417)).setCell ⟨gb419,3,none⟩ (.int .i64 t418))) ?hg ?ho ?hn ?hr ?_;(case ho=>rfl);(case hg=>rfl);(case hn=>rfl);(case hr=>first|(go_simp;done)|(go_simp;rfl));intro w15 hw;have n0_ : Aside0 (Kd.V k33 33 w15 w.heap.size (fun k_=>(P1_ k_ ∨ w.heap.size≤k_)∧some k_≠(.slice Ao12 t413.length co12 : Value).ownBlock∧k_≠gb411∧k_≠gb419) (.slice A1 l1.length c1) l1):=⟨(by rw [hw];exact (by (with_reducible repeat (first|apply Kd.V_alloc|apply Kd.V_drewN|apply Kd.V_drew));exact Kd.V_mono (Kd.V_far (p:=⟨gb419,3,none⟩) (Kd.V_far (p:=⟨gb419,2,none⟩) (Kd.V_far (p:=⟨gb419,1,none⟩) (Kd.V_far (p:=⟨gb419,0,none⟩) (Kd.V_mono HO1.out (fun k_ hk=>(⟨hk,hk.2⟩ : _∧k_≠gb419))) (fun _ hk=>hk.2) (.slice Ao12 t413.length co12)) (fun _ hk=>hk.2) (.int .i64 t416)) (fun _ hk=>hk.2) (.int .i64 t417)) (fun _ hk=>hk.2) (.int .i64 t418)) (fun _ hk=>⟨hk.1.1.1.1,⟨hk.1.1.2,⟨hk.1.1.1.2,hk.1.2⟩⟩⟩)))⟩;have n1_ : Aside0 (Kd.R (Kd.int .i64) 3 w15 w.heap.size (fun k_=>(w.heap.size≤k_)) (.slice Ao12 t413.length co12) t413):=⟨(by rw [hw];exact (by (with_reducible repeat (first|apply Kd.R_alloc|apply Kd.R_drewN|apply Kd.R_drew));exact Kd.R_mono (Kd.R_far (p:=⟨gb419,3,none⟩) (Kd.R_far (p:=⟨gb419,2,none⟩) (Kd.R_far (p:=⟨gb419,1,none⟩) (Kd.R_far (p:=⟨gb419,0,none⟩) (Kd.R_types HO415.out BK419.out (by decide)) (fun _ hk=>hk.2) (.slice Ao12 t413.length co12)) (fun _ hk=>hk.2) (.int .i64 t416)) (fun _ hk=>hk.2) (.int .i64 t417)) (fun _ hk=>hk.2) (.int .i64 t418)) (fun _ hk=>hk.1.1)))⟩;have n2_ : Aside0 (w15.heap[gb411]?=some (.cells #[.int .u8 a0_0,.int .u8 a0_1,.int .u8 a0_2,.int .u8 a0_3,.int .u8 a0_4,.int .u8 a0_5,.int .u8 a0_6,.int .u8 a0_7,.int .u8 a0_8,.int .u8 a0_9,.int .u8 a0_10,.int .u8 a0_11] 24 (0,0))):=⟨(by rw [hw];exact (by (with_reducible repeat (first|refine blk_drewN ?_ _|refine blk_drew ?_|refine blk_alloc ?_ _));refine blk_far ?_ NB411_419.out _;(with_reducible repeat (first|refine blk_drewN ?_ _|refine blk_drew ?_|refine blk_alloc ?_ _));refine blk_far ?_ NB411_419.out _;(with_reducible repeat (first|refine blk_drewN ?_ _|refine blk_drew ?_|refine blk_alloc ?_ _));refine blk_far ?_ NB411_419.out _;(with_reducible repeat (first|refine blk_drewN ?_ _|refine blk_drew ?_|refine blk_alloc ?_ _));refine blk_far ?_ NB411_419.out _;(with_reducible repeat (first|refine blk_drewN ?_ _|refine blk_drew ?_|refine blk_alloc ?_ _));exact BK411.out))⟩;have n3_ : Aside0 (w15.heap[gb419]?=some (.cells #[.slice Ao12 t413.length co12,.int .i64 t416,.int .i64 t417,.int .i64 t418] 29 (0,0))):=⟨(by rw [hw];exact (by (with_reducible repeat (first|refine blk_drewN ?_ _|refine blk_drew ?_|refine blk_alloc ?_ _));refine blk_put (cs:=#[.slice Ao12 t413.length co12,.int .i64 t416,.int .i64 t417,.int .i64 0]) ?_ 3 _ rfl;(with_reducible repeat (first|refine blk_drewN ?_ _|refine blk_drew ?_|refine blk_alloc ?_ _));refine blk_put (cs:=#[.slice Ao12 t413.length co12,.int .i64 t416,.int .i64 0,.int .i64 0]) ?_ 2 _ rfl;(with_reducible repeat (first|refine blk_drewN ?_ _|refine blk_drew ?_|refine blk_alloc ?_ _));refine blk_put (cs:=#[.slice Ao12 t413.length co12,.int .i64 0,.int .i64 0,.int .i64 0]) ?_ 1 _ rfl;(with_reducible repeat (first|refine blk_drewN ?_ _|refine blk_drew ?_|refine blk_alloc ?_ _));refine blk_put (cs:=#[.slice none 0 0,.int .i64 0,.int .i64 0,.int .i64 0]) ?_ 0 _ rfl;(with_reducible repeat (first|refine blk_drewN ?_ _|refine blk_drew ?_|refine blk_alloc ?_ _));exact BK419.out))⟩;have n4_ : Aside0 (Below w.heap.size w w15):=⟨(by rw [hw];exact (by repeat (first|(with_reducible first|exact HB.out|apply below_alloc|apply pw_below_drewN|apply below_drew1|refine below_set ?_ GE411.out|refine below_set ?_ GE419.out)|exact HB.out)))⟩;clear hw;clear HO1;clear HO415;clear BK411;clear BK419;clear HB;have HO1:=n0_;have HO415:=n1_;have BK411:=n2_;have BK419:=n3_;have HB:=n4_;clear n0_ n1_ n2_ n3_ n4_))
 (try simp only [Act.put,List.setIfInBounds_toArray,List.set_cons_zero,List.set_cons_succ])
 go_cut [1] (fun v1 wc=>∃ (kq : Nat) (x1_5 : List (S33)),Aside0 (thresherlaw20_AggAll.j0 kq x1_5 l2 t412 t413 t416 t417 t418=some r)∧Aside0 (kq≤k)∧Aside0 (Kd.V k33 33 wc w.heap.size (fun k_=>(P1_ k_ ∨ w.heap.size≤k_)∧some k_≠((.slice Ao12 t413.length co12) : Value).ownBlock∧k_≠gb411∧k_≠gb419) v1 x1_5)∧Aside0 (Kd.R (Kd.int .i64) 3 wc w.heap.size (fun k_=>(w.heap.size≤k_)) (.slice Ao12 t413.length co12) t413)∧Aside0 (wc.heap[gb411]?=some (.cells #[.int .u8 a0_0,.int .u8 a0_1,.int .u8 a0_2,.int .u8 a0_3,.int .u8 a0_4,.int .u8 a0_5,.int .u8 a0_6,.int .u8 a0_7,.int .u8 a0_8,.int .u8 a0_9,.int .u8 a0_10,.int .u8 a0_11] 24 (0,0)))∧Aside0 (wc.heap[gb419]?=some (.cells #[(.slice Ao12 t413.length co12),.int .i64 t416,.int .i64 t417,.int .i64 t418] 29 (0,0)))∧Aside0 (Below w.heap.size w wc))
 case first =>
  have H:=HC6.out
  clear HC6
  by_cases c16 : (l1.length : Int) > 20
  ·rw [if_pos c16] at H
   have c16b0 : decide (20 < (l1.length : Int))=true:=decide_eq_true c16
   have c16b1 : decide (20 < l1.length)=true:=decide_eq_true (by omega)
   clear c16
   (first|rw [c16b0]|(simp only [i64_w,i32_w];rw [c16b0])|skip)
   by_cases c17 : 20≤(l1.length : Int)
   ·rw [if_pos c17] at H
    have c17b0:=eq_true c17
    have c17b1 : decide (20≤(l1.length : Int))=true:=decide_eq_true c17
    clear c17
    obtain ⟨y420,hy420⟩ : ∃ y_ : List (S33),y_=(l1.take 20):=⟨_,rfl⟩
    replace H : (thresherlaw20_AggAll.j0 k y420 l2 t412 t413 t416 t417 t418)=some r:=by first|(rw [hy420];with_reducible exact H)|(have H2_:=(Option.bind_some _ _).symm.trans H;rw [hy420];with_reducible exact H2_)|(have H2_:=(Option.bind_some _ _).symm.trans H;with_reducible exact H2_)|with_reducible exact H|(rw [hy420];exact H)|exact H
    have Ny420:=Aside0.mk hy420
    clear hy420
    have H':=Aside0.mk H
    clear H
    have q18 : (20 : Int)≤((l1.length : Int) : Int):=of_decide_eq_true (by first|(with_reducible assumption)|assumption)
    obtain ⟨i018,hi018,_,hsz18,_⟩:=info_parts info33
    have hroom18 : l1.length≤c1:=(Kd.V_reads' HO1.out).2.1
    have hC18 : Kd.F k33 _ _ A1 l1.length l1:=(Kd.V_at (base:=w.heap.size) HO1.out).2.2
    have hcut18:=cut_to (P:=Try.prog) 34 33 .i64 Try.underlying34 hi018 A1 l1.length c1 20 (by omega) q18 hroom18
    have hr18:=Kd.F_take (m:=20) hC18 (by omega)
    have hy18 : y420.length=(20 : Int).toNat:=(by rw [Ny420.out,List.length_take];omega)
    rw [← Ny420.out] at hr18
    rw [← hy18] at hcut18
    have HO424:=Aside0.mk (show Kd.V k33 33 _ w.heap.size _ (.slice A1 y420.length c1) y420 from Kd.V_mk (by omega) hr18)
    have HC424:=Aside0.mk (show y420.length≤c1 from by omega)
    clear hr18 hC18 hroom18 hi018 hsz18
    have KY18:=Aside0.mk hy18
    clear hy18
    replace q18:=eq_true q18
    go_wp2
    go_meet
    case rel=>exact ⟨_,(y420),(by first|exact H'|(subst_vars;exact H')),⟨by first|omega|exact Nat.le_refl _⟩,⟨by (with_reducible repeat (first|apply Kd.V_alloc|apply Kd.V_drewN|apply Kd.V_drew));exact HO424.out⟩,⟨by (with_reducible repeat (first|apply Kd.R_alloc|apply Kd.R_drewN|apply Kd.R_drew));exact HO415.out⟩,⟨by (with_reducible repeat (first|refine blk_drewN ?_ _|refine blk_drew ?_|refine blk_alloc ?_ _));exact BK411.out⟩,⟨by (with_reducible repeat (first|refine blk_drewN ?_ _|refine blk_drew ?_|refine blk_alloc ?_ _));exact BK419.out⟩,⟨by repeat (first|(with_reducible first|exact HB.out|apply below_alloc|apply pw_below_drewN|apply below_drew1|refine below_set ?_ GE411.out|refine below_set ?_ GE419.out)|exact HB.out)⟩⟩
   ·rw [if_neg c17] at H
    exact absurd H (by simp)
  ·rw [if_neg c16] at H
   have c16b0 : decide (20 < (l1.length : Int))=false:=decide_eq_false c16
   have c16b1 : decide (20 < l1.length)=false:=decide_eq_false (by omega)
   clear c16
   (first|rw [c16b0]|(simp only [i64_w,i32_w];rw [c16b0])|skip)
   have H':=Aside0.mk H
   clear H
   go_wp2
   go_meet
   case rel=>exact ⟨_,(l1),(by first|exact H'|(subst_vars;exact H')),⟨by first|omega|exact Nat.le_refl _⟩,⟨by (with_reducible repeat (first|apply Kd.V_alloc|apply Kd.V_drewN|apply Kd.V_drew));exact HO1.out⟩,⟨by (with_reducible repeat (first|apply Kd.R_alloc|apply Kd.R_drewN|apply Kd.R_drew));exact HO415.out⟩,⟨by (with_reducible repeat (first|refine blk_drewN ?_ _|refine blk_drew ?_|refine blk_alloc ?_ _));exact BK411.out⟩,⟨by (with_reducible repeat (first|refine blk_drewN ?_ _|refine blk_drew ?_|refine blk_alloc ?_ _));exact BK419.out⟩,⟨by repeat (first|(with_reducible first|exact HB.out|apply below_alloc|apply pw_below_drewN|apply below_drew1|refine below_set ?_ GE411.out|refine below_set ?_ GE419.out)|exact HB.out)⟩⟩
 case rest =>
  clear HC6
  try clear c1
  try clear q1
  try clear c2
  try clear p2
  try clear c6
  try clear c8
  try clear c9
  try clear c13
  try clear c16
  try clear c16b0
  try clear c16b1
  try clear c17
  try clear c17b0
  try clear c17b1
  try clear q18
  try clear hcz14_0
  try clear hcz14_1
  try clear hcz14_2
  try clear hcz14_3
  try clear hcz9_0
  try clear hcz9_1
  try clear hcz9_10
  try clear hcz9_11
  try clear hcz9_2
  try clear hcz9_3
  try clear hcz9_4
  try clear hcz9_5
  try clear hcz9_6
  try clear hcz9_7
  try clear hcz9_8
  try clear hcz9_9
  try clear hfz14_0
  try clear hfz14_1
  try clear hfz14_2
  try clear hfz14_3
  try clear hfz9_0
  try clear hfz9_1
  try clear hfz9_10
  try clear hfz9_11
  try clear hfz9_2
  try clear hfz9_3
  try clear hfz9_4
  try clear hfz9_5
  try clear hfz9_6
  try clear hfz9_7
  try clear hfz9_8
  try clear hfz9_9
  try clear q18
  obtain ⟨kq,x1_5,HA,HJ5,HO_1,HO_420000,BK411,BK419,HB⟩:=hcut
  cases kq with
  | zero=>exact absurd HA.out (by simp [thresherlaw20_AggAll.j0])
  | succ kj5 =>
   have H:=HA.out
   clear HA
   simp only [thresherlaw20_AggAll.j0] at H
   replace H:=Option.bind_eq_some_iff.mp H
   obtain ⟨t425,A190,H⟩:=H
   replace H : ((agg_May.f kj5 t413 t416 t417 t418 x1_5).bind fun t428=>((thresherref20_May.f kj5 t413 t416 t417 t418 x1_5).bind fun t429=>(if (t428 != t429)=true then (some false) else ((thresherref20_Fit.f kj5 t413 t416 t417 t418 x1_5 16).bind fun t430=>((agg_Rows.f kj5 t413 t416 t417 t418 t430 t425).bind fun t433=>((thresherref20_Rows.f kj5 t413 t416 t417 t418 t430 t425).bind fun t436=>((thresherref20_Same.f kj5 t433 t436).bind fun t439=>(if t412=true then (if t439=true then ((agg_May.f kj5 t413 t416 t417 t418 t430).bind fun t440=>(some t440)) else (some false)) else (some false)))))))))=some r:=H
   have A19:=Aside0.mk A190
   clear A190
   replace H:=Option.bind_eq_some_iff.mp H
   obtain ⟨t428,A200,H⟩:=H
   replace H : ((thresherref20_May.f kj5 t413 t416 t417 t418 x1_5).bind fun t429=>(if (t428 != t429)=true then (some false) else ((thresherref20_Fit.f kj5 t413 t416 t417 t418 x1_5 16).bind fun t430=>((agg_Rows.f kj5 t413 t416 t417 t418 t430 t425).bind fun t433=>((thresherref20_Rows.f kj5 t413 t416 t417 t418 t430 t425).bind fun t436=>((thresherref20_Same.f kj5 t433 t436).bind fun t439=>(if t412=true then (if t439=true then ((agg_May.f kj5 t413 t416 t417 t418 t430).bind fun t440=>(some t440)) else (some false)) else (some false))))))))=some r:=H
   have A20:=Aside0.mk A200
   clear A200
   replace H:=Option.bind_eq_some_iff.mp H
   obtain ⟨t429,A210,H⟩:=H
   replace H : (if (t428 != t429)=true then (some false) else ((thresherref20_Fit.f kj5 t413 t416 t417 t418 x1_5 16).bind fun t430=>((agg_Rows.f kj5 t413 t416 t417 t418 t430 t425).bind fun t433=>((thresherref20_Rows.f kj5 t413 t416 t417 t418 t430 t425).bind fun t436=>((thresherref20_Same.f kj5 t433 t436).bind fun t439=>(if t412=true then (if t439=true then ((agg_May.f kj5 t413 t416 t417 t418 t430).bind fun t440=>(some t440)) else (some false)) else (some false)))))))=some r:=H
   have A21:=Aside0.mk A210
   clear A210
   by_cases c22 : (t428 != t429)=true
   ·rw [if_pos c22] at H
    have c22b0 : (t428 != t429)=true:=c22
    (try (have c22b1 : decide (t428=t429)=false:=by simpa using c22))
    (try (have c22b2 : (t428 == t429)=false:=by simpa using c22))
    (try (have c22b3 : ¬ (t428=t429):=by simpa using c22))
    clear c22
    obtain rfl:=Option.some.inj H
    have hnb23:=NB419_411.out
    have hnc23:=NB411_419.out
    have hcz24_0 : wc.cell? ⟨gb419,0,none⟩=some (.slice Ao12 t413.length co12):=(blk_cell BK419.out 0).trans rfl
    have hcz24_1 : wc.cell? ⟨gb419,1,none⟩=some (.int .i64 t416):=(blk_cell BK419.out 1).trans rfl
    have hcz24_2 : wc.cell? ⟨gb419,2,none⟩=some (.int .i64 t417):=(blk_cell BK419.out 2).trans rfl
    have hcz24_3 : wc.cell? ⟨gb419,3,none⟩=some (.int .i64 t418):=(blk_cell BK419.out 3).trans rfl
    have hfz24_0:=blk_frozen BK419.out 0
    have hfz24_1:=blk_frozen BK419.out 1
    have hfz24_2:=blk_frozen BK419.out 2
    have hfz24_3:=blk_frozen BK419.out 3
    try go_wp2_with (first|((with_reducible refine gate_callee (f:=10) rfl ?_);refine goesL_ (some 22) rfl rfl Try.func10 (by kernel_rfl) rfl #[.agg #[.slice Ao12 t413.length co12,.int .i64 t416,.int .i64 t417,.int .i64 t418],.slice A2 l2.length c2,.int .i64 60] rfl (by (try simp only [List.map_toArray,List.map_cons,List.map_nil]);first|done|rfl|(simp only [List.length_drop,List.length_take];rfl)) ?_;(with_reducible refine (thresherref04_Fits.calls kj5 _ _ t413 t416 t417 t418 _ _ l2 60 t425 _ ?side1 ?side2 ?side3 ?side4 A19.out).mono ?_);(case side1=>repeat (first|exact (Kd.R_reads' HO_420000.out).2.2|(with_reducible refine Kd.C_alloc ?_ _)|(with_reducible refine Kd.C_drewN ?_ _)|(with_reducible refine Kd.C_drew ?_)));(case side2=>exact (Kd.R_reads' HO_420000.out).2.1);(case side3=>repeat (first|exact (Kd.C_below HR2.out HB.out)|(with_reducible refine Kd.C_alloc ?_ _)|(with_reducible refine Kd.C_drewN ?_ _)|(with_reducible refine Kd.C_drew ?_)));(case side4=>exact HC2.out);rintro e w25 ⟨v426,rfl,ho0,hb⟩;refine ⟨_,rfl,?_⟩;have n0_:=Aside0.mk (Kd.V_elder' (by (with_reducible repeat (first|apply Kd.V_alloc|apply Kd.V_drewN|apply Kd.V_drew));exact HO_1.out) (Kd.S_base ho0) hb);have n1_:=Aside0.mk (Kd.R_below (by (with_reducible repeat (first|apply Kd.R_alloc|apply Kd.R_drewN|apply Kd.R_drew));exact HO_420000.out) hb);have n2_:=Aside0.mk (Kd.S_lower (Kd.S_newM (M:=fun k_=>(w.heap.size≤k_)) ho0 (below_size (by repeat (first|(with_reducible first|exact HB.out|apply below_alloc|apply pw_below_drewN|apply below_drew1|refine below_set ?_ GE411.out|refine below_set ?_ GE419.out)|exact HB.out))) (fun k_ h_=>h_)) (below_size (by repeat (first|(with_reducible first|exact HB.out|apply below_alloc|apply pw_below_drewN|apply below_drew1|refine below_set ?_ GE411.out|refine below_set ?_ GE419.out)|exact HB.out))));have n3_:=Aside0.mk (blk_below (g:=gb411) (o:=.cells #[.int .u8 a0_0,.int .u8 a0_1,.int .u8 a0_2,.int .u8 a0_3,.int .u8 a0_4,.int .u8 a0_5,.int .u8 a0_6,.int .u8 a0_7,.int .u8 a0_8,.int .u8 a0_9,.int .u8 a0_10,.int .u8 a0_11] 24 (0,0)) (by (with_reducible repeat (first|refine blk_drewN ?_ _|refine blk_drew ?_|refine blk_alloc ?_ _));exact BK411.out) hb);have n4_:=Aside0.mk (blk_below (g:=gb419) (o:=.cells #[.slice Ao12 t413.length co12,.int .i64 t416,.int .i64 t417,.int .i64 t418] 29 (0,0)) (by (with_reducible repeat (first|refine blk_drewN ?_ _|refine blk_drew ?_|refine blk_alloc ?_ _));exact BK419.out) hb);have n5_:=Aside0.mk (below_step (by repeat (first|(with_reducible first|exact HB.out|apply below_alloc|apply pw_below_drewN|apply below_drew1|refine below_set ?_ GE411.out|refine below_set ?_ GE419.out)|exact HB.out)) hb);clear HO_1;clear HO_420000;clear BK411;clear BK419;clear HB;have HO_1:=n0_;have HO_420000:=n1_;have HO427:=n2_;have BK411:=n3_;have BK419:=n4_;have HB:=n5_;clear n0_ n1_ n2_ n3_ n4_ n5_;(try clear hb);(try clear hb2);(try clear hk);(try clear hi);(try clear ho0)))
    have n0_:=Aside0.mk (Kd.V_drew HO_1.out)
    have n1_:=Aside0.mk (Kd.R_drew HO_420000.out)
    have n2_:=Aside0.mk (Kd.S_drew HO427.out)
    have n3_:=Aside0.mk (blk_drew BK411.out)
    have n4_:=Aside0.mk (blk_drew BK419.out)
    have n5_:=Aside0.mk (below_drew1 HB.out)
    clear HO_1
    clear HO_420000
    clear HO427
    clear BK411
    clear BK419
    clear HB
    have HO_1:=n0_
    have HO_420000:=n1_
    have HO427:=n2_
    have BK411:=n3_
    have BK419:=n4_
    have HB:=n5_
    clear n0_ n1_ n2_ n3_ n4_ n5_
    obtain ⟨Ao27,co27,eo27⟩:=Kd.V_slice HO_1.out
    (first|subst eo27|(injection eo27 with f1_ f2_ f3_;have f4_:=f1_.symm;have f5_:=f3_.symm;clear f1_ f2_ f3_;subst f4_;subst f5_))
    refine start_ (n:=7) (S:=fun w'=>w'.cell? ⟨gb419,0,none⟩=some (.slice Ao12 t413.length co12)∧w'.cell? ⟨gb419,1,none⟩=some (.int .i64 t416)∧w'.cell? ⟨gb419,2,none⟩=some (.int .i64 t417)∧w'.cell? ⟨gb419,3,none⟩=some (.int .i64 t418)) (ds:=[]) #[false,false,false,false,false,false,false] (by kernel_rfl) rfl rfl ⟨(blk_cell BK419.out 0).trans rfl,(blk_cell BK419.out 1).trans rfl,(blk_cell BK419.out 2).trans rfl,(blk_cell BK419.out 3).trans rfl⟩ (fun hHeld=>?_)
    generalize w25.drew=w26 at HO_1 HO_420000 HO427 BK411 BK419 HB hHeld ⊢
    refine pure_ (i:=1) (N:=some 24) (v:=?_) (a':=?_) #[false,true,false,false,false,false,false] rfl rfl (by kernel_rfl) (fun _ _ _ h=>h) (Or.inl ⟨by rfl,?_⟩) ?_ ?_
    rotate_left;(intro w';go_simp;with_reducible rfl);rotate_left;(simp only [Act.put,List.setIfInBounds_toArray,List.set_cons_zero,List.set_cons_succ,i64_w,i32_w];rfl)
    refine pure_ (i:=4) (N:=some 27) (v:=?_) (a':=?_) #[false,true,false,false,true,false,false] rfl rfl (by kernel_rfl) (fun _ _ _ h=>h) (Or.inl ⟨by rfl,?_⟩) ?_ ?_
    rotate_left;(intro w';go_simp;with_reducible rfl);rotate_left;(simp only [Act.put,List.setIfInBounds_toArray,List.set_cons_zero,List.set_cons_succ,i64_w,i32_w];rfl)
    refine take_ (i:=0) (N:=some 23) (v:=?_) (a':=?_) #[true,true,false,false,true,false,false] rfl rfl (by kernel_rfl) (fun _ _ _ h=>h) (Or.inl ⟨by rfl,?_⟩) hHeld ?_ ?_
    rotate_left;(rintro w' ⟨s0,s1,s2,s3⟩;go_simp;with_reducible rfl);rotate_left;(simp only [Act.put,List.setIfInBounds_toArray,List.set_cons_zero,List.set_cons_succ,i64_w,i32_w];rfl)
    refine take_ (i:=3) (N:=some 26) (v:=?_) (a':=?_) #[true,true,false,true,true,false,false] rfl rfl (by kernel_rfl) (fun _ _ _ h=>h) (Or.inl ⟨by rfl,?_⟩) hHeld ?_ ?_
    rotate_left;(rintro w' ⟨s0,s1,s2,s3⟩;go_simp;with_reducible rfl);rotate_left;(simp only [Act.put,List.setIfInBounds_toArray,List.set_cons_zero,List.set_cons_succ,i64_w,i32_w];rfl)
    refine one_ (i:=2) (N:=some 25) #[true,true,true,true,true,false,false] rfl rfl (by kernel_rfl) (by decide) (fun K hK=>?_)
    refine goes_ Try.func16 (by kernel_rfl) rfl #[.agg #[.slice Ao12 t413.length co12,.int .i64 t416,.int .i64 t417,.int .i64 t418],.slice Ao27 x1_5.length co27] (by rfl) rfl rfl (by (try simp only [List.map_toArray,List.map_cons,List.map_nil]);first|done|rfl|(simp only [List.length_drop,List.length_take];rfl)) ?_
    with_reducible refine (agg_May.calls kj5 _ _ t413 t416 t417 t418 _ _ x1_5 t428 _ ?side1 ?side2 ?side3 ?side4 A20.out).mono ?_
    (case side1=>repeat (first|exact (Kd.R_reads' HO_420000.out).2.2|(with_reducible refine Kd.C_alloc ?_ _)|(with_reducible refine Kd.C_drewN ?_ _)|(with_reducible refine Kd.C_drew ?_)))
    (case side2=>exact (Kd.R_reads' HO_420000.out).2.1)
    (case side3=>repeat (first|exact (Kd.V_reads' HO_1.out).2.2|(with_reducible refine Kd.C_alloc ?_ _)|(with_reducible refine Kd.C_drewN ?_ _)|(with_reducible refine Kd.C_drew ?_)))
    (case side4=>exact (Kd.V_reads' HO_1.out).2.1)
    rintro e w28 ⟨rfl,hb⟩
    refine ⟨_,rfl,?_⟩
    have n0_:=Aside0.mk (Kd.V_below (by (with_reducible repeat (first|apply Kd.V_alloc|apply Kd.V_drewN|apply Kd.V_drew));exact HO_1.out) hb)
    have n1_:=Aside0.mk (Kd.R_below (by (with_reducible repeat (first|apply Kd.R_alloc|apply Kd.R_drewN|apply Kd.R_drew));exact HO_420000.out) hb)
    have n2_:=Aside0.mk (Kd.S_below (by (with_reducible repeat (first|apply Kd.S_alloc|apply Kd.S_drewN|apply Kd.S_drew));exact HO427.out) hb)
    have n3_:=Aside0.mk (blk_below (g:=gb411) (o:=.cells #[.int .u8 a0_0,.int .u8 a0_1,.int .u8 a0_2,.int .u8 a0_3,.int .u8 a0_4,.int .u8 a0_5,.int .u8 a0_6,.int .u8 a0_7,.int .u8 a0_8,.int .u8 a0_9,.int .u8 a0_10,.int .u8 a0_11] 24 (0,0)) (by (with_reducible repeat (first|refine blk_drewN ?_ _|refine blk_drew ?_|refine blk_alloc ?_ _));exact BK411.out) hb)
    have n4_:=Aside0.mk (blk_below (g:=gb419) (o:=.cells #[.slice Ao12 t413.length co12,.int .i64 t416,.int .i64 t417,.int .i64 t418] 29 (0,0)) (by (with_reducible repeat (first|refine blk_drewN ?_ _|refine blk_drew ?_|refine blk_alloc ?_ _));exact BK419.out) hb)
    have n5_:=Aside0.mk (below_step (by repeat (first|(with_reducible first|exact HB.out|apply below_alloc|apply pw_below_drewN|apply below_drew1|refine below_set ?_ GE411.out|refine below_set ?_ GE419.out)|exact HB.out)) hb)
    clear HO_1
    clear HO_420000
    clear HO427
    clear BK411
    clear BK419
    clear HB
    have HO_1:=n0_
    have HO_420000:=n1_
    have HO427:=n2_
    have BK411:=n3_
    have BK419:=n4_
    have HB:=n5_
    clear n0_ n1_ n2_ n3_ n4_ n5_
    (try clear hb)
    (try clear hb2)
    (try clear hk)
    (try clear hi)
    refine hK.out _ _ ⟨(blk_cell BK419.out 0).trans rfl,(blk_cell BK419.out 1).trans rfl,(blk_cell BK419.out 2).trans rfl,(blk_cell BK419.out 3).trans rfl⟩ (fun hHeld=>?_)
    clear hK K
    refine norm_ (a':=?_) ?_ ?_
    rotate_left
    ·show Act.put _ (some 25) _=_
     simp only [Act.put,List.setIfInBounds_toArray,List.set_cons_zero,List.set_cons_succ,i64_w,i32_w]
     rfl
    refine one_ (i:=5) (N:=some 28) #[true,true,true,true,true,true,false] rfl rfl (by kernel_rfl) (by decide) (fun K hK=>?_)
    refine goes_ Try.func17 (by kernel_rfl) rfl #[.agg #[.slice Ao12 t413.length co12,.int .i64 t416,.int .i64 t417,.int .i64 t418],.slice Ao27 x1_5.length co27] (by rfl) rfl rfl (by (try simp only [List.map_toArray,List.map_cons,List.map_nil]);first|done|rfl|(simp only [List.length_drop,List.length_take];rfl)) ?_
    with_reducible refine (thresherref20_May.calls kj5 _ _ t413 t416 t417 t418 _ _ x1_5 t429 _ ?side1 ?side2 ?side3 ?side4 A21.out).mono ?_
    (case side1=>repeat (first|exact (Kd.R_reads' HO_420000.out).2.2|(with_reducible refine Kd.C_alloc ?_ _)|(with_reducible refine Kd.C_drewN ?_ _)|(with_reducible refine Kd.C_drew ?_)))
    (case side2=>exact (Kd.R_reads' HO_420000.out).2.1)
    (case side3=>repeat (first|exact (Kd.V_reads' HO_1.out).2.2|(with_reducible refine Kd.C_alloc ?_ _)|(with_reducible refine Kd.C_drewN ?_ _)|(with_reducible refine Kd.C_drew ?_)))
    (case side4=>exact (Kd.V_reads' HO_1.out).2.1)
    rintro e w29 ⟨rfl,hb⟩
    refine ⟨_,rfl,?_⟩
    have n0_:=Aside0.mk (Kd.V_below (by (with_reducible repeat (first|apply Kd.V_alloc|apply Kd.V_drewN|apply Kd.V_drew));exact HO_1.out) hb)
    have n1_:=Aside0.mk (Kd.R_below (by (with_reducible repeat (first|apply Kd.R_alloc|apply Kd.R_drewN|apply Kd.R_drew));exact HO_420000.out) hb)
    have n2_:=Aside0.mk (Kd.S_below (by (with_reducible repeat (first|apply Kd.S_alloc|apply Kd.S_drewN|apply Kd.S_drew));exact HO427.out) hb)
    have n3_:=Aside0.mk (blk_below (g:=gb411) (o:=.cells #[.int .u8 a0_0,.int .u8 a0_1,.int .u8 a0_2,.int .u8 a0_3,.int .u8 a0_4,.int .u8 a0_5,.int .u8 a0_6,.int .u8 a0_7,.int .u8 a0_8,.int .u8 a0_9,.int .u8 a0_10,.int .u8 a0_11] 24 (0,0)) (by (with_reducible repeat (first|refine blk_drewN ?_ _|refine blk_drew ?_|refine blk_alloc ?_ _));exact BK411.out) hb)
    have n4_:=Aside0.mk (blk_below (g:=gb419) (o:=.cells #[.slice Ao12 t413.length co12,.int .i64 t416,.int .i64 t417,.int .i64 t418] 29 (0,0)) (by (with_reducible repeat (first|refine blk_drewN ?_ _|refine blk_drew ?_|refine blk_alloc ?_ _));exact BK419.out) hb)
    have n5_:=Aside0.mk (below_step (by repeat (first|(with_reducible first|exact HB.out|apply below_alloc|apply pw_below_drewN|apply below_drew1|refine below_set ?_ GE411.out|refine below_set ?_ GE419.out)|exact HB.out)) hb)
    clear HO_1
    clear HO_420000
    clear HO427
    clear BK411
    clear BK419
    clear HB
    have HO_1:=n0_
    have HO_420000:=n1_
    have HO427:=n2_
    have BK411:=n3_
    have BK419:=n4_
    have HB:=n5_
    clear n0_ n1_ n2_ n3_ n4_ n5_
    (try clear hb)
    (try clear hb2)
    (try clear hk)
    (try clear hi)
    refine hK.out _ _ ⟨(blk_cell BK419.out 0).trans rfl,(blk_cell BK419.out 1).trans rfl,(blk_cell BK419.out 2).trans rfl,(blk_cell BK419.out 3).trans rfl⟩ (fun hHeld=>?_)
    clear hK K
    refine norm_ (a':=?_) ?_ ?_
    rotate_left
    ·show Act.put _ (some 28) _=_
     simp only [Act.put,List.setIfInBounds_toArray,List.set_cons_zero,List.set_cons_succ,i64_w,i32_w]
     rfl
    refine pure_ (i:=6) (N:=some 29) (v:=?_) (a':=?_) #[true,true,true,true,true,true,true] rfl rfl (by kernel_rfl) (fun _ _ _ h=>h) (Or.inl ⟨by rfl,?_⟩) ?_ ?_
    rotate_left;(intro w';go_simp;with_reducible rfl);rotate_left;(simp only [Act.put,List.setIfInBounds_toArray,List.set_cons_zero,List.set_cons_succ,i64_w,i32_w];rfl)
    refine done_ (by kernel_rfl) ?_
    try go_wp2
    go_ret
    exact ⟨by first|rfl|(simp [errW_none,errW_some] <;> rfl)|(simp [*,errW_none,errW_some] <;> rfl),by repeat (first|(with_reducible first|exact HB.out|apply below_alloc|apply pw_below_drewN|apply below_drew1|refine below_set ?_ GE411.out|refine below_set ?_ GE419.out)|exact HB.out)⟩
   ·rw [if_neg c22] at H
    have c22b0 : (t428 != t429)=false:=by simpa using c22
    (try (have c22b1 : decide (t428=t429)=true:=by simpa using c22))
    (try (have c22b2 : (t428 == t429)=true:=by simpa using c22))
    clear c22
    replace H:=Option.bind_eq_some_iff.mp H
    obtain ⟨t430,A300,H⟩:=H
    replace H : ((agg_Rows.f kj5 t413 t416 t417 t418 t430 t425).bind fun t433=>((thresherref20_Rows.f kj5 t413 t416 t417 t418 t430 t425).bind fun t436=>((thresherref20_Same.f kj5 t433 t436).bind fun t439=>(if t412=true then (if t439=true then ((agg_May.f kj5 t413 t416 t417 t418 t430).bind fun t440=>(some t440)) else (some false)) else (some false)))))=some r:=H
    have A30:=Aside0.mk A300
    clear A300
    replace H:=Option.bind_eq_some_iff.mp H
    obtain ⟨t433,A310,H⟩:=H
    replace H : ((thresherref20_Rows.f kj5 t413 t416 t417 t418 t430 t425).bind fun t436=>((thresherref20_Same.f kj5 t433 t436).bind fun t439=>(if t412=true then (if t439=true then ((agg_May.f kj5 t413 t416 t417 t418 t430).bind fun t440=>(some t440)) else (some false)) else (some false))))=some r:=H
    have A31:=Aside0.mk A310
    clear A310
    replace H:=Option.bind_eq_some_iff.mp H
    obtain ⟨t436,A320,H⟩:=H
    replace H : ((thresherref20_Same.f kj5 t433 t436).bind fun t439=>(if t412=true then (if t439=true then ((agg_May.f kj5 t413 t416 t417 t418 t430).bind fun t440=>(some t440)) else (some false)) else (some false)))=some r:=H
    have A32:=Aside0.mk A320
    clear A320
    replace H:=Option.bind_eq_some_iff.mp H
    obtain ⟨t439,A330,H⟩:=H
    replace H : (if t412=true then (if t439=true then ((agg_May.f kj5 t413 t416 t417 t418 t430).bind fun t440=>(some t440)) else (some false)) else (some false))=some r:=H
    have A33:=Aside0.mk A330
    clear A330
    by_cases c34 : t412=true
    ·subst c34
     have H1 : (if t439=true then ((agg_May.f kj5 t413 t416 t417 t418 t430).bind fun t440=>(some t440)) else (some false))=some r:=by rw [if_pos rfl] at H;exact H
     clear H
     have H:=H1
     clear H1
     by_cases c35 : t439=true
     ·subst c35
      have H1 : ((agg_May.f kj5 t413 t416 t417 t418 t430).bind fun t440=>(some t440))=some r:=by rw [if_pos rfl] at H;exact H
      clear H
      have H:=H1
      clear H1
      replace H:=Option.bind_eq_some_iff.mp H
      obtain ⟨t440,A360,H⟩:=H
      replace H : (some t440)=some r:=H
      have A36:=Aside0.mk A360
      clear A360
      obtain rfl:=Option.some.inj H
      have hnb37:=NB419_411.out
      have hnc37:=NB411_419.out
      have hcz38_0 : wc.cell? ⟨gb419,0,none⟩=some (.slice Ao12 t413.length co12):=(blk_cell BK419.out 0).trans rfl
      have hcz38_1 : wc.cell? ⟨gb419,1,none⟩=some (.int .i64 t416):=(blk_cell BK419.out 1).trans rfl
      have hcz38_2 : wc.cell? ⟨gb419,2,none⟩=some (.int .i64 t417):=(blk_cell BK419.out 2).trans rfl
      have hcz38_3 : wc.cell? ⟨gb419,3,none⟩=some (.int .i64 t418):=(blk_cell BK419.out 3).trans rfl
      have hfz38_0:=blk_frozen BK419.out 0
      have hfz38_1:=blk_frozen BK419.out 1
      have hfz38_2:=blk_frozen BK419.out 2
      have hfz38_3:=blk_frozen BK419.out 3
      try go_wp2_with (first|((with_reducible refine gate_callee (f:=10) rfl ?_);refine goesL_ (some 22) rfl rfl Try.func10 (by kernel_rfl) rfl #[.agg #[.slice Ao12 t413.length co12,.int .i64 t416,.int .i64 t417,.int .i64 t418],.slice A2 l2.length c2,.int .i64 60] rfl (by (try simp only [List.map_toArray,List.map_cons,List.map_nil]);first|done|rfl|(simp only [List.length_drop,List.length_take];rfl)) ?_;(with_reducible refine (thresherref04_Fits.calls kj5 _ _ t413 t416 t417 t418 _ _ l2 60 t425 _ ?side1 ?side2 ?side3 ?side4 A19.out).mono ?_);(case side1=>repeat (first|exact (Kd.R_reads' HO_420000.out).2.2|(with_reducible refine Kd.C_alloc ?_ _)|(with_reducible refine Kd.C_drewN ?_ _)|(with_reducible refine Kd.C_drew ?_)));(case side2=>exact (Kd.R_reads' HO_420000.out).2.1);(case side3=>repeat (first|exact (Kd.C_below HR2.out HB.out)|(with_reducible refine Kd.C_alloc ?_ _)|(with_reducible refine Kd.C_drewN ?_ _)|(with_reducible refine Kd.C_drew ?_)));(case side4=>exact HC2.out);rintro e w39 ⟨v426,rfl,ho0,hb⟩;refine ⟨_,rfl,?_⟩;have n0_:=Aside0.mk (Kd.V_elder' (by (with_reducible repeat (first|apply Kd.V_alloc|apply Kd.V_drewN|apply Kd.V_drew));exact HO_1.out) (Kd.S_base ho0) hb);have n1_:=Aside0.mk (Kd.R_below (by (with_reducible repeat (first|apply Kd.R_alloc|apply Kd.R_drewN|apply Kd.R_drew));exact HO_420000.out) hb);have n2_:=Aside0.mk (Kd.S_lower (Kd.S_newM (M:=fun k_=>(w.heap.size≤k_)) ho0 (below_size (by repeat (first|(with_reducible first|exact HB.out|apply below_alloc|apply pw_below_drewN|apply below_drew1|refine below_set ?_ GE411.out|refine below_set ?_ GE419.out)|exact HB.out))) (fun k_ h_=>h_)) (below_size (by repeat (first|(with_reducible first|exact HB.out|apply below_alloc|apply pw_below_drewN|apply below_drew1|refine below_set ?_ GE411.out|refine below_set ?_ GE419.out)|exact HB.out))));have n3_:=Aside0.mk (blk_below (g:=gb411) (o:=.cells #[.int .u8 a0_0,.int .u8 a0_1,.int .u8 a0_2,.int .u8 a0_3,.int .u8 a0_4,.int .u8 a0_5,.int .u8 a0_6,.int .u8 a0_7,.int .u8 a0_8,.int .u8 a0_9,.int .u8 a0_10,.int .u8 a0_11] 24 (0,0)) (by (with_reducible repeat (first|refine blk_drewN ?_ _|refine blk_drew ?_|refine blk_alloc ?_ _));exact BK411.out) hb);have n4_:=Aside0.mk (blk_below (g:=gb419) (o:=.cells #[.slice Ao12 t413.length co12,.int .i64 t416,.int .i64 t417,.int .i64 t418] 29 (0,0)) (by (with_reducible repeat (first|refine blk_drewN ?_ _|refine blk_drew ?_|refine blk_alloc ?_ _));exact BK419.out) hb);have n5_:=Aside0.mk (below_step (by repeat (first|(with_reducible first|exact HB.out|apply below_alloc|apply pw_below_drewN|apply below_drew1|refine below_set ?_ GE411.out|refine below_set ?_ GE419.out)|exact HB.out)) hb);clear HO_1;clear HO_420000;clear BK411;clear BK419;clear HB;have HO_1:=n0_;have HO_420000:=n1_;have HO427:=n2_;have BK411:=n3_;have BK419:=n4_;have HB:=n5_;clear n0_ n1_ n2_ n3_ n4_ n5_;(try clear hb);(try clear hb2);(try clear hk);(try clear hi);(try clear ho0)))
      have n0_:=Aside0.mk (Kd.V_drew HO_1.out)
      have n1_:=Aside0.mk (Kd.R_drew HO_420000.out)
      have n2_:=Aside0.mk (Kd.S_drew HO427.out)
      have n3_:=Aside0.mk (blk_drew BK411.out)
      have n4_:=Aside0.mk (blk_drew BK419.out)
      have n5_:=Aside0.mk (below_drew1 HB.out)
      clear HO_1
      clear HO_420000
      clear HO427
      clear BK411
      clear BK419
      clear HB
      have HO_1:=n0_
      have HO_420000:=n1_
      have HO427:=n2_
      have BK411:=n3_
      have BK419:=n4_
      have HB:=n5_
      clear n0_ n1_ n2_ n3_ n4_ n5_
      obtain ⟨Ao41,co41,eo41⟩:=Kd.V_slice HO_1.out
      (first|subst eo41|(injection eo41 with f1_ f2_ f3_;have f4_:=f1_.symm;have f5_:=f3_.symm;clear f1_ f2_ f3_;subst f4_;subst f5_))
      refine start_ (n:=7) (S:=fun w'=>w'.cell? ⟨gb419,0,none⟩=some (.slice Ao12 t413.length co12)∧w'.cell? ⟨gb419,1,none⟩=some (.int .i64 t416)∧w'.cell? ⟨gb419,2,none⟩=some (.int .i64 t417)∧w'.cell? ⟨gb419,3,none⟩=some (.int .i64 t418)) (ds:=[]) #[false,false,false,false,false,false,false] (by kernel_rfl) rfl rfl ⟨(blk_cell BK419.out 0).trans rfl,(blk_cell BK419.out 1).trans rfl,(blk_cell BK419.out 2).trans rfl,(blk_cell BK419.out 3).trans rfl⟩ (fun hHeld=>?_)
      generalize w39.drew=w40 at HO_1 HO_420000 HO427 BK411 BK419 HB hHeld ⊢
      refine pure_ (i:=1) (N:=some 24) (v:=?_) (a':=?_) #[false,true,false,false,false,false,false] rfl rfl (by kernel_rfl) (fun _ _ _ h=>h) (Or.inl ⟨by rfl,?_⟩) ?_ ?_
      rotate_left;(intro w';go_simp;with_reducible rfl);rotate_left;(simp only [Act.put,List.setIfInBounds_toArray,List.set_cons_zero,List.set_cons_succ,i64_w,i32_w];rfl)
      refine pure_ (i:=4) (N:=some 27) (v:=?_) (a':=?_) #[false,true,false,false,true,false,false] rfl rfl (by kernel_rfl) (fun _ _ _ h=>h) (Or.inl ⟨by rfl,?_⟩) ?_ ?_
      rotate_left;(intro w';go_simp;with_reducible rfl);rotate_left;(simp only [Act.put,List.setIfInBounds_toArray,List.set_cons_zero,List.set_cons_succ,i64_w,i32_w];rfl)
      refine take_ (i:=0) (N:=some 23) (v:=?_) (a':=?_) #[true,true,false,false,true,false,false] rfl rfl (by kernel_rfl) (fun _ _ _ h=>h) (Or.inl ⟨by rfl,?_⟩) hHeld ?_ ?_
      rotate_left;(rintro w' ⟨s0,s1,s2,s3⟩;go_simp;with_reducible rfl);rotate_left;(simp only [Act.put,List.setIfInBounds_toArray,List.set_cons_zero,List.set_cons_succ,i64_w,i32_w];rfl)
      refine take_ (i:=3) (N:=some 26) (v:=?_) (a':=?_) #[true,true,false,true,true,false,false] rfl rfl (by kernel_rfl) (fun _ _ _ h=>h) (Or.inl ⟨by rfl,?_⟩) hHeld ?_ ?_
      rotate_left;(rintro w' ⟨s0,s1,s2,s3⟩;go_simp;with_reducible rfl);rotate_left;(simp only [Act.put,List.setIfInBounds_toArray,List.set_cons_zero,List.set_cons_succ,i64_w,i32_w];rfl)
      refine one_ (i:=2) (N:=some 25) #[true,true,true,true,true,false,false] rfl rfl (by kernel_rfl) (by decide) (fun K hK=>?_)
      refine goes_ Try.func16 (by kernel_rfl) rfl #[.agg #[.slice Ao12 t413.length co12,.int .i64 t416,.int .i64 t417,.int .i64 t418],.slice Ao41 x1_5.length co41] (by rfl) rfl rfl (by (try simp only [List.map_toArray,List.map_cons,List.map_nil]);first|done|rfl|(simp only [List.length_drop,List.length_take];rfl)) ?_
      with_reducible refine (agg_May.calls kj5 _ _ t413 t416 t417 t418 _ _ x1_5 t428 _ ?side1 ?side2 ?side3 ?side4 A20.out).mono ?_
      (case side1=>repeat (first|exact (Kd.R_reads' HO_420000.out).2.2|(with_reducible refine Kd.C_alloc ?_ _)|(with_reducible refine Kd.C_drewN ?_ _)|(with_reducible refine Kd.C_drew ?_)))
      (case side2=>exact (Kd.R_reads' HO_420000.out).2.1)
      (case side3=>repeat (first|exact (Kd.V_reads' HO_1.out).2.2|(with_reducible refine Kd.C_alloc ?_ _)|(with_reducible refine Kd.C_drewN ?_ _)|(with_reducible refine Kd.C_drew ?_)))
      (case side4=>exact (Kd.V_reads' HO_1.out).2.1)
      rintro e w42 ⟨rfl,hb⟩
      refine ⟨_,rfl,?_⟩
      have n0_:=Aside0.mk (Kd.V_below (by (with_reducible repeat (first|apply Kd.V_alloc|apply Kd.V_drewN|apply Kd.V_drew));exact HO_1.out) hb)
      have n1_:=Aside0.mk (Kd.R_below (by (with_reducible repeat (first|apply Kd.R_alloc|apply Kd.R_drewN|apply Kd.R_drew));exact HO_420000.out) hb)
      have n2_:=Aside0.mk (Kd.S_below (by (with_reducible repeat (first|apply Kd.S_alloc|apply Kd.S_drewN|apply Kd.S_drew));exact HO427.out) hb)
      have n3_:=Aside0.mk (blk_below (g:=gb411) (o:=.cells #[.int .u8 a0_0,.int .u8 a0_1,.int .u8 a0_2,.int .u8 a0_3,.int .u8 a0_4,.int .u8 a0_5,.int .u8 a0_6,.int .u8 a0_7,.int .u8 a0_8,.int .u8 a0_9,.int .u8 a0_10,.int .u8 a0_11] 24 (0,0)) (by (with_reducible repeat (first|refine blk_drewN ?_ _|refine blk_drew ?_|refine blk_alloc ?_ _));exact BK411.out) hb)
      have n4_:=Aside0.mk (blk_below (g:=gb419) (o:=.cells #[.slice Ao12 t413.length co12,.int .i64 t416,.int .i64 t417,.int .i64 t418] 29 (0,0)) (by (with_reducible repeat (first|refine blk_drewN ?_ _|refine blk_drew ?_|refine blk_alloc ?_ _));exact BK419.out) hb)
      have n5_:=Aside0.mk (below_step (by repeat (first|(with_reducible first|exact HB.out|apply below_alloc|apply pw_below_drewN|apply below_drew1|refine below_set ?_ GE411.out|refine below_set ?_ GE419.out)|exact HB.out)) hb)
      clear HO_1
      clear HO_420000
      clear HO427
      clear BK411
      clear BK419
      clear HB
      have HO_1:=n0_
      have HO_420000:=n1_
      have HO427:=n2_
      have BK411:=n3_
      have BK419:=n4_
      have HB:=n5_
      clear n0_ n1_ n2_ n3_ n4_ n5_
      (try clear hb)
      (try clear hb2)
      (try clear hk)
      (try clear hi)
      refine hK.out _ _ ⟨(blk_cell BK419.out 0).trans rfl,(blk_cell BK419.out 1).trans rfl,(blk_cell BK419.out 2).trans rfl,(blk_cell BK419.out 3).trans rfl⟩ (fun hHeld=>?_)
      clear hK K
      refine norm_ (a':=?_) ?_ ?_
      rotate_left
      ·show Act.put _ (some 25) _=_
       simp only [Act.put,List.setIfInBounds_toArray,List.set_cons_zero,List.set_cons_succ,i64_w,i32_w]
       rfl
      refine one_ (i:=5) (N:=some 28) #[true,true,true,true,true,true,false] rfl rfl (by kernel_rfl) (by decide) (fun K hK=>?_)
      refine goes_ Try.func17 (by kernel_rfl) rfl #[.agg #[.slice Ao12 t413.length co12,.int .i64 t416,.int .i64 t417,.int .i64 t418],.slice Ao41 x1_5.length co41] (by rfl) rfl rfl (by (try simp only [List.map_toArray,List.map_cons,List.map_nil]);first|done|rfl|(simp only [List.length_drop,List.length_take];rfl)) ?_
      with_reducible refine (thresherref20_May.calls kj5 _ _ t413 t416 t417 t418 _ _ x1_5 t429 _ ?side1 ?side2 ?side3 ?side4 A21.out).mono ?_
      (case side1=>repeat (first|exact (Kd.R_reads' HO_420000.out).2.2|(with_reducible refine Kd.C_alloc ?_ _)|(with_reducible refine Kd.C_drewN ?_ _)|(with_reducible refine Kd.C_drew ?_)))
      (case side2=>exact (Kd.R_reads' HO_420000.out).2.1)
      (case side3=>repeat (first|exact (Kd.V_reads' HO_1.out).2.2|(with_reducible refine Kd.C_alloc ?_ _)|(with_reducible refine Kd.C_drewN ?_ _)|(with_reducible refine Kd.C_drew ?_)))
      (case side4=>exact (Kd.V_reads' HO_1.out).2.1)
      rintro e w43 ⟨rfl,hb⟩
      refine ⟨_,rfl,?_⟩
      have n0_:=Aside0.mk (Kd.V_below (by (with_reducible repeat (first|apply Kd.V_alloc|apply Kd.V_drewN|apply Kd.V_drew));exact HO_1.out) hb)
      have n1_:=Aside0.mk (Kd.R_below (by (with_reducible repeat (first|apply Kd.R_alloc|apply Kd.R_drewN|apply Kd.R_drew));exact HO_420000.out) hb)
      have n2_:=Aside0.mk (Kd.S_below (by (with_reducible repeat (first|apply Kd.S_alloc|apply Kd.S_drewN|apply Kd.S_drew));exact HO427.out) hb)
      have n3_:=Aside0.mk (blk_below (g:=gb411) (o:=.cells #[.int .u8 a0_0,.int .u8 a0_1,.int .u8 a0_2,.int .u8 a0_3,.int .u8 a0_4,.int .u8 a0_5,.int .u8 a0_6,.int .u8 a0_7,.int .u8 a0_8,.int .u8 a0_9,.int .u8 a0_10,.int .u8 a0_11] 24 (0,0)) (by (with_reducible repeat (first|refine blk_drewN ?_ _|refine blk_drew ?_|refine blk_alloc ?_ _));exact BK411.out) hb)
      have n4_:=Aside0.mk (blk_below (g:=gb419) (o:=.cells #[.slice Ao12 t413.length co12,.int .i64 t416,.int .i64 t417,.int .i64 t418] 29 (0,0)) (by (with_reducible repeat (first|refine blk_drewN ?_ _|refine blk_drew ?_|refine blk_alloc ?_ _));exact BK419.out) hb)
      have n5_:=Aside0.mk (below_step (by repeat (first|(with_reducible first|exact HB.out|apply below_alloc|apply pw_below_drewN|apply below_drew1|refine below_set ?_ GE411.out|refine below_set ?_ GE419.out)|exact HB.out)) hb)
      clear HO_1
      clear HO_420000
      clear HO427
      clear BK411
      clear BK419
      clear HB
      have HO_1:=n0_
      have HO_420000:=n1_
      have HO427:=n2_
      have BK411:=n3_
      have BK419:=n4_
      have HB:=n5_
      clear n0_ n1_ n2_ n3_ n4_ n5_
      (try clear hb)
      (try clear hb2)
      (try clear hk)
      (try clear hi)
      refine hK.out _ _ ⟨(blk_cell BK419.out 0).trans rfl,(blk_cell BK419.out 1).trans rfl,(blk_cell BK419.out 2).trans rfl,(blk_cell BK419.out 3).trans rfl⟩ (fun hHeld=>?_)
      clear hK K
      refine norm_ (a':=?_) ?_ ?_
      rotate_left
      ·show Act.put _ (some 28) _=_
       simp only [Act.put,List.setIfInBounds_toArray,List.set_cons_zero,List.set_cons_succ,i64_w,i32_w]
       rfl
      refine pure_ (i:=6) (N:=some 29) (v:=?_) (a':=?_) #[true,true,true,true,true,true,true] rfl rfl (by kernel_rfl) (fun _ _ _ h=>h) (Or.inl ⟨by rfl,?_⟩) ?_ ?_
      rotate_left;(intro w';go_simp;with_reducible rfl);rotate_left;(simp only [Act.put,List.setIfInBounds_toArray,List.set_cons_zero,List.set_cons_succ,i64_w,i32_w];rfl)
      refine done_ (by kernel_rfl) ?_
      have hcz44_0 : w43.cell? ⟨gb419,0,none⟩=some (.slice Ao12 t413.length co12):=(blk_cell BK419.out 0).trans rfl
      have hcz44_1 : w43.cell? ⟨gb419,1,none⟩=some (.int .i64 t416):=(blk_cell BK419.out 1).trans rfl
      have hcz44_2 : w43.cell? ⟨gb419,2,none⟩=some (.int .i64 t417):=(blk_cell BK419.out 2).trans rfl
      have hcz44_3 : w43.cell? ⟨gb419,3,none⟩=some (.int .i64 t418):=(blk_cell BK419.out 3).trans rfl
      have hfz44_0:=blk_frozen BK419.out 0
      have hfz44_1:=blk_frozen BK419.out 1
      have hfz44_2:=blk_frozen BK419.out 2
      have hfz44_3:=blk_frozen BK419.out 3
      try go_wp2_with (first|((with_reducible refine gate_callee (f:=14) rfl ?_);refine goesL_ (some 32) rfl rfl Try.func14 (by kernel_rfl) rfl #[.agg #[.slice Ao12 t413.length co12,.int .i64 t416,.int .i64 t417,.int .i64 t418],.slice Ao41 x1_5.length co41,.int .i64 16] rfl (by (try simp only [List.map_toArray,List.map_cons,List.map_nil]);first|done|rfl|(simp only [List.length_drop,List.length_take];rfl)) ?_;(with_reducible refine (thresherref20_Fit.calls kj5 _ _ t413 t416 t417 t418 _ _ x1_5 16 t430 _ ?side1 ?side2 ?side3 ?side4 A30.out).mono ?_);(case side1=>repeat (first|exact (Kd.R_reads' HO_420000.out).2.2|(with_reducible refine Kd.C_alloc ?_ _)|(with_reducible refine Kd.C_drewN ?_ _)|(with_reducible refine Kd.C_drew ?_)));(case side2=>exact (Kd.R_reads' HO_420000.out).2.1);(case side3=>repeat (first|exact (Kd.V_reads' HO_1.out).2.2|(with_reducible refine Kd.C_alloc ?_ _)|(with_reducible refine Kd.C_drewN ?_ _)|(with_reducible refine Kd.C_drew ?_)));(case side4=>exact (Kd.V_reads' HO_1.out).2.1);rintro e w45 ⟨v431,rfl,ho0,hb⟩;refine ⟨_,rfl,?_⟩;have n0_:=Aside0.mk (Kd.V_elder' (by (with_reducible repeat (first|apply Kd.V_alloc|apply Kd.V_drewN|apply Kd.V_drew));exact HO_1.out) (Kd.R_base ho0) hb);have n1_:=Aside0.mk (Kd.R_below (by (with_reducible repeat (first|apply Kd.R_alloc|apply Kd.R_drewN|apply Kd.R_drew));exact HO_420000.out) hb);have n2_:=Aside0.mk (Kd.S_below (by (with_reducible repeat (first|apply Kd.S_alloc|apply Kd.S_drewN|apply Kd.S_drew));exact HO427.out) hb);have n3_:=Aside0.mk (Kd.R_lower (Kd.R_newM (M:=fun k_=>(w.heap.size≤k_)) ho0 (below_size (by repeat (first|(with_reducible first|exact HB.out|apply below_alloc|apply pw_below_drewN|apply below_drew1|refine below_set ?_ GE411.out|refine below_set ?_ GE419.out)|exact HB.out))) (fun k_ h_=>h_)) (below_size (by repeat (first|(with_reducible first|exact HB.out|apply below_alloc|apply pw_below_drewN|apply below_drew1|refine below_set ?_ GE411.out|refine below_set ?_ GE419.out)|exact HB.out))));have n4_:=Aside0.mk (blk_below (g:=gb411) (o:=.cells #[.int .u8 a0_0,.int .u8 a0_1,.int .u8 a0_2,.int .u8 a0_3,.int .u8 a0_4,.int .u8 a0_5,.int .u8 a0_6,.int .u8 a0_7,.int .u8 a0_8,.int .u8 a0_9,.int .u8 a0_10,.int .u8 a0_11] 24 (0,0)) (by (with_reducible repeat (first|refine blk_drewN ?_ _|refine blk_drew ?_|refine blk_alloc ?_ _));exact BK411.out) hb);have n5_:=Aside0.mk (blk_below (g:=gb419) (o:=.cells #[.slice Ao12 t413.length co12,.int .i64 t416,.int .i64 t417,.int .i64 t418] 29 (0,0)) (by (with_reducible repeat (first|refine blk_drewN ?_ _|refine blk_drew ?_|refine blk_alloc ?_ _));exact BK419.out) hb);have n6_:=Aside0.mk (below_step (by repeat (first|(with_reducible first|exact HB.out|apply below_alloc|apply pw_below_drewN|apply below_drew1|refine below_set ?_ GE411.out|refine below_set ?_ GE419.out)|exact HB.out)) hb);clear HO_1;clear HO_420000;clear HO427;clear BK411;clear BK419;clear HB;have HO_1:=n0_;have HO_420000:=n1_;have HO427:=n2_;have HO432:=n3_;have BK411:=n4_;have BK419:=n5_;have HB:=n6_;clear n0_ n1_ n2_ n3_ n4_ n5_ n6_;(try clear hb);(try clear hb2);(try clear hk);(try clear hi);(try clear ho0)))
      have n0_:=Aside0.mk (Kd.V_drew HO_1.out)
      have n1_:=Aside0.mk (Kd.R_drew HO_420000.out)
      have n2_:=Aside0.mk (Kd.S_drew HO427.out)
      have n3_:=Aside0.mk (Kd.R_drew HO432.out)
      have n4_:=Aside0.mk (blk_drew BK411.out)
      have n5_:=Aside0.mk (blk_drew BK419.out)
      have n6_:=Aside0.mk (below_drew1 HB.out)
      clear HO_1
      clear HO_420000
      clear HO427
      clear HO432
      clear BK411
      clear BK419
      clear HB
      have HO_1:=n0_
      have HO_420000:=n1_
      have HO427:=n2_
      have HO432:=n3_
      have BK411:=n4_
      have BK419:=n5_
      have HB:=n6_
      clear n0_ n1_ n2_ n3_ n4_ n5_ n6_
      obtain ⟨Ao47,co47,eo47⟩:=Kd.R_slice HO432.out
      (first|subst eo47|(injection eo47 with f1_ f2_ f3_;have f4_:=f1_.symm;have f5_:=f3_.symm;clear f1_ f2_ f3_;subst f4_;subst f5_))
      obtain ⟨Ao48,co48,eo48⟩:=Kd.S_slice HO427.out
      (first|subst eo48|(injection eo48 with f1_ f2_ f3_;have f4_:=f1_.symm;have f5_:=f3_.symm;clear f1_ f2_ f3_;subst f4_;subst f5_))
      refine start_ (n:=10) (S:=fun w'=>w'.cell? ⟨gb419,0,none⟩=some (.slice Ao12 t413.length co12)∧w'.cell? ⟨gb419,1,none⟩=some (.int .i64 t416)∧w'.cell? ⟨gb419,2,none⟩=some (.int .i64 t417)∧w'.cell? ⟨gb419,3,none⟩=some (.int .i64 t418)) (ds:=[]) #[false,false,false,false,false,false,false,false,false,false] (by kernel_rfl) rfl rfl ⟨(blk_cell BK419.out 0).trans rfl,(blk_cell BK419.out 1).trans rfl,(blk_cell BK419.out 2).trans rfl,(blk_cell BK419.out 3).trans rfl⟩ (fun hHeld=>?_);refine with_tabW thresherlaw20_AggAll.tab9 thresherlaw20_AggAll.bits9 (fun HT_ HW_=>?_)
      generalize w45.drew=w46 at HO_1 HO_420000 HO427 HO432 BK411 BK419 HB hHeld ⊢
      refine pure_ (i:=1) (N:=some 34) (v:=?_) (a':=?_) #[false,true,false,false,false,false,false,false,false,false] rfl rfl (any_of HT_.out (by kernel_rfl)) (fun _ _ _ h=>h) (Or.inl ⟨by rfl,?_⟩) ?_ ?_
      rotate_left;(intro w';go_simp;with_reducible rfl);rotate_left;(simp only [Act.put,List.setIfInBounds_toArray,List.set_cons_zero,List.set_cons_succ,i64_w,i32_w];rfl)
      refine pure_ (i:=2) (N:=some 35) (v:=?_) (a':=?_) #[false,true,true,false,false,false,false,false,false,false] rfl rfl (any_of HT_.out (by kernel_rfl)) (fun _ _ _ h=>h) (Or.inl ⟨by rfl,?_⟩) ?_ ?_
      rotate_left;(intro w';go_simp;with_reducible rfl);rotate_left;(simp only [Act.put,List.setIfInBounds_toArray,List.set_cons_zero,List.set_cons_succ,i64_w,i32_w];rfl)
      refine pure_ (i:=5) (N:=some 38) (v:=?_) (a':=?_) #[false,true,true,false,false,true,false,false,false,false] rfl rfl (any_of HT_.out (by kernel_rfl)) (fun _ _ _ h=>h) (Or.inl ⟨by rfl,?_⟩) ?_ ?_
      rotate_left;(intro w';go_simp;with_reducible rfl);rotate_left;(simp only [Act.put,List.setIfInBounds_toArray,List.set_cons_zero,List.set_cons_succ,i64_w,i32_w];rfl)
      refine pure_ (i:=6) (N:=some 39) (v:=?_) (a':=?_) #[false,true,true,false,false,true,true,false,false,false] rfl rfl (any_of HT_.out (by kernel_rfl)) (fun _ _ _ h=>h) (Or.inl ⟨by rfl,?_⟩) ?_ ?_
      rotate_left;(intro w';go_simp;with_reducible rfl);rotate_left;(simp only [Act.put,List.setIfInBounds_toArray,List.set_cons_zero,List.set_cons_succ,i64_w,i32_w];rfl)
      refine take_ (i:=0) (N:=some 33) (v:=?_) (a':=?_) #[true,true,true,false,false,true,true,false,false,false] rfl rfl (take_ofW HT_.out HW_.out (by kernel_rfl)) (fun _ _ _ h=>h) (Or.inl ⟨by rfl,?_⟩) hHeld ?_ ?_
      rotate_left;(rintro w' ⟨s0,s1,s2,s3⟩;go_simp;with_reducible rfl);rotate_left;(simp only [Act.put,List.setIfInBounds_toArray,List.set_cons_zero,List.set_cons_succ,i64_w,i32_w];rfl)
      refine take_ (i:=4) (N:=some 37) (v:=?_) (a':=?_) #[true,true,true,false,true,true,true,false,false,false] rfl rfl (take_ofW HT_.out HW_.out (by kernel_rfl)) (fun _ _ _ h=>h) (Or.inl ⟨by rfl,?_⟩) hHeld ?_ ?_
      rotate_left;(rintro w' ⟨s0,s1,s2,s3⟩;go_simp;with_reducible rfl);rotate_left;(simp only [Act.put,List.setIfInBounds_toArray,List.set_cons_zero,List.set_cons_succ,i64_w,i32_w];rfl)
      refine one_ (i:=3) (N:=some 36) #[true,true,true,true,true,true,true,false,false,false] rfl rfl (one_of HT_.out (by kernel_rfl)) (by decide) (fun K hK=>?_)
      refine goes_ Try.func11 (by kernel_rfl) rfl #[.agg #[.slice Ao12 t413.length co12,.int .i64 t416,.int .i64 t417,.int .i64 t418],.slice Ao47 t430.length co47,.slice Ao48 t425.length co48] (by rfl) rfl rfl (by (try simp only [List.map_toArray,List.map_cons,List.map_nil]);first|done|rfl|(simp only [List.length_drop,List.length_take];rfl)) ?_
      with_reducible refine (agg_Rows.calls kj5 _ _ t413 t416 t417 t418 _ _ t430 _ _ t425 t433 _ ?side1 ?side2 ?side3 ?side4 ?side5 ?side6 A31.out).mono ?_
      (case side1=>repeat (first|exact (Kd.R_reads' HO_420000.out).2.2|(with_reducible refine Kd.C_alloc ?_ _)|(with_reducible refine Kd.C_drewN ?_ _)|(with_reducible refine Kd.C_drew ?_)))
      (case side2=>exact (Kd.R_reads' HO_420000.out).2.1)
      (case side3=>repeat (first|exact (Kd.R_reads' HO432.out).2.2|(with_reducible refine Kd.C_alloc ?_ _)|(with_reducible refine Kd.C_drewN ?_ _)|(with_reducible refine Kd.C_drew ?_)))
      (case side4=>exact (Kd.R_reads' HO432.out).2.1)
      (case side5=>repeat (first|exact (Kd.S_reads' HO427.out).2.2|(with_reducible refine Kd.C_alloc ?_ _)|(with_reducible refine Kd.C_drewN ?_ _)|(with_reducible refine Kd.C_drew ?_)))
      (case side6=>exact (Kd.S_reads' HO427.out).2.1)
      rintro e w49 ⟨v434,rfl,ho0,hb⟩
      refine ⟨_,rfl,?_⟩
      have n0_:=Aside0.mk (Kd.V_elder' (by (with_reducible repeat (first|apply Kd.V_alloc|apply Kd.V_drewN|apply Kd.V_drew));exact HO_1.out) (Kd.R_base ho0) hb)
      have n1_:=Aside0.mk (Kd.R_below (by (with_reducible repeat (first|apply Kd.R_alloc|apply Kd.R_drewN|apply Kd.R_drew));exact HO_420000.out) hb)
      have n2_:=Aside0.mk (Kd.S_below (by (with_reducible repeat (first|apply Kd.S_alloc|apply Kd.S_drewN|apply Kd.S_drew));exact HO427.out) hb)
      have n3_:=Aside0.mk (Kd.R_below (by (with_reducible repeat (first|apply Kd.R_alloc|apply Kd.R_drewN|apply Kd.R_drew));exact HO432.out) hb)
      have n4_:=Aside0.mk (Kd.R_lower (Kd.R_newM (M:=fun k_=>(w.heap.size≤k_)) ho0 (below_size (by repeat (first|(with_reducible first|exact HB.out|apply below_alloc|apply pw_below_drewN|apply below_drew1|refine below_set ?_ GE411.out|refine below_set ?_ GE419.out)|exact HB.out))) (fun k_ h_=>h_)) (below_size (by repeat (first|(with_reducible first|exact HB.out|apply below_alloc|apply pw_below_drewN|apply below_drew1|refine below_set ?_ GE411.out|refine below_set ?_ GE419.out)|exact HB.out))))
      have n5_:=Aside0.mk (blk_below (g:=gb411) (o:=.cells #[.int .u8 a0_0,.int .u8 a0_1,.int .u8 a0_2,.int .u8 a0_3,.int .u8 a0_4,.int .u8 a0_5,.int .u8 a0_6,.int .u8 a0_7,.int .u8 a0_8,.int .u8 a0_9,.int .u8 a0_10,.int .u8 a0_11] 24 (0,0)) (by (with_reducible repeat (first|refine blk_drewN ?_ _|refine blk_drew ?_|refine blk_alloc ?_ _));exact BK411.out) hb)
      have n6_:=Aside0.mk (blk_below (g:=gb419) (o:=.cells #[.slice Ao12 t413.length co12,.int .i64 t416,.int .i64 t417,.int .i64 t418] 29 (0,0)) (by (with_reducible repeat (first|refine blk_drewN ?_ _|refine blk_drew ?_|refine blk_alloc ?_ _));exact BK419.out) hb)
      have n7_:=Aside0.mk (below_step (by repeat (first|(with_reducible first|exact HB.out|apply below_alloc|apply pw_below_drewN|apply below_drew1|refine below_set ?_ GE411.out|refine below_set ?_ GE419.out)|exact HB.out)) hb)
      clear HO_1
      clear HO_420000
      clear HO427
      clear HO432
      clear BK411
      clear BK419
      clear HB
      have HO_1:=n0_
      have HO_420000:=n1_
      have HO427:=n2_
      have HO432:=n3_
      have HO435:=n4_
      have BK411:=n5_
      have BK419:=n6_
      have HB:=n7_
      clear n0_ n1_ n2_ n3_ n4_ n5_ n6_ n7_
      (try clear hb)
      (try clear hb2)
      (try clear hk)
      (try clear hi)
      (try clear ho0)
      refine hK.out _ _ ⟨(blk_cell BK419.out 0).trans rfl,(blk_cell BK419.out 1).trans rfl,(blk_cell BK419.out 2).trans rfl,(blk_cell BK419.out 3).trans rfl⟩ (fun hHeld=>?_)
      clear hK K
      refine norm_ (a':=?_) ?_ ?_
      rotate_left
      ·show Act.put _ (some 36) _=_
       simp only [Act.put,List.setIfInBounds_toArray,List.set_cons_zero,List.set_cons_succ,i64_w,i32_w]
       rfl
      refine one_ (i:=7) (N:=some 40) #[true,true,true,true,true,true,true,true,false,false] rfl rfl (one_of HT_.out (by kernel_rfl)) (by decide) (fun K hK=>?_)
      refine goes_ Try.func18 (by kernel_rfl) rfl #[.agg #[.slice Ao12 t413.length co12,.int .i64 t416,.int .i64 t417,.int .i64 t418],.slice Ao47 t430.length co47,.slice Ao48 t425.length co48] (by rfl) rfl rfl (by (try simp only [List.map_toArray,List.map_cons,List.map_nil]);first|done|rfl|(simp only [List.length_drop,List.length_take];rfl)) ?_
      with_reducible refine (thresherref20_Rows.calls kj5 _ _ t413 t416 t417 t418 _ _ t430 _ _ t425 t436 _ ?side1 ?side2 ?side3 ?side4 ?side5 ?side6 A32.out).mono ?_
      (case side1=>repeat (first|exact (Kd.R_reads' HO_420000.out).2.2|(with_reducible refine Kd.C_alloc ?_ _)|(with_reducible refine Kd.C_drewN ?_ _)|(with_reducible refine Kd.C_drew ?_)))
      (case side2=>exact (Kd.R_reads' HO_420000.out).2.1)
      (case side3=>repeat (first|exact (Kd.R_reads' HO432.out).2.2|(with_reducible refine Kd.C_alloc ?_ _)|(with_reducible refine Kd.C_drewN ?_ _)|(with_reducible refine Kd.C_drew ?_)))
      (case side4=>exact (Kd.R_reads' HO432.out).2.1)
      (case side5=>repeat (first|exact (Kd.S_reads' HO427.out).2.2|(with_reducible refine Kd.C_alloc ?_ _)|(with_reducible refine Kd.C_drewN ?_ _)|(with_reducible refine Kd.C_drew ?_)))
      (case side6=>exact (Kd.S_reads' HO427.out).2.1)
      rintro e w50 ⟨v437,rfl,ho0,hb⟩
      refine ⟨_,rfl,?_⟩
      have n0_:=Aside0.mk (Kd.V_elder' (by (with_reducible repeat (first|apply Kd.V_alloc|apply Kd.V_drewN|apply Kd.V_drew));exact HO_1.out) (Kd.R_base ho0) hb)
      have n1_:=Aside0.mk (Kd.R_below (by (with_reducible repeat (first|apply Kd.R_alloc|apply Kd.R_drewN|apply Kd.R_drew));exact HO_420000.out) hb)
      have n2_:=Aside0.mk (Kd.S_below (by (with_reducible repeat (first|apply Kd.S_alloc|apply Kd.S_drewN|apply Kd.S_drew));exact HO427.out) hb)
      have n3_:=Aside0.mk (Kd.R_below (by (with_reducible repeat (first|apply Kd.R_alloc|apply Kd.R_drewN|apply Kd.R_drew));exact HO432.out) hb)
      have n4_:=Aside0.mk (Kd.R_elder' (by (with_reducible repeat (first|apply Kd.R_alloc|apply Kd.R_drewN|apply Kd.R_drew));exact HO435.out) (Kd.R_base ho0) hb)
      have n5_:=Aside0.mk (Kd.R_lower (Kd.R_new' (Kd.R_newM (M:=fun k_=>(w.heap.size≤k_)) ho0 (below_size (by repeat (first|(with_reducible first|exact HB.out|apply below_alloc|apply pw_below_drewN|apply below_drew1|refine below_set ?_ GE411.out|refine below_set ?_ GE419.out)|exact HB.out))) (fun k_ h_=>h_)) (Kd.R_lt (by (with_reducible repeat (first|apply Kd.R_alloc|apply Kd.R_drewN|apply Kd.R_drew));exact HO435.out))) (below_size (by repeat (first|(with_reducible first|exact HB.out|apply below_alloc|apply pw_below_drewN|apply below_drew1|refine below_set ?_ GE411.out|refine below_set ?_ GE419.out)|exact HB.out))))
      have n6_:=Aside0.mk (blk_below (g:=gb411) (o:=.cells #[.int .u8 a0_0,.int .u8 a0_1,.int .u8 a0_2,.int .u8 a0_3,.int .u8 a0_4,.int .u8 a0_5,.int .u8 a0_6,.int .u8 a0_7,.int .u8 a0_8,.int .u8 a0_9,.int .u8 a0_10,.int .u8 a0_11] 24 (0,0)) (by (with_reducible repeat (first|refine blk_drewN ?_ _|refine blk_drew ?_|refine blk_alloc ?_ _));exact BK411.out) hb)
      have n7_:=Aside0.mk (blk_below (g:=gb419) (o:=.cells #[.slice Ao12 t413.length co12,.int .i64 t416,.int .i64 t417,.int .i64 t418] 29 (0,0)) (by (with_reducible repeat (first|refine blk_drewN ?_ _|refine blk_drew ?_|refine blk_alloc ?_ _));exact BK419.out) hb)
      have n8_:=Aside0.mk (below_step (by repeat (first|(with_reducible first|exact HB.out|apply below_alloc|apply pw_below_drewN|apply below_drew1|refine below_set ?_ GE411.out|refine below_set ?_ GE419.out)|exact HB.out)) hb)
      clear HO_1
      clear HO_420000
      clear HO427
      clear HO432
      clear HO435
      clear BK411
      clear BK419
      clear HB
      have HO_1:=n0_
      have HO_420000:=n1_
      have HO427:=n2_
      have HO432:=n3_
      have HO435:=n4_
      have HO438:=n5_
      have BK411:=n6_
      have BK419:=n7_
      have HB:=n8_
      clear n0_ n1_ n2_ n3_ n4_ n5_ n6_ n7_ n8_
      (try clear hb)
      (try clear hb2)
      (try clear hk)
      (try clear hi)
      (try clear ho0)
      obtain ⟨Ao51,co51,eo51⟩:=Kd.R_slice HO435.out
      (first|subst eo51|(injection eo51 with f1_ f2_ f3_;have f4_:=f1_.symm;have f5_:=f3_.symm;clear f1_ f2_ f3_;subst f4_;subst f5_))
      obtain ⟨Ao52,co52,eo52⟩:=Kd.R_slice HO438.out
      (first|subst eo52|(injection eo52 with f1_ f2_ f3_;have f4_:=f1_.symm;have f5_:=f3_.symm;clear f1_ f2_ f3_;subst f4_;subst f5_))
      refine hK.out _ _ ⟨(blk_cell BK419.out 0).trans rfl,(blk_cell BK419.out 1).trans rfl,(blk_cell BK419.out 2).trans rfl,(blk_cell BK419.out 3).trans rfl⟩ (fun hHeld=>?_)
      clear hK K
      refine norm_ (a':=?_) ?_ ?_
      rotate_left
      ·show Act.put _ (some 40) _=_
       simp only [Act.put,List.setIfInBounds_toArray,List.set_cons_zero,List.set_cons_succ,i64_w,i32_w]
       rfl
      refine one_ (i:=8) (N:=some 41) #[true,true,true,true,true,true,true,true,true,false] rfl rfl (one_of HT_.out (by kernel_rfl)) (by decide) (fun K hK=>?_)
      refine goes_ Try.func13 (by kernel_rfl) rfl #[.slice Ao51 t433.length co51,.slice Ao52 t436.length co52] (by rfl) rfl rfl (by (try simp only [List.map_toArray,List.map_cons,List.map_nil]);first|done|rfl|(simp only [List.length_drop,List.length_take];rfl)) ?_
      with_reducible refine (thresherref20_Same.calls kj5 _ _ t433 _ _ t436 true _ ?side1 ?side2 ?side3 ?side4 A33.out).mono ?_
      (case side1=>repeat (first|exact (Kd.R_reads' HO435.out).2.2|(with_reducible refine Kd.C_alloc ?_ _)|(with_reducible refine Kd.C_drewN ?_ _)|(with_reducible refine Kd.C_drew ?_)))
      (case side2=>exact (Kd.R_reads' HO435.out).2.1)
      (case side3=>repeat (first|exact (Kd.R_reads' HO438.out).2.2|(with_reducible refine Kd.C_alloc ?_ _)|(with_reducible refine Kd.C_drewN ?_ _)|(with_reducible refine Kd.C_drew ?_)))
      (case side4=>exact (Kd.R_reads' HO438.out).2.1)
      rintro e w' ⟨rfl,⟨nd,rfl⟩⟩
      refine ⟨_,rfl,?_⟩
      refine hK.out _ _ ⟨(blk_cell BK419.out 0).trans rfl,(blk_cell BK419.out 1).trans rfl,(blk_cell BK419.out 2).trans rfl,(blk_cell BK419.out 3).trans rfl⟩ (fun hHeld=>?_)
      clear hK K
      refine norm_ (a':=?_) ?_ ?_
      rotate_left
      ·show Act.put _ (some 41) _=_
       simp only [Act.put,List.setIfInBounds_toArray,List.set_cons_zero,List.set_cons_succ,i64_w,i32_w]
       rfl
      refine pure_ (i:=9) (N:=some 11) (v:=?_) (a':=?_) #[true,true,true,true,true,true,true,true,true,true] rfl rfl (any_of HT_.out (by kernel_rfl)) (fun _ _ _ h=>h) (Or.inl ⟨by rfl,?_⟩) ?_ ?_
      rotate_left;(intro w';go_simp;with_reducible rfl);rotate_left;(simp only [Act.put,List.setIfInBounds_toArray,List.set_cons_zero,List.set_cons_succ,i64_w,i32_w];rfl)
      refine done_ (done_of HT_.out (by kernel_rfl)) ?_
      (try clear hHeld)
      have hcz53_0 : w50.cell? ⟨gb419,0,none⟩=some (.slice Ao12 t413.length co12):=(blk_cell BK419.out 0).trans rfl
      have hcz53_1 : w50.cell? ⟨gb419,1,none⟩=some (.int .i64 t416):=(blk_cell BK419.out 1).trans rfl
      have hcz53_2 : w50.cell? ⟨gb419,2,none⟩=some (.int .i64 t417):=(blk_cell BK419.out 2).trans rfl
      have hcz53_3 : w50.cell? ⟨gb419,3,none⟩=some (.int .i64 t418):=(blk_cell BK419.out 3).trans rfl
      have hfz53_0:=blk_frozen BK419.out 0
      have hfz53_1:=blk_frozen BK419.out 1
      have hfz53_2:=blk_frozen BK419.out 2
      have hfz53_3:=blk_frozen BK419.out 3
      try go_wp2_with (first|(go_at_call 16;(with_reducible refine (agg_May.calls kj5 _ _ t413 t416 t417 t418 _ _ t430 t440 _ ?side1 ?side2 ?side3 ?side4 A36.out).mono ?_);(case side1=>repeat (first|exact (Kd.R_reads' HO_420000.out).2.2|(with_reducible refine Kd.C_alloc ?_ _)|(with_reducible refine Kd.C_drewN ?_ _)|(with_reducible refine Kd.C_drew ?_)));(case side2=>exact (Kd.R_reads' HO_420000.out).2.1);(case side3=>repeat (first|exact (Kd.R_reads' HO432.out).2.2|(with_reducible refine Kd.C_alloc ?_ _)|(with_reducible refine Kd.C_drewN ?_ _)|(with_reducible refine Kd.C_drew ?_)));(case side4=>exact (Kd.R_reads' HO432.out).2.1);rintro e w54 ⟨rfl,hb⟩;have n0_:=Aside0.mk (Kd.V_below (by (with_reducible repeat (first|apply Kd.V_alloc|apply Kd.V_drewN|apply Kd.V_drew));exact HO_1.out) hb);have n1_:=Aside0.mk (Kd.R_below (by (with_reducible repeat (first|apply Kd.R_alloc|apply Kd.R_drewN|apply Kd.R_drew));exact HO_420000.out) hb);have n2_:=Aside0.mk (Kd.S_below (by (with_reducible repeat (first|apply Kd.S_alloc|apply Kd.S_drewN|apply Kd.S_drew));exact HO427.out) hb);have n3_:=Aside0.mk (Kd.R_below (by (with_reducible repeat (first|apply Kd.R_alloc|apply Kd.R_drewN|apply Kd.R_drew));exact HO432.out) hb);have n4_:=Aside0.mk (Kd.R_below (by (with_reducible repeat (first|apply Kd.R_alloc|apply Kd.R_drewN|apply Kd.R_drew));exact HO435.out) hb);have n5_:=Aside0.mk (Kd.R_below (by (with_reducible repeat (first|apply Kd.R_alloc|apply Kd.R_drewN|apply Kd.R_drew));exact HO438.out) hb);have n6_:=Aside0.mk (blk_below (g:=gb411) (o:=.cells #[.int .u8 a0_0,.int .u8 a0_1,.int .u8 a0_2,.int .u8 a0_3,.int .u8 a0_4,.int .u8 a0_5,.int .u8 a0_6,.int .u8 a0_7,.int .u8 a0_8,.int .u8 a0_9,.int .u8 a0_10,.int .u8 a0_11] 24 (0,0)) (by (with_reducible repeat (first|refine blk_drewN ?_ _|refine blk_drew ?_|refine blk_alloc ?_ _));exact BK411.out) hb);have n7_:=Aside0.mk (blk_below (g:=gb419) (o:=.cells #[.slice Ao12 t413.length co12,.int .i64 t416,.int .i64 t417,.int .i64 t418] 29 (0,0)) (by (with_reducible repeat (first|refine blk_drewN ?_ _|refine blk_drew ?_|refine blk_alloc ?_ _));exact BK419.out) hb);have n8_:=Aside0.mk (below_step (by repeat (first|(with_reducible first|exact HB.out|apply below_alloc|apply pw_below_drewN|apply below_drew1|refine below_set ?_ GE411.out|refine below_set ?_ GE419.out)|exact HB.out)) hb);clear HO_1;clear HO_420000;clear HO427;clear HO432;clear HO435;clear HO438;clear BK411;clear BK419;clear HB;have HO_1:=n0_;have HO_420000:=n1_;have HO427:=n2_;have HO432:=n3_;have HO435:=n4_;have HO438:=n5_;have BK411:=n6_;have BK419:=n7_;have HB:=n8_;clear n0_ n1_ n2_ n3_ n4_ n5_ n6_ n7_ n8_;(try clear hb);(try clear hb2);(try clear hk);(try clear hi)))
      go_ret
      exact ⟨by first|rfl|(simp [errW_none,errW_some] <;> rfl)|(simp [*,errW_none,errW_some] <;> rfl),by repeat (first|(with_reducible first|exact HB.out|apply below_alloc|apply pw_below_drewN|apply below_drew1|refine below_set ?_ GE411.out|refine below_set ?_ GE419.out)|exact HB.out)⟩
     ·replace c35:=Bool.eq_false_iff.mpr c35
      subst c35
      have H1 : (some false)=some r:=by rw [if_neg (show ¬ (false=true) by decide)] at H;exact H
      clear H
      have H:=H1
      clear H1
      obtain rfl:=Option.some.inj H
      have hnb55:=NB419_411.out
      have hnc55:=NB411_419.out
      have hcz56_0 : wc.cell? ⟨gb419,0,none⟩=some (.slice Ao12 t413.length co12):=(blk_cell BK419.out 0).trans rfl
      have hcz56_1 : wc.cell? ⟨gb419,1,none⟩=some (.int .i64 t416):=(blk_cell BK419.out 1).trans rfl
      have hcz56_2 : wc.cell? ⟨gb419,2,none⟩=some (.int .i64 t417):=(blk_cell BK419.out 2).trans rfl
      have hcz56_3 : wc.cell? ⟨gb419,3,none⟩=some (.int .i64 t418):=(blk_cell BK419.out 3).trans rfl
      have hfz56_0:=blk_frozen BK419.out 0
      have hfz56_1:=blk_frozen BK419.out 1
      have hfz56_2:=blk_frozen BK419.out 2
      have hfz56_3:=blk_frozen BK419.out 3
      try go_wp2_with (first|((with_reducible refine gate_callee (f:=10) rfl ?_);refine goesL_ (some 22) rfl rfl Try.func10 (by kernel_rfl) rfl #[.agg #[.slice Ao12 t413.length co12,.int .i64 t416,.int .i64 t417,.int .i64 t418],.slice A2 l2.length c2,.int .i64 60] rfl (by (try simp only [List.map_toArray,List.map_cons,List.map_nil]);first|done|rfl|(simp only [List.length_drop,List.length_take];rfl)) ?_;(with_reducible refine (thresherref04_Fits.calls kj5 _ _ t413 t416 t417 t418 _ _ l2 60 t425 _ ?side1 ?side2 ?side3 ?side4 A19.out).mono ?_);(case side1=>repeat (first|exact (Kd.R_reads' HO_420000.out).2.2|(with_reducible refine Kd.C_alloc ?_ _)|(with_reducible refine Kd.C_drewN ?_ _)|(with_reducible refine Kd.C_drew ?_)));(case side2=>exact (Kd.R_reads' HO_420000.out).2.1);(case side3=>repeat (first|exact (Kd.C_below HR2.out HB.out)|(with_reducible refine Kd.C_alloc ?_ _)|(with_reducible refine Kd.C_drewN ?_ _)|(with_reducible refine Kd.C_drew ?_)));(case side4=>exact HC2.out);rintro e w57 ⟨v426,rfl,ho0,hb⟩;refine ⟨_,rfl,?_⟩;have n0_:=Aside0.mk (Kd.V_elder' (by (with_reducible repeat (first|apply Kd.V_alloc|apply Kd.V_drewN|apply Kd.V_drew));exact HO_1.out) (Kd.S_base ho0) hb);have n1_:=Aside0.mk (Kd.R_below (by (with_reducible repeat (first|apply Kd.R_alloc|apply Kd.R_drewN|apply Kd.R_drew));exact HO_420000.out) hb);have n2_:=Aside0.mk (Kd.S_lower (Kd.S_newM (M:=fun k_=>(w.heap.size≤k_)) ho0 (below_size (by repeat (first|(with_reducible first|exact HB.out|apply below_alloc|apply pw_below_drewN|apply below_drew1|refine below_set ?_ GE411.out|refine below_set ?_ GE419.out)|exact HB.out))) (fun k_ h_=>h_)) (below_size (by repeat (first|(with_reducible first|exact HB.out|apply below_alloc|apply pw_below_drewN|apply below_drew1|refine below_set ?_ GE411.out|refine below_set ?_ GE419.out)|exact HB.out))));have n3_:=Aside0.mk (blk_below (g:=gb411) (o:=.cells #[.int .u8 a0_0,.int .u8 a0_1,.int .u8 a0_2,.int .u8 a0_3,.int .u8 a0_4,.int .u8 a0_5,.int .u8 a0_6,.int .u8 a0_7,.int .u8 a0_8,.int .u8 a0_9,.int .u8 a0_10,.int .u8 a0_11] 24 (0,0)) (by (with_reducible repeat (first|refine blk_drewN ?_ _|refine blk_drew ?_|refine blk_alloc ?_ _));exact BK411.out) hb);have n4_:=Aside0.mk (blk_below (g:=gb419) (o:=.cells #[.slice Ao12 t413.length co12,.int .i64 t416,.int .i64 t417,.int .i64 t418] 29 (0,0)) (by (with_reducible repeat (first|refine blk_drewN ?_ _|refine blk_drew ?_|refine blk_alloc ?_ _));exact BK419.out) hb);have n5_:=Aside0.mk (below_step (by repeat (first|(with_reducible first|exact HB.out|apply below_alloc|apply pw_below_drewN|apply below_drew1|refine below_set ?_ GE411.out|refine below_set ?_ GE419.out)|exact HB.out)) hb);clear HO_1;clear HO_420000;clear BK411;clear BK419;clear HB;have HO_1:=n0_;have HO_420000:=n1_;have HO427:=n2_;have BK411:=n3_;have BK419:=n4_;have HB:=n5_;clear n0_ n1_ n2_ n3_ n4_ n5_;(try clear hb);(try clear hb2);(try clear hk);(try clear hi);(try clear ho0)))
      have n0_:=Aside0.mk (Kd.V_drew HO_1.out)
      have n1_:=Aside0.mk (Kd.R_drew HO_420000.out)
      have n2_:=Aside0.mk (Kd.S_drew HO427.out)
      have n3_:=Aside0.mk (blk_drew BK411.out)
      have n4_:=Aside0.mk (blk_drew BK419.out)
      have n5_:=Aside0.mk (below_drew1 HB.out)
      clear HO_1
      clear HO_420000
      clear HO427
      clear BK411
      clear BK419
      clear HB
      have HO_1:=n0_
      have HO_420000:=n1_
      have HO427:=n2_
      have BK411:=n3_
      have BK419:=n4_
      have HB:=n5_
      clear n0_ n1_ n2_ n3_ n4_ n5_
      obtain ⟨Ao59,co59,eo59⟩:=Kd.V_slice HO_1.out
      (first|subst eo59|(injection eo59 with f1_ f2_ f3_;have f4_:=f1_.symm;have f5_:=f3_.symm;clear f1_ f2_ f3_;subst f4_;subst f5_))
      refine start_ (n:=7) (S:=fun w'=>w'.cell? ⟨gb419,0,none⟩=some (.slice Ao12 t413.length co12)∧w'.cell? ⟨gb419,1,none⟩=some (.int .i64 t416)∧w'.cell? ⟨gb419,2,none⟩=some (.int .i64 t417)∧w'.cell? ⟨gb419,3,none⟩=some (.int .i64 t418)) (ds:=[]) #[false,false,false,false,false,false,false] (by kernel_rfl) rfl rfl ⟨(blk_cell BK419.out 0).trans rfl,(blk_cell BK419.out 1).trans rfl,(blk_cell BK419.out 2).trans rfl,(blk_cell BK419.out 3).trans rfl⟩ (fun hHeld=>?_)
      generalize w57.drew=w58 at HO_1 HO_420000 HO427 BK411 BK419 HB hHeld ⊢
      refine pure_ (i:=1) (N:=some 24) (v:=?_) (a':=?_) #[false,true,false,false,false,false,false] rfl rfl (by kernel_rfl) (fun _ _ _ h=>h) (Or.inl ⟨by rfl,?_⟩) ?_ ?_
      rotate_left;(intro w';go_simp;with_reducible rfl);rotate_left;(simp only [Act.put,List.setIfInBounds_toArray,List.set_cons_zero,List.set_cons_succ,i64_w,i32_w];rfl)
      refine pure_ (i:=4) (N:=some 27) (v:=?_) (a':=?_) #[false,true,false,false,true,false,false] rfl rfl (by kernel_rfl) (fun _ _ _ h=>h) (Or.inl ⟨by rfl,?_⟩) ?_ ?_
      rotate_left;(intro w';go_simp;with_reducible rfl);rotate_left;(simp only [Act.put,List.setIfInBounds_toArray,List.set_cons_zero,List.set_cons_succ,i64_w,i32_w];rfl)
      refine take_ (i:=0) (N:=some 23) (v:=?_) (a':=?_) #[true,true,false,false,true,false,false] rfl rfl (by kernel_rfl) (fun _ _ _ h=>h) (Or.inl ⟨by rfl,?_⟩) hHeld ?_ ?_
      rotate_left;(rintro w' ⟨s0,s1,s2,s3⟩;go_simp;with_reducible rfl);rotate_left;(simp only [Act.put,List.setIfInBounds_toArray,List.set_cons_zero,List.set_cons_succ,i64_w,i32_w];rfl)
      refine take_ (i:=3) (N:=some 26) (v:=?_) (a':=?_) #[true,true,false,true,true,false,false] rfl rfl (by kernel_rfl) (fun _ _ _ h=>h) (Or.inl ⟨by rfl,?_⟩) hHeld ?_ ?_
      rotate_left;(rintro w' ⟨s0,s1,s2,s3⟩;go_simp;with_reducible rfl);rotate_left;(simp only [Act.put,List.setIfInBounds_toArray,List.set_cons_zero,List.set_cons_succ,i64_w,i32_w];rfl)
      refine one_ (i:=2) (N:=some 25) #[true,true,true,true,true,false,false] rfl rfl (by kernel_rfl) (by decide) (fun K hK=>?_)
      refine goes_ Try.func16 (by kernel_rfl) rfl #[.agg #[.slice Ao12 t413.length co12,.int .i64 t416,.int .i64 t417,.int .i64 t418],.slice Ao59 x1_5.length co59] (by rfl) rfl rfl (by (try simp only [List.map_toArray,List.map_cons,List.map_nil]);first|done|rfl|(simp only [List.length_drop,List.length_take];rfl)) ?_
      with_reducible refine (agg_May.calls kj5 _ _ t413 t416 t417 t418 _ _ x1_5 t428 _ ?side1 ?side2 ?side3 ?side4 A20.out).mono ?_
      (case side1=>repeat (first|exact (Kd.R_reads' HO_420000.out).2.2|(with_reducible refine Kd.C_alloc ?_ _)|(with_reducible refine Kd.C_drewN ?_ _)|(with_reducible refine Kd.C_drew ?_)))
      (case side2=>exact (Kd.R_reads' HO_420000.out).2.1)
      (case side3=>repeat (first|exact (Kd.V_reads' HO_1.out).2.2|(with_reducible refine Kd.C_alloc ?_ _)|(with_reducible refine Kd.C_drewN ?_ _)|(with_reducible refine Kd.C_drew ?_)))
      (case side4=>exact (Kd.V_reads' HO_1.out).2.1)
      rintro e w60 ⟨rfl,hb⟩
      refine ⟨_,rfl,?_⟩
      have n0_:=Aside0.mk (Kd.V_below (by (with_reducible repeat (first|apply Kd.V_alloc|apply Kd.V_drewN|apply Kd.V_drew));exact HO_1.out) hb)
      have n1_:=Aside0.mk (Kd.R_below (by (with_reducible repeat (first|apply Kd.R_alloc|apply Kd.R_drewN|apply Kd.R_drew));exact HO_420000.out) hb)
      have n2_:=Aside0.mk (Kd.S_below (by (with_reducible repeat (first|apply Kd.S_alloc|apply Kd.S_drewN|apply Kd.S_drew));exact HO427.out) hb)
      have n3_:=Aside0.mk (blk_below (g:=gb411) (o:=.cells #[.int .u8 a0_0,.int .u8 a0_1,.int .u8 a0_2,.int .u8 a0_3,.int .u8 a0_4,.int .u8 a0_5,.int .u8 a0_6,.int .u8 a0_7,.int .u8 a0_8,.int .u8 a0_9,.int .u8 a0_10,.int .u8 a0_11] 24 (0,0)) (by (with_reducible repeat (first|refine blk_drewN ?_ _|refine blk_drew ?_|refine blk_alloc ?_ _));exact BK411.out) hb)
      have n4_:=Aside0.mk (blk_below (g:=gb419) (o:=.cells #[.slice Ao12 t413.length co12,.int .i64 t416,.int .i64 t417,.int .i64 t418] 29 (0,0)) (by (with_reducible repeat (first|refine blk_drewN ?_ _|refine blk_drew ?_|refine blk_alloc ?_ _));exact BK419.out) hb)
      have n5_:=Aside0.mk (below_step (by repeat (first|(with_reducible first|exact HB.out|apply below_alloc|apply pw_below_drewN|apply below_drew1|refine below_set ?_ GE411.out|refine below_set ?_ GE419.out)|exact HB.out)) hb)
      clear HO_1
      clear HO_420000
      clear HO427
      clear BK411
      clear BK419
      clear HB
      have HO_1:=n0_
      have HO_420000:=n1_
      have HO427:=n2_
      have BK411:=n3_
      have BK419:=n4_
      have HB:=n5_
      clear n0_ n1_ n2_ n3_ n4_ n5_
      (try clear hb)
      (try clear hb2)
      (try clear hk)
      (try clear hi)
      refine hK.out _ _ ⟨(blk_cell BK419.out 0).trans rfl,(blk_cell BK419.out 1).trans rfl,(blk_cell BK419.out 2).trans rfl,(blk_cell BK419.out 3).trans rfl⟩ (fun hHeld=>?_)
      clear hK K
      refine norm_ (a':=?_) ?_ ?_
      rotate_left
      ·show Act.put _ (some 25) _=_
       simp only [Act.put,List.setIfInBounds_toArray,List.set_cons_zero,List.set_cons_succ,i64_w,i32_w]
       rfl
      refine one_ (i:=5) (N:=some 28) #[true,true,true,true,true,true,false] rfl rfl (by kernel_rfl) (by decide) (fun K hK=>?_)
      refine goes_ Try.func17 (by kernel_rfl) rfl #[.agg #[.slice Ao12 t413.length co12,.int .i64 t416,.int .i64 t417,.int .i64 t418],.slice Ao59 x1_5.length co59] (by rfl) rfl rfl (by (try simp only [List.map_toArray,List.map_cons,List.map_nil]);first|done|rfl|(simp only [List.length_drop,List.length_take];rfl)) ?_
      with_reducible refine (thresherref20_May.calls kj5 _ _ t413 t416 t417 t418 _ _ x1_5 t429 _ ?side1 ?side2 ?side3 ?side4 A21.out).mono ?_
      (case side1=>repeat (first|exact (Kd.R_reads' HO_420000.out).2.2|(with_reducible refine Kd.C_alloc ?_ _)|(with_reducible refine Kd.C_drewN ?_ _)|(with_reducible refine Kd.C_drew ?_)))
      (case side2=>exact (Kd.R_reads' HO_420000.out).2.1)
      (case side3=>repeat (first|exact (Kd.V_reads' HO_1.out).2.2|(with_reducible refine Kd.C_alloc ?_ _)|(with_reducible refine Kd.C_drewN ?_ _)|(with_reducible refine Kd.C_drew ?_)))
      (case side4=>exact (Kd.V_reads' HO_1.out).2.1)
      rintro e w61 ⟨rfl,hb⟩
      refine ⟨_,rfl,?_⟩
      have n0_:=Aside0.mk (Kd.V_below (by (with_reducible repeat (first|apply Kd.V_alloc|apply Kd.V_drewN|apply Kd.V_drew));exact HO_1.out) hb)
      have n1_:=Aside0.mk (Kd.R_below (by (with_reducible repeat (first|apply Kd.R_alloc|apply Kd.R_drewN|apply Kd.R_drew));exact HO_420000.out) hb)
      have n2_:=Aside0.mk (Kd.S_below (by (with_reducible repeat (first|apply Kd.S_alloc|apply Kd.S_drewN|apply Kd.S_drew));exact HO427.out) hb)
      have n3_:=Aside0.mk (blk_below (g:=gb411) (o:=.cells #[.int .u8 a0_0,.int .u8 a0_1,.int .u8 a0_2,.int .u8 a0_3,.int .u8 a0_4,.int .u8 a0_5,.int .u8 a0_6,.int .u8 a0_7,.int .u8 a0_8,.int .u8 a0_9,.int .u8 a0_10,.int .u8 a0_11] 24 (0,0)) (by (with_reducible repeat (first|refine blk_drewN ?_ _|refine blk_drew ?_|refine blk_alloc ?_ _));exact BK411.out) hb)
      have n4_:=Aside0.mk (blk_below (g:=gb419) (o:=.cells #[.slice Ao12 t413.length co12,.int .i64 t416,.int .i64 t417,.int .i64 t418] 29 (0,0)) (by (with_reducible repeat (first|refine blk_drewN ?_ _|refine blk_drew ?_|refine blk_alloc ?_ _));exact BK419.out) hb)
      have n5_:=Aside0.mk (below_step (by repeat (first|(with_reducible first|exact HB.out|apply below_alloc|apply pw_below_drewN|apply below_drew1|refine below_set ?_ GE411.out|refine below_set ?_ GE419.out)|exact HB.out)) hb)
      clear HO_1
      clear HO_420000
      clear HO427
      clear BK411
      clear BK419
      clear HB
      have HO_1:=n0_
      have HO_420000:=n1_
      have HO427:=n2_
      have BK411:=n3_
      have BK419:=n4_
      have HB:=n5_
      clear n0_ n1_ n2_ n3_ n4_ n5_
      (try clear hb)
      (try clear hb2)
      (try clear hk)
      (try clear hi)
      refine hK.out _ _ ⟨(blk_cell BK419.out 0).trans rfl,(blk_cell BK419.out 1).trans rfl,(blk_cell BK419.out 2).trans rfl,(blk_cell BK419.out 3).trans rfl⟩ (fun hHeld=>?_)
      clear hK K
      refine norm_ (a':=?_) ?_ ?_
      rotate_left
      ·show Act.put _ (some 28) _=_
       simp only [Act.put,List.setIfInBounds_toArray,List.set_cons_zero,List.set_cons_succ,i64_w,i32_w]
       rfl
      refine pure_ (i:=6) (N:=some 29) (v:=?_) (a':=?_) #[true,true,true,true,true,true,true] rfl rfl (by kernel_rfl) (fun _ _ _ h=>h) (Or.inl ⟨by rfl,?_⟩) ?_ ?_
      rotate_left;(intro w';go_simp;with_reducible rfl);rotate_left;(simp only [Act.put,List.setIfInBounds_toArray,List.set_cons_zero,List.set_cons_succ,i64_w,i32_w];rfl)
      refine done_ (by kernel_rfl) ?_
      have hcz62_0 : w61.cell? ⟨gb419,0,none⟩=some (.slice Ao12 t413.length co12):=(blk_cell BK419.out 0).trans rfl
      have hcz62_1 : w61.cell? ⟨gb419,1,none⟩=some (.int .i64 t416):=(blk_cell BK419.out 1).trans rfl
      have hcz62_2 : w61.cell? ⟨gb419,2,none⟩=some (.int .i64 t417):=(blk_cell BK419.out 2).trans rfl
      have hcz62_3 : w61.cell? ⟨gb419,3,none⟩=some (.int .i64 t418):=(blk_cell BK419.out 3).trans rfl
      have hfz62_0:=blk_frozen BK419.out 0
      have hfz62_1:=blk_frozen BK419.out 1
      have hfz62_2:=blk_frozen BK419.out 2
      have hfz62_3:=blk_frozen BK419.out 3
      try go_wp2_with (first|((with_reducible refine gate_callee (f:=14) rfl ?_);refine goesL_ (some 32) rfl rfl Try.func14 (by kernel_rfl) rfl #[.agg #[.slice Ao12 t413.length co12,.int .i64 t416,.int .i64 t417,.int .i64 t418],.slice Ao59 x1_5.length co59,.int .i64 16] rfl (by (try simp only [List.map_toArray,List.map_cons,List.map_nil]);first|done|rfl|(simp only [List.length_drop,List.length_take];rfl)) ?_;(with_reducible refine (thresherref20_Fit.calls kj5 _ _ t413 t416 t417 t418 _ _ x1_5 16 t430 _ ?side1 ?side2 ?side3 ?side4 A30.out).mono ?_);(case side1=>repeat (first|exact (Kd.R_reads' HO_420000.out).2.2|(with_reducible refine Kd.C_alloc ?_ _)|(with_reducible refine Kd.C_drewN ?_ _)|(with_reducible refine Kd.C_drew ?_)));(case side2=>exact (Kd.R_reads' HO_420000.out).2.1);(case side3=>repeat (first|exact (Kd.V_reads' HO_1.out).2.2|(with_reducible refine Kd.C_alloc ?_ _)|(with_reducible refine Kd.C_drewN ?_ _)|(with_reducible refine Kd.C_drew ?_)));(case side4=>exact (Kd.V_reads' HO_1.out).2.1);rintro e w63 ⟨v431,rfl,ho0,hb⟩;refine ⟨_,rfl,?_⟩;have n0_:=Aside0.mk (Kd.V_elder' (by (with_reducible repeat (first|apply Kd.V_alloc|apply Kd.V_drewN|apply Kd.V_drew));exact HO_1.out) (Kd.R_base ho0) hb);have n1_:=Aside0.mk (Kd.R_below (by (with_reducible repeat (first|apply Kd.R_alloc|apply Kd.R_drewN|apply Kd.R_drew));exact HO_420000.out) hb);have n2_:=Aside0.mk (Kd.S_below (by (with_reducible repeat (first|apply Kd.S_alloc|apply Kd.S_drewN|apply Kd.S_drew));exact HO427.out) hb);have n3_:=Aside0.mk (Kd.R_lower (Kd.R_newM (M:=fun k_=>(w.heap.size≤k_)) ho0 (below_size (by repeat (first|(with_reducible first|exact HB.out|apply below_alloc|apply pw_below_drewN|apply below_drew1|refine below_set ?_ GE411.out|refine below_set ?_ GE419.out)|exact HB.out))) (fun k_ h_=>h_)) (below_size (by repeat (first|(with_reducible first|exact HB.out|apply below_alloc|apply pw_below_drewN|apply below_drew1|refine below_set ?_ GE411.out|refine below_set ?_ GE419.out)|exact HB.out))));have n4_:=Aside0.mk (blk_below (g:=gb411) (o:=.cells #[.int .u8 a0_0,.int .u8 a0_1,.int .u8 a0_2,.int .u8 a0_3,.int .u8 a0_4,.int .u8 a0_5,.int .u8 a0_6,.int .u8 a0_7,.int .u8 a0_8,.int .u8 a0_9,.int .u8 a0_10,.int .u8 a0_11] 24 (0,0)) (by (with_reducible repeat (first|refine blk_drewN ?_ _|refine blk_drew ?_|refine blk_alloc ?_ _));exact BK411.out) hb);have n5_:=Aside0.mk (blk_below (g:=gb419) (o:=.cells #[.slice Ao12 t413.length co12,.int .i64 t416,.int .i64 t417,.int .i64 t418] 29 (0,0)) (by (with_reducible repeat (first|refine blk_drewN ?_ _|refine blk_drew ?_|refine blk_alloc ?_ _));exact BK419.out) hb);have n6_:=Aside0.mk (below_step (by repeat (first|(with_reducible first|exact HB.out|apply below_alloc|apply pw_below_drewN|apply below_drew1|refine below_set ?_ GE411.out|refine below_set ?_ GE419.out)|exact HB.out)) hb);clear HO_1;clear HO_420000;clear HO427;clear BK411;clear BK419;clear HB;have HO_1:=n0_;have HO_420000:=n1_;have HO427:=n2_;have HO432:=n3_;have BK411:=n4_;have BK419:=n5_;have HB:=n6_;clear n0_ n1_ n2_ n3_ n4_ n5_ n6_;(try clear hb);(try clear hb2);(try clear hk);(try clear hi);(try clear ho0)))
      have n0_:=Aside0.mk (Kd.V_drew HO_1.out)
      have n1_:=Aside0.mk (Kd.R_drew HO_420000.out)
      have n2_:=Aside0.mk (Kd.S_drew HO427.out)
      have n3_:=Aside0.mk (Kd.R_drew HO432.out)
      have n4_:=Aside0.mk (blk_drew BK411.out)
      have n5_:=Aside0.mk (blk_drew BK419.out)
      have n6_:=Aside0.mk (below_drew1 HB.out)
      clear HO_1
      clear HO_420000
      clear HO427
      clear HO432
      clear BK411
      clear BK419
      clear HB
      have HO_1:=n0_
      have HO_420000:=n1_
      have HO427:=n2_
      have HO432:=n3_
      have BK411:=n4_
      have BK419:=n5_
      have HB:=n6_
      clear n0_ n1_ n2_ n3_ n4_ n5_ n6_
      obtain ⟨Ao65,co65,eo65⟩:=Kd.R_slice HO432.out
      (first|subst eo65|(injection eo65 with f1_ f2_ f3_;have f4_:=f1_.symm;have f5_:=f3_.symm;clear f1_ f2_ f3_;subst f4_;subst f5_))
      obtain ⟨Ao66,co66,eo66⟩:=Kd.S_slice HO427.out
      (first|subst eo66|(injection eo66 with f1_ f2_ f3_;have f4_:=f1_.symm;have f5_:=f3_.symm;clear f1_ f2_ f3_;subst f4_;subst f5_))
      refine start_ (n:=10) (S:=fun w'=>w'.cell? ⟨gb419,0,none⟩=some (.slice Ao12 t413.length co12)∧w'.cell? ⟨gb419,1,none⟩=some (.int .i64 t416)∧w'.cell? ⟨gb419,2,none⟩=some (.int .i64 t417)∧w'.cell? ⟨gb419,3,none⟩=some (.int .i64 t418)) (ds:=[]) #[false,false,false,false,false,false,false,false,false,false] (by kernel_rfl) rfl rfl ⟨(blk_cell BK419.out 0).trans rfl,(blk_cell BK419.out 1).trans rfl,(blk_cell BK419.out 2).trans rfl,(blk_cell BK419.out 3).trans rfl⟩ (fun hHeld=>?_);refine with_tabW thresherlaw20_AggAll.tab9 thresherlaw20_AggAll.bits9 (fun HT_ HW_=>?_)
      generalize w63.drew=w64 at HO_1 HO_420000 HO427 HO432 BK411 BK419 HB hHeld ⊢
      refine pure_ (i:=1) (N:=some 34) (v:=?_) (a':=?_) #[false,true,false,false,false,false,false,false,false,false] rfl rfl (any_of HT_.out (by kernel_rfl)) (fun _ _ _ h=>h) (Or.inl ⟨by rfl,?_⟩) ?_ ?_
      rotate_left;(intro w';go_simp;with_reducible rfl);rotate_left;(simp only [Act.put,List.setIfInBounds_toArray,List.set_cons_zero,List.set_cons_succ,i64_w,i32_w];rfl)
      refine pure_ (i:=2) (N:=some 35) (v:=?_) (a':=?_) #[false,true,true,false,false,false,false,false,false,false] rfl rfl (any_of HT_.out (by kernel_rfl)) (fun _ _ _ h=>h) (Or.inl ⟨by rfl,?_⟩) ?_ ?_
      rotate_left;(intro w';go_simp;with_reducible rfl);rotate_left;(simp only [Act.put,List.setIfInBounds_toArray,List.set_cons_zero,List.set_cons_succ,i64_w,i32_w];rfl)
      refine pure_ (i:=5) (N:=some 38) (v:=?_) (a':=?_) #[false,true,true,false,false,true,false,false,false,false] rfl rfl (any_of HT_.out (by kernel_rfl)) (fun _ _ _ h=>h) (Or.inl ⟨by rfl,?_⟩) ?_ ?_
      rotate_left;(intro w';go_simp;with_reducible rfl);rotate_left;(simp only [Act.put,List.setIfInBounds_toArray,List.set_cons_zero,List.set_cons_succ,i64_w,i32_w];rfl)
      refine pure_ (i:=6) (N:=some 39) (v:=?_) (a':=?_) #[false,true,true,false,false,true,true,false,false,false] rfl rfl (any_of HT_.out (by kernel_rfl)) (fun _ _ _ h=>h) (Or.inl ⟨by rfl,?_⟩) ?_ ?_
      rotate_left;(intro w';go_simp;with_reducible rfl);rotate_left;(simp only [Act.put,List.setIfInBounds_toArray,List.set_cons_zero,List.set_cons_succ,i64_w,i32_w];rfl)
      refine take_ (i:=0) (N:=some 33) (v:=?_) (a':=?_) #[true,true,true,false,false,true,true,false,false,false] rfl rfl (take_ofW HT_.out HW_.out (by kernel_rfl)) (fun _ _ _ h=>h) (Or.inl ⟨by rfl,?_⟩) hHeld ?_ ?_
      rotate_left;(rintro w' ⟨s0,s1,s2,s3⟩;go_simp;with_reducible rfl);rotate_left;(simp only [Act.put,List.setIfInBounds_toArray,List.set_cons_zero,List.set_cons_succ,i64_w,i32_w];rfl)
      refine take_ (i:=4) (N:=some 37) (v:=?_) (a':=?_) #[true,true,true,false,true,true,true,false,false,false] rfl rfl (take_ofW HT_.out HW_.out (by kernel_rfl)) (fun _ _ _ h=>h) (Or.inl ⟨by rfl,?_⟩) hHeld ?_ ?_
      rotate_left;(rintro w' ⟨s0,s1,s2,s3⟩;go_simp;with_reducible rfl);rotate_left;(simp only [Act.put,List.setIfInBounds_toArray,List.set_cons_zero,List.set_cons_succ,i64_w,i32_w];rfl)
      refine one_ (i:=3) (N:=some 36) #[true,true,true,true,true,true,true,false,false,false] rfl rfl (one_of HT_.out (by kernel_rfl)) (by decide) (fun K hK=>?_)
      refine goes_ Try.func11 (by kernel_rfl) rfl #[.agg #[.slice Ao12 t413.length co12,.int .i64 t416,.int .i64 t417,.int .i64 t418],.slice Ao65 t430.length co65,.slice Ao66 t425.length co66] (by rfl) rfl rfl (by (try simp only [List.map_toArray,List.map_cons,List.map_nil]);first|done|rfl|(simp only [List.length_drop,List.length_take];rfl)) ?_
      with_reducible refine (agg_Rows.calls kj5 _ _ t413 t416 t417 t418 _ _ t430 _ _ t425 t433 _ ?side1 ?side2 ?side3 ?side4 ?side5 ?side6 A31.out).mono ?_
      (case side1=>repeat (first|exact (Kd.R_reads' HO_420000.out).2.2|(with_reducible refine Kd.C_alloc ?_ _)|(with_reducible refine Kd.C_drewN ?_ _)|(with_reducible refine Kd.C_drew ?_)))
      (case side2=>exact (Kd.R_reads' HO_420000.out).2.1)
      (case side3=>repeat (first|exact (Kd.R_reads' HO432.out).2.2|(with_reducible refine Kd.C_alloc ?_ _)|(with_reducible refine Kd.C_drewN ?_ _)|(with_reducible refine Kd.C_drew ?_)))
      (case side4=>exact (Kd.R_reads' HO432.out).2.1)
      (case side5=>repeat (first|exact (Kd.S_reads' HO427.out).2.2|(with_reducible refine Kd.C_alloc ?_ _)|(with_reducible refine Kd.C_drewN ?_ _)|(with_reducible refine Kd.C_drew ?_)))
      (case side6=>exact (Kd.S_reads' HO427.out).2.1)
      rintro e w67 ⟨v434,rfl,ho0,hb⟩
      refine ⟨_,rfl,?_⟩
      have n0_:=Aside0.mk (Kd.V_elder' (by (with_reducible repeat (first|apply Kd.V_alloc|apply Kd.V_drewN|apply Kd.V_drew));exact HO_1.out) (Kd.R_base ho0) hb)
      have n1_:=Aside0.mk (Kd.R_below (by (with_reducible repeat (first|apply Kd.R_alloc|apply Kd.R_drewN|apply Kd.R_drew));exact HO_420000.out) hb)
      have n2_:=Aside0.mk (Kd.S_below (by (with_reducible repeat (first|apply Kd.S_alloc|apply Kd.S_drewN|apply Kd.S_drew));exact HO427.out) hb)
      have n3_:=Aside0.mk (Kd.R_below (by (with_reducible repeat (first|apply Kd.R_alloc|apply Kd.R_drewN|apply Kd.R_drew));exact HO432.out) hb)
      have n4_:=Aside0.mk (Kd.R_lower (Kd.R_newM (M:=fun k_=>(w.heap.size≤k_)) ho0 (below_size (by repeat (first|(with_reducible first|exact HB.out|apply below_alloc|apply pw_below_drewN|apply below_drew1|refine below_set ?_ GE411.out|refine below_set ?_ GE419.out)|exact HB.out))) (fun k_ h_=>h_)) (below_size (by repeat (first|(with_reducible first|exact HB.out|apply below_alloc|apply pw_below_drewN|apply below_drew1|refine below_set ?_ GE411.out|refine below_set ?_ GE419.out)|exact HB.out))))
      have n5_:=Aside0.mk (blk_below (g:=gb411) (o:=.cells #[.int .u8 a0_0,.int .u8 a0_1,.int .u8 a0_2,.int .u8 a0_3,.int .u8 a0_4,.int .u8 a0_5,.int .u8 a0_6,.int .u8 a0_7,.int .u8 a0_8,.int .u8 a0_9,.int .u8 a0_10,.int .u8 a0_11] 24 (0,0)) (by (with_reducible repeat (first|refine blk_drewN ?_ _|refine blk_drew ?_|refine blk_alloc ?_ _));exact BK411.out) hb)
      have n6_:=Aside0.mk (blk_below (g:=gb419) (o:=.cells #[.slice Ao12 t413.length co12,.int .i64 t416,.int .i64 t417,.int .i64 t418] 29 (0,0)) (by (with_reducible repeat (first|refine blk_drewN ?_ _|refine blk_drew ?_|refine blk_alloc ?_ _));exact BK419.out) hb)
      have n7_:=Aside0.mk (below_step (by repeat (first|(with_reducible first|exact HB.out|apply below_alloc|apply pw_below_drewN|apply below_drew1|refine below_set ?_ GE411.out|refine below_set ?_ GE419.out)|exact HB.out)) hb)
      clear HO_1
      clear HO_420000
      clear HO427
      clear HO432
      clear BK411
      clear BK419
      clear HB
      have HO_1:=n0_
      have HO_420000:=n1_
      have HO427:=n2_
      have HO432:=n3_
      have HO435:=n4_
      have BK411:=n5_
      have BK419:=n6_
      have HB:=n7_
      clear n0_ n1_ n2_ n3_ n4_ n5_ n6_ n7_
      (try clear hb)
      (try clear hb2)
      (try clear hk)
      (try clear hi)
      (try clear ho0)
      refine hK.out _ _ ⟨(blk_cell BK419.out 0).trans rfl,(blk_cell BK419.out 1).trans rfl,(blk_cell BK419.out 2).trans rfl,(blk_cell BK419.out 3).trans rfl⟩ (fun hHeld=>?_)
      clear hK K
      refine norm_ (a':=?_) ?_ ?_
      rotate_left
      ·show Act.put _ (some 36) _=_
       simp only [Act.put,List.setIfInBounds_toArray,List.set_cons_zero,List.set_cons_succ,i64_w,i32_w]
       rfl
      refine one_ (i:=7) (N:=some 40) #[true,true,true,true,true,true,true,true,false,false] rfl rfl (one_of HT_.out (by kernel_rfl)) (by decide) (fun K hK=>?_)
      refine goes_ Try.func18 (by kernel_rfl) rfl #[.agg #[.slice Ao12 t413.length co12,.int .i64 t416,.int .i64 t417,.int .i64 t418],.slice Ao65 t430.length co65,.slice Ao66 t425.length co66] (by rfl) rfl rfl (by (try simp only [List.map_toArray,List.map_cons,List.map_nil]);first|done|rfl|(simp only [List.length_drop,List.length_take];rfl)) ?_
      with_reducible refine (thresherref20_Rows.calls kj5 _ _ t413 t416 t417 t418 _ _ t430 _ _ t425 t436 _ ?side1 ?side2 ?side3 ?side4 ?side5 ?side6 A32.out).mono ?_
      (case side1=>repeat (first|exact (Kd.R_reads' HO_420000.out).2.2|(with_reducible refine Kd.C_alloc ?_ _)|(with_reducible refine Kd.C_drewN ?_ _)|(with_reducible refine Kd.C_drew ?_)))
      (case side2=>exact (Kd.R_reads' HO_420000.out).2.1)
      (case side3=>repeat (first|exact (Kd.R_reads' HO432.out).2.2|(with_reducible refine Kd.C_alloc ?_ _)|(with_reducible refine Kd.C_drewN ?_ _)|(with_reducible refine Kd.C_drew ?_)))
      (case side4=>exact (Kd.R_reads' HO432.out).2.1)
      (case side5=>repeat (first|exact (Kd.S_reads' HO427.out).2.2|(with_reducible refine Kd.C_alloc ?_ _)|(with_reducible refine Kd.C_drewN ?_ _)|(with_reducible refine Kd.C_drew ?_)))
      (case side6=>exact (Kd.S_reads' HO427.out).2.1)
      rintro e w68 ⟨v437,rfl,ho0,hb⟩
      refine ⟨_,rfl,?_⟩
      have n0_:=Aside0.mk (Kd.V_elder' (by (with_reducible repeat (first|apply Kd.V_alloc|apply Kd.V_drewN|apply Kd.V_drew));exact HO_1.out) (Kd.R_base ho0) hb)
      have n1_:=Aside0.mk (Kd.R_below (by (with_reducible repeat (first|apply Kd.R_alloc|apply Kd.R_drewN|apply Kd.R_drew));exact HO_420000.out) hb)
      have n2_:=Aside0.mk (Kd.S_below (by (with_reducible repeat (first|apply Kd.S_alloc|apply Kd.S_drewN|apply Kd.S_drew));exact HO427.out) hb)
      have n3_:=Aside0.mk (Kd.R_below (by (with_reducible repeat (first|apply Kd.R_alloc|apply Kd.R_drewN|apply Kd.R_drew));exact HO432.out) hb)
      have n4_:=Aside0.mk (Kd.R_elder' (by (with_reducible repeat (first|apply Kd.R_alloc|apply Kd.R_drewN|apply Kd.R_drew));exact HO435.out) (Kd.R_base ho0) hb)
      have n5_:=Aside0.mk (Kd.R_lower (Kd.R_new' (Kd.R_newM (M:=fun k_=>(w.heap.size≤k_)) ho0 (below_size (by repeat (first|(with_reducible first|exact HB.out|apply below_alloc|apply pw_below_drewN|apply below_drew1|refine below_set ?_ GE411.out|refine below_set ?_ GE419.out)|exact HB.out))) (fun k_ h_=>h_)) (Kd.R_lt (by (with_reducible repeat (first|apply Kd.R_alloc|apply Kd.R_drewN|apply Kd.R_drew));exact HO435.out))) (below_size (by repeat (first|(with_reducible first|exact HB.out|apply below_alloc|apply pw_below_drewN|apply below_drew1|refine below_set ?_ GE411.out|refine below_set ?_ GE419.out)|exact HB.out))))
      have n6_:=Aside0.mk (blk_below (g:=gb411) (o:=.cells #[.int .u8 a0_0,.int .u8 a0_1,.int .u8 a0_2,.int .u8 a0_3,.int .u8 a0_4,.int .u8 a0_5,.int .u8 a0_6,.int .u8 a0_7,.int .u8 a0_8,.int .u8 a0_9,.int .u8 a0_10,.int .u8 a0_11] 24 (0,0)) (by (with_reducible repeat (first|refine blk_drewN ?_ _|refine blk_drew ?_|refine blk_alloc ?_ _));exact BK411.out) hb)
      have n7_:=Aside0.mk (blk_below (g:=gb419) (o:=.cells #[.slice Ao12 t413.length co12,.int .i64 t416,.int .i64 t417,.int .i64 t418] 29 (0,0)) (by (with_reducible repeat (first|refine blk_drewN ?_ _|refine blk_drew ?_|refine blk_alloc ?_ _));exact BK419.out) hb)
      have n8_:=Aside0.mk (below_step (by repeat (first|(with_reducible first|exact HB.out|apply below_alloc|apply pw_below_drewN|apply below_drew1|refine below_set ?_ GE411.out|refine below_set ?_ GE419.out)|exact HB.out)) hb)
      clear HO_1
      clear HO_420000
      clear HO427
      clear HO432
      clear HO435
      clear BK411
      clear BK419
      clear HB
      have HO_1:=n0_
      have HO_420000:=n1_
      have HO427:=n2_
      have HO432:=n3_
      have HO435:=n4_
      have HO438:=n5_
      have BK411:=n6_
      have BK419:=n7_
      have HB:=n8_
      clear n0_ n1_ n2_ n3_ n4_ n5_ n6_ n7_ n8_
      (try clear hb)
      (try clear hb2)
      (try clear hk)
      (try clear hi)
      (try clear ho0)
      obtain ⟨Ao69,co69,eo69⟩:=Kd.R_slice HO435.out
      (first|subst eo69|(injection eo69 with f1_ f2_ f3_;have f4_:=f1_.symm;have f5_:=f3_.symm;clear f1_ f2_ f3_;subst f4_;subst f5_))
      obtain ⟨Ao70,co70,eo70⟩:=Kd.R_slice HO438.out
      (first|subst eo70|(injection eo70 with f1_ f2_ f3_;have f4_:=f1_.symm;have f5_:=f3_.symm;clear f1_ f2_ f3_;subst f4_;subst f5_))
      refine hK.out _ _ ⟨(blk_cell BK419.out 0).trans rfl,(blk_cell BK419.out 1).trans rfl,(blk_cell BK419.out 2).trans rfl,(blk_cell BK419.out 3).trans rfl⟩ (fun hHeld=>?_)
      clear hK K
      refine norm_ (a':=?_) ?_ ?_
      rotate_left
      ·show Act.put _ (some 40) _=_
       simp only [Act.put,List.setIfInBounds_toArray,List.set_cons_zero,List.set_cons_succ,i64_w,i32_w]
       rfl
      refine one_ (i:=8) (N:=some 41) #[true,true,true,true,true,true,true,true,true,false] rfl rfl (one_of HT_.out (by kernel_rfl)) (by decide) (fun K hK=>?_)
      refine goes_ Try.func13 (by kernel_rfl) rfl #[.slice Ao69 t433.length co69,.slice Ao70 t436.length co70] (by rfl) rfl rfl (by (try simp only [List.map_toArray,List.map_cons,List.map_nil]);first|done|rfl|(simp only [List.length_drop,List.length_take];rfl)) ?_
      with_reducible refine (thresherref20_Same.calls kj5 _ _ t433 _ _ t436 false _ ?side1 ?side2 ?side3 ?side4 A33.out).mono ?_
      (case side1=>repeat (first|exact (Kd.R_reads' HO435.out).2.2|(with_reducible refine Kd.C_alloc ?_ _)|(with_reducible refine Kd.C_drewN ?_ _)|(with_reducible refine Kd.C_drew ?_)))
      (case side2=>exact (Kd.R_reads' HO435.out).2.1)
      (case side3=>repeat (first|exact (Kd.R_reads' HO438.out).2.2|(with_reducible refine Kd.C_alloc ?_ _)|(with_reducible refine Kd.C_drewN ?_ _)|(with_reducible refine Kd.C_drew ?_)))
      (case side4=>exact (Kd.R_reads' HO438.out).2.1)
      rintro e w' ⟨rfl,⟨nd,rfl⟩⟩
      refine ⟨_,rfl,?_⟩
      refine hK.out _ _ ⟨(blk_cell BK419.out 0).trans rfl,(blk_cell BK419.out 1).trans rfl,(blk_cell BK419.out 2).trans rfl,(blk_cell BK419.out 3).trans rfl⟩ (fun hHeld=>?_)
      clear hK K
      refine norm_ (a':=?_) ?_ ?_
      rotate_left
      ·show Act.put _ (some 41) _=_
       simp only [Act.put,List.setIfInBounds_toArray,List.set_cons_zero,List.set_cons_succ,i64_w,i32_w]
       rfl
      refine pure_ (i:=9) (N:=some 11) (v:=?_) (a':=?_) #[true,true,true,true,true,true,true,true,true,true] rfl rfl (any_of HT_.out (by kernel_rfl)) (fun _ _ _ h=>h) (Or.inl ⟨by rfl,?_⟩) ?_ ?_
      rotate_left;(intro w';go_simp;with_reducible rfl);rotate_left;(simp only [Act.put,List.setIfInBounds_toArray,List.set_cons_zero,List.set_cons_succ,i64_w,i32_w];rfl)
      refine done_ (done_of HT_.out (by kernel_rfl)) ?_
      (try clear hHeld)
      try go_wp2
      go_ret
      exact ⟨by first|rfl|(simp [errW_none,errW_some] <;> rfl)|(simp [*,errW_none,errW_some] <;> rfl),by repeat (first|(with_reducible first|exact HB.out|apply below_alloc|apply pw_below_drewN|apply below_drew1|refine below_set ?_ GE411.out|refine below_set ?_ GE419.out)|exact HB.out)⟩
    ·replace c34:=Bool.eq_false_iff.mpr c34
     subst c34
     have H1 : (some false)=some r:=by rw [if_neg (show ¬ (false=true) by decide)] at H;exact H
     clear H
     have H:=H1
     clear H1
     obtain rfl:=Option.some.inj H
     have hnb71:=NB419_411.out
     have hnc71:=NB411_419.out
     have hcz72_0 : wc.cell? ⟨gb419,0,none⟩=some (.slice Ao12 t413.length co12):=(blk_cell BK419.out 0).trans rfl
     have hcz72_1 : wc.cell? ⟨gb419,1,none⟩=some (.int .i64 t416):=(blk_cell BK419.out 1).trans rfl
     have hcz72_2 : wc.cell? ⟨gb419,2,none⟩=some (.int .i64 t417):=(blk_cell BK419.out 2).trans rfl
     have hcz72_3 : wc.cell? ⟨gb419,3,none⟩=some (.int .i64 t418):=(blk_cell BK419.out 3).trans rfl
     have hfz72_0:=blk_frozen BK419.out 0
     have hfz72_1:=blk_frozen BK419.out 1
     have hfz72_2:=blk_frozen BK419.out 2
     have hfz72_3:=blk_frozen BK419.out 3
     try go_wp2_with (first|((with_reducible refine gate_callee (f:=10) rfl ?_);refine goesL_ (some 22) rfl rfl Try.func10 (by kernel_rfl) rfl #[.agg #[.slice Ao12 t413.length co12,.int .i64 t416,.int .i64 t417,.int .i64 t418],.slice A2 l2.length c2,.int .i64 60] rfl (by (try simp only [List.map_toArray,List.map_cons,List.map_nil]);first|done|rfl|(simp only [List.length_drop,List.length_take];rfl)) ?_;(with_reducible refine (thresherref04_Fits.calls kj5 _ _ t413 t416 t417 t418 _ _ l2 60 t425 _ ?side1 ?side2 ?side3 ?side4 A19.out).mono ?_);(case side1=>repeat (first|exact (Kd.R_reads' HO_420000.out).2.2|(with_reducible refine Kd.C_alloc ?_ _)|(with_reducible refine Kd.C_drewN ?_ _)|(with_reducible refine Kd.C_drew ?_)));(case side2=>exact (Kd.R_reads' HO_420000.out).2.1);(case side3=>repeat (first|exact (Kd.C_below HR2.out HB.out)|(with_reducible refine Kd.C_alloc ?_ _)|(with_reducible refine Kd.C_drewN ?_ _)|(with_reducible refine Kd.C_drew ?_)));(case side4=>exact HC2.out);rintro e w73 ⟨v426,rfl,ho0,hb⟩;refine ⟨_,rfl,?_⟩;have n0_:=Aside0.mk (Kd.V_elder' (by (with_reducible repeat (first|apply Kd.V_alloc|apply Kd.V_drewN|apply Kd.V_drew));exact HO_1.out) (Kd.S_base ho0) hb);have n1_:=Aside0.mk (Kd.R_below (by (with_reducible repeat (first|apply Kd.R_alloc|apply Kd.R_drewN|apply Kd.R_drew));exact HO_420000.out) hb);have n2_:=Aside0.mk (Kd.S_lower (Kd.S_newM (M:=fun k_=>(w.heap.size≤k_)) ho0 (below_size (by repeat (first|(with_reducible first|exact HB.out|apply below_alloc|apply pw_below_drewN|apply below_drew1|refine below_set ?_ GE411.out|refine below_set ?_ GE419.out)|exact HB.out))) (fun k_ h_=>h_)) (below_size (by repeat (first|(with_reducible first|exact HB.out|apply below_alloc|apply pw_below_drewN|apply below_drew1|refine below_set ?_ GE411.out|refine below_set ?_ GE419.out)|exact HB.out))));have n3_:=Aside0.mk (blk_below (g:=gb411) (o:=.cells #[.int .u8 a0_0,.int .u8 a0_1,.int .u8 a0_2,.int .u8 a0_3,.int .u8 a0_4,.int .u8 a0_5,.int .u8 a0_6,.int .u8 a0_7,.int .u8 a0_8,.int .u8 a0_9,.int .u8 a0_10,.int .u8 a0_11] 24 (0,0)) (by (with_reducible repeat (first|refine blk_drewN ?_ _|refine blk_drew ?_|refine blk_alloc ?_ _));exact BK411.out) hb);have n4_:=Aside0.mk (blk_below (g:=gb419) (o:=.cells #[.slice Ao12 t413.length co12,.int .i64 t416,.int .i64 t417,.int .i64 t418] 29 (0,0)) (by (with_reducible repeat (first|refine blk_drewN ?_ _|refine blk_drew ?_|refine blk_alloc ?_ _));exact BK419.out) hb);have n5_:=Aside0.mk (below_step (by repeat (first|(with_reducible first|exact HB.out|apply below_alloc|apply pw_below_drewN|apply below_drew1|refine below_set ?_ GE411.out|refine below_set ?_ GE419.out)|exact HB.out)) hb);clear HO_1;clear HO_420000;clear BK411;clear BK419;clear HB;have HO_1:=n0_;have HO_420000:=n1_;have HO427:=n2_;have BK411:=n3_;have BK419:=n4_;have HB:=n5_;clear n0_ n1_ n2_ n3_ n4_ n5_;(try clear hb);(try clear hb2);(try clear hk);(try clear hi);(try clear ho0)))
     have n0_:=Aside0.mk (Kd.V_drew HO_1.out)
     have n1_:=Aside0.mk (Kd.R_drew HO_420000.out)
     have n2_:=Aside0.mk (Kd.S_drew HO427.out)
     have n3_:=Aside0.mk (blk_drew BK411.out)
     have n4_:=Aside0.mk (blk_drew BK419.out)
     have n5_:=Aside0.mk (below_drew1 HB.out)
     clear HO_1
     clear HO_420000
     clear HO427
     clear BK411
     clear BK419
     clear HB
     have HO_1:=n0_
     have HO_420000:=n1_
     have HO427:=n2_
     have BK411:=n3_
     have BK419:=n4_
     have HB:=n5_
     clear n0_ n1_ n2_ n3_ n4_ n5_
     obtain ⟨Ao75,co75,eo75⟩:=Kd.V_slice HO_1.out
     (first|subst eo75|(injection eo75 with f1_ f2_ f3_;have f4_:=f1_.symm;have f5_:=f3_.symm;clear f1_ f2_ f3_;subst f4_;subst f5_))
     refine start_ (n:=7) (S:=fun w'=>w'.cell? ⟨gb419,0,none⟩=some (.slice Ao12 t413.length co12)∧w'.cell? ⟨gb419,1,none⟩=some (.int .i64 t416)∧w'.cell? ⟨gb419,2,none⟩=some (.int .i64 t417)∧w'.cell? ⟨gb419,3,none⟩=some (.int .i64 t418)) (ds:=[]) #[false,false,false,false,false,false,false] (by kernel_rfl) rfl rfl ⟨(blk_cell BK419.out 0).trans rfl,(blk_cell BK419.out 1).trans rfl,(blk_cell BK419.out 2).trans rfl,(blk_cell BK419.out 3).trans rfl⟩ (fun hHeld=>?_)
     generalize w73.drew=w74 at HO_1 HO_420000 HO427 BK411 BK419 HB hHeld ⊢
     refine pure_ (i:=1) (N:=some 24) (v:=?_) (a':=?_) #[false,true,false,false,false,false,false] rfl rfl (by kernel_rfl) (fun _ _ _ h=>h) (Or.inl ⟨by rfl,?_⟩) ?_ ?_
     rotate_left;(intro w';go_simp;with_reducible rfl);rotate_left;(simp only [Act.put,List.setIfInBounds_toArray,List.set_cons_zero,List.set_cons_succ,i64_w,i32_w];rfl)
     refine pure_ (i:=4) (N:=some 27) (v:=?_) (a':=?_) #[false,true,false,false,true,false,false] rfl rfl (by kernel_rfl) (fun _ _ _ h=>h) (Or.inl ⟨by rfl,?_⟩) ?_ ?_
     rotate_left;(intro w';go_simp;with_reducible rfl);rotate_left;(simp only [Act.put,List.setIfInBounds_toArray,List.set_cons_zero,List.set_cons_succ,i64_w,i32_w];rfl)
     refine take_ (i:=0) (N:=some 23) (v:=?_) (a':=?_) #[true,true,false,false,true,false,false] rfl rfl (by kernel_rfl) (fun _ _ _ h=>h) (Or.inl ⟨by rfl,?_⟩) hHeld ?_ ?_
     rotate_left;(rintro w' ⟨s0,s1,s2,s3⟩;go_simp;with_reducible rfl);rotate_left;(simp only [Act.put,List.setIfInBounds_toArray,List.set_cons_zero,List.set_cons_succ,i64_w,i32_w];rfl)
     refine take_ (i:=3) (N:=some 26) (v:=?_) (a':=?_) #[true,true,false,true,true,false,false] rfl rfl (by kernel_rfl) (fun _ _ _ h=>h) (Or.inl ⟨by rfl,?_⟩) hHeld ?_ ?_
     rotate_left;(rintro w' ⟨s0,s1,s2,s3⟩;go_simp;with_reducible rfl);rotate_left;(simp only [Act.put,List.setIfInBounds_toArray,List.set_cons_zero,List.set_cons_succ,i64_w,i32_w];rfl)
     refine one_ (i:=2) (N:=some 25) #[true,true,true,true,true,false,false] rfl rfl (by kernel_rfl) (by decide) (fun K hK=>?_)
     refine goes_ Try.func16 (by kernel_rfl) rfl #[.agg #[.slice Ao12 t413.length co12,.int .i64 t416,.int .i64 t417,.int .i64 t418],.slice Ao75 x1_5.length co75] (by rfl) rfl rfl (by (try simp only [List.map_toArray,List.map_cons,List.map_nil]);first|done|rfl|(simp only [List.length_drop,List.length_take];rfl)) ?_
     with_reducible refine (agg_May.calls kj5 _ _ t413 t416 t417 t418 _ _ x1_5 t428 _ ?side1 ?side2 ?side3 ?side4 A20.out).mono ?_
     (case side1=>repeat (first|exact (Kd.R_reads' HO_420000.out).2.2|(with_reducible refine Kd.C_alloc ?_ _)|(with_reducible refine Kd.C_drewN ?_ _)|(with_reducible refine Kd.C_drew ?_)))
     (case side2=>exact (Kd.R_reads' HO_420000.out).2.1)
     (case side3=>repeat (first|exact (Kd.V_reads' HO_1.out).2.2|(with_reducible refine Kd.C_alloc ?_ _)|(with_reducible refine Kd.C_drewN ?_ _)|(with_reducible refine Kd.C_drew ?_)))
     (case side4=>exact (Kd.V_reads' HO_1.out).2.1)
     rintro e w76 ⟨rfl,hb⟩
     refine ⟨_,rfl,?_⟩
     have n0_:=Aside0.mk (Kd.V_below (by (with_reducible repeat (first|apply Kd.V_alloc|apply Kd.V_drewN|apply Kd.V_drew));exact HO_1.out) hb)
     have n1_:=Aside0.mk (Kd.R_below (by (with_reducible repeat (first|apply Kd.R_alloc|apply Kd.R_drewN|apply Kd.R_drew));exact HO_420000.out) hb)
     have n2_:=Aside0.mk (Kd.S_below (by (with_reducible repeat (first|apply Kd.S_alloc|apply Kd.S_drewN|apply Kd.S_drew));exact HO427.out) hb)
     have n3_:=Aside0.mk (blk_below (g:=gb411) (o:=.cells #[.int .u8 a0_0,.int .u8 a0_1,.int .u8 a0_2,.int .u8 a0_3,.int .u8 a0_4,.int .u8 a0_5,.int .u8 a0_6,.int .u8 a0_7,.int .u8 a0_8,.int .u8 a0_9,.int .u8 a0_10,.int .u8 a0_11] 24 (0,0)) (by (with_reducible repeat (first|refine blk_drewN ?_ _|refine blk_drew ?_|refine blk_alloc ?_ _));exact BK411.out) hb)
     have n4_:=Aside0.mk (blk_below (g:=gb419) (o:=.cells #[.slice Ao12 t413.length co12,.int .i64 t416,.int .i64 t417,.int .i64 t418] 29 (0,0)) (by (with_reducible repeat (first|refine blk_drewN ?_ _|refine blk_drew ?_|refine blk_alloc ?_ _));exact BK419.out) hb)
     have n5_:=Aside0.mk (below_step (by repeat (first|(with_reducible first|exact HB.out|apply below_alloc|apply pw_below_drewN|apply below_drew1|refine below_set ?_ GE411.out|refine below_set ?_ GE419.out)|exact HB.out)) hb)
     clear HO_1
     clear HO_420000
     clear HO427
     clear BK411
     clear BK419
     clear HB
     have HO_1:=n0_
     have HO_420000:=n1_
     have HO427:=n2_
     have BK411:=n3_
     have BK419:=n4_
     have HB:=n5_
     clear n0_ n1_ n2_ n3_ n4_ n5_
     (try clear hb)
     (try clear hb2)
     (try clear hk)
     (try clear hi)
     refine hK.out _ _ ⟨(blk_cell BK419.out 0).trans rfl,(blk_cell BK419.out 1).trans rfl,(blk_cell BK419.out 2).trans rfl,(blk_cell BK419.out 3).trans rfl⟩ (fun hHeld=>?_)
     clear hK K
     refine norm_ (a':=?_) ?_ ?_
     rotate_left
     ·show Act.put _ (some 25) _=_
      simp only [Act.put,List.setIfInBounds_toArray,List.set_cons_zero,List.set_cons_succ,i64_w,i32_w]
      rfl
     refine one_ (i:=5) (N:=some 28) #[true,true,true,true,true,true,false] rfl rfl (by kernel_rfl) (by decide) (fun K hK=>?_)
     refine goes_ Try.func17 (by kernel_rfl) rfl #[.agg #[.slice Ao12 t413.length co12,.int .i64 t416,.int .i64 t417,.int .i64 t418],.slice Ao75 x1_5.length co75] (by rfl) rfl rfl (by (try simp only [List.map_toArray,List.map_cons,List.map_nil]);first|done|rfl|(simp only [List.length_drop,List.length_take];rfl)) ?_
     with_reducible refine (thresherref20_May.calls kj5 _ _ t413 t416 t417 t418 _ _ x1_5 t429 _ ?side1 ?side2 ?side3 ?side4 A21.out).mono ?_
     (case side1=>repeat (first|exact (Kd.R_reads' HO_420000.out).2.2|(with_reducible refine Kd.C_alloc ?_ _)|(with_reducible refine Kd.C_drewN ?_ _)|(with_reducible refine Kd.C_drew ?_)))
     (case side2=>exact (Kd.R_reads' HO_420000.out).2.1)
     (case side3=>repeat (first|exact (Kd.V_reads' HO_1.out).2.2|(with_reducible refine Kd.C_alloc ?_ _)|(with_reducible refine Kd.C_drewN ?_ _)|(with_reducible refine Kd.C_drew ?_)))
     (case side4=>exact (Kd.V_reads' HO_1.out).2.1)
     rintro e w77 ⟨rfl,hb⟩
     refine ⟨_,rfl,?_⟩
     have n0_:=Aside0.mk (Kd.V_below (by (with_reducible repeat (first|apply Kd.V_alloc|apply Kd.V_drewN|apply Kd.V_drew));exact HO_1.out) hb)
     have n1_:=Aside0.mk (Kd.R_below (by (with_reducible repeat (first|apply Kd.R_alloc|apply Kd.R_drewN|apply Kd.R_drew));exact HO_420000.out) hb)
     have n2_:=Aside0.mk (Kd.S_below (by (with_reducible repeat (first|apply Kd.S_alloc|apply Kd.S_drewN|apply Kd.S_drew));exact HO427.out) hb)
     have n3_:=Aside0.mk (blk_below (g:=gb411) (o:=.cells #[.int .u8 a0_0,.int .u8 a0_1,.int .u8 a0_2,.int .u8 a0_3,.int .u8 a0_4,.int .u8 a0_5,.int .u8 a0_6,.int .u8 a0_7,.int .u8 a0_8,.int .u8 a0_9,.int .u8 a0_10,.int .u8 a0_11] 24 (0,0)) (by (with_reducible repeat (first|refine blk_drewN ?_ _|refine blk_drew ?_|refine blk_alloc ?_ _));exact BK411.out) hb)
     have n4_:=Aside0.mk (blk_below (g:=gb419) (o:=.cells #[.slice Ao12 t413.length co12,.int .i64 t416,.int .i64 t417,.int .i64 t418] 29 (0,0)) (by (with_reducible repeat (first|refine blk_drewN ?_ _|refine blk_drew ?_|refine blk_alloc ?_ _));exact BK419.out) hb)
     have n5_:=Aside0.mk (below_step (by repeat (first|(with_reducible first|exact HB.out|apply below_alloc|apply pw_below_drewN|apply below_drew1|refine below_set ?_ GE411.out|refine below_set ?_ GE419.out)|exact HB.out)) hb)
     clear HO_1
     clear HO_420000
     clear HO427
     clear BK411
     clear BK419
     clear HB
     have HO_1:=n0_
     have HO_420000:=n1_
     have HO427:=n2_
     have BK411:=n3_
     have BK419:=n4_
     have HB:=n5_
     clear n0_ n1_ n2_ n3_ n4_ n5_
     (try clear hb)
     (try clear hb2)
     (try clear hk)
     (try clear hi)
     refine hK.out _ _ ⟨(blk_cell BK419.out 0).trans rfl,(blk_cell BK419.out 1).trans rfl,(blk_cell BK419.out 2).trans rfl,(blk_cell BK419.out 3).trans rfl⟩ (fun hHeld=>?_)
     clear hK K
     refine norm_ (a':=?_) ?_ ?_
     rotate_left
     ·show Act.put _ (some 28) _=_
      simp only [Act.put,List.setIfInBounds_toArray,List.set_cons_zero,List.set_cons_succ,i64_w,i32_w]
      rfl
     refine pure_ (i:=6) (N:=some 29) (v:=?_) (a':=?_) #[true,true,true,true,true,true,true] rfl rfl (by kernel_rfl) (fun _ _ _ h=>h) (Or.inl ⟨by rfl,?_⟩) ?_ ?_
     rotate_left;(intro w';go_simp;with_reducible rfl);rotate_left;(simp only [Act.put,List.setIfInBounds_toArray,List.set_cons_zero,List.set_cons_succ,i64_w,i32_w];rfl)
     refine done_ (by kernel_rfl) ?_
     have hcz78_0 : w77.cell? ⟨gb419,0,none⟩=some (.slice Ao12 t413.length co12):=(blk_cell BK419.out 0).trans rfl
     have hcz78_1 : w77.cell? ⟨gb419,1,none⟩=some (.int .i64 t416):=(blk_cell BK419.out 1).trans rfl
     have hcz78_2 : w77.cell? ⟨gb419,2,none⟩=some (.int .i64 t417):=(blk_cell BK419.out 2).trans rfl
     have hcz78_3 : w77.cell? ⟨gb419,3,none⟩=some (.int .i64 t418):=(blk_cell BK419.out 3).trans rfl
     have hfz78_0:=blk_frozen BK419.out 0
     have hfz78_1:=blk_frozen BK419.out 1
     have hfz78_2:=blk_frozen BK419.out 2
     have hfz78_3:=blk_frozen BK419.out 3
     try go_wp2_with (first|((with_reducible refine gate_callee (f:=14) rfl ?_);refine goesL_ (some 32) rfl rfl Try.func14 (by kernel_rfl) rfl #[.agg #[.slice Ao12 t413.length co12,.int .i64 t416,.int .i64 t417,.int .i64 t418],.slice Ao75 x1_5.length co75,.int .i64 16] rfl (by (try simp only [List.map_toArray,List.map_cons,List.map_nil]);first|done|rfl|(simp only [List.length_drop,List.length_take];rfl)) ?_;(with_reducible refine (thresherref20_Fit.calls kj5 _ _ t413 t416 t417 t418 _ _ x1_5 16 t430 _ ?side1 ?side2 ?side3 ?side4 A30.out).mono ?_);(case side1=>repeat (first|exact (Kd.R_reads' HO_420000.out).2.2|(with_reducible refine Kd.C_alloc ?_ _)|(with_reducible refine Kd.C_drewN ?_ _)|(with_reducible refine Kd.C_drew ?_)));(case side2=>exact (Kd.R_reads' HO_420000.out).2.1);(case side3=>repeat (first|exact (Kd.V_reads' HO_1.out).2.2|(with_reducible refine Kd.C_alloc ?_ _)|(with_reducible refine Kd.C_drewN ?_ _)|(with_reducible refine Kd.C_drew ?_)));(case side4=>exact (Kd.V_reads' HO_1.out).2.1);rintro e w79 ⟨v431,rfl,ho0,hb⟩;refine ⟨_,rfl,?_⟩;have n0_:=Aside0.mk (Kd.V_elder' (by (with_reducible repeat (first|apply Kd.V_alloc|apply Kd.V_drewN|apply Kd.V_drew));exact HO_1.out) (Kd.R_base ho0) hb);have n1_:=Aside0.mk (Kd.R_below (by (with_reducible repeat (first|apply Kd.R_alloc|apply Kd.R_drewN|apply Kd.R_drew));exact HO_420000.out) hb);have n2_:=Aside0.mk (Kd.S_below (by (with_reducible repeat (first|apply Kd.S_alloc|apply Kd.S_drewN|apply Kd.S_drew));exact HO427.out) hb);have n3_:=Aside0.mk (Kd.R_lower (Kd.R_newM (M:=fun k_=>(w.heap.size≤k_)) ho0 (below_size (by repeat (first|(with_reducible first|exact HB.out|apply below_alloc|apply pw_below_drewN|apply below_drew1|refine below_set ?_ GE411.out|refine below_set ?_ GE419.out)|exact HB.out))) (fun k_ h_=>h_)) (below_size (by repeat (first|(with_reducible first|exact HB.out|apply below_alloc|apply pw_below_drewN|apply below_drew1|refine below_set ?_ GE411.out|refine below_set ?_ GE419.out)|exact HB.out))));have n4_:=Aside0.mk (blk_below (g:=gb411) (o:=.cells #[.int .u8 a0_0,.int .u8 a0_1,.int .u8 a0_2,.int .u8 a0_3,.int .u8 a0_4,.int .u8 a0_5,.int .u8 a0_6,.int .u8 a0_7,.int .u8 a0_8,.int .u8 a0_9,.int .u8 a0_10,.int .u8 a0_11] 24 (0,0)) (by (with_reducible repeat (first|refine blk_drewN ?_ _|refine blk_drew ?_|refine blk_alloc ?_ _));exact BK411.out) hb);have n5_:=Aside0.mk (blk_below (g:=gb419) (o:=.cells #[.slice Ao12 t413.length co12,.int .i64 t416,.int .i64 t417,.int .i64 t418] 29 (0,0)) (by (with_reducible repeat (first|refine blk_drewN ?_ _|refine blk_drew ?_|refine blk_alloc ?_ _));exact BK419.out) hb);have n6_:=Aside0.mk (below_step (by repeat (first|(with_reducible first|exact HB.out|apply below_alloc|apply pw_below_drewN|apply below_drew1|refine below_set ?_ GE411.out|refine below_set ?_ GE419.out)|exact HB.out)) hb);clear HO_1;clear HO_420000;clear HO427;clear BK411;clear BK419;clear HB;have HO_1:=n0_;have HO_420000:=n1_;have HO427:=n2_;have HO432:=n3_;have BK411:=n4_;have BK419:=n5_;have HB:=n6_;clear n0_ n1_ n2_ n3_ n4_ n5_ n6_;(try clear hb);(try clear hb2);(try clear hk);(try clear hi);(try clear ho0)))
     have n0_:=Aside0.mk (Kd.V_drew HO_1.out)
     have n1_:=Aside0.mk (Kd.R_drew HO_420000.out)
     have n2_:=Aside0.mk (Kd.S_drew HO427.out)
     have n3_:=Aside0.mk (Kd.R_drew HO432.out)
     have n4_:=Aside0.mk (blk_drew BK411.out)
     have n5_:=Aside0.mk (blk_drew BK419.out)
     have n6_:=Aside0.mk (below_drew1 HB.out)
     clear HO_1
     clear HO_420000
     clear HO427
     clear HO432
     clear BK411
     clear BK419
     clear HB
     have HO_1:=n0_
     have HO_420000:=n1_
     have HO427:=n2_
     have HO432:=n3_
     have BK411:=n4_
     have BK419:=n5_
     have HB:=n6_
     clear n0_ n1_ n2_ n3_ n4_ n5_ n6_
     obtain ⟨Ao81,co81,eo81⟩:=Kd.R_slice HO432.out
     (first|subst eo81|(injection eo81 with f1_ f2_ f3_;have f4_:=f1_.symm;have f5_:=f3_.symm;clear f1_ f2_ f3_;subst f4_;subst f5_))
     obtain ⟨Ao82,co82,eo82⟩:=Kd.S_slice HO427.out
     (first|subst eo82|(injection eo82 with f1_ f2_ f3_;have f4_:=f1_.symm;have f5_:=f3_.symm;clear f1_ f2_ f3_;subst f4_;subst f5_))
     refine start_ (n:=10) (S:=fun w'=>w'.cell? ⟨gb419,0,none⟩=some (.slice Ao12 t413.length co12)∧w'.cell? ⟨gb419,1,none⟩=some (.int .i64 t416)∧w'.cell? ⟨gb419,2,none⟩=some (.int .i64 t417)∧w'.cell? ⟨gb419,3,none⟩=some (.int .i64 t418)) (ds:=[]) #[false,false,false,false,false,false,false,false,false,false] (by kernel_rfl) rfl rfl ⟨(blk_cell BK419.out 0).trans rfl,(blk_cell BK419.out 1).trans rfl,(blk_cell BK419.out 2).trans rfl,(blk_cell BK419.out 3).trans rfl⟩ (fun hHeld=>?_);refine with_tabW thresherlaw20_AggAll.tab9 thresherlaw20_AggAll.bits9 (fun HT_ HW_=>?_)
     generalize w79.drew=w80 at HO_1 HO_420000 HO427 HO432 BK411 BK419 HB hHeld ⊢
     refine pure_ (i:=1) (N:=some 34) (v:=?_) (a':=?_) #[false,true,false,false,false,false,false,false,false,false] rfl rfl (any_of HT_.out (by kernel_rfl)) (fun _ _ _ h=>h) (Or.inl ⟨by rfl,?_⟩) ?_ ?_
     rotate_left;(intro w';go_simp;with_reducible rfl);rotate_left;(simp only [Act.put,List.setIfInBounds_toArray,List.set_cons_zero,List.set_cons_succ,i64_w,i32_w];rfl)
     refine pure_ (i:=2) (N:=some 35) (v:=?_) (a':=?_) #[false,true,true,false,false,false,false,false,false,false] rfl rfl (any_of HT_.out (by kernel_rfl)) (fun _ _ _ h=>h) (Or.inl ⟨by rfl,?_⟩) ?_ ?_
     rotate_left;(intro w';go_simp;with_reducible rfl);rotate_left;(simp only [Act.put,List.setIfInBounds_toArray,List.set_cons_zero,List.set_cons_succ,i64_w,i32_w];rfl)
     refine pure_ (i:=5) (N:=some 38) (v:=?_) (a':=?_) #[false,true,true,false,false,true,false,false,false,false] rfl rfl (any_of HT_.out (by kernel_rfl)) (fun _ _ _ h=>h) (Or.inl ⟨by rfl,?_⟩) ?_ ?_
     rotate_left;(intro w';go_simp;with_reducible rfl);rotate_left;(simp only [Act.put,List.setIfInBounds_toArray,List.set_cons_zero,List.set_cons_succ,i64_w,i32_w];rfl)
     refine pure_ (i:=6) (N:=some 39) (v:=?_) (a':=?_) #[false,true,true,false,false,true,true,false,false,false] rfl rfl (any_of HT_.out (by kernel_rfl)) (fun _ _ _ h=>h) (Or.inl ⟨by rfl,?_⟩) ?_ ?_
     rotate_left;(intro w';go_simp;with_reducible rfl);rotate_left;(simp only [Act.put,List.setIfInBounds_toArray,List.set_cons_zero,List.set_cons_succ,i64_w,i32_w];rfl)
     refine take_ (i:=0) (N:=some 33) (v:=?_) (a':=?_) #[true,true,true,false,false,true,true,false,false,false] rfl rfl (take_ofW HT_.out HW_.out (by kernel_rfl)) (fun _ _ _ h=>h) (Or.inl ⟨by rfl,?_⟩) hHeld ?_ ?_
     rotate_left;(rintro w' ⟨s0,s1,s2,s3⟩;go_simp;with_reducible rfl);rotate_left;(simp only [Act.put,List.setIfInBounds_toArray,List.set_cons_zero,List.set_cons_succ,i64_w,i32_w];rfl)
     refine take_ (i:=4) (N:=some 37) (v:=?_) (a':=?_) #[true,true,true,false,true,true,true,false,false,false] rfl rfl (take_ofW HT_.out HW_.out (by kernel_rfl)) (fun _ _ _ h=>h) (Or.inl ⟨by rfl,?_⟩) hHeld ?_ ?_
     rotate_left;(rintro w' ⟨s0,s1,s2,s3⟩;go_simp;with_reducible rfl);rotate_left;(simp only [Act.put,List.setIfInBounds_toArray,List.set_cons_zero,List.set_cons_succ,i64_w,i32_w];rfl)
     refine one_ (i:=3) (N:=some 36) #[true,true,true,true,true,true,true,false,false,false] rfl rfl (one_of HT_.out (by kernel_rfl)) (by decide) (fun K hK=>?_)
     refine goes_ Try.func11 (by kernel_rfl) rfl #[.agg #[.slice Ao12 t413.length co12,.int .i64 t416,.int .i64 t417,.int .i64 t418],.slice Ao81 t430.length co81,.slice Ao82 t425.length co82] (by rfl) rfl rfl (by (try simp only [List.map_toArray,List.map_cons,List.map_nil]);first|done|rfl|(simp only [List.length_drop,List.length_take];rfl)) ?_
     with_reducible refine (agg_Rows.calls kj5 _ _ t413 t416 t417 t418 _ _ t430 _ _ t425 t433 _ ?side1 ?side2 ?side3 ?side4 ?side5 ?side6 A31.out).mono ?_
     (case side1=>repeat (first|exact (Kd.R_reads' HO_420000.out).2.2|(with_reducible refine Kd.C_alloc ?_ _)|(with_reducible refine Kd.C_drewN ?_ _)|(with_reducible refine Kd.C_drew ?_)))
     (case side2=>exact (Kd.R_reads' HO_420000.out).2.1)
     (case side3=>repeat (first|exact (Kd.R_reads' HO432.out).2.2|(with_reducible refine Kd.C_alloc ?_ _)|(with_reducible refine Kd.C_drewN ?_ _)|(with_reducible refine Kd.C_drew ?_)))
     (case side4=>exact (Kd.R_reads' HO432.out).2.1)
     (case side5=>repeat (first|exact (Kd.S_reads' HO427.out).2.2|(with_reducible refine Kd.C_alloc ?_ _)|(with_reducible refine Kd.C_drewN ?_ _)|(with_reducible refine Kd.C_drew ?_)))
     (case side6=>exact (Kd.S_reads' HO427.out).2.1)
     rintro e w83 ⟨v434,rfl,ho0,hb⟩
     refine ⟨_,rfl,?_⟩
     have n0_:=Aside0.mk (Kd.V_elder' (by (with_reducible repeat (first|apply Kd.V_alloc|apply Kd.V_drewN|apply Kd.V_drew));exact HO_1.out) (Kd.R_base ho0) hb)
     have n1_:=Aside0.mk (Kd.R_below (by (with_reducible repeat (first|apply Kd.R_alloc|apply Kd.R_drewN|apply Kd.R_drew));exact HO_420000.out) hb)
     have n2_:=Aside0.mk (Kd.S_below (by (with_reducible repeat (first|apply Kd.S_alloc|apply Kd.S_drewN|apply Kd.S_drew));exact HO427.out) hb)
     have n3_:=Aside0.mk (Kd.R_below (by (with_reducible repeat (first|apply Kd.R_alloc|apply Kd.R_drewN|apply Kd.R_drew));exact HO432.out) hb)
     have n4_:=Aside0.mk (Kd.R_lower (Kd.R_newM (M:=fun k_=>(w.heap.size≤k_)) ho0 (below_size (by repeat (first|(with_reducible first|exact HB.out|apply below_alloc|apply pw_below_drewN|apply below_drew1|refine below_set ?_ GE411.out|refine below_set ?_ GE419.out)|exact HB.out))) (fun k_ h_=>h_)) (below_size (by repeat (first|(with_reducible first|exact HB.out|apply below_alloc|apply pw_below_drewN|apply below_drew1|refine below_set ?_ GE411.out|refine below_set ?_ GE419.out)|exact HB.out))))
     have n5_:=Aside0.mk (blk_below (g:=gb411) (o:=.cells #[.int .u8 a0_0,.int .u8 a0_1,.int .u8 a0_2,.int .u8 a0_3,.int .u8 a0_4,.int .u8 a0_5,.int .u8 a0_6,.int .u8 a0_7,.int .u8 a0_8,.int .u8 a0_9,.int .u8 a0_10,.int .u8 a0_11] 24 (0,0)) (by (with_reducible repeat (first|refine blk_drewN ?_ _|refine blk_drew ?_|refine blk_alloc ?_ _));exact BK411.out) hb)
     have n6_:=Aside0.mk (blk_below (g:=gb419) (o:=.cells #[.slice Ao12 t413.length co12,.int .i64 t416,.int .i64 t417,.int .i64 t418] 29 (0,0)) (by (with_reducible repeat (first|refine blk_drewN ?_ _|refine blk_drew ?_|refine blk_alloc ?_ _));exact BK419.out) hb)
     have n7_:=Aside0.mk (below_step (by repeat (first|(with_reducible first|exact HB.out|apply below_alloc|apply pw_below_drewN|apply below_drew1|refine below_set ?_ GE411.out|refine below_set ?_ GE419.out)|exact HB.out)) hb)
     clear HO_1
     clear HO_420000
     clear HO427
     clear HO432
     clear BK411
     clear BK419
     clear HB
     have HO_1:=n0_
     have HO_420000:=n1_
     have HO427:=n2_
     have HO432:=n3_
     have HO435:=n4_
     have BK411:=n5_
     have BK419:=n6_
     have HB:=n7_
     clear n0_ n1_ n2_ n3_ n4_ n5_ n6_ n7_
     (try clear hb)
     (try clear hb2)
     (try clear hk)
     (try clear hi)
     (try clear ho0)
     refine hK.out _ _ ⟨(blk_cell BK419.out 0).trans rfl,(blk_cell BK419.out 1).trans rfl,(blk_cell BK419.out 2).trans rfl,(blk_cell BK419.out 3).trans rfl⟩ (fun hHeld=>?_)
     clear hK K
     refine norm_ (a':=?_) ?_ ?_
     rotate_left
     ·show Act.put _ (some 36) _=_
      simp only [Act.put,List.setIfInBounds_toArray,List.set_cons_zero,List.set_cons_succ,i64_w,i32_w]
      rfl
     refine one_ (i:=7) (N:=some 40) #[true,true,true,true,true,true,true,true,false,false] rfl rfl (one_of HT_.out (by kernel_rfl)) (by decide) (fun K hK=>?_)
     refine goes_ Try.func18 (by kernel_rfl) rfl #[.agg #[.slice Ao12 t413.length co12,.int .i64 t416,.int .i64 t417,.int .i64 t418],.slice Ao81 t430.length co81,.slice Ao82 t425.length co82] (by rfl) rfl rfl (by (try simp only [List.map_toArray,List.map_cons,List.map_nil]);first|done|rfl|(simp only [List.length_drop,List.length_take];rfl)) ?_
     with_reducible refine (thresherref20_Rows.calls kj5 _ _ t413 t416 t417 t418 _ _ t430 _ _ t425 t436 _ ?side1 ?side2 ?side3 ?side4 ?side5 ?side6 A32.out).mono ?_
     (case side1=>repeat (first|exact (Kd.R_reads' HO_420000.out).2.2|(with_reducible refine Kd.C_alloc ?_ _)|(with_reducible refine Kd.C_drewN ?_ _)|(with_reducible refine Kd.C_drew ?_)))
     (case side2=>exact (Kd.R_reads' HO_420000.out).2.1)
     (case side3=>repeat (first|exact (Kd.R_reads' HO432.out).2.2|(with_reducible refine Kd.C_alloc ?_ _)|(with_reducible refine Kd.C_drewN ?_ _)|(with_reducible refine Kd.C_drew ?_)))
     (case side4=>exact (Kd.R_reads' HO432.out).2.1)
     (case side5=>repeat (first|exact (Kd.S_reads' HO427.out).2.2|(with_reducible refine Kd.C_alloc ?_ _)|(with_reducible refine Kd.C_drewN ?_ _)|(with_reducible refine Kd.C_drew ?_)))
     (case side6=>exact (Kd.S_reads' HO427.out).2.1)
     rintro e w84 ⟨v437,rfl,ho0,hb⟩
     refine ⟨_,rfl,?_⟩
     have n0_:=Aside0.mk (Kd.V_elder' (by (with_reducible repeat (first|apply Kd.V_alloc|apply Kd.V_drewN|apply Kd.V_drew));exact HO_1.out) (Kd.R_base ho0) hb)
     have n1_:=Aside0.mk (Kd.R_below (by (with_reducible repeat (first|apply Kd.R_alloc|apply Kd.R_drewN|apply Kd.R_drew));exact HO_420000.out) hb)
     have n2_:=Aside0.mk (Kd.S_below (by (with_reducible repeat (first|apply Kd.S_alloc|apply Kd.S_drewN|apply Kd.S_drew));exact HO427.out) hb)
     have n3_:=Aside0.mk (Kd.R_below (by (with_reducible repeat (first|apply Kd.R_alloc|apply Kd.R_drewN|apply Kd.R_drew));exact HO432.out) hb)
     have n4_:=Aside0.mk (Kd.R_elder' (by (with_reducible repeat (first|apply Kd.R_alloc|apply Kd.R_drewN|apply Kd.R_drew));exact HO435.out) (Kd.R_base ho0) hb)
     have n5_:=Aside0.mk (Kd.R_lower (Kd.R_new' (Kd.R_newM (M:=fun k_=>(w.heap.size≤k_)) ho0 (below_size (by repeat (first|(with_reducible first|exact HB.out|apply below_alloc|apply pw_below_drewN|apply below_drew1|refine below_set ?_ GE411.out|refine below_set ?_ GE419.out)|exact HB.out))) (fun k_ h_=>h_)) (Kd.R_lt (by (with_reducible repeat (first|apply Kd.R_alloc|apply Kd.R_drewN|apply Kd.R_drew));exact HO435.out))) (below_size (by repeat (first|(with_reducible first|exact HB.out|apply below_alloc|apply pw_below_drewN|apply below_drew1|refine below_set ?_ GE411.out|refine below_set ?_ GE419.out)|exact HB.out))))
     have n6_:=Aside0.mk (blk_below (g:=gb411) (o:=.cells #[.int .u8 a0_0,.int .u8 a0_1,.int .u8 a0_2,.int .u8 a0_3,.int .u8 a0_4,.int .u8 a0_5,.int .u8 a0_6,.int .u8 a0_7,.int .u8 a0_8,.int .u8 a0_9,.int .u8 a0_10,.int .u8 a0_11] 24 (0,0)) (by (with_reducible repeat (first|refine blk_drewN ?_ _|refine blk_drew ?_|refine blk_alloc ?_ _));exact BK411.out) hb)
     have n7_:=Aside0.mk (blk_below (g:=gb419) (o:=.cells #[.slice Ao12 t413.length co12,.int .i64 t416,.int .i64 t417,.int .i64 t418] 29 (0,0)) (by (with_reducible repeat (first|refine blk_drewN ?_ _|refine blk_drew ?_|refine blk_alloc ?_ _));exact BK419.out) hb)
     have n8_:=Aside0.mk (below_step (by repeat (first|(with_reducible first|exact HB.out|apply below_alloc|apply pw_below_drewN|apply below_drew1|refine below_set ?_ GE411.out|refine below_set ?_ GE419.out)|exact HB.out)) hb)
     clear HO_1
     clear HO_420000
     clear HO427
     clear HO432
     clear HO435
     clear BK411
     clear BK419
     clear HB
     have HO_1:=n0_
     have HO_420000:=n1_
     have HO427:=n2_
     have HO432:=n3_
     have HO435:=n4_
     have HO438:=n5_
     have BK411:=n6_
     have BK419:=n7_
     have HB:=n8_
     clear n0_ n1_ n2_ n3_ n4_ n5_ n6_ n7_ n8_
     (try clear hb)
     (try clear hb2)
     (try clear hk)
     (try clear hi)
     (try clear ho0)
     obtain ⟨Ao85,co85,eo85⟩:=Kd.R_slice HO435.out
     (first|subst eo85|(injection eo85 with f1_ f2_ f3_;have f4_:=f1_.symm;have f5_:=f3_.symm;clear f1_ f2_ f3_;subst f4_;subst f5_))
     obtain ⟨Ao86,co86,eo86⟩:=Kd.R_slice HO438.out
     (first|subst eo86|(injection eo86 with f1_ f2_ f3_;have f4_:=f1_.symm;have f5_:=f3_.symm;clear f1_ f2_ f3_;subst f4_;subst f5_))
     refine hK.out _ _ ⟨(blk_cell BK419.out 0).trans rfl,(blk_cell BK419.out 1).trans rfl,(blk_cell BK419.out 2).trans rfl,(blk_cell BK419.out 3).trans rfl⟩ (fun hHeld=>?_)
     clear hK K
     refine norm_ (a':=?_) ?_ ?_
     rotate_left
     ·show Act.put _ (some 40) _=_
      simp only [Act.put,List.setIfInBounds_toArray,List.set_cons_zero,List.set_cons_succ,i64_w,i32_w]
      rfl
     refine one_ (i:=8) (N:=some 41) #[true,true,true,true,true,true,true,true,true,false] rfl rfl (one_of HT_.out (by kernel_rfl)) (by decide) (fun K hK=>?_)
     refine goes_ Try.func13 (by kernel_rfl) rfl #[.slice Ao85 t433.length co85,.slice Ao86 t436.length co86] (by rfl) rfl rfl (by (try simp only [List.map_toArray,List.map_cons,List.map_nil]);first|done|rfl|(simp only [List.length_drop,List.length_take];rfl)) ?_
     with_reducible refine (thresherref20_Same.calls kj5 _ _ t433 _ _ t436 t439 _ ?side1 ?side2 ?side3 ?side4 A33.out).mono ?_
     (case side1=>repeat (first|exact (Kd.R_reads' HO435.out).2.2|(with_reducible refine Kd.C_alloc ?_ _)|(with_reducible refine Kd.C_drewN ?_ _)|(with_reducible refine Kd.C_drew ?_)))
     (case side2=>exact (Kd.R_reads' HO435.out).2.1)
     (case side3=>repeat (first|exact (Kd.R_reads' HO438.out).2.2|(with_reducible refine Kd.C_alloc ?_ _)|(with_reducible refine Kd.C_drewN ?_ _)|(with_reducible refine Kd.C_drew ?_)))
     (case side4=>exact (Kd.R_reads' HO438.out).2.1)
     rintro e w' ⟨rfl,⟨nd,rfl⟩⟩
     refine ⟨_,rfl,?_⟩
     refine hK.out _ _ ⟨(blk_cell BK419.out 0).trans rfl,(blk_cell BK419.out 1).trans rfl,(blk_cell BK419.out 2).trans rfl,(blk_cell BK419.out 3).trans rfl⟩ (fun hHeld=>?_)
     clear hK K
     refine norm_ (a':=?_) ?_ ?_
     rotate_left
     ·show Act.put _ (some 41) _=_
      simp only [Act.put,List.setIfInBounds_toArray,List.set_cons_zero,List.set_cons_succ,i64_w,i32_w]
      rfl
     refine pure_ (i:=9) (N:=some 11) (v:=?_) (a':=?_) #[true,true,true,true,true,true,true,true,true,true] rfl rfl (any_of HT_.out (by kernel_rfl)) (fun _ _ _ h=>h) (Or.inl ⟨by rfl,?_⟩) ?_ ?_
     rotate_left;(intro w';go_simp;with_reducible rfl);rotate_left;(simp only [Act.put,List.setIfInBounds_toArray,List.set_cons_zero,List.set_cons_succ,i64_w,i32_w];rfl)
     refine done_ (done_of HT_.out (by kernel_rfl)) ?_
     (try clear hHeld)
     try go_wp2
     go_ret
     exact ⟨by first|rfl|(simp [errW_none,errW_some] <;> rfl)|(simp [*,errW_none,errW_some] <;> rfl),by repeat (first|(with_reducible first|exact HB.out|apply below_alloc|apply pw_below_drewN|apply below_drew1|refine below_set ?_ GE411.out|refine below_set ?_ GE419.out)|exact HB.out)⟩

end Go.Proofs.Ytapaldcdoahfeaa.P

