/- Texts of IndexGrows. Merged: Px8. -/
import Derived.Test.YtfccebnoflhkcaaQIndexGrowsPx0
import Derived.Test.YtfccebnoflhkcaaQIndexGrowsPx5
namespace Go.Proofs.Ytfccebnoflhkcaa.P
open Go.RowKit Go.Proofs.YtfccebnoflhkcaaW.PrintWords Go.Proofs.YtfccebnoflhkcaaW.PrintLast Go.Proofs.YtfccebnoflhkcaaW.PrintMore
attribute [local go_sem] max2_int min2_int max_two min_two max_three min_three max_four min_four   -- for this text's walks alone
set_option linter.unusedVariables false
set_option linter.unusedSimpArgs false
def thresherref12_In.j0 : Nat→Bool→Option (Bool)
 | 0,_=>none
 | k + 1,x6=>some x6
def thresherref12_In.f (k : Nat) (l0_0 : List Int) (a0_1 : Int) (a0_2 : Int) (a0_3 : Int) (a1_0 : Bool) (a1_1 : Bool) (l1_2 : List (S44)) (l1_3 : List (S44)) (l2 : List (S44)) : Option (Bool):=(thresherref04_Compare.f k l0_0 a0_1 a0_2 a0_3 l2 l1_2).bind fun t246=>((thresherref04_Compare.f k l0_0 a0_1 a0_2 a0_3 l2 l1_3).bind fun t247=>(if a1_0=true then (if t246 < 0 then (thresherref12_In.j0 k false) else (if a1_1=true then (thresherref12_In.j0 k (!(decide (t247 > 0)))) else (thresherref12_In.j0 k (!false)))) else (if a1_1=true then (thresherref12_In.j0 k (!(decide (t247 > 0)))) else (thresherref12_In.j0 k (!false)))))
theorem thresherref12_In.mono_l : ∀ k,(∀ y0,LeO (thresherref12_In.j0 k y0) (thresherref12_In.j0 (k + 1) y0))
 | 0=>fun _ r h=>by simp [thresherref12_In.j0] at h
 | k + 1=>by
  have ih0:=thresherref12_In.mono_l k
  ·intro y0
   unfold thresherref12_In.j0
   repeat' first
   | (with_reducible exact ih0 _)
   | (with_reducible exact thresherref04_Compare.mono _ _ _ _ _ _ _)
   | (with_reducible exact LeO.refl _)
   | (with_reducible exact LeO.none _)
   | (with_reducible refine LeO.ite ?_ ?_)
   | (with_reducible refine LeO.bind ?_ (fun _=>?_))
   | exact ih0 _
   | exact thresherref04_Compare.mono _ _ _ _ _ _ _
   | exact LeO.none _
   | refine LeO.ite ?_ ?_
   | refine LeO.bind ?_ (fun _=>?_)
theorem thresherref12_In.mono : ∀ a0 a1 a2 a3 a4 a5 a6 a7 a8 k,LeO (thresherref12_In.f k a0 a1 a2 a3 a4 a5 a6 a7 a8) (thresherref12_In.f (k + 1) a0 a1 a2 a3 a4 a5 a6 a7 a8):=by
 intro a0 a1 a2 a3 a4 a5 a6 a7 a8 k
 have ih0:=thresherref12_In.mono_l k
 unfold thresherref12_In.f
 repeat' first
   | (with_reducible exact ih0 _)
   | (with_reducible exact thresherref04_Compare.mono _ _ _ _ _ _ _)
   | (with_reducible exact LeO.refl _)
   | (with_reducible exact LeO.none _)
   | (with_reducible refine LeO.ite ?_ ?_)
   | (with_reducible refine LeO.bind ?_ (fun _=>?_))
   | exact ih0 _
   | exact thresherref04_Compare.mono _ _ _ _ _ _ _
   | exact LeO.none _
   | refine LeO.ite ?_ ?_
   | refine LeO.bind ?_ (fun _=>?_)
set_option maxHeartbeats 8000000 in
set_option maxRecDepth 100000 in
theorem thresherref12_In.calls (k : Nat) (A0_0 : Option Addr) (c0_0 : Nat) (l0_0 : List Int) (a0_1 : Int) (a0_2 : Int) (a0_3 : Int) (a1_0 : Bool) (a1_1 : Bool) (A1_2 : Option Addr) (c1_2 : Nat) (l1_2 : List (S44)) (A1_3 : Option Addr) (c1_3 : Nat) (l1_3 : List (S44)) (A2 : Option Addr) (c2 : Nat) (l2 : List (S44)) (r : Bool) (w : World) (hr0_0 : Kd.C (Kd.int .i64) w A0_0 l0_0.length l0_0) (hc0_0 : l0_0.length≤c0_0) (hr1_2 : Kd.C k44 w A1_2 l1_2.length l1_2) (hc1_2 : l1_2.length≤c1_2) (hr1_3 : Kd.C k44 w A1_3 l1_3.length l1_3) (hc1_3 : l1_3.length≤c1_3) (hr2 : Kd.C k44 w A2 l2.length l2) (hc2 : l2.length≤c2) (h : thresherref12_In.f k l0_0 a0_1 a0_2 a0_3 a1_0 a1_1 l1_2 l1_3 l2=some r) :
  Calls Try.prog 13 #[.agg #[.slice A0_0 l0_0.length c0_0,.int .i64 a0_1,.int .i64 a0_2,.int .i64 a0_3],.agg #[.bool a1_0,.bool a1_1,.slice A1_2 l1_2.length c1_2,.slice A1_3 l1_3.length c1_3],.slice A2 l2.length c2] w fun e w'=>e=.returned (.bool r)∧Below w.heap.size w w':=by
 have hu33:=Try.underlying33
 have hu29:=Try.underlying29
 have HR0_0:=Aside0.mk hr0_0
 have HC0_0:=Aside0.mk hc0_0
 clear hr0_0 hc0_0
 have HR1_2:=Aside0.mk hr1_2
 have HC1_2:=Aside0.mk hc1_2
 clear hr1_2 hc1_2
 have HR1_3:=Aside0.mk hr1_3
 have HC1_3:=Aside0.mk hc1_3
 clear hr1_3 hc1_3
 have HR2:=Aside0.mk hr2
 have HC2:=Aside0.mk hc2
 clear hr2 hc2
 have HB:=Aside0.mk (Below.refl w.heap.size w)
 have H : ((thresherref04_Compare.f k l0_0 a0_1 a0_2 a0_3 l2 l1_2).bind fun t246=>((thresherref04_Compare.f k l0_0 a0_1 a0_2 a0_3 l2 l1_3).bind fun t247=>(if a1_0=true then (if t246 < 0 then (thresherref12_In.j0 k false) else (if a1_1=true then (thresherref12_In.j0 k (!(decide (t247 > 0)))) else (thresherref12_In.j0 k (!false)))) else (if a1_1=true then (thresherref12_In.j0 k (!(decide (t247 > 0)))) else (thresherref12_In.j0 k (!false))))))=some r:=h
 clear h
 replace H:=Option.bind_eq_some_iff.mp H
 obtain ⟨t246,A40,H⟩:=H
 replace H : ((thresherref04_Compare.f k l0_0 a0_1 a0_2 a0_3 l2 l1_3).bind fun t247=>(if a1_0=true then (if t246 < 0 then (thresherref12_In.j0 k false) else (if a1_1=true then (thresherref12_In.j0 k (!(decide (t247 > 0)))) else (thresherref12_In.j0 k (!false)))) else (if a1_1=true then (thresherref12_In.j0 k (!(decide (t247 > 0)))) else (thresherref12_In.j0 k (!false)))))=some r:=H
 have A4:=Aside0.mk A40
 clear A40
 replace H:=Option.bind_eq_some_iff.mp H
 obtain ⟨t247,A50,H⟩:=H
 replace H : (if a1_0=true then (if t246 < 0 then (thresherref12_In.j0 k false) else (if a1_1=true then (thresherref12_In.j0 k (!(decide (t247 > 0)))) else (thresherref12_In.j0 k (!false)))) else (if a1_1=true then (thresherref12_In.j0 k (!(decide (t247 > 0)))) else (thresherref12_In.j0 k (!false))))=some r:=H
 have A5:=Aside0.mk A50
 clear A50
 have HC6:=Aside0.mk H
 clear H
 go_enter Try.func13,Try.ntmps13
 go_upto_region 3 with (first|((with_reducible refine gate_dst (N:=3) rfl ?_);refine box_event ?hg (N:=3) ?hd (cs:=#[.slice A0_0 l0_0.length c0_0,.int .i64 a0_1,.int .i64 a0_2,.int .i64 a0_3]) (t:=33) ?hr ?_;(case hd=>rfl);(case hg=>rfl);(case hr=>first|(go_simp;done)|(go_simp;rfl));intro gb244 hg w7 hbox hb;have n0_:=Aside0.mk (below_step (below_up HB.out) hb);have n1_:=Aside0.mk (hbox);have n2_:=Aside0.mk ((by rw [hg];exact (below_size (below_up HB.out)) : w.heap.size≤gb244));have n3_:=Aside0.mk ((by rw [hg];exact (below_size (below_up HB.out)) : w.heap.size≤gb244));clear HB;have HB:=n0_;have BK244:=n1_;have GW244:=n2_;have GE244:=n3_;clear n0_ n1_ n2_ n3_;clear hb hbox hg)|((with_reducible refine gate_dst (N:=4) rfl ?_);refine box_event ?hg (N:=4) ?hd (cs:=#[.bool a1_0,.bool a1_1,.slice A1_2 l1_2.length c1_2,.slice A1_3 l1_3.length c1_3]) (t:=29) ?hr ?_;(case hd=>rfl);(case hg=>rfl);(case hr=>first|(go_simp;done)|(go_simp;rfl));intro gb245 hg w8 hbox hb;have n0_:=Aside0.mk (blk_below (g:=gb244) (o:=.cells #[.slice A0_0 l0_0.length c0_0,.int .i64 a0_1,.int .i64 a0_2,.int .i64 a0_3] 33 (0,0)) (blk_up BK244.out) hb);have n1_:=Aside0.mk (below_step (by repeat (first|(with_reducible first|exact HB.out|apply below_alloc|apply pw_below_drewN|apply below_drew1|refine below_set ?_ GE244.out)|exact HB.out)) hb);have n2_:=Aside0.mk (hbox);have n3_:=Aside0.mk ((by rw [hg];exact (below_size (by repeat (first|(with_reducible first|exact HB.out|apply below_alloc|apply pw_below_drewN|apply below_drew1|refine below_set ?_ GE244.out)|exact HB.out))) : w.heap.size≤gb245));have n4_:=Aside0.mk ((by rw [hg];exact (below_size (by repeat (first|(with_reducible first|exact HB.out|apply below_alloc|apply pw_below_drewN|apply below_drew1|refine below_set ?_ GE244.out)|exact HB.out))) : w.heap.size≤gb245));have n5_:=Aside0.mk ((by rw [hg];exact Nat.ne_of_lt (blk_lt (g:=gb244) (o:=.cells #[.slice A0_0 l0_0.length c0_0,.int .i64 a0_1,.int .i64 a0_2,.int .i64 a0_3] 33 (0,0)) (blk_up BK244.out)) : gb244≠gb245));have n6_:=Aside0.mk ((by rw [hg];exact Nat.ne_of_gt (blk_lt (g:=gb244) (o:=.cells #[.slice A0_0 l0_0.length c0_0,.int .i64 a0_1,.int .i64 a0_2,.int .i64 a0_3] 33 (0,0)) (blk_up BK244.out)) : gb245≠gb244));clear BK244;clear HB;have BK244:=n0_;have HB:=n1_;have BK245:=n2_;have GW245:=n3_;have GE245:=n4_;have NB244_245:=n5_;have NB245_244:=n6_;clear n0_ n1_ n2_ n3_ n4_ n5_ n6_;clear hb hbox hg;have hnb9:=NB244_245.out;have hnc9:=NB245_244.out;have hcz10_0 : w8.cell? ⟨gb244,0,none⟩=some (.slice A0_0 l0_0.length c0_0):=(blk_cell BK244.out 0).trans rfl;have hcz10_1 : w8.cell? ⟨gb244,1,none⟩=some (.int .i64 a0_1):=(blk_cell BK244.out 1).trans rfl;have hcz10_2 : w8.cell? ⟨gb244,2,none⟩=some (.int .i64 a0_2):=(blk_cell BK244.out 2).trans rfl;have hcz10_3 : w8.cell? ⟨gb244,3,none⟩=some (.int .i64 a0_3):=(blk_cell BK244.out 3).trans rfl;have hfz10_0:=blk_frozen BK244.out 0;have hfz10_1:=blk_frozen BK244.out 1;have hfz10_2:=blk_frozen BK244.out 2;have hfz10_3:=blk_frozen BK244.out 3;have hcz11_0 : w8.cell? ⟨gb245,0,none⟩=some (.bool a1_0):=(blk_cell BK245.out 0).trans rfl;have hcz11_1 : w8.cell? ⟨gb245,1,none⟩=some (.bool a1_1):=(blk_cell BK245.out 1).trans rfl;have hcz11_2 : w8.cell? ⟨gb245,2,none⟩=some (.slice A1_2 l1_2.length c1_2):=(blk_cell BK245.out 2).trans rfl;have hcz11_3 : w8.cell? ⟨gb245,3,none⟩=some (.slice A1_3 l1_3.length c1_3):=(blk_cell BK245.out 3).trans rfl;have hfz11_0:=blk_frozen BK245.out 0;have hfz11_1:=blk_frozen BK245.out 1;have hfz11_2:=blk_frozen BK245.out 2;have hfz11_3:=blk_frozen BK245.out 3)|((with_reducible refine gate_callee (f:=20) rfl ?_);refine goesL_ (some 13) rfl rfl Try.func20 (by kernel_rfl) rfl #[.agg #[.slice A0_0 l0_0.length c0_0,.int .i64 a0_1,.int .i64 a0_2,.int .i64 a0_3],.slice A2 l2.length c2,.slice A1_2 l1_2.length c1_2] rfl (by (try simp only [List.map_toArray,List.map_cons,List.map_nil]);first|done|rfl|(simp only [List.length_drop,List.length_take];rfl)) ?_;(with_reducible refine (thresherref04_Compare.calls k _ _ l0_0 a0_1 a0_2 a0_3 _ _ l2 _ _ l1_2 t246 _ ?side1 ?side2 ?side3 ?side4 ?side5 ?side6 A4.out).mono ?_);(case side1=>repeat (first|exact (Kd.C_below HR0_0.out HB.out)|(with_reducible refine Kd.C_alloc ?_ _)|(with_reducible refine Kd.C_drewN ?_ _)|(with_reducible refine Kd.C_drew ?_)));(case side2=>exact HC0_0.out);(case side3=>repeat (first|exact (Kd.C_below HR2.out HB.out)|(with_reducible refine Kd.C_alloc ?_ _)|(with_reducible refine Kd.C_drewN ?_ _)|(with_reducible refine Kd.C_drew ?_)));(case side4=>exact HC2.out);(case side5=>repeat (first|exact (Kd.C_below HR1_2.out HB.out)|(with_reducible refine Kd.C_alloc ?_ _)|(with_reducible refine Kd.C_drewN ?_ _)|(with_reducible refine Kd.C_drew ?_)));(case side6=>exact HC1_2.out);rintro e w12 ⟨rfl,hb⟩;refine ⟨_,rfl,?_⟩;have n0_:=Aside0.mk (blk_below (g:=gb244) (o:=.cells #[.slice A0_0 l0_0.length c0_0,.int .i64 a0_1,.int .i64 a0_2,.int .i64 a0_3] 33 (0,0)) (blk_up BK244.out) hb);have n1_:=Aside0.mk (blk_below (g:=gb245) (o:=.cells #[.bool a1_0,.bool a1_1,.slice A1_2 l1_2.length c1_2,.slice A1_3 l1_3.length c1_3] 29 (0,0)) (blk_up BK245.out) hb);have n2_:=Aside0.mk (below_step (by repeat (first|(with_reducible first|exact HB.out|apply below_alloc|apply pw_below_drewN|apply below_drew1|refine below_set ?_ GE244.out|refine below_set ?_ GE245.out)|exact HB.out)) hb);clear BK244;clear BK245;clear HB;have BK244:=n0_;have BK245:=n1_;have HB:=n2_;clear n0_ n1_ n2_;(try clear hb);(try clear hb2);(try clear hk);(try clear hi);have hcz13_0 : w12.cell? ⟨gb244,0,none⟩=some (.slice A0_0 l0_0.length c0_0):=(blk_cell BK244.out 0).trans rfl;have hcz13_1 : w12.cell? ⟨gb244,1,none⟩=some (.int .i64 a0_1):=(blk_cell BK244.out 1).trans rfl;have hcz13_2 : w12.cell? ⟨gb244,2,none⟩=some (.int .i64 a0_2):=(blk_cell BK244.out 2).trans rfl;have hcz13_3 : w12.cell? ⟨gb244,3,none⟩=some (.int .i64 a0_3):=(blk_cell BK244.out 3).trans rfl;have hfz13_0:=blk_frozen BK244.out 0;have hfz13_1:=blk_frozen BK244.out 1;have hfz13_2:=blk_frozen BK244.out 2;have hfz13_3:=blk_frozen BK244.out 3;have hcz14_0 : w12.cell? ⟨gb245,0,none⟩=some (.bool a1_0):=(blk_cell BK245.out 0).trans rfl;have hcz14_1 : w12.cell? ⟨gb245,1,none⟩=some (.bool a1_1):=(blk_cell BK245.out 1).trans rfl;have hcz14_2 : w12.cell? ⟨gb245,2,none⟩=some (.slice A1_2 l1_2.length c1_2):=(blk_cell BK245.out 2).trans rfl;have hcz14_3 : w12.cell? ⟨gb245,3,none⟩=some (.slice A1_3 l1_3.length c1_3):=(blk_cell BK245.out 3).trans rfl;have hfz14_0:=blk_frozen BK245.out 0;have hfz14_1:=blk_frozen BK245.out 1;have hfz14_2:=blk_frozen BK245.out 2;have hfz14_3:=blk_frozen BK245.out 3)|((with_reducible refine gate_callee (f:=20) rfl ?_);refine goesL_ (some 18) rfl rfl Try.func20 (by kernel_rfl) rfl #[.agg #[.slice A0_0 l0_0.length c0_0,.int .i64 a0_1,.int .i64 a0_2,.int .i64 a0_3],.slice A2 l2.length c2,.slice A1_3 l1_3.length c1_3] rfl (by (try simp only [List.map_toArray,List.map_cons,List.map_nil]);first|done|rfl|(simp only [List.length_drop,List.length_take];rfl)) ?_;(with_reducible refine (thresherref04_Compare.calls k _ _ l0_0 a0_1 a0_2 a0_3 _ _ l2 _ _ l1_3 t247 _ ?side1 ?side2 ?side3 ?side4 ?side5 ?side6 A5.out).mono ?_);(case side1=>repeat (first|exact (Kd.C_below HR0_0.out HB.out)|(with_reducible refine Kd.C_alloc ?_ _)|(with_reducible refine Kd.C_drewN ?_ _)|(with_reducible refine Kd.C_drew ?_)));(case side2=>exact HC0_0.out);(case side3=>repeat (first|exact (Kd.C_below HR2.out HB.out)|(with_reducible refine Kd.C_alloc ?_ _)|(with_reducible refine Kd.C_drewN ?_ _)|(with_reducible refine Kd.C_drew ?_)));(case side4=>exact HC2.out);(case side5=>repeat (first|exact (Kd.C_below HR1_3.out HB.out)|(with_reducible refine Kd.C_alloc ?_ _)|(with_reducible refine Kd.C_drewN ?_ _)|(with_reducible refine Kd.C_drew ?_)));(case side6=>exact HC1_3.out);rintro e w15 ⟨rfl,hb⟩;refine ⟨_,rfl,?_⟩;have n0_:=Aside0.mk (blk_below (g:=gb244) (o:=.cells #[.slice A0_0 l0_0.length c0_0,.int .i64 a0_1,.int .i64 a0_2,.int .i64 a0_3] 33 (0,0)) (blk_up BK244.out) hb);have n1_:=Aside0.mk (blk_below (g:=gb245) (o:=.cells #[.bool a1_0,.bool a1_1,.slice A1_2 l1_2.length c1_2,.slice A1_3 l1_3.length c1_3] 29 (0,0)) (blk_up BK245.out) hb);have n2_:=Aside0.mk (below_step (by repeat (first|(with_reducible first|exact HB.out|apply below_alloc|apply pw_below_drewN|apply below_drew1|refine below_set ?_ GE244.out|refine below_set ?_ GE245.out)|exact HB.out)) hb);clear BK244;clear BK245;clear HB;have BK244:=n0_;have BK245:=n1_;have HB:=n2_;clear n0_ n1_ n2_;(try clear hb);(try clear hb2);(try clear hk);(try clear hi)))
 (try simp only [Act.put,List.setIfInBounds_toArray,List.set_cons_zero,List.set_cons_succ])
 go_cut [6] (fun v6 wc=>∃ (kq : Nat) (x6_5 : Bool),v6=.bool x6_5∧Aside0 (thresherref12_In.j0 kq x6_5=some r)∧Aside0 (kq≤k)∧Aside0 (wc.heap[gb244]?=some (.cells #[(.slice A0_0 l0_0.length c0_0),.int .i64 a0_1,.int .i64 a0_2,.int .i64 a0_3] 33 (0,0)))∧Aside0 (wc.heap[gb245]?=some (.cells #[.bool a1_0,.bool a1_1,(.slice A1_2 l1_2.length c1_2),(.slice A1_3 l1_3.length c1_3)] 29 (0,0)))∧Aside0 (Below w.heap.size w wc))
 case first =>
  have H:=HC6.out
  clear HC6
  by_cases c16 : a1_0=true
  ·subst c16
   have H1 : (if t246 < 0 then (thresherref12_In.j0 k false) else (if a1_1=true then (thresherref12_In.j0 k (!(decide (t247 > 0)))) else (thresherref12_In.j0 k (!false))))=some r:=by rw [if_pos rfl] at H;exact H
   clear H
   have H:=H1
   clear H1
   by_cases c17 : t246 < 0
   ·rw [if_pos c17] at H
    have c17b0 : decide (t246 < 0)=true:=decide_eq_true c17
    clear c17
    (first|rw [c17b0]|(simp only [i64_w,i32_w];rw [c17b0])|skip)
    have H':=Aside0.mk H
    clear H
    have hnb18:=NB245_244.out
    have hnc18:=NB244_245.out
    have hcz19_0 : w15.cell? ⟨gb245,0,none⟩=some (.bool true):=(blk_cell BK245.out 0).trans rfl
    have hcz19_1 : w15.cell? ⟨gb245,1,none⟩=some (.bool a1_1):=(blk_cell BK245.out 1).trans rfl
    have hcz19_2 : w15.cell? ⟨gb245,2,none⟩=some (.slice A1_2 l1_2.length c1_2):=(blk_cell BK245.out 2).trans rfl
    have hcz19_3 : w15.cell? ⟨gb245,3,none⟩=some (.slice A1_3 l1_3.length c1_3):=(blk_cell BK245.out 3).trans rfl
    have hfz19_0:=blk_frozen BK245.out 0
    have hfz19_1:=blk_frozen BK245.out 1
    have hfz19_2:=blk_frozen BK245.out 2
    have hfz19_3:=blk_frozen BK245.out 3
    go_wp2
    go_meet
    case rel=>exact ⟨_,(false),(by first|rfl|(simp;done)|(simp [*];done)),(by first|exact H'|(subst_vars;exact H')),⟨by first|omega|exact Nat.le_refl _⟩,⟨by (with_reducible repeat (first|refine blk_drewN ?_ _|refine blk_drew ?_|refine blk_alloc ?_ _));exact BK244.out⟩,⟨by (with_reducible repeat (first|refine blk_drewN ?_ _|refine blk_drew ?_|refine blk_alloc ?_ _));exact BK245.out⟩,⟨by repeat (first|(with_reducible first|exact HB.out|apply below_alloc|apply pw_below_drewN|apply below_drew1|refine below_set ?_ GE244.out|refine below_set ?_ GE245.out)|exact HB.out)⟩⟩
   ·rw [if_neg c17] at H
    have c17b0 : decide (t246 < 0)=false:=decide_eq_false c17
    clear c17
    (first|rw [c17b0]|(simp only [i64_w,i32_w];rw [c17b0])|skip)
    by_cases c20 : a1_1=true
    ·subst c20
     have H1 : (thresherref12_In.j0 k (!(decide (t247 > 0))))=some r:=by rw [if_pos rfl] at H;exact H
     clear H
     have H:=H1
     clear H1
     have H':=Aside0.mk H
     clear H
     have hnb21:=NB245_244.out
     have hnc21:=NB244_245.out
     have hcz22_0 : w15.cell? ⟨gb245,0,none⟩=some (.bool true):=(blk_cell BK245.out 0).trans rfl
     have hcz22_1 : w15.cell? ⟨gb245,1,none⟩=some (.bool true):=(blk_cell BK245.out 1).trans rfl
     have hcz22_2 : w15.cell? ⟨gb245,2,none⟩=some (.slice A1_2 l1_2.length c1_2):=(blk_cell BK245.out 2).trans rfl
     have hcz22_3 : w15.cell? ⟨gb245,3,none⟩=some (.slice A1_3 l1_3.length c1_3):=(blk_cell BK245.out 3).trans rfl
     have hfz22_0:=blk_frozen BK245.out 0
     have hfz22_1:=blk_frozen BK245.out 1
     have hfz22_2:=blk_frozen BK245.out 2
     have hfz22_3:=blk_frozen BK245.out 3
     go_wp2
     go_meet
     case rel=>exact ⟨_,(!(decide (t247 > 0))),(by first|rfl|(simp;done)|(simp [*];done)),(by first|exact H'|(subst_vars;exact H')),⟨by first|omega|exact Nat.le_refl _⟩,⟨by (with_reducible repeat (first|refine blk_drewN ?_ _|refine blk_drew ?_|refine blk_alloc ?_ _));exact BK244.out⟩,⟨by (with_reducible repeat (first|refine blk_drewN ?_ _|refine blk_drew ?_|refine blk_alloc ?_ _));exact BK245.out⟩,⟨by repeat (first|(with_reducible first|exact HB.out|apply below_alloc|apply pw_below_drewN|apply below_drew1|refine below_set ?_ GE244.out|refine below_set ?_ GE245.out)|exact HB.out)⟩⟩
    ·replace c20:=Bool.eq_false_iff.mpr c20
     subst c20
     have H1 : (thresherref12_In.j0 k (!false))=some r:=by rw [if_neg (show ¬ (false=true) by decide)] at H;exact H
     clear H
     have H:=H1
     clear H1
     have H':=Aside0.mk H
     clear H
     have hnb23:=NB245_244.out
     have hnc23:=NB244_245.out
     have hcz24_0 : w15.cell? ⟨gb245,0,none⟩=some (.bool true):=(blk_cell BK245.out 0).trans rfl
     have hcz24_1 : w15.cell? ⟨gb245,1,none⟩=some (.bool false):=(blk_cell BK245.out 1).trans rfl
     have hcz24_2 : w15.cell? ⟨gb245,2,none⟩=some (.slice A1_2 l1_2.length c1_2):=(blk_cell BK245.out 2).trans rfl
     have hcz24_3 : w15.cell? ⟨gb245,3,none⟩=some (.slice A1_3 l1_3.length c1_3):=(blk_cell BK245.out 3).trans rfl
     have hfz24_0:=blk_frozen BK245.out 0
     have hfz24_1:=blk_frozen BK245.out 1
     have hfz24_2:=blk_frozen BK245.out 2
     have hfz24_3:=blk_frozen BK245.out 3
     go_wp2
     go_meet
     case rel=>exact ⟨_,(!false),(by first|rfl|(simp;done)|(simp [*];done)),(by first|exact H'|(subst_vars;exact H')),⟨by first|omega|exact Nat.le_refl _⟩,⟨by (with_reducible repeat (first|refine blk_drewN ?_ _|refine blk_drew ?_|refine blk_alloc ?_ _));exact BK244.out⟩,⟨by (with_reducible repeat (first|refine blk_drewN ?_ _|refine blk_drew ?_|refine blk_alloc ?_ _));exact BK245.out⟩,⟨by repeat (first|(with_reducible first|exact HB.out|apply below_alloc|apply pw_below_drewN|apply below_drew1|refine below_set ?_ GE244.out|refine below_set ?_ GE245.out)|exact HB.out)⟩⟩
  ·replace c16:=Bool.eq_false_iff.mpr c16
   subst c16
   have H1 : (if a1_1=true then (thresherref12_In.j0 k (!(decide (t247 > 0)))) else (thresherref12_In.j0 k (!false)))=some r:=by rw [if_neg (show ¬ (false=true) by decide)] at H;exact H
   clear H
   have H:=H1
   clear H1
   by_cases c25 : a1_1=true
   ·subst c25
    have H1 : (thresherref12_In.j0 k (!(decide (t247 > 0))))=some r:=by rw [if_pos rfl] at H;exact H
    clear H
    have H:=H1
    clear H1
    have H':=Aside0.mk H
    clear H
    have hnb26:=NB245_244.out
    have hnc26:=NB244_245.out
    have hcz27_0 : w15.cell? ⟨gb245,0,none⟩=some (.bool false):=(blk_cell BK245.out 0).trans rfl
    have hcz27_1 : w15.cell? ⟨gb245,1,none⟩=some (.bool true):=(blk_cell BK245.out 1).trans rfl
    have hcz27_2 : w15.cell? ⟨gb245,2,none⟩=some (.slice A1_2 l1_2.length c1_2):=(blk_cell BK245.out 2).trans rfl
    have hcz27_3 : w15.cell? ⟨gb245,3,none⟩=some (.slice A1_3 l1_3.length c1_3):=(blk_cell BK245.out 3).trans rfl
    have hfz27_0:=blk_frozen BK245.out 0
    have hfz27_1:=blk_frozen BK245.out 1
    have hfz27_2:=blk_frozen BK245.out 2
    have hfz27_3:=blk_frozen BK245.out 3
    go_wp2
    go_meet
    case rel=>exact ⟨_,(!(decide (t247 > 0))),(by first|rfl|(simp;done)|(simp [*];done)),(by first|exact H'|(subst_vars;exact H')),⟨by first|omega|exact Nat.le_refl _⟩,⟨by (with_reducible repeat (first|refine blk_drewN ?_ _|refine blk_drew ?_|refine blk_alloc ?_ _));exact BK244.out⟩,⟨by (with_reducible repeat (first|refine blk_drewN ?_ _|refine blk_drew ?_|refine blk_alloc ?_ _));exact BK245.out⟩,⟨by repeat (first|(with_reducible first|exact HB.out|apply below_alloc|apply pw_below_drewN|apply below_drew1|refine below_set ?_ GE244.out|refine below_set ?_ GE245.out)|exact HB.out)⟩⟩
   ·replace c25:=Bool.eq_false_iff.mpr c25
    subst c25
    have H1 : (thresherref12_In.j0 k (!false))=some r:=by rw [if_neg (show ¬ (false=true) by decide)] at H;exact H
    clear H
    have H:=H1
    clear H1
    have H':=Aside0.mk H
    clear H
    have hnb28:=NB245_244.out
    have hnc28:=NB244_245.out
    have hcz29_0 : w15.cell? ⟨gb245,0,none⟩=some (.bool false):=(blk_cell BK245.out 0).trans rfl
    have hcz29_1 : w15.cell? ⟨gb245,1,none⟩=some (.bool false):=(blk_cell BK245.out 1).trans rfl
    have hcz29_2 : w15.cell? ⟨gb245,2,none⟩=some (.slice A1_2 l1_2.length c1_2):=(blk_cell BK245.out 2).trans rfl
    have hcz29_3 : w15.cell? ⟨gb245,3,none⟩=some (.slice A1_3 l1_3.length c1_3):=(blk_cell BK245.out 3).trans rfl
    have hfz29_0:=blk_frozen BK245.out 0
    have hfz29_1:=blk_frozen BK245.out 1
    have hfz29_2:=blk_frozen BK245.out 2
    have hfz29_3:=blk_frozen BK245.out 3
    go_wp2
    go_meet
    case rel=>exact ⟨_,(!false),(by first|rfl|(simp;done)|(simp [*];done)),(by first|exact H'|(subst_vars;exact H')),⟨by first|omega|exact Nat.le_refl _⟩,⟨by (with_reducible repeat (first|refine blk_drewN ?_ _|refine blk_drew ?_|refine blk_alloc ?_ _));exact BK244.out⟩,⟨by (with_reducible repeat (first|refine blk_drewN ?_ _|refine blk_drew ?_|refine blk_alloc ?_ _));exact BK245.out⟩,⟨by repeat (first|(with_reducible first|exact HB.out|apply below_alloc|apply pw_below_drewN|apply below_drew1|refine below_set ?_ GE244.out|refine below_set ?_ GE245.out)|exact HB.out)⟩⟩
 case rest =>
  clear HC6
  try clear c1
  try clear c2
  try clear p2
  try clear c9
  try clear c13
  try clear c16
  try clear c17
  try clear c17b0
  try clear c18
  try clear c20
  try clear c21
  try clear c23
  try clear c25
  try clear c26
  try clear c28
  try clear hcz10_0
  try clear hcz10_1
  try clear hcz10_2
  try clear hcz10_3
  try clear hcz11_0
  try clear hcz11_1
  try clear hcz11_2
  try clear hcz11_3
  try clear hcz13_0
  try clear hcz13_1
  try clear hcz13_2
  try clear hcz13_3
  try clear hcz14_0
  try clear hcz14_1
  try clear hcz14_2
  try clear hcz14_3
  try clear hcz19_0
  try clear hcz19_1
  try clear hcz19_2
  try clear hcz19_3
  try clear hcz22_0
  try clear hcz22_1
  try clear hcz22_2
  try clear hcz22_3
  try clear hcz24_0
  try clear hcz24_1
  try clear hcz24_2
  try clear hcz24_3
  try clear hcz27_0
  try clear hcz27_1
  try clear hcz27_2
  try clear hcz27_3
  try clear hcz29_0
  try clear hcz29_1
  try clear hcz29_2
  try clear hcz29_3
  try clear hfz10_0
  try clear hfz10_1
  try clear hfz10_2
  try clear hfz10_3
  try clear hfz11_0
  try clear hfz11_1
  try clear hfz11_2
  try clear hfz11_3
  try clear hfz13_0
  try clear hfz13_1
  try clear hfz13_2
  try clear hfz13_3
  try clear hfz14_0
  try clear hfz14_1
  try clear hfz14_2
  try clear hfz14_3
  try clear hfz19_0
  try clear hfz19_1
  try clear hfz19_2
  try clear hfz19_3
  try clear hfz22_0
  try clear hfz22_1
  try clear hfz22_2
  try clear hfz22_3
  try clear hfz24_0
  try clear hfz24_1
  try clear hfz24_2
  try clear hfz24_3
  try clear hfz27_0
  try clear hfz27_1
  try clear hfz27_2
  try clear hfz27_3
  try clear hfz29_0
  try clear hfz29_1
  try clear hfz29_2
  try clear hfz29_3
  obtain ⟨kq,x6_5,rfl,HA,HJ5,BK244,BK245,HB⟩:=hcut
  cases kq with
  | zero=>exact absurd HA.out (by simp [thresherref12_In.j0])
  | succ kj5 =>
   have H:=HA.out
   clear HA
   simp only [thresherref12_In.j0] at H
   obtain rfl:=Option.some.inj H
   go_wp2
   go_ret
   exact ⟨by first|rfl|(simp [errW_none,errW_some] <;> rfl)|(simp [*,errW_none,errW_some] <;> rfl),by repeat (first|(with_reducible first|exact HB.out|apply below_alloc|apply pw_below_drewN|apply below_drew1|refine below_set ?_ GE244.out|refine below_set ?_ GE245.out)|exact HB.out)⟩
def thresherref10_Key.f (l0_0 : List Int) (a0_1 : Int) (a0_2 : Int) (a0_3 : Int) (l1 : List (S44)) : Option ((List (S44))):=(some (([] : List (S44)) : List (S44))).bind fun y249=>(if 0≤a0_1 then (if a0_1≤(l1.length : Int) then ((some (l1.take (a0_1 : Int).toNat : List (S44))).bind fun y252=>(if y249.length + y252.length < 5864062014805 then (some (y249 ++ y252)) else (none))) else (none)) else (none))
set_option maxHeartbeats 8000000 in
set_option maxRecDepth 100000 in
theorem thresherref10_Key.calls (A0_0 : Option Addr) (c0_0 : Nat) (l0_0 : List Int) (a0_1 : Int) (a0_2 : Int) (a0_3 : Int) (A1 : Option Addr) (c1 : Nat) (l1 : List (S44)) (r : List (S44)) (w : World) (hr0_0 : Kd.C (Kd.int .i64) w A0_0 l0_0.length l0_0) (hc0_0 : l0_0.length≤c0_0) (hr1 : Kd.C k44 w A1 l1.length l1) (hc1 : l1.length≤c1) (h : thresherref10_Key.f l0_0 a0_1 a0_2 a0_3 l1=some r) :
  Calls Try.prog 19 #[.agg #[.slice A0_0 l0_0.length c0_0,.int .i64 a0_1,.int .i64 a0_2,.int .i64 a0_3],.slice A1 l1.length c1] w fun e w'=>∃ v0_ : Value,e=.returned (v0_)∧Kd.R k44 44 w' w.heap.size (fun _=>True) v0_ r∧Below w.heap.size w w':=by
 have hu33:=Try.underlying33
 have HR0_0:=Aside0.mk hr0_0
 have HC0_0:=Aside0.mk hc0_0
 clear hr0_0 hc0_0
 have HR1:=Aside0.mk hr1
 have HC1:=Aside0.mk hc1
 clear hr1 hc1
 have HB:=Aside0.mk (Below.refl w.heap.size w)
 have H : ((some (([] : List (S44)) : List (S44))).bind fun y249=>(if 0≤a0_1 then (if a0_1≤(l1.length : Int) then ((some (l1.take (a0_1 : Int).toNat : List (S44))).bind fun y252=>(if y249.length + y252.length < 5864062014805 then (some (y249 ++ y252)) else (none))) else (none)) else (none)))=some r:=h
 clear h
 obtain ⟨y249,hy249⟩ : ∃ y_ : List (S44),y_=(([] : List (S44))):=⟨_,rfl⟩
 replace H : (if 0≤a0_1 then (if a0_1≤(l1.length : Int) then ((some (l1.take (a0_1 : Int).toNat : List (S44))).bind fun y252=>(if y249.length + y252.length < 5864062014805 then (some (y249 ++ y252)) else (none))) else (none)) else (none))=some r:=by first|(rw [hy249];with_reducible exact H)|(have H2_:=(Option.bind_some _ _).symm.trans H;rw [hy249];with_reducible exact H2_)|(have H2_:=(Option.bind_some _ _).symm.trans H;with_reducible exact H2_)|with_reducible exact H|(rw [hy249];exact H)|exact H
 have Ny249:=Aside0.mk hy249
 clear hy249
 by_cases c3 : 0≤a0_1
 ·rw [if_pos c3] at H
  have c3b0:=eq_true c3
  have c3b1 : decide (0≤a0_1)=true:=decide_eq_true c3
  clear c3
  by_cases c4 : a0_1≤(l1.length : Int)
  ·rw [if_pos c4] at H
   have c4b0:=eq_true c4
   have c4b1 : decide (a0_1≤(l1.length : Int))=true:=decide_eq_true c4
   clear c4
   obtain ⟨y252,hy252⟩ : ∃ y_ : List (S44),y_=(l1.take (a0_1 : Int).toNat):=⟨_,rfl⟩
   replace H : (if y249.length + y252.length < 5864062014805 then (some (y249 ++ y252)) else (none))=some r:=by first|(rw [hy252];with_reducible exact H)|(have H2_:=(Option.bind_some _ _).symm.trans H;rw [hy252];with_reducible exact H2_)|(have H2_:=(Option.bind_some _ _).symm.trans H;with_reducible exact H2_)|with_reducible exact H|(rw [hy252];exact H)|exact H
   have Ny252:=Aside0.mk hy252
   clear hy252
   by_cases c5 : y249.length + y252.length < 5864062014805
   ·rw [if_pos c5] at H
    have LMc5:=Aside0.mk c5
    clear c5
    obtain ⟨y256,hy256⟩ : ∃ y_ : List (S44),y_=(y249 ++ y252):=⟨_,rfl⟩
    replace H : (some y256)=some r:=by first|(rw [hy256];with_reducible exact H)|(have H2_:=(Option.bind_some _ _).symm.trans H;rw [hy256];with_reducible exact H2_)|(have H2_:=(Option.bind_some _ _).symm.trans H;with_reducible exact H2_)|with_reducible exact H|(rw [hy256];exact H)|exact H
    have Ny256:=Aside0.mk hy256
    clear hy256
    obtain rfl:=Option.some.inj H
    go_enter Try.func19,Try.ntmps19
    go_wp2_with (first|((with_reducible refine gate_dst (N:=2) rfl ?_);refine box_event ?hg (N:=2) ?hd (cs:=#[.slice A0_0 l0_0.length c0_0,.int .i64 a0_1,.int .i64 a0_2,.int .i64 a0_3]) (t:=33) ?hr ?_;(case hd=>rfl);(case hg=>rfl);(case hr=>first|(go_simp;done)|(go_simp;rfl));intro gb248 hg w6 hbox hb;have n0_:=Aside0.mk (below_step (below_up HB.out) hb);have n1_:=Aside0.mk (hbox);have n2_:=Aside0.mk ((by rw [hg];exact (below_size (below_up HB.out)) : w.heap.size≤gb248));have n3_:=Aside0.mk ((by rw [hg];exact (below_size (below_up HB.out)) : w.heap.size≤gb248));clear HB;have HB:=n0_;have BK248:=n1_;have GW248:=n2_;have GE248:=n3_;clear n0_ n1_ n2_ n3_;clear hb hbox hg)|((with_reducible refine gate_dst (N:=5) rfl ?_);refine Kd.R_lit k44 _ 44 ?hg (N:=5) ?hd (xs:=([] : List (S44))) (inner:=[]) (ok:=fun _=>True) (okp:=fun _=>True) ?hr ?hp (fun _ hk=>hk) trivial (Below.refl _ _) (Nat.le_refl _) (by simp) ?_;(case hd=>rfl);(case hg=>rfl);(case hr=>first|(go_simp;done)|(go_simp;rfl));(case hp=>exact (Reps.none _ _));intro v250 w7 ho8 hb hg_ hnew_;clear hg_ hnew_;(first|rw [← Ny249.out] at ho8|(simp only [Int.reduceToNat] at ho8;rw [← Ny249.out] at ho8));have n0_:=Aside0.mk (Kd.R_lower ho8 (below_size (by repeat (first|(with_reducible first|exact HB.out|apply below_alloc|apply pw_below_drewN|apply below_drew1|refine below_set ?_ GE248.out)|exact HB.out))));have n1_:=Aside0.mk (blk_below (g:=gb248) (o:=.cells #[.slice A0_0 l0_0.length c0_0,.int .i64 a0_1,.int .i64 a0_2,.int .i64 a0_3] 33 (0,0)) (blk_up BK248.out) hb);have n2_:=Aside0.mk (below_step (by repeat (first|(with_reducible first|exact HB.out|apply below_alloc|apply pw_below_drewN|apply below_drew1|refine below_set ?_ GE248.out)|exact HB.out)) hb);clear BK248;clear HB;have HO251:=n0_;have BK248:=n1_;have HB:=n2_;clear n0_ n1_ n2_;clear hb ho8;have hcz9_0 : w7.cell? ⟨gb248,0,none⟩=some (.slice A0_0 l0_0.length c0_0):=(blk_cell BK248.out 0).trans rfl;have hcz9_1 : w7.cell? ⟨gb248,1,none⟩=some (.int .i64 a0_1):=(blk_cell BK248.out 1).trans rfl;have hcz9_2 : w7.cell? ⟨gb248,2,none⟩=some (.int .i64 a0_2):=(blk_cell BK248.out 2).trans rfl;have hcz9_3 : w7.cell? ⟨gb248,3,none⟩=some (.int .i64 a0_3):=(blk_cell BK248.out 3).trans rfl;have hfz9_0:=blk_frozen BK248.out 0;have hfz9_1:=blk_frozen BK248.out 1;have hfz9_2:=blk_frozen BK248.out 2;have hfz9_3:=blk_frozen BK248.out 3;have q10 : (a0_1 : Int)≤((l1.length : Int) : Int):=of_decide_eq_true (by first|(with_reducible assumption)|assumption);obtain ⟨i010,hi010,_,hsz10,_⟩:=info_parts info44;have hroom10 : l1.length≤c1:=HC1.out;have hC10 : Kd.C k44 _ A1 l1.length l1:=HR1.out;have hcut10:=cut_to (P:=Try.prog) 27 44 .i64 Try.underlying27 hi010 A1 l1.length c1 a0_1 (of_decide_eq_true (by first|(with_reducible assumption)|assumption)) q10 hroom10;have hr10:=Kd.C_take (m:=(a0_1 : Int).toNat) hC10 (by omega);have hy10 : y252.length=(a0_1 : Int).toNat:=(by rw [Ny252.out,List.length_take];omega);rw [← Ny252.out] at hr10;rw [← hy10] at hcut10;have HR255:=Aside0.mk hr10;have HC255:=Aside0.mk (show y252.length≤c1 from by omega);clear hr10 hC10 hroom10 hi010 hsz10;have KY10:=Aside0.mk hy10;clear hy10;replace q10:=eq_true q10)|((with_reducible refine gate_builtin (b:=.append) (xs:=#[.tmp 5,.tmp 9]) rfl ?_);at_builtin;refine Kd.R_append_rows k44 (w0:=w) w.heap.size rfl (.tmp 5) (.tmp 9) 27 44 (.agg #[(.int .i64 0),(.string ⟨#[]⟩)]) 24 rfl Try.underlying27 info44 rfl (by decide) (by omega) v250 y249 y252 _ _ _ (fun _=>True) (fun _=>False) rfl rfl ?aO ?aR (fun _ _ h=>h) (fun _ h=>h.elim) ?aF ?aB ?aS ?aL ?_;(case aR=>repeat (first|exact (Kd.C_below HR255.out HB.out)|(with_reducible refine Kd.C_alloc ?_ _)|(with_reducible refine Kd.C_drewN ?_ _)|(with_reducible refine Kd.C_drew ?_)));(case aB=>exact (by repeat (first|(with_reducible first|exact HB.out|apply below_alloc|apply pw_below_drewN|apply below_drew1|refine below_set ?_ GE248.out)|exact HB.out)));(case aF=>exact (fun _ _=>trivial));(case aO=>exact (R_up HO251.out));(case aS=>exact (below_size (by repeat (first|(with_reducible first|exact HB.out|apply below_alloc|apply pw_below_drewN|apply below_drew1|refine below_set ?_ GE248.out)|exact HB.out))));(case aL=>have:=LMc5.out;omega);intro v257 w11 ho hb hg hat;rw [← Ny256.out] at ho;have n0_:=Aside0.mk (blk_grown (g:=gb248) (o:=.cells #[.slice A0_0 l0_0.length c0_0,.int .i64 a0_1,.int .i64 a0_2,.int .i64 a0_3] 33 (0,0)) (blk_up BK248.out) hg (Kd.R_ne HO251.out BK248.out (by decide)));have n1_:=Aside0.mk (hb);have n2_:=Aside0.mk (ho);clear BK248;clear HB;clear HO251;have BK248:=n0_;have HB:=n1_;have HO258:=n2_;clear n0_ n1_ n2_;clear ho hb hg hat))
    go_ret
    exact ⟨_,by first|rfl|(simp [errW_none,errW_some] <;> rfl)|(simp [*,errW_none,errW_some] <;> rfl),by (with_reducible repeat (first|apply Kd.R_alloc|apply Kd.R_drewN|apply Kd.R_drew));exact HO258.out,by repeat (first|(with_reducible first|exact HB.out|apply below_alloc|apply pw_below_drewN|apply below_drew1|refine below_set ?_ GE248.out)|exact HB.out)⟩
   ·rw [if_neg c5] at H
    exact absurd H (by simp)
  ·rw [if_neg c4] at H
   exact absurd H (by simp)
 ·rw [if_neg c3] at H
  exact absurd H (by simp)
def thresherref10_Marks.l0 : Nat→List (List (S44))→List (List (S44))→Int→List Int→Int→Int→Int→Option ((List (List (S44))))
 | 0,_,_,_,_,_,_,_=>none
 | k + 1,x1,x5,x6,x260000,x260001,x260002,x260003=>if x6 < (x1.length : Int) then (if x260003=0 then (none) else (if (Int.tmod x6 x260003)=0 then (if 0≤x6 then ((thresherref10_Key.f x260000 x260001 x260002 x260003 (rd_L5 x1 x6)).bind fun t264=>(if x5.length < 5864062014805 then (thresherref10_Marks.l0 k x1 (x5 ++ [t264]) (wrap64 (x6 + 1)) x260000 x260001 x260002 x260003) else (none))) else (none)) else (thresherref10_Marks.l0 k x1 x5 (wrap64 (x6 + 1)) x260000 x260001 x260002 x260003))) else (some x5)
def thresherref10_Marks.f (k : Nat) (l0_0 : List Int) (a0_1 : Int) (a0_2 : Int) (a0_3 : Int) (l1 : List (List (S44))) : Option ((List (List (S44)))):=thresherref10_Marks.l0 k l1 (([] : List (List (S44)))) 0 l0_0 a0_1 a0_2 a0_3
theorem thresherref10_Marks.mono_l : ∀ k,(∀ y0 y1 y2 y3 y4 y5 y6,LeO (thresherref10_Marks.l0 k y0 y1 y2 y3 y4 y5 y6) (thresherref10_Marks.l0 (k + 1) y0 y1 y2 y3 y4 y5 y6))
 | 0=>fun _ _ _ _ _ _ _ r h=>by simp [thresherref10_Marks.l0] at h
 | k + 1=>by
  have ih0:=thresherref10_Marks.mono_l k
  ·intro y0 y1 y2 y3 y4 y5 y6
   unfold thresherref10_Marks.l0
   repeat' first
   | (with_reducible exact ih0 _ _ _ _ _ _ _)
   | (with_reducible exact LeO.refl _)
   | (with_reducible exact LeO.none _)
   | (with_reducible refine LeO.ite ?_ ?_)
   | (with_reducible refine LeO.bind ?_ (fun _=>?_))
   | exact ih0 _ _ _ _ _ _ _
   | exact LeO.none _
   | refine LeO.ite ?_ ?_
   | refine LeO.bind ?_ (fun _=>?_)
theorem thresherref10_Marks.mono : ∀ a0 a1 a2 a3 a4 k,LeO (thresherref10_Marks.f k a0 a1 a2 a3 a4) (thresherref10_Marks.f (k + 1) a0 a1 a2 a3 a4):=by
 intro a0 a1 a2 a3 a4 k
 have ih0:=thresherref10_Marks.mono_l k
 unfold thresherref10_Marks.f
 repeat' first
   | (with_reducible exact ih0 _ _ _ _ _ _ _)
   | (with_reducible exact LeO.refl _)
   | (with_reducible exact LeO.none _)
   | (with_reducible refine LeO.ite ?_ ?_)
   | (with_reducible refine LeO.bind ?_ (fun _=>?_))
   | exact ih0 _ _ _ _ _ _ _
   | exact LeO.none _
   | refine LeO.ite ?_ ?_
   | refine LeO.bind ?_ (fun _=>?_)
def thresherref10_Marks.T6 : Bool × List (List Nat × List Nat):=(true,[([],[]),([],[]),([],[]),([],[]),([2,3],[2,3]),([4],[4]),([1,5],[1,5]),([6],[6]),([0,7,6],[0,7]),([8,8,0,1,2,3,4,5,6,7,8],[0,8])])
def thresherref10_Marks.B6 : List Nat:=[0,0,0,0,12,28,62,126,255,511]
theorem thresherref10_Marks.tab6 : rtab .any (opsOf Try.f14 6)=thresherref10_Marks.T6:=by kernel_rfl
theorem thresherref10_Marks.bits6 : waitsOk thresherref10_Marks.T6.2 thresherref10_Marks.B6=true:=by kernel_rfl
set_option maxHeartbeats 8000000 in
set_option maxRecDepth 100000 in
theorem thresherref10_Marks.calls (k : Nat) (A0_0 : Option Addr) (c0_0 : Nat) (l0_0 : List Int) (a0_1 : Int) (a0_2 : Int) (a0_3 : Int) (A1 : Option Addr) (c1 : Nat) (l1 : List (List (S44))) (r : List (List (S44))) (w : World) (hr0_0 : Kd.C (Kd.int .i64) w A0_0 l0_0.length l0_0) (hc0_0 : l0_0.length≤c0_0) (hr1 : Kd.C (Kd.slice 44 k44) w A1 l1.length l1) (hc1 : l1.length≤c1) (h : thresherref10_Marks.f k l0_0 a0_1 a0_2 a0_3 l1=some r) :
  Calls Try.prog 14 #[.agg #[.slice A0_0 l0_0.length c0_0,.int .i64 a0_1,.int .i64 a0_2,.int .i64 a0_3],.slice A1 l1.length c1] w fun e w'=>∃ v0_ : Value,e=.returned (v0_)∧Kd.S (Kd.slice 44 k44) 27 w' w.heap.size (fun _=>True) v0_ r∧Below w.heap.size w w':=by
 have hu33:=Try.underlying33
 have HR0_0:=Aside0.mk hr0_0
 have HC0_0:=Aside0.mk hc0_0
 clear hr0_0 hc0_0
 have HR1:=Aside0.mk hr1
 have HC1:=Aside0.mk hc1
 clear hr1 hc1
 have HB:=Aside0.mk (Below.refl w.heap.size w)
 have H : (thresherref10_Marks.l0 k l1 (([] : List (List (S44)))) 0 l0_0 a0_1 a0_2 a0_3)=some r:=h
 clear h
 obtain ⟨y260,hy260⟩ : ∃ y_ : List (List (S44)),y_=(([] : List (List (S44)))):=⟨_,rfl⟩
 replace H : (thresherref10_Marks.l0 k l1 y260 0 l0_0 a0_1 a0_2 a0_3)=some r:=by first|(rw [hy260];with_reducible exact H)|(have H2_:=(Option.bind_some _ _).symm.trans H;rw [hy260];with_reducible exact H2_)|(have H2_:=(Option.bind_some _ _).symm.trans H;with_reducible exact H2_)|with_reducible exact H|(rw [hy260];exact H)|exact H
 have Ny260:=Aside0.mk hy260
 clear hy260
 have H':=Aside0.mk H
 clear H
 go_enter Try.func14,Try.ntmps14
 go_wp2_with (first|((with_reducible refine gate_dst (N:=2) rfl ?_);refine box_event ?hg (N:=2) ?hd (cs:=#[.slice A0_0 l0_0.length c0_0,.int .i64 a0_1,.int .i64 a0_2,.int .i64 a0_3]) (t:=33) ?hr ?_;(case hd=>rfl);(case hg=>rfl);(case hr=>first|(go_simp;done)|(go_simp;rfl));intro gb259 hg w3 hbox hb;have n0_:=Aside0.mk (below_step (below_up HB.out) hb);have n1_:=Aside0.mk (hbox);have n2_:=Aside0.mk ((by rw [hg];exact (below_size (below_up HB.out)) : w.heap.size≤gb259));have n3_:=Aside0.mk ((by rw [hg];exact (below_size (below_up HB.out)) : w.heap.size≤gb259));clear HB;have HB:=n0_;have BK259:=n1_;have GW259:=n2_;have GE259:=n3_;clear n0_ n1_ n2_ n3_;clear hb hbox hg)|((with_reducible refine gate_dst (N:=7) rfl ?_);refine Kd.S_lit (Kd.slice 44 k44) _ 27 ?hg (N:=7) ?hd (xs:=([] : List (List (S44)))) (inner:=[]) (ok:=fun _=>True) (okp:=fun _=>True) ?hr ?hp (fun _ hk=>hk) trivial (Below.refl _ _) (Nat.le_refl _) (by simp) ?_;(case hd=>rfl);(case hg=>rfl);(case hr=>first|(go_simp;done)|(go_simp;rfl));(case hp=>exact (Reps.none _ _));intro v261 w4 ho5 hb hg_ hnew_;clear hg_ hnew_;(first|rw [← Ny260.out] at ho5|(simp only [Int.reduceToNat] at ho5;rw [← Ny260.out] at ho5));have n0_:=Aside0.mk (Kd.S_lower ho5 (below_size (by repeat (first|(with_reducible first|exact HB.out|apply below_alloc|apply pw_below_drewN|apply below_drew1|refine below_set ?_ GE259.out)|exact HB.out))));have n1_:=Aside0.mk (blk_below (g:=gb259) (o:=.cells #[.slice A0_0 l0_0.length c0_0,.int .i64 a0_1,.int .i64 a0_2,.int .i64 a0_3] 33 (0,0)) (blk_up BK259.out) hb);have n2_:=Aside0.mk (below_step (by repeat (first|(with_reducible first|exact HB.out|apply below_alloc|apply pw_below_drewN|apply below_drew1|refine below_set ?_ GE259.out)|exact HB.out)) hb);clear BK259;clear HB;have HO262:=n0_;have BK259:=n1_;have HB:=n2_;clear n0_ n1_ n2_;clear hb ho5))
 go_loopg [5,6] k (fun kq v5 v6 w'=>∃ (x5_1 : List (List (S44))) (x6_1 : Int),v6=.int .i64 x6_1∧Aside0 (thresherref10_Marks.l0 kq l1 x5_1 x6_1 l0_0 a0_1 a0_2 a0_3=some r)∧Aside0 (kq≤k)∧Aside0 (Kd.S (Kd.slice 44 k44) 27 w' w.heap.size (fun _=>True) v5 x5_1)∧Aside0 (w'.heap[gb259]?=some (.cells #[(.slice A0_0 l0_0.length c0_0),.int .i64 a0_1,.int .i64 a0_2,.int .i64 a0_3] 33 (0,0)))∧Aside0 (Below w.heap.size w w'))
 case atStart=>exact ⟨(y260),(0),(by first|rfl|(simp;done)|(simp [*];done)),H',⟨Nat.le_refl _⟩,⟨by (with_reducible repeat (first|apply Kd.S_alloc|apply Kd.S_drewN|apply Kd.S_drew));exact HO262.out⟩,⟨by (with_reducible repeat (first|refine blk_drewN ?_ _|refine blk_drew ?_|refine blk_alloc ?_ _));exact BK259.out⟩,⟨by repeat (first|(with_reducible first|exact HB.out|apply below_alloc|apply pw_below_drewN|apply below_drew1|refine below_set ?_ GE259.out)|exact HB.out)⟩⟩
 case round =>
  clear H'
  try clear c1
  try clear p2
  obtain ⟨x5_1,x6_1,rfl,HA,HK1,HO_5,BK259,HB⟩:=hrel
  cases gk with
  | zero=>exact absurd HA.out (by simp [thresherref10_Marks.l0])
  | succ k1 =>
   have H:=HA.out
   clear HA
   simp only [thresherref10_Marks.l0] at H
   by_cases c6 : x6_1 < (l1.length : Int)
   ·rw [if_pos c6] at H
    have c6b0 : decide (x6_1 < (l1.length : Int))=true:=decide_eq_true c6
    clear c6
    by_cases c7 : a0_3=0
    ·rw [if_pos c7] at H
     exact absurd H (by simp)
    ·rw [if_neg c7] at H
     have c7b0 : (a0_3 == 0)=false:=beq_eq_false_iff_ne.mpr c7
     have c7b1 : (a0_3 != 0)=true:=bne_iff_ne.mpr c7
     by_cases c8 : (Int.tmod x6_1 a0_3)=0
     ·rw [if_pos c8] at H
      have c8b0 : ((Int.tmod x6_1 a0_3) == 0)=true:=beq_iff_eq.mpr c8
      have c8b1 : ((Int.tmod x6_1 a0_3) != 0)=false:=bne_eq_false_iff_eq.mpr c8
      clear c8
      by_cases c9 : 0≤x6_1
      ·rw [if_pos c9] at H
       have c9b0 : decide (0≤x6_1)=true:=decide_eq_true c9
       clear c9
       replace H:=Option.bind_eq_some_iff.mp H
       obtain ⟨t264,A100,H⟩:=H
       replace H : (if x5_1.length < 5864062014805 then (thresherref10_Marks.l0 k1 l1 (x5_1 ++ [t264]) (wrap64 (x6_1 + 1)) l0_0 a0_1 a0_2 a0_3) else (none))=some r:=H
       have A10:=Aside0.mk A100
       clear A100
       by_cases c11 : x5_1.length < 5864062014805
       ·rw [if_pos c11] at H
        have LMc11:=Aside0.mk c11
        clear c11
        obtain ⟨y267,hy267⟩ : ∃ y_ : List (List (S44)),y_=(x5_1 ++ [t264]):=⟨_,rfl⟩
        replace H : (thresherref10_Marks.l0 k1 l1 y267 (wrap64 (x6_1 + 1)) l0_0 a0_1 a0_2 a0_3)=some r:=by first|(rw [hy267];with_reducible exact H)|(have H2_:=(Option.bind_some _ _).symm.trans H;rw [hy267];with_reducible exact H2_)|(have H2_:=(Option.bind_some _ _).symm.trans H;with_reducible exact H2_)|with_reducible exact H|(rw [hy267];exact H)|exact H
        have Ny267:=Aside0.mk hy267
        clear hy267
        have H':=Aside0.mk H
        clear H
        have hcz12_0 : wr.cell? ⟨gb259,0,none⟩=some (.slice A0_0 l0_0.length c0_0):=(blk_cell BK259.out 0).trans rfl
        have hcz12_1 : wr.cell? ⟨gb259,1,none⟩=some (.int .i64 a0_1):=(blk_cell BK259.out 1).trans rfl
        have hcz12_2 : wr.cell? ⟨gb259,2,none⟩=some (.int .i64 a0_2):=(blk_cell BK259.out 2).trans rfl
        have hcz12_3 : wr.cell? ⟨gb259,3,none⟩=some (.int .i64 a0_3):=(blk_cell BK259.out 3).trans rfl
        have hfz12_0:=blk_frozen BK259.out 0
        have hfz12_1:=blk_frozen BK259.out 1
        have hfz12_2:=blk_frozen BK259.out 2
        have hfz12_3:=blk_frozen BK259.out 3
        try go_wp2
        have n0_:=Aside0.mk (Kd.S_drew HO_5.out)
        have n1_:=Aside0.mk (blk_drew BK259.out)
        have n2_:=Aside0.mk (below_drew1 HB.out)
        clear HO_5
        clear BK259
        clear HB
        have HO_5:=n0_
        have BK259:=n1_
        have HB:=n2_
        clear n0_ n1_ n2_
        have p263 : 0≤(x6_1 : Int):=of_decide_eq_true (by first|(with_reducible assumption)|assumption)
        have q263 : x6_1 < (l1.length : Int):=of_decide_eq_true (by first|(with_reducible assumption)|assumption)
        obtain ⟨ad263,A263_0,c263_0,e263,hx263_0,hl263_0,hi263_0⟩:=at_L5 HR1.out x6_1 p263 q263
        have hw263_0:=hx263_0
        cases e263
        replace hx263_0:=(HB.out.cell (World.block_lt_of_cell? w _ hx263_0)).trans hx263_0
        have HR263_0:=Aside0.mk hi263_0
        have HC263_0:=Aside0.mk hl263_0
        clear hi263_0 hl263_0
        replace p263:=eq_true p263
        replace q263:=eq_true q263
        refine start_ (n:=10) (S:=fun w'=>w'.cell? ⟨gb259,0,none⟩=some (.slice A0_0 l0_0.length c0_0)∧w'.cell? ⟨gb259,1,none⟩=some (.int .i64 a0_1)∧w'.cell? ⟨gb259,2,none⟩=some (.int .i64 a0_2)∧w'.cell? ⟨gb259,3,none⟩=some (.int .i64 a0_3)∧w'.cell? (ad263.add (x6_1).toNat)=some (.slice A263_0 (rd_L5 l1 x6_1).length c263_0)) (ds:=[]) #[false,false,false,false,false,false,false,false,false,false] (by kernel_rfl) rfl rfl ⟨(blk_cell BK259.out 0).trans rfl,(blk_cell BK259.out 1).trans rfl,(blk_cell BK259.out 2).trans rfl,(blk_cell BK259.out 3).trans rfl,((HB.out.cell (World.block_lt_of_cell? w _ hw263_0)).trans hw263_0)⟩ (fun hHeld=>?_);refine with_tabW thresherref10_Marks.tab6 thresherref10_Marks.bits6 (fun HT_ HW_=>?_)
        generalize wr.drew=w13 at HO_5 BK259 HB HR263_0 hx263_0 hHeld ⊢
        refine pure_ (i:=0) (N:=some 19) (v:=?_) (a':=?_) #[true,false,false,false,false,false,false,false,false,false] rfl rfl (any_of HT_.out (by kernel_rfl)) (fun _ _ _ h=>h) (Or.inl ⟨by rfl,?_⟩) ?_ ?_
        rotate_left;(intro w';go_simp;with_reducible rfl);rotate_left;(simp only [Act.put,List.setIfInBounds_toArray,List.set_cons_zero,List.set_cons_succ,i64_w,i32_w];rfl)
        refine pure_ (i:=2) (N:=some 21) (v:=?_) (a':=?_) #[true,false,true,false,false,false,false,false,false,false] rfl rfl (any_of HT_.out (by kernel_rfl)) (fun _ _ _ h=>h) (Or.inl ⟨by rfl,?_⟩) ?_ ?_
        rotate_left;(intro w';go_simp;with_reducible rfl);rotate_left;(simp only [Act.put,List.setIfInBounds_toArray,List.set_cons_zero,List.set_cons_succ,i64_w,i32_w];rfl)
        refine pure_ (i:=3) (N:=some 22) (v:=?_) (a':=?_) #[true,false,true,true,false,false,false,false,false,false] rfl rfl (any_of HT_.out (by kernel_rfl)) (fun _ _ _ h=>h) (Or.inl ⟨by rfl,?_⟩) ?_ ?_
        rotate_left;(intro w';go_simp;with_reducible rfl);rotate_left;(simp only [Act.put,List.setIfInBounds_toArray,List.set_cons_zero,List.set_cons_succ,i64_w,i32_w];rfl)
        refine pure_ (i:=4) (N:=some 23) (v:=?_) (a':=?_) #[true,false,true,true,true,false,false,false,false,false] rfl rfl (any_of HT_.out (by kernel_rfl)) (fun _ _ _ h=>h) (Or.inl ⟨by rfl,?_⟩) ?_ ?_
        rotate_left;(intro w';go_simp;with_reducible rfl);rotate_left;(simp only [Act.put,List.setIfInBounds_toArray,List.set_cons_zero,List.set_cons_succ,i64_w,i32_w];rfl)
        refine take_ (i:=1) (N:=some 20) (v:=?_) (a':=?_) #[true,true,true,true,true,false,false,false,false,false] rfl rfl (take_ofW HT_.out HW_.out (by kernel_rfl)) (fun _ _ _ h=>h) (Or.inl ⟨by rfl,?_⟩) hHeld ?_ ?_
        rotate_left;(rintro w' ⟨s0,s1,s2,s3,s4⟩;go_simp;with_reducible rfl);rotate_left;(simp only [Act.put,List.setIfInBounds_toArray,List.set_cons_zero,List.set_cons_succ,i64_w,i32_w];rfl)
        refine take_ (i:=5) (N:=some 24) (v:=?_) (a':=?_) #[true,true,true,true,true,true,false,false,false,false] rfl rfl (take_ofW HT_.out HW_.out (by kernel_rfl)) (fun _ _ _ h=>h) (Or.inl ⟨by rfl,?_⟩) hHeld ?_ ?_
        rotate_left;(rintro w' ⟨s0,s1,s2,s3,s4⟩;go_simp;with_reducible rfl);rotate_left;(simp only [Act.put,List.setIfInBounds_toArray,List.set_cons_zero,List.set_cons_succ,i64_w,i32_w];rfl)
        refine one_ (i:=6) (N:=some 25) #[true,true,true,true,true,true,true,false,false,false] rfl rfl (one_of HT_.out (by kernel_rfl)) (by decide) (fun K hK=>?_)
        refine goes_ Try.func19 (by kernel_rfl) rfl #[.agg #[.slice A0_0 l0_0.length c0_0,.int .i64 a0_1,.int .i64 a0_2,.int .i64 a0_3],.slice A263_0 (rd_L5 l1 x6_1).length c263_0] (by rfl) rfl rfl (by (try simp only [List.map_toArray,List.map_cons,List.map_nil]);first|done|rfl|(simp only [List.length_drop,List.length_take];rfl)) ?_
        with_reducible refine (thresherref10_Key.calls _ _ l0_0 a0_1 a0_2 a0_3 _ _ (rd_L5 l1 x6_1) t264 _ ?side1 ?side2 ?side3 ?side4 A10.out).mono ?_
        (case side1=>repeat (first|exact (Kd.C_below HR0_0.out HB.out)|(with_reducible refine Kd.C_alloc ?_ _)|(with_reducible refine Kd.C_drewN ?_ _)|(with_reducible refine Kd.C_drew ?_)))
        (case side2=>exact HC0_0.out)
        (case side3=>repeat (first|exact (Kd.C_below HR263_0.out HB.out)|(with_reducible refine Kd.C_alloc ?_ _)|(with_reducible refine Kd.C_drewN ?_ _)|(with_reducible refine Kd.C_drew ?_)))
        (case side4=>exact HC263_0.out)
        rintro e w14 ⟨v265,rfl,ho0,hb⟩
        refine ⟨_,rfl,?_⟩
        have n0_:=Aside0.mk (Kd.S_elder' (S_up HO_5.out) (Kd.R_base ho0) hb)
        have n1_:=Aside0.mk (Kd.R_lower ho0 (below_size (by repeat (first|(with_reducible first|exact HB.out|apply below_alloc|apply pw_below_drewN|apply below_drew1|refine below_set ?_ GE259.out)|exact HB.out))))
        have n2_:=Aside0.mk (blk_below (g:=gb259) (o:=.cells #[.slice A0_0 l0_0.length c0_0,.int .i64 a0_1,.int .i64 a0_2,.int .i64 a0_3] 33 (0,0)) (blk_up BK259.out) hb)
        have n3_:=Aside0.mk (below_step (by repeat (first|(with_reducible first|exact HB.out|apply below_alloc|apply pw_below_drewN|apply below_drew1|refine below_set ?_ GE259.out)|exact HB.out)) hb)
        clear HO_5
        clear BK259
        clear HB
        have HO_5:=n0_
        have HO266:=n1_
        have BK259:=n2_
        have HB:=n3_
        clear n0_ n1_ n2_ n3_
        (try clear hb)
        (try clear hb2)
        (try clear hk)
        (try clear hi)
        (try clear ho0)
        obtain ⟨Ao16,co16,eo16⟩:=Kd.R_slice HO266.out
        (first|subst eo16|(injection eo16 with f1_ f2_ f3_;have f4_:=f1_.symm;have f5_:=f3_.symm;clear f1_ f2_ f3_;subst f4_;subst f5_))
        refine hK.out _ _ ⟨(blk_cell BK259.out 0).trans rfl,(blk_cell BK259.out 1).trans rfl,(blk_cell BK259.out 2).trans rfl,(blk_cell BK259.out 3).trans rfl,((HB.out.cell (World.block_lt_of_cell? w _ hw263_0)).trans hw263_0)⟩ (fun hHeld=>?_)
        clear hK K
        refine norm_ (a':=?_) ?_ ?_
        rotate_left
        ·show Act.put _ (some 25) _=_
         simp only [Act.put,List.setIfInBounds_toArray,List.set_cons_zero,List.set_cons_succ,i64_w,i32_w]
         rfl
        refine one_ (i:=7) (N:=some 26) #[true,true,true,true,true,true,true,true,false,false] rfl rfl (one_of HT_.out (by kernel_rfl)) (by decide) (fun K hK=>?_)
        refine value_ (w1:=?_) (v:=?_) (by rfl) rfl ?_ ?_
        rotate_left 2
        ·go_simp
         constructor
         ·rfl
         ·rfl
        refine hK.out _ _ ⟨(blk_cell (blk_alloc BK259.out _) 0).trans rfl,(blk_cell (blk_alloc BK259.out _) 1).trans rfl,(blk_cell (blk_alloc BK259.out _) 2).trans rfl,(blk_cell (blk_alloc BK259.out _) 3).trans rfl,(World.cell?_alloc_lt _ _ _ (World.block_lt_of_cell? _ _ (((HB.out.cell (World.block_lt_of_cell? w _ hw263_0)).trans hw263_0)))).trans (((HB.out.cell (World.block_lt_of_cell? w _ hw263_0)).trans hw263_0))⟩ (fun hHeld=>?_)
        clear hK K
        refine norm_ (a':=?_) ?_ ?_
        rotate_left
        ·show Act.put _ (some 26) _=_
         simp only [Act.put,List.setIfInBounds_toArray,List.set_cons_zero,List.set_cons_succ,i64_w,i32_w]
         rfl
        refine one_ (i:=8) (N:=some 27) #[true,true,true,true,true,true,true,true,true,false] rfl rfl (one_of HT_.out (by kernel_rfl)) (by decide) (fun K hK=>?_)
        refine Kd.S_append_step (Kd.slice 44 k44) (w0:=w) w.heap.size (by rfl) (.tmp 19) (.tmp 26) 25 27 (.slice none 0 0) 24 rfl Try.underlying25 info27 rfl (by decide) (by omega) u5 x5_1 t264 [.slice Ao16 t264.length co16] (fun _=>True) (fun k_=>some k_=(.slice Ao16 t264.length co16 : Value).ownBlock) rfl rfl ?aP (fun k_ hk_=>((Kd.R_mono (ok':=fun k_=>((fun _=>True)) k_∧some k_≠(u5 : Value).ownBlock) (Kd.R_apart' (HO266.out) (Kd.S_typed HO_5.out) (by decide)) (fun k_ hk=>⟨trivial,hk.2⟩))).1 k_ hk_.symm) ?aF ?aO ?aB ?aS ?aL ?_
        (case aP=>exact Kd.M_row (Kd.R_mono (Kd.R_tight rfl (Kd.R_mono (ok':=fun k_=>((fun _=>True)) k_∧some k_≠(u5 : Value).ownBlock) (Kd.R_apart' (HO266.out) (Kd.S_typed HO_5.out) (by decide)) (fun k_ hk=>⟨trivial,hk.2⟩))) (fun _ h_=>h_)))
        (case aB=>exact (by repeat (first|(with_reducible first|exact HB.out|apply below_alloc|apply pw_below_drewN|apply below_drew1|refine below_set ?_ GE259.out)|exact HB.out)))
        (case aF=>exact (fun _ _=>trivial))
        (case aO=>exact (by (with_reducible repeat (first|apply Kd.S_alloc|apply Kd.S_drewN|apply Kd.S_drew));exact Kd.S_mono HO_5.out (fun k_ hk=>⟨trivial,fun e_=>hk.2 e_⟩)))
        (case aS=>exact (below_size (by repeat (first|(with_reducible first|exact HB.out|apply below_alloc|apply pw_below_drewN|apply below_drew1|refine below_set ?_ GE259.out)|exact HB.out))))
        (case aL=>have:=LMc11.out;omega)
        intro v268 w15 ho hb hg hat
        rw [← Ny267.out] at ho
        have n0_:=Aside0.mk (blk_grown (g:=gb259) (o:=.cells #[.slice A0_0 l0_0.length c0_0,.int .i64 a0_1,.int .i64 a0_2,.int .i64 a0_3] 33 (0,0)) (blk_up BK259.out) hg (Kd.S_ne HO_5.out BK259.out (by decide)))
        have n1_:=Aside0.mk (hb)
        have n2_:=Aside0.mk (ho)
        clear BK259
        clear HB
        clear HO_5
        clear HO266
        have BK259:=n0_
        have HB:=n1_
        have HO269:=n2_
        clear n0_ n1_ n2_
        clear ho hb hg hat
        refine hK.out _ _ ⟨(blk_cell BK259.out 0).trans rfl,(blk_cell BK259.out 1).trans rfl,(blk_cell BK259.out 2).trans rfl,(blk_cell BK259.out 3).trans rfl,((HB.out.cell (World.block_lt_of_cell? w _ hw263_0)).trans hw263_0)⟩ (fun hHeld=>?_)
        clear hK K
        refine norm_ (a':=?_) ?_ ?_
        rotate_left
        ·show Act.put _ (some 27) _=_
         simp only [Act.put,List.setIfInBounds_toArray,List.set_cons_zero,List.set_cons_succ,i64_w,i32_w]
         rfl
        refine pure_ (i:=9) (N:=some 5) (v:=?_) (a':=?_) #[true,true,true,true,true,true,true,true,true,true] rfl rfl (any_of HT_.out (by kernel_rfl)) (fun _ _ _ h=>h) (Or.inl ⟨by rfl,?_⟩) ?_ ?_
        rotate_left;(intro w';go_simp;with_reducible rfl);rotate_left;(simp only [Act.put,List.setIfInBounds_toArray,List.set_cons_zero,List.set_cons_succ,i64_w,i32_w];rfl)
        refine done_ (done_of HT_.out (by kernel_rfl)) ?_
        (try clear hHeld)
        try go_wp2
        go_roundg k1
        case measure=>have:=HK1.out;omega
        case rel=>exact ⟨(y267),(wrap64 (x6_1 + 1)),(by first|rfl|(simp;done)|(simp [*];done)),(by first|exact H'|(subst_vars;exact H')),⟨by have:=HK1.out;omega⟩,⟨by (with_reducible repeat (first|apply Kd.S_alloc|apply Kd.S_drewN|apply Kd.S_drew));exact HO269.out⟩,⟨by (with_reducible repeat (first|refine blk_drewN ?_ _|refine blk_drew ?_|refine blk_alloc ?_ _));exact BK259.out⟩,⟨by repeat (first|(with_reducible first|exact HB.out|apply below_alloc|apply pw_below_drewN|apply below_drew1|refine below_set ?_ GE259.out)|exact HB.out)⟩⟩
       ·rw [if_neg c11] at H
        exact absurd H (by simp)
      ·rw [if_neg c9] at H
       exact absurd H (by simp)
     ·rw [if_neg c8] at H
      have c8b0 : ((Int.tmod x6_1 a0_3) == 0)=false:=beq_eq_false_iff_ne.mpr c8
      have c8b1 : ((Int.tmod x6_1 a0_3) != 0)=true:=bne_iff_ne.mpr c8
      have H':=Aside0.mk H
      clear H
      have hcz17_0 : wr.cell? ⟨gb259,0,none⟩=some (.slice A0_0 l0_0.length c0_0):=(blk_cell BK259.out 0).trans rfl
      have hcz17_1 : wr.cell? ⟨gb259,1,none⟩=some (.int .i64 a0_1):=(blk_cell BK259.out 1).trans rfl
      have hcz17_2 : wr.cell? ⟨gb259,2,none⟩=some (.int .i64 a0_2):=(blk_cell BK259.out 2).trans rfl
      have hcz17_3 : wr.cell? ⟨gb259,3,none⟩=some (.int .i64 a0_3):=(blk_cell BK259.out 3).trans rfl
      have hfz17_0:=blk_frozen BK259.out 0
      have hfz17_1:=blk_frozen BK259.out 1
      have hfz17_2:=blk_frozen BK259.out 2
      have hfz17_3:=blk_frozen BK259.out 3
      go_wp2
      go_roundg k1
      case measure=>have:=HK1.out;omega
      case rel=>exact ⟨(x5_1),(wrap64 (x6_1 + 1)),(by first|rfl|(simp;done)|(simp [*];done)),(by first|exact H'|(subst_vars;exact H')),⟨by have:=HK1.out;omega⟩,⟨by (with_reducible repeat (first|apply Kd.S_alloc|apply Kd.S_drewN|apply Kd.S_drew));exact HO_5.out⟩,⟨by (with_reducible repeat (first|refine blk_drewN ?_ _|refine blk_drew ?_|refine blk_alloc ?_ _));exact BK259.out⟩,⟨by repeat (first|(with_reducible first|exact HB.out|apply below_alloc|apply pw_below_drewN|apply below_drew1|refine below_set ?_ GE259.out)|exact HB.out)⟩⟩
   ·rw [if_neg c6] at H
    have c6b0 : decide (x6_1 < (l1.length : Int))=false:=decide_eq_false c6
    clear c6
    obtain rfl:=Option.some.inj H
    go_wp2
    go_ret
    exact ⟨_,by first|rfl|(simp [errW_none,errW_some] <;> rfl)|(simp [*,errW_none,errW_some] <;> rfl),by (with_reducible repeat (first|apply Kd.S_alloc|apply Kd.S_drewN|apply Kd.S_drew));exact HO_5.out,by repeat (first|(with_reducible first|exact HB.out|apply below_alloc|apply pw_below_drewN|apply below_drew1|refine below_set ?_ GE259.out)|exact HB.out)⟩
def thresherref12_Empty.f (k : Nat) (l0_0 : List Int) (a0_1 : Int) (a0_2 : Int) (a0_3 : Int) (a1_0 : Bool) (a1_1 : Bool) (l1_2 : List (S44)) (l1_3 : List (S44)) : Option (Bool):=(thresherref04_Compare.f k l0_0 a0_1 a0_2 a0_3 l1_2 l1_3).bind fun t272=>(if a1_0=true then (if a1_1=true then (some (decide (t272 > 0))) else (some false)) else (some false))
theorem thresherref12_Empty.mono : ∀ a0 a1 a2 a3 a4 a5 a6 a7 k,LeO (thresherref12_Empty.f k a0 a1 a2 a3 a4 a5 a6 a7) (thresherref12_Empty.f (k + 1) a0 a1 a2 a3 a4 a5 a6 a7):=by
 intro a0 a1 a2 a3 a4 a5 a6 a7 k
 unfold thresherref12_Empty.f
 repeat' first
   | (with_reducible exact thresherref04_Compare.mono _ _ _ _ _ _ _)
   | (with_reducible exact LeO.refl _)
   | (with_reducible exact LeO.none _)
   | (with_reducible refine LeO.ite ?_ ?_)
   | (with_reducible refine LeO.bind ?_ (fun _=>?_))
   | exact thresherref04_Compare.mono _ _ _ _ _ _ _
   | exact LeO.none _
   | refine LeO.ite ?_ ?_
   | refine LeO.bind ?_ (fun _=>?_)
set_option maxHeartbeats 8000000 in
set_option maxRecDepth 100000 in
theorem thresherref12_Empty.calls (k : Nat) (A0_0 : Option Addr) (c0_0 : Nat) (l0_0 : List Int) (a0_1 : Int) (a0_2 : Int) (a0_3 : Int) (a1_0 : Bool) (a1_1 : Bool) (A1_2 : Option Addr) (c1_2 : Nat) (l1_2 : List (S44)) (A1_3 : Option Addr) (c1_3 : Nat) (l1_3 : List (S44)) (r : Bool) (w : World) (hr0_0 : Kd.C (Kd.int .i64) w A0_0 l0_0.length l0_0) (hc0_0 : l0_0.length≤c0_0) (hr1_2 : Kd.C k44 w A1_2 l1_2.length l1_2) (hc1_2 : l1_2.length≤c1_2) (hr1_3 : Kd.C k44 w A1_3 l1_3.length l1_3) (hc1_3 : l1_3.length≤c1_3) (h : thresherref12_Empty.f k l0_0 a0_1 a0_2 a0_3 a1_0 a1_1 l1_2 l1_3=some r) :
  Calls Try.prog 18 #[.agg #[.slice A0_0 l0_0.length c0_0,.int .i64 a0_1,.int .i64 a0_2,.int .i64 a0_3],.agg #[.bool a1_0,.bool a1_1,.slice A1_2 l1_2.length c1_2,.slice A1_3 l1_3.length c1_3]] w fun e w'=>e=.returned (.bool r)∧Below w.heap.size w w':=by
 have hu33:=Try.underlying33
 have hu29:=Try.underlying29
 have HR0_0:=Aside0.mk hr0_0
 have HC0_0:=Aside0.mk hc0_0
 clear hr0_0 hc0_0
 have HR1_2:=Aside0.mk hr1_2
 have HC1_2:=Aside0.mk hc1_2
 clear hr1_2 hc1_2
 have HR1_3:=Aside0.mk hr1_3
 have HC1_3:=Aside0.mk hc1_3
 clear hr1_3 hc1_3
 have HB:=Aside0.mk (Below.refl w.heap.size w)
 have H : ((thresherref04_Compare.f k l0_0 a0_1 a0_2 a0_3 l1_2 l1_3).bind fun t272=>(if a1_0=true then (if a1_1=true then (some (decide (t272 > 0))) else (some false)) else (some false)))=some r:=h
 clear h
 replace H:=Option.bind_eq_some_iff.mp H
 obtain ⟨t272,A30,H⟩:=H
 replace H : (if a1_0=true then (if a1_1=true then (some (decide (t272 > 0))) else (some false)) else (some false))=some r:=H
 have A3:=Aside0.mk A30
 clear A30
 by_cases c4 : a1_0=true
 ·subst c4
  have H1 : (if a1_1=true then (some (decide (t272 > 0))) else (some false))=some r:=by rw [if_pos rfl] at H;exact H
  clear H
  have H:=H1
  clear H1
  by_cases c5 : a1_1=true
  ·subst c5
   have H1 : (some (decide (t272 > 0)))=some r:=by rw [if_pos rfl] at H;exact H
   clear H
   have H:=H1
   clear H1
   obtain rfl:=Option.some.inj H
   go_enter Try.func18,Try.ntmps18
   go_wp2_with (first|((with_reducible refine gate_dst (N:=2) rfl ?_);refine box_event ?hg (N:=2) ?hd (cs:=#[.slice A0_0 l0_0.length c0_0,.int .i64 a0_1,.int .i64 a0_2,.int .i64 a0_3]) (t:=33) ?hr ?_;(case hd=>rfl);(case hg=>rfl);(case hr=>first|(go_simp;done)|(go_simp;rfl));intro gb270 hg w6 hbox hb;have n0_:=Aside0.mk (below_step (below_up HB.out) hb);have n1_:=Aside0.mk (hbox);have n2_:=Aside0.mk ((by rw [hg];exact (below_size (below_up HB.out)) : w.heap.size≤gb270));have n3_:=Aside0.mk ((by rw [hg];exact (below_size (below_up HB.out)) : w.heap.size≤gb270));clear HB;have HB:=n0_;have BK270:=n1_;have GW270:=n2_;have GE270:=n3_;clear n0_ n1_ n2_ n3_;clear hb hbox hg)|((with_reducible refine gate_dst (N:=3) rfl ?_);refine box_event ?hg (N:=3) ?hd (cs:=#[.bool true,.bool true,.slice A1_2 l1_2.length c1_2,.slice A1_3 l1_3.length c1_3]) (t:=29) ?hr ?_;(case hd=>rfl);(case hg=>rfl);(case hr=>first|(go_simp;done)|(go_simp;rfl));intro gb271 hg w7 hbox hb;have n0_:=Aside0.mk (blk_below (g:=gb270) (o:=.cells #[.slice A0_0 l0_0.length c0_0,.int .i64 a0_1,.int .i64 a0_2,.int .i64 a0_3] 33 (0,0)) (blk_up BK270.out) hb);have n1_:=Aside0.mk (below_step (by repeat (first|(with_reducible first|exact HB.out|apply below_alloc|apply pw_below_drewN|apply below_drew1|refine below_set ?_ GE270.out)|exact HB.out)) hb);have n2_:=Aside0.mk (hbox);have n3_:=Aside0.mk ((by rw [hg];exact (below_size (by repeat (first|(with_reducible first|exact HB.out|apply below_alloc|apply pw_below_drewN|apply below_drew1|refine below_set ?_ GE270.out)|exact HB.out))) : w.heap.size≤gb271));have n4_:=Aside0.mk ((by rw [hg];exact (below_size (by repeat (first|(with_reducible first|exact HB.out|apply below_alloc|apply pw_below_drewN|apply below_drew1|refine below_set ?_ GE270.out)|exact HB.out))) : w.heap.size≤gb271));have n5_:=Aside0.mk ((by rw [hg];exact Nat.ne_of_lt (blk_lt (g:=gb270) (o:=.cells #[.slice A0_0 l0_0.length c0_0,.int .i64 a0_1,.int .i64 a0_2,.int .i64 a0_3] 33 (0,0)) (blk_up BK270.out)) : gb270≠gb271));have n6_:=Aside0.mk ((by rw [hg];exact Nat.ne_of_gt (blk_lt (g:=gb270) (o:=.cells #[.slice A0_0 l0_0.length c0_0,.int .i64 a0_1,.int .i64 a0_2,.int .i64 a0_3] 33 (0,0)) (blk_up BK270.out)) : gb271≠gb270));clear BK270;clear HB;have BK270:=n0_;have HB:=n1_;have BK271:=n2_;have GW271:=n3_;have GE271:=n4_;have NB270_271:=n5_;have NB271_270:=n6_;clear n0_ n1_ n2_ n3_ n4_ n5_ n6_;clear hb hbox hg;have hnb8:=NB270_271.out;have hnc8:=NB271_270.out;have hcz9_0 : w7.cell? ⟨gb270,0,none⟩=some (.slice A0_0 l0_0.length c0_0):=(blk_cell BK270.out 0).trans rfl;have hcz9_1 : w7.cell? ⟨gb270,1,none⟩=some (.int .i64 a0_1):=(blk_cell BK270.out 1).trans rfl;have hcz9_2 : w7.cell? ⟨gb270,2,none⟩=some (.int .i64 a0_2):=(blk_cell BK270.out 2).trans rfl;have hcz9_3 : w7.cell? ⟨gb270,3,none⟩=some (.int .i64 a0_3):=(blk_cell BK270.out 3).trans rfl;have hfz9_0:=blk_frozen BK270.out 0;have hfz9_1:=blk_frozen BK270.out 1;have hfz9_2:=blk_frozen BK270.out 2;have hfz9_3:=blk_frozen BK270.out 3;have hcz10_0 : w7.cell? ⟨gb271,0,none⟩=some (.bool true):=(blk_cell BK271.out 0).trans rfl;have hcz10_1 : w7.cell? ⟨gb271,1,none⟩=some (.bool true):=(blk_cell BK271.out 1).trans rfl;have hcz10_2 : w7.cell? ⟨gb271,2,none⟩=some (.slice A1_2 l1_2.length c1_2):=(blk_cell BK271.out 2).trans rfl;have hcz10_3 : w7.cell? ⟨gb271,3,none⟩=some (.slice A1_3 l1_3.length c1_3):=(blk_cell BK271.out 3).trans rfl;have hfz10_0:=blk_frozen BK271.out 0;have hfz10_1:=blk_frozen BK271.out 1;have hfz10_2:=blk_frozen BK271.out 2;have hfz10_3:=blk_frozen BK271.out 3)|((with_reducible refine gate_callee (f:=20) rfl ?_);refine goesL_ (some 11) rfl rfl Try.func20 (by kernel_rfl) rfl #[.agg #[.slice A0_0 l0_0.length c0_0,.int .i64 a0_1,.int .i64 a0_2,.int .i64 a0_3],.slice A1_2 l1_2.length c1_2,.slice A1_3 l1_3.length c1_3] rfl (by (try simp only [List.map_toArray,List.map_cons,List.map_nil]);first|done|rfl|(simp only [List.length_drop,List.length_take];rfl)) ?_;(with_reducible refine (thresherref04_Compare.calls k _ _ l0_0 a0_1 a0_2 a0_3 _ _ l1_2 _ _ l1_3 t272 _ ?side1 ?side2 ?side3 ?side4 ?side5 ?side6 A3.out).mono ?_);(case side1=>repeat (first|exact (Kd.C_below HR0_0.out HB.out)|(with_reducible refine Kd.C_alloc ?_ _)|(with_reducible refine Kd.C_drewN ?_ _)|(with_reducible refine Kd.C_drew ?_)));(case side2=>exact HC0_0.out);(case side3=>repeat (first|exact (Kd.C_below HR1_2.out HB.out)|(with_reducible refine Kd.C_alloc ?_ _)|(with_reducible refine Kd.C_drewN ?_ _)|(with_reducible refine Kd.C_drew ?_)));(case side4=>exact HC1_2.out);(case side5=>repeat (first|exact (Kd.C_below HR1_3.out HB.out)|(with_reducible refine Kd.C_alloc ?_ _)|(with_reducible refine Kd.C_drewN ?_ _)|(with_reducible refine Kd.C_drew ?_)));(case side6=>exact HC1_3.out);rintro e w11 ⟨rfl,hb⟩;refine ⟨_,rfl,?_⟩;have n0_:=Aside0.mk (blk_below (g:=gb270) (o:=.cells #[.slice A0_0 l0_0.length c0_0,.int .i64 a0_1,.int .i64 a0_2,.int .i64 a0_3] 33 (0,0)) (blk_up BK270.out) hb);have n1_:=Aside0.mk (blk_below (g:=gb271) (o:=.cells #[.bool true,.bool true,.slice A1_2 l1_2.length c1_2,.slice A1_3 l1_3.length c1_3] 29 (0,0)) (blk_up BK271.out) hb);have n2_:=Aside0.mk (below_step (by repeat (first|(with_reducible first|exact HB.out|apply below_alloc|apply pw_below_drewN|apply below_drew1|refine below_set ?_ GE270.out|refine below_set ?_ GE271.out)|exact HB.out)) hb);clear BK270;clear BK271;clear HB;have BK270:=n0_;have BK271:=n1_;have HB:=n2_;clear n0_ n1_ n2_;(try clear hb);(try clear hb2);(try clear hk);(try clear hi);have hcz12_0 : w11.cell? ⟨gb271,0,none⟩=some (.bool true):=(blk_cell BK271.out 0).trans rfl;have hcz12_1 : w11.cell? ⟨gb271,1,none⟩=some (.bool true):=(blk_cell BK271.out 1).trans rfl;have hcz12_2 : w11.cell? ⟨gb271,2,none⟩=some (.slice A1_2 l1_2.length c1_2):=(blk_cell BK271.out 2).trans rfl;have hcz12_3 : w11.cell? ⟨gb271,3,none⟩=some (.slice A1_3 l1_3.length c1_3):=(blk_cell BK271.out 3).trans rfl;have hfz12_0:=blk_frozen BK271.out 0;have hfz12_1:=blk_frozen BK271.out 1;have hfz12_2:=blk_frozen BK271.out 2;have hfz12_3:=blk_frozen BK271.out 3))
   go_ret
   exact ⟨by first|rfl|(simp [errW_none,errW_some] <;> rfl)|(simp [*,errW_none,errW_some] <;> rfl),by repeat (first|(with_reducible first|exact HB.out|apply below_alloc|apply pw_below_drewN|apply below_drew1|refine below_set ?_ GE270.out|refine below_set ?_ GE271.out)|exact HB.out)⟩
  ·replace c5:=Bool.eq_false_iff.mpr c5
   subst c5
   have H1 : (some false)=some r:=by rw [if_neg (show ¬ (false=true) by decide)] at H;exact H
   clear H
   have H:=H1
   clear H1
   obtain rfl:=Option.some.inj H
   go_enter Try.func18,Try.ntmps18
   go_wp2_with (first|((with_reducible refine gate_dst (N:=2) rfl ?_);refine box_event ?hg (N:=2) ?hd (cs:=#[.slice A0_0 l0_0.length c0_0,.int .i64 a0_1,.int .i64 a0_2,.int .i64 a0_3]) (t:=33) ?hr ?_;(case hd=>rfl);(case hg=>rfl);(case hr=>first|(go_simp;done)|(go_simp;rfl));intro gb270 hg w13 hbox hb;have n0_:=Aside0.mk (below_step (below_up HB.out) hb);have n1_:=Aside0.mk (hbox);have n2_:=Aside0.mk ((by rw [hg];exact (below_size (below_up HB.out)) : w.heap.size≤gb270));have n3_:=Aside0.mk ((by rw [hg];exact (below_size (below_up HB.out)) : w.heap.size≤gb270));clear HB;have HB:=n0_;have BK270:=n1_;have GW270:=n2_;have GE270:=n3_;clear n0_ n1_ n2_ n3_;clear hb hbox hg)|((with_reducible refine gate_dst (N:=3) rfl ?_);refine box_event ?hg (N:=3) ?hd (cs:=#[.bool true,.bool false,.slice A1_2 l1_2.length c1_2,.slice A1_3 l1_3.length c1_3]) (t:=29) ?hr ?_;(case hd=>rfl);(case hg=>rfl);(case hr=>first|(go_simp;done)|(go_simp;rfl));intro gb271 hg w14 hbox hb;have n0_:=Aside0.mk (blk_below (g:=gb270) (o:=.cells #[.slice A0_0 l0_0.length c0_0,.int .i64 a0_1,.int .i64 a0_2,.int .i64 a0_3] 33 (0,0)) (blk_up BK270.out) hb);have n1_:=Aside0.mk (below_step (by repeat (first|(with_reducible first|exact HB.out|apply below_alloc|apply pw_below_drewN|apply below_drew1|refine below_set ?_ GE270.out)|exact HB.out)) hb);have n2_:=Aside0.mk (hbox);have n3_:=Aside0.mk ((by rw [hg];exact (below_size (by repeat (first|(with_reducible first|exact HB.out|apply below_alloc|apply pw_below_drewN|apply below_drew1|refine below_set ?_ GE270.out)|exact HB.out))) : w.heap.size≤gb271));have n4_:=Aside0.mk ((by rw [hg];exact (below_size (by repeat (first|(with_reducible first|exact HB.out|apply below_alloc|apply pw_below_drewN|apply below_drew1|refine below_set ?_ GE270.out)|exact HB.out))) : w.heap.size≤gb271));have n5_:=Aside0.mk ((by rw [hg];exact Nat.ne_of_lt (blk_lt (g:=gb270) (o:=.cells #[.slice A0_0 l0_0.length c0_0,.int .i64 a0_1,.int .i64 a0_2,.int .i64 a0_3] 33 (0,0)) (blk_up BK270.out)) : gb270≠gb271));have n6_:=Aside0.mk ((by rw [hg];exact Nat.ne_of_gt (blk_lt (g:=gb270) (o:=.cells #[.slice A0_0 l0_0.length c0_0,.int .i64 a0_1,.int .i64 a0_2,.int .i64 a0_3] 33 (0,0)) (blk_up BK270.out)) : gb271≠gb270));clear BK270;clear HB;have BK270:=n0_;have HB:=n1_;have BK271:=n2_;have GW271:=n3_;have GE271:=n4_;have NB270_271:=n5_;have NB271_270:=n6_;clear n0_ n1_ n2_ n3_ n4_ n5_ n6_;clear hb hbox hg;have hnb15:=NB270_271.out;have hnc15:=NB271_270.out;have hcz16_0 : w14.cell? ⟨gb270,0,none⟩=some (.slice A0_0 l0_0.length c0_0):=(blk_cell BK270.out 0).trans rfl;have hcz16_1 : w14.cell? ⟨gb270,1,none⟩=some (.int .i64 a0_1):=(blk_cell BK270.out 1).trans rfl;have hcz16_2 : w14.cell? ⟨gb270,2,none⟩=some (.int .i64 a0_2):=(blk_cell BK270.out 2).trans rfl;have hcz16_3 : w14.cell? ⟨gb270,3,none⟩=some (.int .i64 a0_3):=(blk_cell BK270.out 3).trans rfl;have hfz16_0:=blk_frozen BK270.out 0;have hfz16_1:=blk_frozen BK270.out 1;have hfz16_2:=blk_frozen BK270.out 2;have hfz16_3:=blk_frozen BK270.out 3;have hcz17_0 : w14.cell? ⟨gb271,0,none⟩=some (.bool true):=(blk_cell BK271.out 0).trans rfl;have hcz17_1 : w14.cell? ⟨gb271,1,none⟩=some (.bool false):=(blk_cell BK271.out 1).trans rfl;have hcz17_2 : w14.cell? ⟨gb271,2,none⟩=some (.slice A1_2 l1_2.length c1_2):=(blk_cell BK271.out 2).trans rfl;have hcz17_3 : w14.cell? ⟨gb271,3,none⟩=some (.slice A1_3 l1_3.length c1_3):=(blk_cell BK271.out 3).trans rfl;have hfz17_0:=blk_frozen BK271.out 0;have hfz17_1:=blk_frozen BK271.out 1;have hfz17_2:=blk_frozen BK271.out 2;have hfz17_3:=blk_frozen BK271.out 3)|((with_reducible refine gate_callee (f:=20) rfl ?_);refine goesL_ (some 11) rfl rfl Try.func20 (by kernel_rfl) rfl #[.agg #[.slice A0_0 l0_0.length c0_0,.int .i64 a0_1,.int .i64 a0_2,.int .i64 a0_3],.slice A1_2 l1_2.length c1_2,.slice A1_3 l1_3.length c1_3] rfl (by (try simp only [List.map_toArray,List.map_cons,List.map_nil]);first|done|rfl|(simp only [List.length_drop,List.length_take];rfl)) ?_;(with_reducible refine (thresherref04_Compare.calls k _ _ l0_0 a0_1 a0_2 a0_3 _ _ l1_2 _ _ l1_3 t272 _ ?side1 ?side2 ?side3 ?side4 ?side5 ?side6 A3.out).mono ?_);(case side1=>repeat (first|exact (Kd.C_below HR0_0.out HB.out)|(with_reducible refine Kd.C_alloc ?_ _)|(with_reducible refine Kd.C_drewN ?_ _)|(with_reducible refine Kd.C_drew ?_)));(case side2=>exact HC0_0.out);(case side3=>repeat (first|exact (Kd.C_below HR1_2.out HB.out)|(with_reducible refine Kd.C_alloc ?_ _)|(with_reducible refine Kd.C_drewN ?_ _)|(with_reducible refine Kd.C_drew ?_)));(case side4=>exact HC1_2.out);(case side5=>repeat (first|exact (Kd.C_below HR1_3.out HB.out)|(with_reducible refine Kd.C_alloc ?_ _)|(with_reducible refine Kd.C_drewN ?_ _)|(with_reducible refine Kd.C_drew ?_)));(case side6=>exact HC1_3.out);rintro e w18 ⟨rfl,hb⟩;refine ⟨_,rfl,?_⟩;have n0_:=Aside0.mk (blk_below (g:=gb270) (o:=.cells #[.slice A0_0 l0_0.length c0_0,.int .i64 a0_1,.int .i64 a0_2,.int .i64 a0_3] 33 (0,0)) (blk_up BK270.out) hb);have n1_:=Aside0.mk (blk_below (g:=gb271) (o:=.cells #[.bool true,.bool false,.slice A1_2 l1_2.length c1_2,.slice A1_3 l1_3.length c1_3] 29 (0,0)) (blk_up BK271.out) hb);have n2_:=Aside0.mk (below_step (by repeat (first|(with_reducible first|exact HB.out|apply below_alloc|apply pw_below_drewN|apply below_drew1|refine below_set ?_ GE270.out|refine below_set ?_ GE271.out)|exact HB.out)) hb);clear BK270;clear BK271;clear HB;have BK270:=n0_;have BK271:=n1_;have HB:=n2_;clear n0_ n1_ n2_;(try clear hb);(try clear hb2);(try clear hk);(try clear hi);have hcz19_0 : w18.cell? ⟨gb271,0,none⟩=some (.bool true):=(blk_cell BK271.out 0).trans rfl;have hcz19_1 : w18.cell? ⟨gb271,1,none⟩=some (.bool false):=(blk_cell BK271.out 1).trans rfl;have hcz19_2 : w18.cell? ⟨gb271,2,none⟩=some (.slice A1_2 l1_2.length c1_2):=(blk_cell BK271.out 2).trans rfl;have hcz19_3 : w18.cell? ⟨gb271,3,none⟩=some (.slice A1_3 l1_3.length c1_3):=(blk_cell BK271.out 3).trans rfl;have hfz19_0:=blk_frozen BK271.out 0;have hfz19_1:=blk_frozen BK271.out 1;have hfz19_2:=blk_frozen BK271.out 2;have hfz19_3:=blk_frozen BK271.out 3))
   go_ret
   exact ⟨by first|rfl|(simp [errW_none,errW_some] <;> rfl)|(simp [*,errW_none,errW_some] <;> rfl),by repeat (first|(with_reducible first|exact HB.out|apply below_alloc|apply pw_below_drewN|apply below_drew1|refine below_set ?_ GE270.out|refine below_set ?_ GE271.out)|exact HB.out)⟩
 ·replace c4:=Bool.eq_false_iff.mpr c4
  subst c4
  have H1 : (some false)=some r:=by rw [if_neg (show ¬ (false=true) by decide)] at H;exact H
  clear H
  have H:=H1
  clear H1
  obtain rfl:=Option.some.inj H
  go_enter Try.func18,Try.ntmps18
  go_wp2_with (first|((with_reducible refine gate_dst (N:=2) rfl ?_);refine box_event ?hg (N:=2) ?hd (cs:=#[.slice A0_0 l0_0.length c0_0,.int .i64 a0_1,.int .i64 a0_2,.int .i64 a0_3]) (t:=33) ?hr ?_;(case hd=>rfl);(case hg=>rfl);(case hr=>first|(go_simp;done)|(go_simp;rfl));intro gb270 hg w20 hbox hb;have n0_:=Aside0.mk (below_step (below_up HB.out) hb);have n1_:=Aside0.mk (hbox);have n2_:=Aside0.mk ((by rw [hg];exact (below_size (below_up HB.out)) : w.heap.size≤gb270));have n3_:=Aside0.mk ((by rw [hg];exact (below_size (below_up HB.out)) : w.heap.size≤gb270));clear HB;have HB:=n0_;have BK270:=n1_;have GW270:=n2_;have GE270:=n3_;clear n0_ n1_ n2_ n3_;clear hb hbox hg)|((with_reducible refine gate_dst (N:=3) rfl ?_);refine box_event ?hg (N:=3) ?hd (cs:=#[.bool false,.bool a1_1,.slice A1_2 l1_2.length c1_2,.slice A1_3 l1_3.length c1_3]) (t:=29) ?hr ?_;(case hd=>rfl);(case hg=>rfl);(case hr=>first|(go_simp;done)|(go_simp;rfl));intro gb271 hg w21 hbox hb;have n0_:=Aside0.mk (blk_below (g:=gb270) (o:=.cells #[.slice A0_0 l0_0.length c0_0,.int .i64 a0_1,.int .i64 a0_2,.int .i64 a0_3] 33 (0,0)) (blk_up BK270.out) hb);have n1_:=Aside0.mk (below_step (by repeat (first|(with_reducible first|exact HB.out|apply below_alloc|apply pw_below_drewN|apply below_drew1|refine below_set ?_ GE270.out)|exact HB.out)) hb);have n2_:=Aside0.mk (hbox);have n3_:=Aside0.mk ((by rw [hg];exact (below_size (by repeat (first|(with_reducible first|exact HB.out|apply below_alloc|apply pw_below_drewN|apply below_drew1|refine below_set ?_ GE270.out)|exact HB.out))) : w.heap.size≤gb271));have n4_:=Aside0.mk ((by rw [hg];exact (below_size (by repeat (first|(with_reducible first|exact HB.out|apply below_alloc|apply pw_below_drewN|apply below_drew1|refine below_set ?_ GE270.out)|exact HB.out))) : w.heap.size≤gb271));have n5_:=Aside0.mk ((by rw [hg];exact Nat.ne_of_lt (blk_lt (g:=gb270) (o:=.cells #[.slice A0_0 l0_0.length c0_0,.int .i64 a0_1,.int .i64 a0_2,.int .i64 a0_3] 33 (0,0)) (blk_up BK270.out)) : gb270≠gb271));have n6_:=Aside0.mk ((by rw [hg];exact Nat.ne_of_gt (blk_lt (g:=gb270) (o:=.cells #[.slice A0_0 l0_0.length c0_0,.int .i64 a0_1,.int .i64 a0_2,.int .i64 a0_3] 33 (0,0)) (blk_up BK270.out)) : gb271≠gb270));clear BK270;clear HB;have BK270:=n0_;have HB:=n1_;have BK271:=n2_;have GW271:=n3_;have GE271:=n4_;have NB270_271:=n5_;have NB271_270:=n6_;clear n0_ n1_ n2_ n3_ n4_ n5_ n6_;clear hb hbox hg;have hnb22:=NB270_271.out;have hnc22:=NB271_270.out;have hcz23_0 : w21.cell? ⟨gb270,0,none⟩=some (.slice A0_0 l0_0.length c0_0):=(blk_cell BK270.out 0).trans rfl;have hcz23_1 : w21.cell? ⟨gb270,1,none⟩=some (.int .i64 a0_1):=(blk_cell BK270.out 1).trans rfl;have hcz23_2 : w21.cell? ⟨gb270,2,none⟩=some (.int .i64 a0_2):=(blk_cell BK270.out 2).trans rfl;have hcz23_3 : w21.cell? ⟨gb270,3,none⟩=some (.int .i64 a0_3):=(blk_cell BK270.out 3).trans rfl;have hfz23_0:=blk_frozen BK270.out 0;have hfz23_1:=blk_frozen BK270.out 1;have hfz23_2:=blk_frozen BK270.out 2;have hfz23_3:=blk_frozen BK270.out 3;have hcz24_0 : w21.cell? ⟨gb271,0,none⟩=some (.bool false):=(blk_cell BK271.out 0).trans rfl;have hcz24_1 : w21.cell? ⟨gb271,1,none⟩=some (.bool a1_1):=(blk_cell BK271.out 1).trans rfl;have hcz24_2 : w21.cell? ⟨gb271,2,none⟩=some (.slice A1_2 l1_2.length c1_2):=(blk_cell BK271.out 2).trans rfl;have hcz24_3 : w21.cell? ⟨gb271,3,none⟩=some (.slice A1_3 l1_3.length c1_3):=(blk_cell BK271.out 3).trans rfl;have hfz24_0:=blk_frozen BK271.out 0;have hfz24_1:=blk_frozen BK271.out 1;have hfz24_2:=blk_frozen BK271.out 2;have hfz24_3:=blk_frozen BK271.out 3)|((with_reducible refine gate_callee (f:=20) rfl ?_);refine goesL_ (some 11) rfl rfl Try.func20 (by kernel_rfl) rfl #[.agg #[.slice A0_0 l0_0.length c0_0,.int .i64 a0_1,.int .i64 a0_2,.int .i64 a0_3],.slice A1_2 l1_2.length c1_2,.slice A1_3 l1_3.length c1_3] rfl (by (try simp only [List.map_toArray,List.map_cons,List.map_nil]);first|done|rfl|(simp only [List.length_drop,List.length_take];rfl)) ?_;(with_reducible refine (thresherref04_Compare.calls k _ _ l0_0 a0_1 a0_2 a0_3 _ _ l1_2 _ _ l1_3 t272 _ ?side1 ?side2 ?side3 ?side4 ?side5 ?side6 A3.out).mono ?_);(case side1=>repeat (first|exact (Kd.C_below HR0_0.out HB.out)|(with_reducible refine Kd.C_alloc ?_ _)|(with_reducible refine Kd.C_drewN ?_ _)|(with_reducible refine Kd.C_drew ?_)));(case side2=>exact HC0_0.out);(case side3=>repeat (first|exact (Kd.C_below HR1_2.out HB.out)|(with_reducible refine Kd.C_alloc ?_ _)|(with_reducible refine Kd.C_drewN ?_ _)|(with_reducible refine Kd.C_drew ?_)));(case side4=>exact HC1_2.out);(case side5=>repeat (first|exact (Kd.C_below HR1_3.out HB.out)|(with_reducible refine Kd.C_alloc ?_ _)|(with_reducible refine Kd.C_drewN ?_ _)|(with_reducible refine Kd.C_drew ?_)));(case side6=>exact HC1_3.out);rintro e w25 ⟨rfl,hb⟩;refine ⟨_,rfl,?_⟩;have n0_:=Aside0.mk (blk_below (g:=gb270) (o:=.cells #[.slice A0_0 l0_0.length c0_0,.int .i64 a0_1,.int .i64 a0_2,.int .i64 a0_3] 33 (0,0)) (blk_up BK270.out) hb);have n1_:=Aside0.mk (blk_below (g:=gb271) (o:=.cells #[.bool false,.bool a1_1,.slice A1_2 l1_2.length c1_2,.slice A1_3 l1_3.length c1_3] 29 (0,0)) (blk_up BK271.out) hb);have n2_:=Aside0.mk (below_step (by repeat (first|(with_reducible first|exact HB.out|apply below_alloc|apply pw_below_drewN|apply below_drew1|refine below_set ?_ GE270.out|refine below_set ?_ GE271.out)|exact HB.out)) hb);clear BK270;clear BK271;clear HB;have BK270:=n0_;have BK271:=n1_;have HB:=n2_;clear n0_ n1_ n2_;(try clear hb);(try clear hb2);(try clear hk);(try clear hi);have hcz26_0 : w25.cell? ⟨gb271,0,none⟩=some (.bool false):=(blk_cell BK271.out 0).trans rfl;have hcz26_1 : w25.cell? ⟨gb271,1,none⟩=some (.bool a1_1):=(blk_cell BK271.out 1).trans rfl;have hcz26_2 : w25.cell? ⟨gb271,2,none⟩=some (.slice A1_2 l1_2.length c1_2):=(blk_cell BK271.out 2).trans rfl;have hcz26_3 : w25.cell? ⟨gb271,3,none⟩=some (.slice A1_3 l1_3.length c1_3):=(blk_cell BK271.out 3).trans rfl;have hfz26_0:=blk_frozen BK271.out 0;have hfz26_1:=blk_frozen BK271.out 1;have hfz26_2:=blk_frozen BK271.out 2;have hfz26_3:=blk_frozen BK271.out 3))
  go_ret
  exact ⟨by first|rfl|(simp [errW_none,errW_some] <;> rfl)|(simp [*,errW_none,errW_some] <;> rfl),by repeat (first|(with_reducible first|exact HB.out|apply below_alloc|apply pw_below_drewN|apply below_drew1|refine below_set ?_ GE270.out|refine below_set ?_ GE271.out)|exact HB.out)⟩
end Go.Proofs.Ytfccebnoflhkcaa.P

