/- Texts of AggAll. Merged: Px17. -/
import Derived.Test.YtapaldcdoahfeaaQAggAllPx0
import Derived.Test.YtapaldcdoahfeaaQAggAllPx7
import Derived.Test.YtapaldcdoahfeaaQAggAllPx16
-- Written by wip/tools/myprint.py over the kit's print (a program's print; Lean checks it).
namespace Go.Proofs.Ytapaldcdoahfeaa.P
open Go.RowKit Go.Proofs.YtapaldcdoahfeaaW.PrintWords Go.Proofs.YtapaldcdoahfeaaW.PrintLast Go.Proofs.YtapaldcdoahfeaaW.PrintMore
attribute [local go_sem] max2_int min2_int max_two min_two max_three min_three max_four min_four   -- for this text's walks alone
set_option linter.unusedVariables false
set_option linter.unusedSimpArgs false

/-! ### thresherref20_one: function 24 -/
mutual
def thresherref20_one.l0 : Nat→List (List (S40))→Int→Int→Int→Int→Bool→Int→ByteArray→Option (Bool × Int × ByteArray)
 | 0,_,_,_,_,_,_,_,_=>none
 | k + 1,x2,x8,x9,x391000,x391001,x393000,x393001,x393002=>if x9 < (x2.length : Int) then (if 0≤x9 then (if 0≤x391001 then (if x391001 < ((rd_L7 x2 x9).length : Int) then (if x391000=2 then ((thresherref03_Add.f k x8 x393001 x393002 ((rd_T40 (rd_L7 x2 x9) x391001).f0) ((rd_T40 (rd_L7 x2 x9) x391001).f1)).bind fun bt397=>(thresherref20_one.l0 k x2 x8 (wrap64 (x9 + 1)) x391000 x391001 x393000 bt397.1 bt397.2)) else ((thresherref03_Compare.f k x8 ((rd_T40 (rd_L7 x2 x9) x391001).f0) ((rd_T40 (rd_L7 x2 x9) x391001).f1) x393001 x393002).bind fun t399=>(if x393000=true then (if x391000=3 then (if t399 < 0 then (thresherref20_one.j1 k x2 x8 x9 true x391000 x391001 x393000 x393001 x393002 ((rd_T40 (rd_L7 x2 x9) x391001).f0) ((rd_T40 (rd_L7 x2 x9) x391001).f1)) else (if x391000=4 then (thresherref20_one.j1 k x2 x8 x9 (decide (t399 > 0)) x391000 x391001 x393000 x393001 x393002 ((rd_T40 (rd_L7 x2 x9) x391001).f0) ((rd_T40 (rd_L7 x2 x9) x391001).f1)) else (thresherref20_one.j1 k x2 x8 x9 false x391000 x391001 x393000 x393001 x393002 ((rd_T40 (rd_L7 x2 x9) x391001).f0) ((rd_T40 (rd_L7 x2 x9) x391001).f1)))) else (if x391000=4 then (thresherref20_one.j1 k x2 x8 x9 (decide (t399 > 0)) x391000 x391001 x393000 x393001 x393002 ((rd_T40 (rd_L7 x2 x9) x391001).f0) ((rd_T40 (rd_L7 x2 x9) x391001).f1)) else (thresherref20_one.j1 k x2 x8 x9 false x391000 x391001 x393000 x393001 x393002 ((rd_T40 (rd_L7 x2 x9) x391001).f0) ((rd_T40 (rd_L7 x2 x9) x391001).f1)))) else (thresherref20_one.j1 k x2 x8 x9 true x391000 x391001 x393000 x393001 x393002 ((rd_T40 (rd_L7 x2 x9) x391001).f0) ((rd_T40 (rd_L7 x2 x9) x391001).f1))))) else (none)) else (none)) else (none)) else (some (x393000,x393001,x393002))
def thresherref20_one.j1 : Nat→List (List (S40))→Int→Int→Bool→Int→Int→Bool→Int→ByteArray→Int→ByteArray→Option (Bool × Int × ByteArray)
 | 0,_,_,_,_,_,_,_,_,_,_,_=>none
 | k + 1,x2,x8,x9,x77,x391000,x391001,x393000,x393001,x393002,x397000,x397001=>if x77=true then (thresherref20_one.l0 k x2 x8 (wrap64 (x9 + 1)) x391000 x391001 true x397000 x397001) else (thresherref20_one.l0 k x2 x8 (wrap64 (x9 + 1)) x391000 x391001 x393000 x393001 x393002)
end
def thresherref20_one.f (k : Nat) (l0_0 : List Int) (a0_1 : Int) (a0_2 : Int) (a0_3 : Int) (a1_0 : Int) (a1_1 : Int) (l2 : List (List (S40))) : Option (Bool × Int × ByteArray):=if a1_0=1 then (some (true,(l2.length : Int),(⟨#[]⟩ : ByteArray))) else (if 0≤a1_1 then (if a1_1 < (l0_0.length : Int) then (thresherref20_one.l0 k l2 (rd l0_0 a1_1) 0 a1_0 a1_1 (a1_0 == 2) 0 (⟨#[]⟩ : ByteArray)) else (none)) else (none))
theorem thresherref20_one.mono_l : ∀ k,(∀ y0 y1 y2 y3 y4 y5 y6 y7,LeO (thresherref20_one.l0 k y0 y1 y2 y3 y4 y5 y6 y7) (thresherref20_one.l0 (k + 1) y0 y1 y2 y3 y4 y5 y6 y7))∧(∀ y0 y1 y2 y3 y4 y5 y6 y7 y8 y9 y10,LeO (thresherref20_one.j1 k y0 y1 y2 y3 y4 y5 y6 y7 y8 y9 y10) (thresherref20_one.j1 (k + 1) y0 y1 y2 y3 y4 y5 y6 y7 y8 y9 y10))
 | 0=>⟨fun _ _ _ _ _ _ _ _ r h=>by simp [thresherref20_one.l0] at h,fun _ _ _ _ _ _ _ _ _ _ _ r h=>by simp [thresherref20_one.j1] at h⟩
 | k + 1=>by
  obtain ⟨ih0,ih1⟩:=thresherref20_one.mono_l k
  refine ⟨?_,?_⟩
  ·intro y0 y1 y2 y3 y4 y5 y6 y7
   unfold thresherref20_one.l0
   repeat' first
   | (with_reducible exact ih0 _ _ _ _ _ _ _ _)
   | (with_reducible exact ih1 _ _ _ _ _ _ _ _ _ _ _)
   | (with_reducible exact thresherref03_Add.mono _ _ _ _ _ _)
   | (with_reducible exact thresherref03_Compare.mono _ _ _ _ _ _)
   | (with_reducible exact LeO.refl _)
   | (with_reducible exact LeO.none _)
   | (with_reducible refine LeO.ite ?_ ?_)
   | (with_reducible refine LeO.bind ?_ (fun _=>?_))
   | exact ih0 _ _ _ _ _ _ _ _
   | exact ih1 _ _ _ _ _ _ _ _ _ _ _
   | exact thresherref03_Add.mono _ _ _ _ _ _
   | exact thresherref03_Compare.mono _ _ _ _ _ _
   | exact LeO.none _
   | refine LeO.ite ?_ ?_
   | refine LeO.bind ?_ (fun _=>?_)
  ·intro y0 y1 y2 y3 y4 y5 y6 y7 y8 y9 y10
   unfold thresherref20_one.j1
   repeat' first
   | (with_reducible exact ih0 _ _ _ _ _ _ _ _)
   | (with_reducible exact ih1 _ _ _ _ _ _ _ _ _ _ _)
   | (with_reducible exact thresherref03_Add.mono _ _ _ _ _ _)
   | (with_reducible exact thresherref03_Compare.mono _ _ _ _ _ _)
   | (with_reducible exact LeO.refl _)
   | (with_reducible exact LeO.none _)
   | (with_reducible refine LeO.ite ?_ ?_)
   | (with_reducible refine LeO.bind ?_ (fun _=>?_))
   | exact ih0 _ _ _ _ _ _ _ _
   | exact ih1 _ _ _ _ _ _ _ _ _ _ _
   | exact thresherref03_Add.mono _ _ _ _ _ _
   | exact thresherref03_Compare.mono _ _ _ _ _ _
   | exact LeO.none _
   | refine LeO.ite ?_ ?_
   | refine LeO.bind ?_ (fun _=>?_)
theorem thresherref20_one.mono : ∀ a0 a1 a2 a3 a4 a5 a6 k,LeO (thresherref20_one.f k a0 a1 a2 a3 a4 a5 a6) (thresherref20_one.f (k + 1) a0 a1 a2 a3 a4 a5 a6):=by
 intro a0 a1 a2 a3 a4 a5 a6 k
 obtain ⟨ih0,ih1⟩:=thresherref20_one.mono_l k
 unfold thresherref20_one.f
 repeat' first
   | (with_reducible exact ih0 _ _ _ _ _ _ _ _)
   | (with_reducible exact ih1 _ _ _ _ _ _ _ _ _ _ _)
   | (with_reducible exact thresherref03_Add.mono _ _ _ _ _ _)
   | (with_reducible exact thresherref03_Compare.mono _ _ _ _ _ _)
   | (with_reducible exact LeO.refl _)
   | (with_reducible exact LeO.none _)
   | (with_reducible refine LeO.ite ?_ ?_)
   | (with_reducible refine LeO.bind ?_ (fun _=>?_))
   | exact ih0 _ _ _ _ _ _ _ _
   | exact ih1 _ _ _ _ _ _ _ _ _ _ _
   | exact thresherref03_Add.mono _ _ _ _ _ _
   | exact thresherref03_Compare.mono _ _ _ _ _ _
   | exact LeO.none _
   | refine LeO.ite ?_ ?_
   | refine LeO.bind ?_ (fun _=>?_)
def thresherref20_one.T8 : Bool × List (List Nat × List Nat):=(true,[([],[]),([],[]),([0,1],[0,1]),([2],[2]),([],[]),([4],[4]),([3,5],[3,5]),([6],[6]),([],[]),([8,7,0,1,2,3,4,5,6,7,8],[7,8])])
def thresherref20_one.B8 : List Nat:=[0,0,3,7,0,16,63,127,0,511]
theorem thresherref20_one.tab8 : rtab .any (opsOf Try.f24 8)=thresherref20_one.T8:=by kernel_rfl
theorem thresherref20_one.bits8 : waitsOk thresherref20_one.T8.2 thresherref20_one.B8=true:=by kernel_rfl
set_option maxHeartbeats 8000000 in
set_option maxRecDepth 100000 in
theorem thresherref20_one.calls (k : Nat) (A0_0 : Option Addr) (c0_0 : Nat) (l0_0 : List Int) (a0_1 : Int) (a0_2 : Int) (a0_3 : Int) (a1_0 : Int) (a1_1 : Int) (A2 : Option Addr) (c2 : Nat) (l2 : List (List (S40))) (r1 : Bool) (r2 : Int) (r3 : ByteArray) (w : World) (hr0_0 : Kd.C (Kd.int .i64) w A0_0 l0_0.length l0_0) (hc0_0 : l0_0.length≤c0_0) (hr2 : Kd.C (Kd.slice 40 k40) w A2 l2.length l2) (hc2 : l2.length≤c2) (h : thresherref20_one.f k l0_0 a0_1 a0_2 a0_3 a1_0 a1_1 l2=some (r1,r2,r3)) :
  Calls Try.prog 24 #[.agg #[.slice A0_0 l0_0.length c0_0,.int .i64 a0_1,.int .i64 a0_2,.int .i64 a0_3],.agg #[.int .i64 a1_0,.int .i64 a1_1],.slice A2 l2.length c2] w fun e w'=>e=.returned (.agg #[.bool r1,.int .i64 r2,.string r3])∧Below w.heap.size w w':=by
 have hu29:=Try.underlying29
 have hu33:=Try.underlying33
 have hu42:=Try.underlying42
 have hu40:=Try.underlying40
 have HR0_0:=Aside0.mk hr0_0
 have HC0_0:=Aside0.mk hc0_0
 clear hr0_0 hc0_0
 have HR2:=Aside0.mk hr2
 have HC2:=Aside0.mk hc2
 clear hr2 hc2
 have HB:=Aside0.mk (Below.refl w.heap.size w)
 have H : (if a1_0=1 then (some (true,(l2.length : Int),(⟨#[]⟩ : ByteArray))) else (if 0≤a1_1 then (if a1_1 < (l0_0.length : Int) then (thresherref20_one.l0 k l2 (rd l0_0 a1_1) 0 a1_0 a1_1 (a1_0 == 2) 0 (⟨#[]⟩ : ByteArray)) else (none)) else (none)))=some (r1,r2,r3):=h
 clear h
 by_cases c4 : a1_0=1
 ·rw [if_pos c4] at H
  have c4b0 : (a1_0 == 1)=true:=beq_iff_eq.mpr c4
  have c4b1 : (a1_0 != 1)=false:=bne_eq_false_iff_eq.mpr c4
  clear c4
  simp only [Option.some.injEq,Prod.mk.injEq] at H
  obtain ⟨rfl,rfl,rfl⟩:=H
  go_enter Try.func24,Try.ntmps24
  go_wp2_with (first|((with_reducible refine gate_dst (N:=3) rfl ?_);refine box_event ?hg (N:=3) ?hd (cs:=#[.slice A0_0 l0_0.length c0_0,.int .i64 a0_1,.int .i64 a0_2,.int .i64 a0_3]) (t:=29) ?hr ?_;(case hd=>rfl);(case hg=>rfl);(case hr=>first|(go_simp;done)|(go_simp;rfl));intro gb389 hg w5 hbox hb;have n0_:=Aside0.mk (below_step (by repeat (first|(with_reducible first|exact HB.out|apply below_alloc|apply pw_below_drewN|apply below_drew1)|exact HB.out)) hb);have n1_:=Aside0.mk (hbox);have n2_:=Aside0.mk ((by rw [hg];exact (below_size (by repeat (first|(with_reducible first|exact HB.out|apply below_alloc|apply pw_below_drewN|apply below_drew1)|exact HB.out))) : w.heap.size≤gb389));have n3_:=Aside0.mk ((by rw [hg];exact (below_size (by repeat (first|(with_reducible first|exact HB.out|apply below_alloc|apply pw_below_drewN|apply below_drew1)|exact HB.out))) : w.heap.size≤gb389));clear HB;have HB:=n0_;have BK389:=n1_;have GW389:=n2_;have GE389:=n3_;clear n0_ n1_ n2_ n3_;clear hb hbox hg)|((with_reducible refine gate_dst (N:=4) rfl ?_);refine box_event ?hg (N:=4) ?hd (cs:=#[.int .i64 a1_0,.int .i64 a1_1]) (t:=33) ?hr ?_;(case hd=>rfl);(case hg=>rfl);(case hr=>first|(go_simp;done)|(go_simp;rfl));intro gb390 hg w6 hbox hb;have n0_:=Aside0.mk (blk_below (g:=gb389) (o:=.cells #[.slice A0_0 l0_0.length c0_0,.int .i64 a0_1,.int .i64 a0_2,.int .i64 a0_3] 29 (0,0)) (by (with_reducible repeat (first|refine blk_drewN ?_ _|refine blk_drew ?_|refine blk_alloc ?_ _));exact BK389.out) hb);have n1_:=Aside0.mk (below_step (by repeat (first|(with_reducible first|exact HB.out|apply below_alloc|apply pw_below_drewN|apply below_drew1|refine below_set ?_ GE389.out)|exact HB.out)) hb);have n2_:=Aside0.mk (hbox);have n3_:=Aside0.mk ((by rw [hg];exact (below_size (by repeat (first|(with_reducible first|exact HB.out|apply below_alloc|apply pw_below_drewN|apply below_drew1|refine below_set ?_ GE389.out)|exact HB.out))) : w.heap.size≤gb390));have n4_:=Aside0.mk ((by rw [hg];exact (below_size (by repeat (first|(with_reducible first|exact HB.out|apply below_alloc|apply pw_below_drewN|apply below_drew1|refine below_set ?_ GE389.out)|exact HB.out))) : w.heap.size≤gb390));have n5_:=Aside0.mk ((by rw [hg];exact Nat.ne_of_lt (blk_lt (g:=gb389) (o:=.cells #[.slice A0_0 l0_0.length c0_0,.int .i64 a0_1,.int .i64 a0_2,.int .i64 a0_3] 29 (0,0)) (by (with_reducible repeat (first|refine blk_drewN ?_ _|refine blk_drew ?_|refine blk_alloc ?_ _));exact BK389.out)) : gb389≠gb390));have n6_:=Aside0.mk ((by rw [hg];exact Nat.ne_of_gt (blk_lt (g:=gb389) (o:=.cells #[.slice A0_0 l0_0.length c0_0,.int .i64 a0_1,.int .i64 a0_2,.int .i64 a0_3] 29 (0,0)) (by (with_reducible repeat (first|refine blk_drewN ?_ _|refine blk_drew ?_|refine blk_alloc ?_ _));exact BK389.out)) : gb390≠gb389));clear BK389;clear HB;have BK389:=n0_;have HB:=n1_;have BK390:=n2_;have GW390:=n3_;have GE390:=n4_;have NB389_390:=n5_;have NB390_389:=n6_;clear n0_ n1_ n2_ n3_ n4_ n5_ n6_;clear hb hbox hg)|((with_reducible refine gate_dst (N:=6) rfl ?_);refine box_event ?hg (N:=6) ?hd (cs:=#[.bool false,.int .i64 0,.string (⟨#[]⟩ : ByteArray)]) (t:=42) ?hr ?_;(case hd=>rfl);(case hg=>rfl);(case hr=>first|(go_simp;done)|(go_simp;rfl));intro gb391 hg w7 hbox hb;have n0_:=Aside0.mk (blk_below (g:=gb389) (o:=.cells #[.slice A0_0 l0_0.length c0_0,.int .i64 a0_1,.int .i64 a0_2,.int .i64 a0_3] 29 (0,0)) (by (with_reducible repeat (first|refine blk_drewN ?_ _|refine blk_drew ?_|refine blk_alloc ?_ _));exact BK389.out) hb);have n1_:=Aside0.mk (blk_below (g:=gb390) (o:=.cells #[.int .i64 a1_0,.int .i64 a1_1] 33 (0,0)) (by (with_reducible repeat (first|refine blk_drewN ?_ _|refine blk_drew ?_|refine blk_alloc ?_ _));exact BK390.out) hb);have n2_:=Aside0.mk (below_step (by repeat (first|(with_reducible first|exact HB.out|apply below_alloc|apply pw_below_drewN|apply below_drew1|refine below_set ?_ GE389.out|refine below_set ?_ GE390.out)|exact HB.out)) hb);have n3_:=Aside0.mk (hbox);have n4_:=Aside0.mk ((by rw [hg];exact (below_size (by repeat (first|(with_reducible first|exact HB.out|apply below_alloc|apply pw_below_drewN|apply below_drew1|refine below_set ?_ GE389.out|refine below_set ?_ GE390.out)|exact HB.out))) : w.heap.size≤gb391));have n5_:=Aside0.mk ((by rw [hg];exact (below_size (by repeat (first|(with_reducible first|exact HB.out|apply below_alloc|apply pw_below_drewN|apply below_drew1|refine below_set ?_ GE389.out|refine below_set ?_ GE390.out)|exact HB.out))) : w.heap.size≤gb391));have n6_:=Aside0.mk ((by rw [hg];exact Nat.ne_of_lt (blk_lt (g:=gb389) (o:=.cells #[.slice A0_0 l0_0.length c0_0,.int .i64 a0_1,.int .i64 a0_2,.int .i64 a0_3] 29 (0,0)) (by (with_reducible repeat (first|refine blk_drewN ?_ _|refine blk_drew ?_|refine blk_alloc ?_ _));exact BK389.out)) : gb389≠gb391));have n7_:=Aside0.mk ((by rw [hg];exact Nat.ne_of_gt (blk_lt (g:=gb389) (o:=.cells #[.slice A0_0 l0_0.length c0_0,.int .i64 a0_1,.int .i64 a0_2,.int .i64 a0_3] 29 (0,0)) (by (with_reducible repeat (first|refine blk_drewN ?_ _|refine blk_drew ?_|refine blk_alloc ?_ _));exact BK389.out)) : gb391≠gb389));have n8_:=Aside0.mk ((by rw [hg];exact Nat.ne_of_lt (blk_lt (g:=gb390) (o:=.cells #[.int .i64 a1_0,.int .i64 a1_1] 33 (0,0)) (by (with_reducible repeat (first|refine blk_drewN ?_ _|refine blk_drew ?_|refine blk_alloc ?_ _));exact BK390.out)) : gb390≠gb391));have n9_:=Aside0.mk ((by rw [hg];exact Nat.ne_of_gt (blk_lt (g:=gb390) (o:=.cells #[.int .i64 a1_0,.int .i64 a1_1] 33 (0,0)) (by (with_reducible repeat (first|refine blk_drewN ?_ _|refine blk_drew ?_|refine blk_alloc ?_ _));exact BK390.out)) : gb391≠gb390));clear BK389;clear BK390;clear HB;have BK389:=n0_;have BK390:=n1_;have HB:=n2_;have BK391:=n3_;have GW391:=n4_;have GE391:=n5_;have NB389_391:=n6_;have NB391_389:=n7_;have NB390_391:=n8_;have NB391_390:=n9_;clear n0_ n1_ n2_ n3_ n4_ n5_ n6_ n7_ n8_ n9_;clear hb hbox hg;have hnb8:=NB390_389.out;have hnc8:=NB389_390.out;have hnb9:=NB390_391.out;have hnc9:=NB391_390.out;have hcz10_0 : w7.cell? ⟨gb390,0,none⟩=some (.int .i64 a1_0):=(blk_cell BK390.out 0).trans rfl;have hcz10_1 : w7.cell? ⟨gb390,1,none⟩=some (.int .i64 a1_1):=(blk_cell BK390.out 1).trans rfl;have hfz10_0:=blk_frozen BK390.out 0;have hfz10_1:=blk_frozen BK390.out 1;have hnb11:=NB391_389.out;have hnc11:=NB389_391.out;have hcz12_0 : w7.cell? ⟨gb391,0,none⟩=some (.bool false):=(blk_cell BK391.out 0).trans rfl;have hcz12_1 : w7.cell? ⟨gb391,1,none⟩=some (.int .i64 0):=(blk_cell BK391.out 1).trans rfl;have hcz12_2 : w7.cell? ⟨gb391,2,none⟩=some (.string (⟨#[]⟩ : ByteArray)):=(blk_cell BK391.out 2).trans rfl;have hfz12_0:=blk_frozen BK391.out 0;have hfz12_1:=blk_frozen BK391.out 1;have hfz12_2:=blk_frozen BK391.out 2))
  refine bodyPost_ret (results_cell_row rfl _ _ gb391 42 #[.bool true,.int .i64 (l2.length : Int),.string (⟨#[]⟩ : ByteArray)] (0,0) _ rfl (by (with_reducible repeat (first|refine blk_drewN ?_ _|refine blk_drew ?_|refine blk_alloc ?_ _));refine blk_put (cs:=#[.bool true,.int .i64 (l2.length : Int),.string (⟨#[]⟩ : ByteArray)]) ?_ 2 _ rfl;(with_reducible repeat (first|refine blk_drewN ?_ _|refine blk_drew ?_|refine blk_alloc ?_ _));refine blk_put (cs:=#[.bool true,.int .i64 0,.string (⟨#[]⟩ : ByteArray)]) ?_ 1 _ rfl;(with_reducible repeat (first|refine blk_drewN ?_ _|refine blk_drew ?_|refine blk_alloc ?_ _));refine blk_put (cs:=#[.bool false,.int .i64 0,.string (⟨#[]⟩ : ByteArray)]) ?_ 0 _ rfl;(with_reducible repeat (first|refine blk_drewN ?_ _|refine blk_drew ?_|refine blk_alloc ?_ _));exact BK391.out) Try.underlying42 rfl (by kernel_rfl)) rfl ?_
  exact ⟨by first|rfl|(simp [errW_none,errW_some] <;> rfl)|(simp [*,errW_none,errW_some] <;> rfl),by repeat (first|(with_reducible first|exact HB.out|apply below_alloc|apply pw_below_drewN|apply below_drew1|refine below_set ?_ GE389.out|refine below_set ?_ GE390.out|refine below_set ?_ GE391.out)|exact HB.out)⟩
 ·rw [if_neg c4] at H
  have c4b0 : (a1_0 == 1)=false:=beq_eq_false_iff_ne.mpr c4
  have c4b1 : (a1_0 != 1)=true:=bne_iff_ne.mpr c4
  by_cases c13 : 0≤a1_1
  ·rw [if_pos c13] at H
   have c13b0 : decide (0≤a1_1)=true:=decide_eq_true c13
   clear c13
   by_cases c14 : a1_1 < (l0_0.length : Int)
   ·rw [if_pos c14] at H
    have c14b0 : decide (a1_1 < (l0_0.length : Int))=true:=decide_eq_true c14
    clear c14
    have H':=Aside0.mk H
    clear H
    go_enter Try.func24,Try.ntmps24
    go_wp2_with (first|((with_reducible refine gate_dst (N:=3) rfl ?_);refine box_event ?hg (N:=3) ?hd (cs:=#[.slice A0_0 l0_0.length c0_0,.int .i64 a0_1,.int .i64 a0_2,.int .i64 a0_3]) (t:=29) ?hr ?_;(case hd=>rfl);(case hg=>rfl);(case hr=>first|(go_simp;done)|(go_simp;rfl));intro gb389 hg w15 hbox hb;have n0_:=Aside0.mk (below_step (by repeat (first|(with_reducible first|exact HB.out|apply below_alloc|apply pw_below_drewN|apply below_drew1)|exact HB.out)) hb);have n1_:=Aside0.mk (hbox);have n2_:=Aside0.mk ((by rw [hg];exact (below_size (by repeat (first|(with_reducible first|exact HB.out|apply below_alloc|apply pw_below_drewN|apply below_drew1)|exact HB.out))) : w.heap.size≤gb389));have n3_:=Aside0.mk ((by rw [hg];exact (below_size (by repeat (first|(with_reducible first|exact HB.out|apply below_alloc|apply pw_below_drewN|apply below_drew1)|exact HB.out))) : w.heap.size≤gb389));clear HB;have HB:=n0_;have BK389:=n1_;have GW389:=n2_;have GE389:=n3_;clear n0_ n1_ n2_ n3_;clear hb hbox hg)|((with_reducible refine gate_dst (N:=4) rfl ?_);refine box_event ?hg (N:=4) ?hd (cs:=#[.int .i64 a1_0,.int .i64 a1_1]) (t:=33) ?hr ?_;(case hd=>rfl);(case hg=>rfl);(case hr=>first|(go_simp;done)|(go_simp;rfl));intro gb390 hg w16 hbox hb;have n0_:=Aside0.mk (blk_below (g:=gb389) (o:=.cells #[.slice A0_0 l0_0.length c0_0,.int .i64 a0_1,.int .i64 a0_2,.int .i64 a0_3] 29 (0,0)) (by (with_reducible repeat (first|refine blk_drewN ?_ _|refine blk_drew ?_|refine blk_alloc ?_ _));exact BK389.out) hb);have n1_:=Aside0.mk (below_step (by repeat (first|(with_reducible first|exact HB.out|apply below_alloc|apply pw_below_drewN|apply below_drew1|refine below_set ?_ GE389.out)|exact HB.out)) hb);have n2_:=Aside0.mk (hbox);have n3_:=Aside0.mk ((by rw [hg];exact (below_size (by repeat (first|(with_reducible first|exact HB.out|apply below_alloc|apply pw_below_drewN|apply below_drew1|refine below_set ?_ GE389.out)|exact HB.out))) : w.heap.size≤gb390));have n4_:=Aside0.mk ((by rw [hg];exact (below_size (by repeat (first|(with_reducible first|exact HB.out|apply below_alloc|apply pw_below_drewN|apply below_drew1|refine below_set ?_ GE389.out)|exact HB.out))) : w.heap.size≤gb390));have n5_:=Aside0.mk ((by rw [hg];exact Nat.ne_of_lt (blk_lt (g:=gb389) (o:=.cells #[.slice A0_0 l0_0.length c0_0,.int .i64 a0_1,.int .i64 a0_2,.int .i64 a0_3] 29 (0,0)) (by (with_reducible repeat (first|refine blk_drewN ?_ _|refine blk_drew ?_|refine blk_alloc ?_ _));exact BK389.out)) : gb389≠gb390));have n6_:=Aside0.mk ((by rw [hg];exact Nat.ne_of_gt (blk_lt (g:=gb389) (o:=.cells #[.slice A0_0 l0_0.length c0_0,.int .i64 a0_1,.int .i64 a0_2,.int .i64 a0_3] 29 (0,0)) (by (with_reducible repeat (first|refine blk_drewN ?_ _|refine blk_drew ?_|refine blk_alloc ?_ _));exact BK389.out)) : gb390≠gb389));clear BK389;clear HB;have BK389:=n0_;have HB:=n1_;have BK390:=n2_;have GW390:=n3_;have GE390:=n4_;have NB389_390:=n5_;have NB390_389:=n6_;clear n0_ n1_ n2_ n3_ n4_ n5_ n6_;clear hb hbox hg)|((with_reducible refine gate_dst (N:=6) rfl ?_);refine box_event ?hg (N:=6) ?hd (cs:=#[.bool false,.int .i64 0,.string (⟨#[]⟩ : ByteArray)]) (t:=42) ?hr ?_;(case hd=>rfl);(case hg=>rfl);(case hr=>first|(go_simp;done)|(go_simp;rfl));intro gb391 hg w17 hbox hb;have n0_:=Aside0.mk (blk_below (g:=gb389) (o:=.cells #[.slice A0_0 l0_0.length c0_0,.int .i64 a0_1,.int .i64 a0_2,.int .i64 a0_3] 29 (0,0)) (by (with_reducible repeat (first|refine blk_drewN ?_ _|refine blk_drew ?_|refine blk_alloc ?_ _));exact BK389.out) hb);have n1_:=Aside0.mk (blk_below (g:=gb390) (o:=.cells #[.int .i64 a1_0,.int .i64 a1_1] 33 (0,0)) (by (with_reducible repeat (first|refine blk_drewN ?_ _|refine blk_drew ?_|refine blk_alloc ?_ _));exact BK390.out) hb);have n2_:=Aside0.mk (below_step (by repeat (first|(with_reducible first|exact HB.out|apply below_alloc|apply pw_below_drewN|apply below_drew1|refine below_set ?_ GE389.out|refine below_set ?_ GE390.out)|exact HB.out)) hb);have n3_:=Aside0.mk (hbox);have n4_:=Aside0.mk ((by rw [hg];exact (below_size (by repeat (first|(with_reducible first|exact HB.out|apply below_alloc|apply pw_below_drewN|apply below_drew1|refine below_set ?_ GE389.out|refine below_set ?_ GE390.out)|exact HB.out))) : w.heap.size≤gb391));have n5_:=Aside0.mk ((by rw [hg];exact (below_size (by repeat (first|(with_reducible first|exact HB.out|apply below_alloc|apply pw_below_drewN|apply below_drew1|refine below_set ?_ GE389.out|refine below_set ?_ GE390.out)|exact HB.out))) : w.heap.size≤gb391));have n6_:=Aside0.mk ((by rw [hg];exact Nat.ne_of_lt (blk_lt (g:=gb389) (o:=.cells #[.slice A0_0 l0_0.length c0_0,.int .i64 a0_1,.int .i64 a0_2,.int .i64 a0_3] 29 (0,0)) (by (with_reducible repeat (first|refine blk_drewN ?_ _|refine blk_drew ?_|refine blk_alloc ?_ _));exact BK389.out)) : gb389≠gb391));have n7_:=Aside0.mk ((by rw [hg];exact Nat.ne_of_gt (blk_lt (g:=gb389) (o:=.cells #[.slice A0_0 l0_0.length c0_0,.int .i64 a0_1,.int .i64 a0_2,.int .i64 a0_3] 29 (0,0)) (by (with_reducible repeat (first|refine blk_drewN ?_ _|refine blk_drew ?_|refine blk_alloc ?_ _));exact BK389.out)) : gb391≠gb389));have n8_:=Aside0.mk ((by rw [hg];exact Nat.ne_of_lt (blk_lt (g:=gb390) (o:=.cells #[.int .i64 a1_0,.int .i64 a1_1] 33 (0,0)) (by (with_reducible repeat (first|refine blk_drewN ?_ _|refine blk_drew ?_|refine blk_alloc ?_ _));exact BK390.out)) : gb390≠gb391));have n9_:=Aside0.mk ((by rw [hg];exact Nat.ne_of_gt (blk_lt (g:=gb390) (o:=.cells #[.int .i64 a1_0,.int .i64 a1_1] 33 (0,0)) (by (with_reducible repeat (first|refine blk_drewN ?_ _|refine blk_drew ?_|refine blk_alloc ?_ _));exact BK390.out)) : gb391≠gb390));clear BK389;clear BK390;clear HB;have BK389:=n0_;have BK390:=n1_;have HB:=n2_;have BK391:=n3_;have GW391:=n4_;have GE391:=n5_;have NB389_391:=n6_;have NB391_389:=n7_;have NB390_391:=n8_;have NB391_390:=n9_;clear n0_ n1_ n2_ n3_ n4_ n5_ n6_ n7_ n8_ n9_;clear hb hbox hg;have hnb18:=NB390_389.out;have hnc18:=NB389_390.out;have hnb19:=NB390_391.out;have hnc19:=NB391_390.out;have hcz20_0 : w17.cell? ⟨gb390,0,none⟩=some (.int .i64 a1_0):=(blk_cell BK390.out 0).trans rfl;have hcz20_1 : w17.cell? ⟨gb390,1,none⟩=some (.int .i64 a1_1):=(blk_cell BK390.out 1).trans rfl;have hfz20_0:=blk_frozen BK390.out 0;have hfz20_1:=blk_frozen BK390.out 1)|((with_reducible refine gate_dst (N:=7) rfl ?_);refine box_event ?hg (N:=7) ?hd (cs:=#[.bool false,.int .i64 0,.string (⟨#[]⟩ : ByteArray)]) (t:=42) ?hr ?_;(case hd=>rfl);(case hg=>rfl);(case hr=>first|(go_simp;done)|(go_simp;rfl));intro gb392 hg w21 hbox hb;have n0_:=Aside0.mk (blk_below (g:=gb389) (o:=.cells #[.slice A0_0 l0_0.length c0_0,.int .i64 a0_1,.int .i64 a0_2,.int .i64 a0_3] 29 (0,0)) (by (with_reducible repeat (first|refine blk_drewN ?_ _|refine blk_drew ?_|refine blk_alloc ?_ _));exact BK389.out) hb);have n1_:=Aside0.mk (blk_below (g:=gb390) (o:=.cells #[.int .i64 a1_0,.int .i64 a1_1] 33 (0,0)) (by (with_reducible repeat (first|refine blk_drewN ?_ _|refine blk_drew ?_|refine blk_alloc ?_ _));exact BK390.out) hb);have n2_:=Aside0.mk (blk_below (g:=gb391) (o:=.cells #[.bool false,.int .i64 0,.string (⟨#[]⟩ : ByteArray)] 42 (0,0)) (by (with_reducible repeat (first|refine blk_drewN ?_ _|refine blk_drew ?_|refine blk_alloc ?_ _));exact BK391.out) hb);have n3_:=Aside0.mk (below_step (by repeat (first|(with_reducible first|exact HB.out|apply below_alloc|apply pw_below_drewN|apply below_drew1|refine below_set ?_ GE389.out|refine below_set ?_ GE390.out|refine below_set ?_ GE391.out)|exact HB.out)) hb);have n4_:=Aside0.mk (hbox);have n5_:=Aside0.mk ((by rw [hg];exact (below_size (by repeat (first|(with_reducible first|exact HB.out|apply below_alloc|apply pw_below_drewN|apply below_drew1|refine below_set ?_ GE389.out|refine below_set ?_ GE390.out|refine below_set ?_ GE391.out)|exact HB.out))) : w.heap.size≤gb392));have n6_:=Aside0.mk ((by rw [hg];exact (below_size (by repeat (first|(with_reducible first|exact HB.out|apply below_alloc|apply pw_below_drewN|apply below_drew1|refine below_set ?_ GE389.out|refine below_set ?_ GE390.out|refine below_set ?_ GE391.out)|exact HB.out))) : w.heap.size≤gb392));have n7_:=Aside0.mk ((by rw [hg];exact Nat.ne_of_lt (blk_lt (g:=gb389) (o:=.cells #[.slice A0_0 l0_0.length c0_0,.int .i64 a0_1,.int .i64 a0_2,.int .i64 a0_3] 29 (0,0)) (by (with_reducible repeat (first|refine blk_drewN ?_ _|refine blk_drew ?_|refine blk_alloc ?_ _));exact BK389.out)) : gb389≠gb392));have n8_:=Aside0.mk ((by rw [hg];exact Nat.ne_of_gt (blk_lt (g:=gb389) (o:=.cells #[.slice A0_0 l0_0.length c0_0,.int .i64 a0_1,.int .i64 a0_2,.int .i64 a0_3] 29 (0,0)) (by (with_reducible repeat (first|refine blk_drewN ?_ _|refine blk_drew ?_|refine blk_alloc ?_ _));exact BK389.out)) : gb392≠gb389));have n9_:=Aside0.mk ((by rw [hg];exact Nat.ne_of_lt (blk_lt (g:=gb390) (o:=.cells #[.int .i64 a1_0,.int .i64 a1_1] 33 (0,0)) (by (with_reducible repeat (first|refine blk_drewN ?_ _|refine blk_drew ?_|refine blk_alloc ?_ _));exact BK390.out)) : gb390≠gb392));have n10_:=Aside0.mk ((by rw [hg];exact Nat.ne_of_gt (blk_lt (g:=gb390) (o:=.cells #[.int .i64 a1_0,.int .i64 a1_1] 33 (0,0)) (by (with_reducible repeat (first|refine blk_drewN ?_ _|refine blk_drew ?_|refine blk_alloc ?_ _));exact BK390.out)) : gb392≠gb390));have n11_:=Aside0.mk ((by rw [hg];exact Nat.ne_of_lt (blk_lt (g:=gb391) (o:=.cells #[.bool false,.int .i64 0,.string (⟨#[]⟩ : ByteArray)] 42 (0,0)) (by (with_reducible repeat (first|refine blk_drewN ?_ _|refine blk_drew ?_|refine blk_alloc ?_ _));exact BK391.out)) : gb391≠gb392));have n12_:=Aside0.mk ((by rw [hg];exact Nat.ne_of_gt (blk_lt (g:=gb391) (o:=.cells #[.bool false,.int .i64 0,.string (⟨#[]⟩ : ByteArray)] 42 (0,0)) (by (with_reducible repeat (first|refine blk_drewN ?_ _|refine blk_drew ?_|refine blk_alloc ?_ _));exact BK391.out)) : gb392≠gb391));clear BK389;clear BK390;clear BK391;clear HB;have BK389:=n0_;have BK390:=n1_;have BK391:=n2_;have HB:=n3_;have BK392:=n4_;have GW392:=n5_;have GE392:=n6_;have NB389_392:=n7_;have NB392_389:=n8_;have NB390_392:=n9_;have NB392_390:=n10_;have NB391_392:=n11_;have NB392_391:=n12_;clear n0_ n1_ n2_ n3_ n4_ n5_ n6_ n7_ n8_ n9_ n10_ n11_ n12_;clear hb hbox hg;have hnb22:=NB392_389.out;have hnc22:=NB389_392.out;have hnb23:=NB392_390.out;have hnc23:=NB390_392.out;have hnb24:=NB392_391.out;have hnc24:=NB391_392.out;have hcz25_0 : w21.cell? ⟨gb392,0,none⟩=some (.bool false):=(blk_cell BK392.out 0).trans rfl;have hcz25_1 : w21.cell? ⟨gb392,1,none⟩=some (.int .i64 0):=(blk_cell BK392.out 1).trans rfl;have hcz25_2 : w21.cell? ⟨gb392,2,none⟩=some (.string (⟨#[]⟩ : ByteArray)):=(blk_cell BK392.out 2).trans rfl;have hfz25_0:=blk_frozen BK392.out 0;have hfz25_1:=blk_frozen BK392.out 1;have hfz25_2:=blk_frozen BK392.out 2;have hnb26:=NB389_391.out;have hnc26:=NB391_389.out;have hcz27_0 : w21.cell? ⟨gb389,0,none⟩=some (.slice A0_0 l0_0.length c0_0):=(blk_cell BK389.out 0).trans rfl;have hcz27_1 : w21.cell? ⟨gb389,1,none⟩=some (.int .i64 a0_1):=(blk_cell BK389.out 1).trans rfl;have hcz27_2 : w21.cell? ⟨gb389,2,none⟩=some (.int .i64 a0_2):=(blk_cell BK389.out 2).trans rfl;have hcz27_3 : w21.cell? ⟨gb389,3,none⟩=some (.int .i64 a0_3):=(blk_cell BK389.out 3).trans rfl;have hfz27_0:=blk_frozen BK389.out 0;have hfz27_1:=blk_frozen BK389.out 1;have hfz27_2:=blk_frozen BK389.out 2;have hfz27_3:=blk_frozen BK389.out 3;have hcz28_0 : w21.cell? ⟨gb390,0,none⟩=some (.int .i64 a1_0):=(blk_cell BK390.out 0).trans rfl;have hcz28_1 : w21.cell? ⟨gb390,1,none⟩=some (.int .i64 a1_1):=(blk_cell BK390.out 1).trans rfl;have hfz28_0:=blk_frozen BK390.out 0;have hfz28_1:=blk_frozen BK390.out 1;have p393 : 0≤(a1_1 : Int):=of_decide_eq_true (by first|(with_reducible assumption)|assumption);have q393 : a1_1 < (l0_0.length : Int):=of_decide_eq_true (by first|(with_reducible assumption)|assumption);obtain ⟨ad393,e393,hx393_0⟩:=Kd.at_int HR0_0.out a1_1 p393 q393;cases e393;have hn393_0 : ad393.block≠gb392:=Nat.ne_of_lt (Nat.lt_of_lt_of_le (by have:=World.block_lt_of_cell? _ _ hx393_0;first|rwa [add_block] at this|exact this) GW392.out);have hn393_1 : ad393.block≠gb392:=Nat.ne_of_lt (Nat.lt_of_lt_of_le (by have:=World.block_lt_of_cell? _ _ hx393_0;first|rwa [add_block] at this|exact this) GW392.out);have hn393_2 : ad393.block≠gb392:=Nat.ne_of_lt (Nat.lt_of_lt_of_le (by have:=World.block_lt_of_cell? _ _ hx393_0;first|rwa [add_block] at this|exact this) GW392.out);replace hx393_0:=(HB.out.cell (World.block_lt_of_cell? w _ hx393_0)).trans hx393_0;replace hx393_0:=(cell_far (p:=⟨gb392,0,none⟩) (by first|(rw [add_block];exact hn393_0)|(show (Addr.add _ _).block≠_;rw [add_block];exact hn393_0)|exact hn393_0) (.bool (a1_0 == 2))).trans hx393_0;replace hx393_0:=(cell_far (p:=⟨gb392,1,none⟩) (by first|(rw [add_block];exact hn393_1)|(show (Addr.add _ _).block≠_;rw [add_block];exact hn393_1)|exact hn393_1) (.int .i64 0)).trans hx393_0;replace hx393_0:=(cell_far (p:=⟨gb392,2,none⟩) (by first|(rw [add_block];exact hn393_2)|(show (Addr.add _ _).block≠_;rw [add_block];exact hn393_2)|exact hn393_2) (.string (⟨#[]⟩ : ByteArray))).trans hx393_0;clear hn393_0;clear hn393_1;clear hn393_2;replace p393:=eq_true p393;replace q393:=eq_true q393))
    obtain ⟨bz_,hbz_⟩ : ∃ b_ : Bool,b_=(a1_0 == 2):=⟨_,rfl⟩
    rw [← hbz_]
    have HBZ_:=Aside0.mk hbz_
    clear hbz_
    go_loopg [9] k (fun kq v9 w'=>∃ (x9_1 : Int) (x393000_1 : Bool) (x393001_1 : Int) (x393002_1 : ByteArray),v9=.int .i64 x9_1∧Aside0 (thresherref20_one.l0 kq l2 (rd l0_0 a1_1) x9_1 a1_0 a1_1 x393000_1 x393001_1 x393002_1=some (r1,r2,r3))∧Aside0 (kq≤k)∧Aside0 (w'.heap[gb389]?=some (.cells #[(.slice (some ad393) l0_0.length c0_0),.int .i64 a0_1,.int .i64 a0_2,.int .i64 a0_3] 29 (0,0)))∧Aside0 (w'.heap[gb390]?=some (.cells #[.int .i64 a1_0,.int .i64 a1_1] 33 (0,0)))∧Aside0 (w'.heap[gb391]?=some (.cells #[.bool false,.int .i64 0,.string (⟨#[]⟩ : ByteArray)] 42 (0,0)))∧Aside0 (w'.heap[gb392]?=some (.cells #[.bool x393000_1,.int .i64 x393001_1,.string x393002_1] 42 (0,0)))∧Aside0 (Below w.heap.size w w'))
    case atStart=>obtain rfl:=HBZ_.out;exact ⟨(0),((a1_0 == 2)),(0),((⟨#[]⟩ : ByteArray)),(by first|rfl|(simp;done)|(simp [*];done)),H',⟨Nat.le_refl _⟩,⟨by (with_reducible repeat (first|refine blk_drewN ?_ _|refine blk_drew ?_|refine blk_alloc ?_ _));refine blk_far ?_ NB389_392.out _;(with_reducible repeat (first|refine blk_drewN ?_ _|refine blk_drew ?_|refine blk_alloc ?_ _));refine blk_far ?_ NB389_392.out _;(with_reducible repeat (first|refine blk_drewN ?_ _|refine blk_drew ?_|refine blk_alloc ?_ _));refine blk_far ?_ NB389_392.out _;(with_reducible repeat (first|refine blk_drewN ?_ _|refine blk_drew ?_|refine blk_alloc ?_ _));exact BK389.out⟩,⟨by (with_reducible repeat (first|refine blk_drewN ?_ _|refine blk_drew ?_|refine blk_alloc ?_ _));refine blk_far ?_ NB390_392.out _;(with_reducible repeat (first|refine blk_drewN ?_ _|refine blk_drew ?_|refine blk_alloc ?_ _));refine blk_far ?_ NB390_392.out _;(with_reducible repeat (first|refine blk_drewN ?_ _|refine blk_drew ?_|refine blk_alloc ?_ _));refine blk_far ?_ NB390_392.out _;(with_reducible repeat (first|refine blk_drewN ?_ _|refine blk_drew ?_|refine blk_alloc ?_ _));exact BK390.out⟩,⟨by (with_reducible repeat (first|refine blk_drewN ?_ _|refine blk_drew ?_|refine blk_alloc ?_ _));refine blk_far ?_ NB391_392.out _;(with_reducible repeat (first|refine blk_drewN ?_ _|refine blk_drew ?_|refine blk_alloc ?_ _));refine blk_far ?_ NB391_392.out _;(with_reducible repeat (first|refine blk_drewN ?_ _|refine blk_drew ?_|refine blk_alloc ?_ _));refine blk_far ?_ NB391_392.out _;(with_reducible repeat (first|refine blk_drewN ?_ _|refine blk_drew ?_|refine blk_alloc ?_ _));exact BK391.out⟩,⟨by (with_reducible repeat (first|refine blk_drewN ?_ _|refine blk_drew ?_|refine blk_alloc ?_ _));refine blk_put (cs:=#[.bool (a1_0 == 2),.int .i64 0,.string (⟨#[]⟩ : ByteArray)]) ?_ 2 _ rfl;(with_reducible repeat (first|refine blk_drewN ?_ _|refine blk_drew ?_|refine blk_alloc ?_ _));refine blk_put (cs:=#[.bool (a1_0 == 2),.int .i64 0,.string (⟨#[]⟩ : ByteArray)]) ?_ 1 _ rfl;(with_reducible repeat (first|refine blk_drewN ?_ _|refine blk_drew ?_|refine blk_alloc ?_ _));refine blk_put (cs:=#[.bool false,.int .i64 0,.string (⟨#[]⟩ : ByteArray)]) ?_ 0 _ rfl;(with_reducible repeat (first|refine blk_drewN ?_ _|refine blk_drew ?_|refine blk_alloc ?_ _));exact BK392.out⟩,⟨by repeat (first|(with_reducible first|exact HB.out|apply below_alloc|apply pw_below_drewN|apply below_drew1|refine below_set ?_ GE389.out|refine below_set ?_ GE390.out|refine below_set ?_ GE391.out|refine below_set ?_ GE392.out)|exact HB.out)⟩⟩
    case round =>
     clear H'
     try clear c1
     try clear c2
     try clear p2
     try clear p3
     try clear q3
     try clear hx3
     try clear c4
     try clear c4b0
     try clear c4b1
     try clear c8
     try clear c9
     try clear c11
     try clear c13
     try clear c13b0
     try clear c14
     try clear c14b0
     try clear c18
     try clear c19
     try clear c22
     try clear c23
     try clear c24
     try clear c26
     try clear hcz10_0
     try clear hcz10_1
     try clear hcz12_0
     try clear hcz12_1
     try clear hcz12_2
     try clear hcz20_0
     try clear hcz20_1
     try clear hcz25_0
     try clear hcz25_1
     try clear hcz25_2
     try clear hcz27_0
     try clear hcz27_1
     try clear hcz27_2
     try clear hcz27_3
     try clear hcz28_0
     try clear hcz28_1
     try clear hfz10_0
     try clear hfz10_1
     try clear hfz12_0
     try clear hfz12_1
     try clear hfz12_2
     try clear hfz20_0
     try clear hfz20_1
     try clear hfz25_0
     try clear hfz25_1
     try clear hfz25_2
     try clear hfz27_0
     try clear hfz27_1
     try clear hfz27_2
     try clear hfz27_3
     try clear hfz28_0
     try clear hfz28_1
     try clear hx393_0
     try clear p393
     try clear q393
     obtain ⟨x9_1,x393000_1,x393001_1,x393002_1,rfl,HA,HK1,BK389,BK390,BK391,BK392,HB⟩:=hrel
     cases gk with
     | zero=>exact absurd HA.out (by simp [thresherref20_one.l0])
     | succ k1 =>
      have H:=HA.out
      clear HA
      simp only [thresherref20_one.l0] at H
      by_cases c29 : x9_1 < (l2.length : Int)
      ·rw [if_pos c29] at H
       have c29b0 : decide (x9_1 < (l2.length : Int))=true:=decide_eq_true c29
       clear c29
       by_cases c30 : 0≤x9_1
       ·rw [if_pos c30] at H
        have c30b0 : decide (0≤x9_1)=true:=decide_eq_true c30
        clear c30
        by_cases c31 : 0≤a1_1
        ·rw [if_pos c31] at H
         have c31b0 : decide (0≤a1_1)=true:=decide_eq_true c31
         clear c31
         by_cases c32 : a1_1 < ((rd_L7 l2 x9_1).length : Int)
         ·rw [if_pos c32] at H
          have c32b0 : decide (a1_1 < ((rd_L7 l2 x9_1).length : Int))=true:=decide_eq_true c32
          clear c32
          by_cases c33 : a1_0=2
          ·rw [if_pos c33] at H
           have c33b0 : (a1_0 == 2)=true:=beq_iff_eq.mpr c33
           have c33b1 : (a1_0 != 2)=false:=bne_eq_false_iff_eq.mpr c33
           clear c33
           replace H:=Option.bind_eq_some_iff.mp H
           obtain ⟨⟨t397,t398⟩,A340,H⟩:=H
           replace H : (thresherref20_one.l0 k1 l2 (rd l0_0 a1_1) (wrap64 (x9_1 + 1)) a1_0 a1_1 x393000_1 t397 t398)=some (r1,r2,r3):=H
           have A34:=Aside0.mk A340
           clear A340
           have H':=Aside0.mk H
           clear H
           try go_wp2
           have n0_:=Aside0.mk (blk_drew BK389.out)
           have n1_:=Aside0.mk (blk_drew BK390.out)
           have n2_:=Aside0.mk (blk_drew BK391.out)
           have n3_:=Aside0.mk (blk_drew BK392.out)
           have n4_:=Aside0.mk (below_drew1 HB.out)
           clear BK389
           clear BK390
           clear BK391
           clear BK392
           clear HB
           have BK389:=n0_
           have BK390:=n1_
           have BK391:=n2_
           have BK392:=n3_
           have HB:=n4_
           clear n0_ n1_ n2_ n3_ n4_
           have p394 : 0≤(x9_1 : Int):=of_decide_eq_true (by first|(with_reducible assumption)|assumption)
           have q394 : x9_1 < (l2.length : Int):=of_decide_eq_true (by first|(with_reducible assumption)|assumption)
           obtain ⟨ad394,A394_0,c394_0,e394,hx394_0,hl394_0,hi394_0⟩:=at_L7 HR2.out x9_1 p394 q394
           have hw394_0:=hx394_0
           cases e394
           replace hx394_0:=(HB.out.cell (World.block_lt_of_cell? w _ hx394_0)).trans hx394_0
           have HR394_0:=Aside0.mk hi394_0
           have HC394_0:=Aside0.mk hl394_0
           clear hi394_0 hl394_0
           replace p394:=eq_true p394
           replace q394:=eq_true q394
           have p395 : 0≤(a1_1 : Int):=of_decide_eq_true (by first|(with_reducible assumption)|assumption)
           have q395 : a1_1 < ((rd_L7 l2 x9_1).length : Int):=of_decide_eq_true (by first|(with_reducible assumption)|assumption)
           obtain ⟨ad395,e395,hx395_0,hx395_1⟩:=at_T40 HR394_0.out a1_1 p395 q395
           have hw395_1:=hx395_1
           have hw395_0:=hx395_0
           cases e395
           replace hx395_0:=(HB.out.cell (World.block_lt_of_cell? w _ hx395_0)).trans hx395_0
           replace hx395_1:=(HB.out.cell (World.block_lt_of_cell? w _ hx395_1)).trans hx395_1
           replace p395:=eq_true p395
           replace q395:=eq_true q395
           refine start_ (n:=10) (S:=fun w'=>w'.cell? ⟨gb390,0,none⟩=some (.int .i64 a1_0)∧w'.cell? ⟨gb390,1,none⟩=some (.int .i64 a1_1)∧w'.cell? (ad394.add (x9_1).toNat)=some (.slice (some ad395) (rd_L7 l2 x9_1).length c394_0)∧w'.cell? (ad395.add ((a1_1).toNat * 2))=some (.int .i64 ((rd_T40 (rd_L7 l2 x9_1) a1_1).f0))∧w'.cell? ⟨(ad395.add ((a1_1).toNat * 2)).block,(ad395.add ((a1_1).toNat * 2)).off + 1,none⟩=some (.string ((rd_T40 (rd_L7 l2 x9_1) a1_1).f1))) (ds:=[]) #[false,false,false,false,false,false,false,false,false,false] (by kernel_rfl) rfl rfl ⟨(blk_cell BK390.out 0).trans rfl,(blk_cell BK390.out 1).trans rfl,((HB.out.cell (World.block_lt_of_cell? w _ hw394_0)).trans hw394_0),((HB.out.cell (World.block_lt_of_cell? w _ hw395_0)).trans hw395_0),((HB.out.cell (World.block_lt_of_cell? w _ hw395_1)).trans hw395_1)⟩ (fun hHeld=>?_);refine with_tabW thresherref20_one.tab8 thresherref20_one.bits8 (fun HT_ HW_=>?_)
           generalize wr.drew=w35 at BK389 BK390 BK391 BK392 HB HR394_0 hx394_0 hx395_0 hx395_1 hHeld ⊢
           refine pure_ (i:=0) (N:=some 35) (v:=?_) (a':=?_) #[true,false,false,false,false,false,false,false,false,false] rfl rfl (any_of HT_.out (by kernel_rfl)) (fun _ _ _ h=>h) (Or.inl ⟨by rfl,?_⟩) ?_ ?_
           rotate_left;(intro w';go_simp;with_reducible rfl);rotate_left;(simp only [Act.put,List.setIfInBounds_toArray,List.set_cons_zero,List.set_cons_succ,i64_w,i32_w];rfl)
           refine pure_ (i:=1) (N:=some 36) (v:=?_) (a':=?_) #[true,true,false,false,false,false,false,false,false,false] rfl rfl (any_of HT_.out (by kernel_rfl)) (fun _ _ _ h=>h) (Or.inl ⟨by rfl,?_⟩) ?_ ?_
           rotate_left;(intro w';go_simp;with_reducible rfl);rotate_left;(simp only [Act.put,List.setIfInBounds_toArray,List.set_cons_zero,List.set_cons_succ,i64_w,i32_w];rfl)
           refine pure_ (i:=2) (N:=some 37) (v:=?_) (a':=?_) #[true,true,true,false,false,false,false,false,false,false] rfl rfl (any_of HT_.out (by kernel_rfl)) (fun _ _ _ h=>h) (Or.inl ⟨by rfl,?_⟩) ?_ ?_
           rotate_left;(intro w';go_simp;with_reducible rfl);rotate_left;(simp only [Act.put,List.setIfInBounds_toArray,List.set_cons_zero,List.set_cons_succ,i64_w,i32_w];rfl)
           refine pure_ (i:=4) (N:=some 39) (v:=?_) (a':=?_) #[true,true,true,false,true,false,false,false,false,false] rfl rfl (any_of HT_.out (by kernel_rfl)) (fun _ _ _ h=>h) (Or.inl ⟨by rfl,?_⟩) ?_ ?_
           rotate_left;(intro w';go_simp;with_reducible rfl);rotate_left;(simp only [Act.put,List.setIfInBounds_toArray,List.set_cons_zero,List.set_cons_succ,i64_w,i32_w];rfl)
           refine take_ (i:=3) (N:=some 38) (v:=?_) (a':=?_) #[true,true,true,true,true,false,false,false,false,false] rfl rfl (take_ofW HT_.out HW_.out (by kernel_rfl)) (fun _ _ _ h=>h) (Or.inl ⟨by rfl,?_⟩) hHeld ?_ ?_
           rotate_left;(rintro w' ⟨s0,s1,s2,s3,s4⟩;go_simp;with_reducible rfl);rotate_left;(simp only [Act.put,List.setIfInBounds_toArray,List.set_cons_zero,List.set_cons_succ,i64_w,i32_w];rfl)
           refine take_ (i:=5) (N:=some 40) (v:=?_) (a':=?_) #[true,true,true,true,true,true,false,false,false,false] rfl rfl (take_ofW HT_.out HW_.out (by kernel_rfl)) (fun _ _ _ h=>h) (Or.inl ⟨by rfl,?_⟩) hHeld ?_ ?_
           rotate_left;(rintro w' ⟨s0,s1,s2,s3,s4⟩;go_simp;with_reducible rfl);rotate_left;(simp only [Act.put,List.setIfInBounds_toArray,List.set_cons_zero,List.set_cons_succ,i64_w,i32_w];rfl)
           refine pure_ (i:=6) (N:=some 41) (v:=?_) (a':=?_) #[true,true,true,true,true,true,true,false,false,false] rfl rfl (any_of HT_.out (by kernel_rfl)) (fun _ _ _ h=>h) (Or.inl ⟨by rfl,?_⟩) ?_ ?_
           rotate_left;(intro w';go_simp;with_reducible rfl);rotate_left;(simp only [Act.put,List.setIfInBounds_toArray,List.set_cons_zero,List.set_cons_succ,i64_w,i32_w];rfl)
           refine take_ (i:=7) (N:=some 42) (v:=?_) (a':=?_) #[true,true,true,true,true,true,true,true,false,false] rfl rfl (take_ofW HT_.out HW_.out (by kernel_rfl)) (fun _ _ _ h=>h) (Or.inl ⟨by rfl,?_⟩) hHeld ?_ ?_
           rotate_left;(rintro w' ⟨s0,s1,s2,s3,s4⟩;go_simp;with_reducible rfl);rotate_left;(simp only [Act.put,List.setIfInBounds_toArray,List.set_cons_zero,List.set_cons_succ,i64_w,i32_w];rfl)
           refine one_ (i:=8) (N:=some 10) #[true,true,true,true,true,true,true,true,true,false] rfl rfl (one_of HT_.out (by kernel_rfl)) (by decide) (fun K hK=>?_)
           refine box_step ?hg (N:=10) ?hd (cs:=#[.int .i64 0,.string (⟨#[]⟩ : ByteArray)]) (t:=40) ?hr ?_;(case hd=>rfl);(case hg=>rfl);(case hr=>first|(go_simp;done)|(go_simp;rfl))
           intro gb396 hg w36 hbox hb
           have n0_:=Aside0.mk (blk_below (g:=gb389) (o:=.cells #[.slice (some ad393) l0_0.length c0_0,.int .i64 a0_1,.int .i64 a0_2,.int .i64 a0_3] 29 (0,0)) (by (with_reducible repeat (first|refine blk_drewN ?_ _|refine blk_drew ?_|refine blk_alloc ?_ _));exact BK389.out) hb)
           have n1_:=Aside0.mk (blk_below (g:=gb390) (o:=.cells #[.int .i64 a1_0,.int .i64 a1_1] 33 (0,0)) (by (with_reducible repeat (first|refine blk_drewN ?_ _|refine blk_drew ?_|refine blk_alloc ?_ _));exact BK390.out) hb)
           have n2_:=Aside0.mk (blk_below (g:=gb391) (o:=.cells #[.bool false,.int .i64 0,.string (⟨#[]⟩ : ByteArray)] 42 (0,0)) (by (with_reducible repeat (first|refine blk_drewN ?_ _|refine blk_drew ?_|refine blk_alloc ?_ _));exact BK391.out) hb)
           have n3_:=Aside0.mk (blk_below (g:=gb392) (o:=.cells #[.bool x393000_1,.int .i64 x393001_1,.string x393002_1] 42 (0,0)) (by (with_reducible repeat (first|refine blk_drewN ?_ _|refine blk_drew ?_|refine blk_alloc ?_ _));exact BK392.out) hb)
           have n4_:=Aside0.mk (below_step (by repeat (first|(with_reducible first|exact HB.out|apply below_alloc|apply pw_below_drewN|apply below_drew1|refine below_set ?_ GE389.out|refine below_set ?_ GE390.out|refine below_set ?_ GE391.out|refine below_set ?_ GE392.out)|exact HB.out)) hb)
           have n5_:=Aside0.mk (hbox)
           have n6_:=Aside0.mk ((by rw [hg];exact (below_size (by repeat (first|(with_reducible first|exact HB.out|apply below_alloc|apply pw_below_drewN|apply below_drew1|refine below_set ?_ GE389.out|refine below_set ?_ GE390.out|refine below_set ?_ GE391.out|refine below_set ?_ GE392.out)|exact HB.out))) : w.heap.size≤gb396))
           have n7_:=Aside0.mk ((by rw [hg];exact (below_size (by repeat (first|(with_reducible first|exact HB.out|apply below_alloc|apply pw_below_drewN|apply below_drew1|refine below_set ?_ GE389.out|refine below_set ?_ GE390.out|refine below_set ?_ GE391.out|refine below_set ?_ GE392.out)|exact HB.out))) : w.heap.size≤gb396))
           have n8_:=Aside0.mk ((by rw [hg];exact Nat.ne_of_lt (blk_lt (g:=gb389) (o:=.cells #[.slice (some ad393) l0_0.length c0_0,.int .i64 a0_1,.int .i64 a0_2,.int .i64 a0_3] 29 (0,0)) (by (with_reducible repeat (first|refine blk_drewN ?_ _|refine blk_drew ?_|refine blk_alloc ?_ _));exact BK389.out)) : gb389≠gb396))
           have n9_:=Aside0.mk ((by rw [hg];exact Nat.ne_of_gt (blk_lt (g:=gb389) (o:=.cells #[.slice (some ad393) l0_0.length c0_0,.int .i64 a0_1,.int .i64 a0_2,.int .i64 a0_3] 29 (0,0)) (by (with_reducible repeat (first|refine blk_drewN ?_ _|refine blk_drew ?_|refine blk_alloc ?_ _));exact BK389.out)) : gb396≠gb389))
           have n10_:=Aside0.mk ((by rw [hg];exact Nat.ne_of_lt (blk_lt (g:=gb390) (o:=.cells #[.int .i64 a1_0,.int .i64 a1_1] 33 (0,0)) (by (with_reducible repeat (first|refine blk_drewN ?_ _|refine blk_drew ?_|refine blk_alloc ?_ _));exact BK390.out)) : gb390≠gb396))
           have n11_:=Aside0.mk ((by rw [hg];exact Nat.ne_of_gt (blk_lt (g:=gb390) (o:=.cells #[.int .i64 a1_0,.int .i64 a1_1] 33 (0,0)) (by (with_reducible repeat (first|refine blk_drewN ?_ _|refine blk_drew ?_|refine blk_alloc ?_ _));exact BK390.out)) : gb396≠gb390))
           have n12_:=Aside0.mk ((by rw [hg];exact Nat.ne_of_lt (blk_lt (g:=gb391) (o:=.cells #[.bool false,.int .i64 0,.string (⟨#[]⟩ : ByteArray)] 42 (0,0)) (by (with_reducible repeat (first|refine blk_drewN ?_ _|refine blk_drew ?_|refine blk_alloc ?_ _));exact BK391.out)) : gb391≠gb396))
           have n13_:=Aside0.mk ((by rw [hg];exact Nat.ne_of_gt (blk_lt (g:=gb391) (o:=.cells #[.bool false,.int .i64 0,.string (⟨#[]⟩ : ByteArray)] 42 (0,0)) (by (with_reducible repeat (first|refine blk_drewN ?_ _|refine blk_drew ?_|refine blk_alloc ?_ _));exact BK391.out)) : gb396≠gb391))
           have n14_:=Aside0.mk ((by rw [hg];exact Nat.ne_of_lt (blk_lt (g:=gb392) (o:=.cells #[.bool x393000_1,.int .i64 x393001_1,.string x393002_1] 42 (0,0)) (by (with_reducible repeat (first|refine blk_drewN ?_ _|refine blk_drew ?_|refine blk_alloc ?_ _));exact BK392.out)) : gb392≠gb396))
           have n15_:=Aside0.mk ((by rw [hg];exact Nat.ne_of_gt (blk_lt (g:=gb392) (o:=.cells #[.bool x393000_1,.int .i64 x393001_1,.string x393002_1] 42 (0,0)) (by (with_reducible repeat (first|refine blk_drewN ?_ _|refine blk_drew ?_|refine blk_alloc ?_ _));exact BK392.out)) : gb396≠gb392))
           clear BK389
           clear BK390
           clear BK391
           clear BK392
           clear HB
           have BK389:=n0_
           have BK390:=n1_
           have BK391:=n2_
           have BK392:=n3_
           have HB:=n4_
           have BK396:=n5_
           have GW396:=n6_
           have GE396:=n7_
           have NB389_396:=n8_
           have NB396_389:=n9_
           have NB390_396:=n10_
           have NB396_390:=n11_
           have NB391_396:=n12_
           have NB396_391:=n13_
           have NB392_396:=n14_
           have NB396_392:=n15_
           clear n0_ n1_ n2_ n3_ n4_ n5_ n6_ n7_ n8_ n9_ n10_ n11_ n12_ n13_ n14_ n15_
           clear hb hbox hg
           refine hK.out _ _ ⟨(blk_cell BK390.out 0).trans rfl,(blk_cell BK390.out 1).trans rfl,((HB.out.cell (World.block_lt_of_cell? w _ hw394_0)).trans hw394_0),((HB.out.cell (World.block_lt_of_cell? w _ hw395_0)).trans hw395_0),((HB.out.cell (World.block_lt_of_cell? w _ hw395_1)).trans hw395_1)⟩ (fun hHeld=>?_)
           clear hK K
           refine norm_ (a':=?_) ?_ ?_
           rotate_left
           ·show Act.put _ (some 10) _=_
            simp only [Act.put,List.setIfInBounds_toArray,List.set_cons_zero,List.set_cons_succ,i64_w,i32_w]
            rfl
           refine one_ (i:=9) (N:=none) #[true,true,true,true,true,true,true,true,true,true] rfl rfl (one_of HT_.out (by kernel_rfl)) (by decide) (fun K hK=>?_)
           have hs37 : w36.cell? ⟨gb396,0,none⟩=some (.int .i64 0):=(blk_cell BK396.out 0).trans rfl
           have hfs37:=blk_frozen BK396.out 0
           have hns37_0:=NB389_396.out
           have hns37_1:=NB390_396.out
           have hns37_2:=NB391_396.out
           have hns37_3:=NB392_396.out
           have hms37_0:=NB396_389.out
           have hms37_1:=NB396_390.out
           have hms37_2:=NB396_391.out
           have hms37_3:=NB396_392.out
           have hs38 : w36.cell? ⟨gb396,1,none⟩=some (.string (⟨#[]⟩ : ByteArray)):=(blk_cell BK396.out 1).trans rfl
           have hfs38:=blk_frozen BK396.out 1
           have hns38_0:=NB389_396.out
           have hns38_1:=NB390_396.out
           have hns38_2:=NB391_396.out
           have hns38_3:=NB392_396.out
           have hms38_0:=NB396_389.out
           have hms38_1:=NB396_390.out
           have hms38_2:=NB396_391.out
           have hms38_3:=NB396_392.out
           refine skip_ (w1:=?_) (by rfl) rfl ?_ ?_
           rotate_left
           ·go_simp
            rfl
           refine hK.out _ _ ⟨((cell_far (p:=⟨gb396,_,none⟩) NB390_396.out _).trans (((cell_far (p:=⟨gb396,_,none⟩) NB390_396.out _).trans (hHeld.1)))),((cell_far (p:=⟨gb396,_,none⟩) NB390_396.out _).trans (((cell_far (p:=⟨gb396,_,none⟩) NB390_396.out _).trans (hHeld.2.1)))),((cell_far (p:=⟨gb396,_,none⟩) (by first|exact Nat.ne_of_lt (Nat.lt_of_lt_of_le (by have:=World.block_lt_of_cell? _ _ hw394_0;first|rwa [add_block] at this|exact this) GW396.out)|(rw [add_block];exact Nat.ne_of_lt (Nat.lt_of_lt_of_le (by have:=World.block_lt_of_cell? _ _ hw394_0;first|rwa [add_block] at this|exact this) GW396.out))|(show (Addr.add _ _).block≠_;rw [add_block];exact Nat.ne_of_lt (Nat.lt_of_lt_of_le (by have:=World.block_lt_of_cell? _ _ hw394_0;first|rwa [add_block] at this|exact this) GW396.out))|(dsimp only;exact Nat.ne_of_lt (Nat.lt_of_lt_of_le (by have:=World.block_lt_of_cell? _ _ hw394_0;first|rwa [add_block] at this|exact this) GW396.out))) _).trans (((cell_far (p:=⟨gb396,_,none⟩) (by first|exact Nat.ne_of_lt (Nat.lt_of_lt_of_le (by have:=World.block_lt_of_cell? _ _ hw394_0;first|rwa [add_block] at this|exact this) GW396.out)|(rw [add_block];exact Nat.ne_of_lt (Nat.lt_of_lt_of_le (by have:=World.block_lt_of_cell? _ _ hw394_0;first|rwa [add_block] at this|exact this) GW396.out))|(show (Addr.add _ _).block≠_;rw [add_block];exact Nat.ne_of_lt (Nat.lt_of_lt_of_le (by have:=World.block_lt_of_cell? _ _ hw394_0;first|rwa [add_block] at this|exact this) GW396.out))|(dsimp only;exact Nat.ne_of_lt (Nat.lt_of_lt_of_le (by have:=World.block_lt_of_cell? _ _ hw394_0;first|rwa [add_block] at this|exact this) GW396.out))) _).trans (hHeld.2.2.1)))),((cell_far (p:=⟨gb396,_,none⟩) (by first|exact Nat.ne_of_lt (Nat.lt_of_lt_of_le (by have:=World.block_lt_of_cell? _ _ hw395_0;first|rwa [add_block] at this|exact this) GW396.out)|(rw [add_block];exact Nat.ne_of_lt (Nat.lt_of_lt_of_le (by have:=World.block_lt_of_cell? _ _ hw395_0;first|rwa [add_block] at this|exact this) GW396.out))|(show (Addr.add _ _).block≠_;rw [add_block];exact Nat.ne_of_lt (Nat.lt_of_lt_of_le (by have:=World.block_lt_of_cell? _ _ hw395_0;first|rwa [add_block] at this|exact this) GW396.out))|(dsimp only;exact Nat.ne_of_lt (Nat.lt_of_lt_of_le (by have:=World.block_lt_of_cell? _ _ hw395_0;first|rwa [add_block] at this|exact this) GW396.out))) _).trans (((cell_far (p:=⟨gb396,_,none⟩) (by first|exact Nat.ne_of_lt (Nat.lt_of_lt_of_le (by have:=World.block_lt_of_cell? _ _ hw395_0;first|rwa [add_block] at this|exact this) GW396.out)|(rw [add_block];exact Nat.ne_of_lt (Nat.lt_of_lt_of_le (by have:=World.block_lt_of_cell? _ _ hw395_0;first|rwa [add_block] at this|exact this) GW396.out))|(show (Addr.add _ _).block≠_;rw [add_block];exact Nat.ne_of_lt (Nat.lt_of_lt_of_le (by have:=World.block_lt_of_cell? _ _ hw395_0;first|rwa [add_block] at this|exact this) GW396.out))|(dsimp only;exact Nat.ne_of_lt (Nat.lt_of_lt_of_le (by have:=World.block_lt_of_cell? _ _ hw395_0;first|rwa [add_block] at this|exact this) GW396.out))) _).trans (hHeld.2.2.2.1)))),((cell_far (p:=⟨gb396,_,none⟩) (by first|exact Nat.ne_of_lt (Nat.lt_of_lt_of_le (by have:=World.block_lt_of_cell? _ _ hw395_1;first|rwa [add_block] at this|exact this) GW396.out)|(rw [add_block];exact Nat.ne_of_lt (Nat.lt_of_lt_of_le (by have:=World.block_lt_of_cell? _ _ hw395_1;first|rwa [add_block] at this|exact this) GW396.out))|(show (Addr.add _ _).block≠_;rw [add_block];exact Nat.ne_of_lt (Nat.lt_of_lt_of_le (by have:=World.block_lt_of_cell? _ _ hw395_1;first|rwa [add_block] at this|exact this) GW396.out))|(dsimp only;exact Nat.ne_of_lt (Nat.lt_of_lt_of_le (by have:=World.block_lt_of_cell? _ _ hw395_1;first|rwa [add_block] at this|exact this) GW396.out))) _).trans (((cell_far (p:=⟨gb396,_,none⟩) (by first|exact Nat.ne_of_lt (Nat.lt_of_lt_of_le (by have:=World.block_lt_of_cell? _ _ hw395_1;first|rwa [add_block] at this|exact this) GW396.out)|(rw [add_block];exact Nat.ne_of_lt (Nat.lt_of_lt_of_le (by have:=World.block_lt_of_cell? _ _ hw395_1;first|rwa [add_block] at this|exact this) GW396.out))|(show (Addr.add _ _).block≠_;rw [add_block];exact Nat.ne_of_lt (Nat.lt_of_lt_of_le (by have:=World.block_lt_of_cell? _ _ hw395_1;first|rwa [add_block] at this|exact this) GW396.out))|(dsimp only;exact Nat.ne_of_lt (Nat.lt_of_lt_of_le (by have:=World.block_lt_of_cell? _ _ hw395_1;first|rwa [add_block] at this|exact this) GW396.out))) _).trans (hHeld.2.2.2.2))))⟩ (fun hHeld=>?_)
           clear hK K
           refine done_ (done_of HT_.out (by kernel_rfl)) ?_
           (try clear hHeld)
           have hnb39:=NB390_389.out
           have hnc39:=NB389_390.out
           have hnb40:=NB390_391.out
           have hnc40:=NB391_390.out
           have hnb41:=NB390_392.out
           have hnc41:=NB392_390.out
           have hnb42:=NB390_396.out
           have hnc42:=NB396_390.out
           have hcz43_0 : w36.cell? ⟨gb390,0,none⟩=some (.int .i64 a1_0):=(blk_cell BK390.out 0).trans rfl
           have hcz43_1 : w36.cell? ⟨gb390,1,none⟩=some (.int .i64 a1_1):=(blk_cell BK390.out 1).trans rfl
           have hfz43_0:=blk_frozen BK390.out 0
           have hfz43_1:=blk_frozen BK390.out 1
           have hnb44:=NB392_389.out
           have hnc44:=NB389_392.out
           have hnb45:=NB392_391.out
           have hnc45:=NB391_392.out
           have hnb46:=NB392_396.out
           have hnc46:=NB396_392.out
           have hcz47_0 : w36.cell? ⟨gb392,0,none⟩=some (.bool x393000_1):=(blk_cell BK392.out 0).trans rfl
           have hcz47_1 : w36.cell? ⟨gb392,1,none⟩=some (.int .i64 x393001_1):=(blk_cell BK392.out 1).trans rfl
           have hcz47_2 : w36.cell? ⟨gb392,2,none⟩=some (.string x393002_1):=(blk_cell BK392.out 2).trans rfl
           have hfz47_0:=blk_frozen BK392.out 0
           have hfz47_1:=blk_frozen BK392.out 1
           have hfz47_2:=blk_frozen BK392.out 2
           have hnb48:=NB396_389.out
           have hnc48:=NB389_396.out
           have hnb49:=NB396_391.out
           have hnc49:=NB391_396.out
           have hcz50_0 : w36.cell? ⟨gb396,0,none⟩=some (.int .i64 0):=(blk_cell BK396.out 0).trans rfl
           have hcz50_1 : w36.cell? ⟨gb396,1,none⟩=some (.string (⟨#[]⟩ : ByteArray)):=(blk_cell BK396.out 1).trans rfl
           have hfz50_0:=blk_frozen BK396.out 0
           have hfz50_1:=blk_frozen BK396.out 1
           try go_wp2_with (first|((with_reducible refine gate_callee (f:=31) rfl ?_);refine goesL_ (some 50) rfl rfl Try.func31 (by kernel_rfl) rfl #[.int .i64 (rd l0_0 a1_1),.agg #[.int .i64 x393001_1,.string x393002_1],.agg #[.int .i64 ((rd_T40 (rd_L7 l2 x9_1) a1_1).f0),.string ((rd_T40 (rd_L7 l2 x9_1) a1_1).f1)]] rfl (by (try simp only [List.map_toArray,List.map_cons,List.map_nil]);first|done|rfl|(simp only [List.length_drop,List.length_take];rfl)) ?_;(with_reducible refine (thresherref03_Add.calls k1 (rd l0_0 a1_1) x393001_1 x393002_1 ((rd_T40 (rd_L7 l2 x9_1) a1_1).f0) ((rd_T40 (rd_L7 l2 x9_1) a1_1).f1) t397 t398 _ A34.out).mono ?_);rintro e w51 ⟨rfl,hb⟩;refine ⟨_,rfl,?_⟩;have n0_:=Aside0.mk (blk_below (g:=gb389) (o:=.cells #[.slice (some ad393) l0_0.length c0_0,.int .i64 a0_1,.int .i64 a0_2,.int .i64 a0_3] 29 (0,0)) (by (with_reducible repeat (first|refine blk_drewN ?_ _|refine blk_drew ?_|refine blk_alloc ?_ _));refine blk_far ?_ NB389_396.out _;(with_reducible repeat (first|refine blk_drewN ?_ _|refine blk_drew ?_|refine blk_alloc ?_ _));refine blk_far ?_ NB389_396.out _;(with_reducible repeat (first|refine blk_drewN ?_ _|refine blk_drew ?_|refine blk_alloc ?_ _));exact BK389.out) hb);have n1_:=Aside0.mk (blk_below (g:=gb390) (o:=.cells #[.int .i64 a1_0,.int .i64 a1_1] 33 (0,0)) (by (with_reducible repeat (first|refine blk_drewN ?_ _|refine blk_drew ?_|refine blk_alloc ?_ _));refine blk_far ?_ NB390_396.out _;(with_reducible repeat (first|refine blk_drewN ?_ _|refine blk_drew ?_|refine blk_alloc ?_ _));refine blk_far ?_ NB390_396.out _;(with_reducible repeat (first|refine blk_drewN ?_ _|refine blk_drew ?_|refine blk_alloc ?_ _));exact BK390.out) hb);have n2_:=Aside0.mk (blk_below (g:=gb391) (o:=.cells #[.bool false,.int .i64 0,.string (⟨#[]⟩ : ByteArray)] 42 (0,0)) (by (with_reducible repeat (first|refine blk_drewN ?_ _|refine blk_drew ?_|refine blk_alloc ?_ _));refine blk_far ?_ NB391_396.out _;(with_reducible repeat (first|refine blk_drewN ?_ _|refine blk_drew ?_|refine blk_alloc ?_ _));refine blk_far ?_ NB391_396.out _;(with_reducible repeat (first|refine blk_drewN ?_ _|refine blk_drew ?_|refine blk_alloc ?_ _));exact BK391.out) hb);have n3_:=Aside0.mk (blk_below (g:=gb392) (o:=.cells #[.bool x393000_1,.int .i64 x393001_1,.string x393002_1] 42 (0,0)) (by (with_reducible repeat (first|refine blk_drewN ?_ _|refine blk_drew ?_|refine blk_alloc ?_ _));refine blk_far ?_ NB392_396.out _;(with_reducible repeat (first|refine blk_drewN ?_ _|refine blk_drew ?_|refine blk_alloc ?_ _));refine blk_far ?_ NB392_396.out _;(with_reducible repeat (first|refine blk_drewN ?_ _|refine blk_drew ?_|refine blk_alloc ?_ _));exact BK392.out) hb);have n4_:=Aside0.mk (blk_below (g:=gb396) (o:=.cells #[.int .i64 ((rd_T40 (rd_L7 l2 x9_1) a1_1).f0),.string ((rd_T40 (rd_L7 l2 x9_1) a1_1).f1)] 40 (0,0)) (by (with_reducible repeat (first|refine blk_drewN ?_ _|refine blk_drew ?_|refine blk_alloc ?_ _));refine blk_put (cs:=#[.int .i64 ((rd_T40 (rd_L7 l2 x9_1) a1_1).f0),.string (⟨#[]⟩ : ByteArray)]) ?_ 1 _ rfl;(with_reducible repeat (first|refine blk_drewN ?_ _|refine blk_drew ?_|refine blk_alloc ?_ _));refine blk_put (cs:=#[.int .i64 0,.string (⟨#[]⟩ : ByteArray)]) ?_ 0 _ rfl;(with_reducible repeat (first|refine blk_drewN ?_ _|refine blk_drew ?_|refine blk_alloc ?_ _));exact BK396.out) hb);have n5_:=Aside0.mk (below_step (by repeat (first|(with_reducible first|exact HB.out|apply below_alloc|apply pw_below_drewN|apply below_drew1|refine below_set ?_ GE389.out|refine below_set ?_ GE390.out|refine below_set ?_ GE391.out|refine below_set ?_ GE392.out|refine below_set ?_ GE396.out)|exact HB.out)) hb);clear BK389;clear BK390;clear BK391;clear BK392;clear BK396;clear HB;have BK389:=n0_;have BK390:=n1_;have BK391:=n2_;have BK392:=n3_;have BK396:=n4_;have HB:=n5_;clear n0_ n1_ n2_ n3_ n4_ n5_;(try clear hb);(try clear hb2);(try clear hk);(try clear hi);have hcz52_0 : w51.cell? ⟨gb392,0,none⟩=some (.bool x393000_1):=(blk_cell BK392.out 0).trans rfl;have hcz52_1 : w51.cell? ⟨gb392,1,none⟩=some (.int .i64 x393001_1):=(blk_cell BK392.out 1).trans rfl;have hcz52_2 : w51.cell? ⟨gb392,2,none⟩=some (.string x393002_1):=(blk_cell BK392.out 2).trans rfl;have hfz52_0:=blk_frozen BK392.out 0;have hfz52_1:=blk_frozen BK392.out 1;have hfz52_2:=blk_frozen BK392.out 2))
           go_roundg k1
           case measure=>have:=HK1.out;omega
           case rel=>exact ⟨(wrap64 (x9_1 + 1)),(x393000_1),(t397),(t398),(by first|rfl|(simp;done)|(simp [*];done)),(by first|exact H'|(subst_vars;exact H')),⟨by have:=HK1.out;omega⟩,⟨by (with_reducible repeat (first|refine blk_drewN ?_ _|refine blk_drew ?_|refine blk_alloc ?_ _));refine blk_far ?_ NB389_392.out _;(with_reducible repeat (first|refine blk_drewN ?_ _|refine blk_drew ?_|refine blk_alloc ?_ _));refine blk_far ?_ NB389_392.out _;(with_reducible repeat (first|refine blk_drewN ?_ _|refine blk_drew ?_|refine blk_alloc ?_ _));exact BK389.out⟩,⟨by (with_reducible repeat (first|refine blk_drewN ?_ _|refine blk_drew ?_|refine blk_alloc ?_ _));refine blk_far ?_ NB390_392.out _;(with_reducible repeat (first|refine blk_drewN ?_ _|refine blk_drew ?_|refine blk_alloc ?_ _));refine blk_far ?_ NB390_392.out _;(with_reducible repeat (first|refine blk_drewN ?_ _|refine blk_drew ?_|refine blk_alloc ?_ _));exact BK390.out⟩,⟨by (with_reducible repeat (first|refine blk_drewN ?_ _|refine blk_drew ?_|refine blk_alloc ?_ _));refine blk_far ?_ NB391_392.out _;(with_reducible repeat (first|refine blk_drewN ?_ _|refine blk_drew ?_|refine blk_alloc ?_ _));refine blk_far ?_ NB391_392.out _;(with_reducible repeat (first|refine blk_drewN ?_ _|refine blk_drew ?_|refine blk_alloc ?_ _));exact BK391.out⟩,⟨by (with_reducible repeat (first|refine blk_drewN ?_ _|refine blk_drew ?_|refine blk_alloc ?_ _));refine blk_put (cs:=#[.bool x393000_1,.int .i64 t397,.string x393002_1]) ?_ 2 _ rfl;(with_reducible repeat (first|refine blk_drewN ?_ _|refine blk_drew ?_|refine blk_alloc ?_ _));refine blk_put (cs:=#[.bool x393000_1,.int .i64 x393001_1,.string x393002_1]) ?_ 1 _ rfl;(with_reducible repeat (first|refine blk_drewN ?_ _|refine blk_drew ?_|refine blk_alloc ?_ _));exact BK392.out⟩,⟨by repeat (first|(with_reducible first|exact HB.out|apply below_alloc|apply pw_below_drewN|apply below_drew1|refine below_set ?_ GE389.out|refine below_set ?_ GE390.out|refine below_set ?_ GE391.out|refine below_set ?_ GE392.out|refine below_set ?_ GE396.out)|exact HB.out)⟩⟩
          ·rw [if_neg c33] at H
           have c33b0 : (a1_0 == 2)=false:=beq_eq_false_iff_ne.mpr c33
           have c33b1 : (a1_0 != 2)=true:=bne_iff_ne.mpr c33
           replace H:=Option.bind_eq_some_iff.mp H
           obtain ⟨t399,A530,H⟩:=H
           replace H : (if x393000_1=true then (if a1_0=3 then (if t399 < 0 then (thresherref20_one.j1 k1 l2 (rd l0_0 a1_1) x9_1 true a1_0 a1_1 x393000_1 x393001_1 x393002_1 ((rd_T40 (rd_L7 l2 x9_1) a1_1).f0) ((rd_T40 (rd_L7 l2 x9_1) a1_1).f1)) else (if a1_0=4 then (thresherref20_one.j1 k1 l2 (rd l0_0 a1_1) x9_1 (decide (t399 > 0)) a1_0 a1_1 x393000_1 x393001_1 x393002_1 ((rd_T40 (rd_L7 l2 x9_1) a1_1).f0) ((rd_T40 (rd_L7 l2 x9_1) a1_1).f1)) else (thresherref20_one.j1 k1 l2 (rd l0_0 a1_1) x9_1 false a1_0 a1_1 x393000_1 x393001_1 x393002_1 ((rd_T40 (rd_L7 l2 x9_1) a1_1).f0) ((rd_T40 (rd_L7 l2 x9_1) a1_1).f1)))) else (if a1_0=4 then (thresherref20_one.j1 k1 l2 (rd l0_0 a1_1) x9_1 (decide (t399 > 0)) a1_0 a1_1 x393000_1 x393001_1 x393002_1 ((rd_T40 (rd_L7 l2 x9_1) a1_1).f0) ((rd_T40 (rd_L7 l2 x9_1) a1_1).f1)) else (thresherref20_one.j1 k1 l2 (rd l0_0 a1_1) x9_1 false a1_0 a1_1 x393000_1 x393001_1 x393002_1 ((rd_T40 (rd_L7 l2 x9_1) a1_1).f0) ((rd_T40 (rd_L7 l2 x9_1) a1_1).f1)))) else (thresherref20_one.j1 k1 l2 (rd l0_0 a1_1) x9_1 true a1_0 a1_1 x393000_1 x393001_1 x393002_1 ((rd_T40 (rd_L7 l2 x9_1) a1_1).f0) ((rd_T40 (rd_L7 l2 x9_1) a1_1).f1)))=some (r1,r2,r3):=H
           have A53:=Aside0.mk A530
           clear A530
           have HC54:=Aside0.mk H
           clear H
           try go_wp2
           have n0_:=Aside0.mk (blk_drew BK389.out)
           have n1_:=Aside0.mk (blk_drew BK390.out)
           have n2_:=Aside0.mk (blk_drew BK391.out)
           have n3_:=Aside0.mk (blk_drew BK392.out)
           have n4_:=Aside0.mk (below_drew1 HB.out)
           clear BK389
           clear BK390
           clear BK391
           clear BK392
           clear HB
           have BK389:=n0_
           have BK390:=n1_
           have BK391:=n2_
           have BK392:=n3_
           have HB:=n4_
           clear n0_ n1_ n2_ n3_ n4_
           have p394 : 0≤(x9_1 : Int):=of_decide_eq_true (by first|(with_reducible assumption)|assumption)
           have q394 : x9_1 < (l2.length : Int):=of_decide_eq_true (by first|(with_reducible assumption)|assumption)
           obtain ⟨ad394,A394_0,c394_0,e394,hx394_0,hl394_0,hi394_0⟩:=at_L7 HR2.out x9_1 p394 q394
           have hw394_0:=hx394_0
           cases e394
           replace hx394_0:=(HB.out.cell (World.block_lt_of_cell? w _ hx394_0)).trans hx394_0
           have HR394_0:=Aside0.mk hi394_0
           have HC394_0:=Aside0.mk hl394_0
           clear hi394_0 hl394_0
           replace p394:=eq_true p394
           replace q394:=eq_true q394
           have p395 : 0≤(a1_1 : Int):=of_decide_eq_true (by first|(with_reducible assumption)|assumption)
           have q395 : a1_1 < ((rd_L7 l2 x9_1).length : Int):=of_decide_eq_true (by first|(with_reducible assumption)|assumption)
           obtain ⟨ad395,e395,hx395_0,hx395_1⟩:=at_T40 HR394_0.out a1_1 p395 q395
           have hw395_1:=hx395_1
           have hw395_0:=hx395_0
           cases e395
           replace hx395_0:=(HB.out.cell (World.block_lt_of_cell? w _ hx395_0)).trans hx395_0
           replace hx395_1:=(HB.out.cell (World.block_lt_of_cell? w _ hx395_1)).trans hx395_1
           replace p395:=eq_true p395
           replace q395:=eq_true q395
           refine start_ (n:=10) (S:=fun w'=>w'.cell? ⟨gb390,0,none⟩=some (.int .i64 a1_0)∧w'.cell? ⟨gb390,1,none⟩=some (.int .i64 a1_1)∧w'.cell? (ad394.add (x9_1).toNat)=some (.slice (some ad395) (rd_L7 l2 x9_1).length c394_0)∧w'.cell? (ad395.add ((a1_1).toNat * 2))=some (.int .i64 ((rd_T40 (rd_L7 l2 x9_1) a1_1).f0))∧w'.cell? ⟨(ad395.add ((a1_1).toNat * 2)).block,(ad395.add ((a1_1).toNat * 2)).off + 1,none⟩=some (.string ((rd_T40 (rd_L7 l2 x9_1) a1_1).f1))) (ds:=[]) #[false,false,false,false,false,false,false,false,false,false] (by kernel_rfl) rfl rfl ⟨(blk_cell BK390.out 0).trans rfl,(blk_cell BK390.out 1).trans rfl,((HB.out.cell (World.block_lt_of_cell? w _ hw394_0)).trans hw394_0),((HB.out.cell (World.block_lt_of_cell? w _ hw395_0)).trans hw395_0),((HB.out.cell (World.block_lt_of_cell? w _ hw395_1)).trans hw395_1)⟩ (fun hHeld=>?_);refine with_tabW thresherref20_one.tab8 thresherref20_one.bits8 (fun HT_ HW_=>?_)
           generalize wr.drew=w55 at BK389 BK390 BK391 BK392 HB HR394_0 hx394_0 hx395_0 hx395_1 hHeld ⊢
           refine pure_ (i:=0) (N:=some 35) (v:=?_) (a':=?_) #[true,false,false,false,false,false,false,false,false,false] rfl rfl (any_of HT_.out (by kernel_rfl)) (fun _ _ _ h=>h) (Or.inl ⟨by rfl,?_⟩) ?_ ?_
           rotate_left;(intro w';go_simp;with_reducible rfl);rotate_left;(simp only [Act.put,List.setIfInBounds_toArray,List.set_cons_zero,List.set_cons_succ,i64_w,i32_w];rfl)
           refine pure_ (i:=1) (N:=some 36) (v:=?_) (a':=?_) #[true,true,false,false,false,false,false,false,false,false] rfl rfl (any_of HT_.out (by kernel_rfl)) (fun _ _ _ h=>h) (Or.inl ⟨by rfl,?_⟩) ?_ ?_
           rotate_left;(intro w';go_simp;with_reducible rfl);rotate_left;(simp only [Act.put,List.setIfInBounds_toArray,List.set_cons_zero,List.set_cons_succ,i64_w,i32_w];rfl)
           refine pure_ (i:=2) (N:=some 37) (v:=?_) (a':=?_) #[true,true,true,false,false,false,false,false,false,false] rfl rfl (any_of HT_.out (by kernel_rfl)) (fun _ _ _ h=>h) (Or.inl ⟨by rfl,?_⟩) ?_ ?_
           rotate_left;(intro w';go_simp;with_reducible rfl);rotate_left;(simp only [Act.put,List.setIfInBounds_toArray,List.set_cons_zero,List.set_cons_succ,i64_w,i32_w];rfl)
           refine pure_ (i:=4) (N:=some 39) (v:=?_) (a':=?_) #[true,true,true,false,true,false,false,false,false,false] rfl rfl (any_of HT_.out (by kernel_rfl)) (fun _ _ _ h=>h) (Or.inl ⟨by rfl,?_⟩) ?_ ?_
           rotate_left;(intro w';go_simp;with_reducible rfl);rotate_left;(simp only [Act.put,List.setIfInBounds_toArray,List.set_cons_zero,List.set_cons_succ,i64_w,i32_w];rfl)
           refine take_ (i:=3) (N:=some 38) (v:=?_) (a':=?_) #[true,true,true,true,true,false,false,false,false,false] rfl rfl (take_ofW HT_.out HW_.out (by kernel_rfl)) (fun _ _ _ h=>h) (Or.inl ⟨by rfl,?_⟩) hHeld ?_ ?_
           rotate_left;(rintro w' ⟨s0,s1,s2,s3,s4⟩;go_simp;with_reducible rfl);rotate_left;(simp only [Act.put,List.setIfInBounds_toArray,List.set_cons_zero,List.set_cons_succ,i64_w,i32_w];rfl)
           refine take_ (i:=5) (N:=some 40) (v:=?_) (a':=?_) #[true,true,true,true,true,true,false,false,false,false] rfl rfl (take_ofW HT_.out HW_.out (by kernel_rfl)) (fun _ _ _ h=>h) (Or.inl ⟨by rfl,?_⟩) hHeld ?_ ?_
           rotate_left;(rintro w' ⟨s0,s1,s2,s3,s4⟩;go_simp;with_reducible rfl);rotate_left;(simp only [Act.put,List.setIfInBounds_toArray,List.set_cons_zero,List.set_cons_succ,i64_w,i32_w];rfl)
           refine pure_ (i:=6) (N:=some 41) (v:=?_) (a':=?_) #[true,true,true,true,true,true,true,false,false,false] rfl rfl (any_of HT_.out (by kernel_rfl)) (fun _ _ _ h=>h) (Or.inl ⟨by rfl,?_⟩) ?_ ?_
           rotate_left;(intro w';go_simp;with_reducible rfl);rotate_left;(simp only [Act.put,List.setIfInBounds_toArray,List.set_cons_zero,List.set_cons_succ,i64_w,i32_w];rfl)
           refine take_ (i:=7) (N:=some 42) (v:=?_) (a':=?_) #[true,true,true,true,true,true,true,true,false,false] rfl rfl (take_ofW HT_.out HW_.out (by kernel_rfl)) (fun _ _ _ h=>h) (Or.inl ⟨by rfl,?_⟩) hHeld ?_ ?_
           rotate_left;(rintro w' ⟨s0,s1,s2,s3,s4⟩;go_simp;with_reducible rfl);rotate_left;(simp only [Act.put,List.setIfInBounds_toArray,List.set_cons_zero,List.set_cons_succ,i64_w,i32_w];rfl)
           refine one_ (i:=8) (N:=some 10) #[true,true,true,true,true,true,true,true,true,false] rfl rfl (one_of HT_.out (by kernel_rfl)) (by decide) (fun K hK=>?_)
           refine box_step ?hg (N:=10) ?hd (cs:=#[.int .i64 0,.string (⟨#[]⟩ : ByteArray)]) (t:=40) ?hr ?_;(case hd=>rfl);(case hg=>rfl);(case hr=>first|(go_simp;done)|(go_simp;rfl))
           intro gb396 hg w56 hbox hb
           have n0_:=Aside0.mk (blk_below (g:=gb389) (o:=.cells #[.slice (some ad393) l0_0.length c0_0,.int .i64 a0_1,.int .i64 a0_2,.int .i64 a0_3] 29 (0,0)) (by (with_reducible repeat (first|refine blk_drewN ?_ _|refine blk_drew ?_|refine blk_alloc ?_ _));exact BK389.out) hb)
           have n1_:=Aside0.mk (blk_below (g:=gb390) (o:=.cells #[.int .i64 a1_0,.int .i64 a1_1] 33 (0,0)) (by (with_reducible repeat (first|refine blk_drewN ?_ _|refine blk_drew ?_|refine blk_alloc ?_ _));exact BK390.out) hb)
           have n2_:=Aside0.mk (blk_below (g:=gb391) (o:=.cells #[.bool false,.int .i64 0,.string (⟨#[]⟩ : ByteArray)] 42 (0,0)) (by (with_reducible repeat (first|refine blk_drewN ?_ _|refine blk_drew ?_|refine blk_alloc ?_ _));exact BK391.out) hb)
           have n3_:=Aside0.mk (blk_below (g:=gb392) (o:=.cells #[.bool x393000_1,.int .i64 x393001_1,.string x393002_1] 42 (0,0)) (by (with_reducible repeat (first|refine blk_drewN ?_ _|refine blk_drew ?_|refine blk_alloc ?_ _));exact BK392.out) hb)
           have n4_:=Aside0.mk (below_step (by repeat (first|(with_reducible first|exact HB.out|apply below_alloc|apply pw_below_drewN|apply below_drew1|refine below_set ?_ GE389.out|refine below_set ?_ GE390.out|refine below_set ?_ GE391.out|refine below_set ?_ GE392.out)|exact HB.out)) hb)
           have n5_:=Aside0.mk (hbox)
           have n6_:=Aside0.mk ((by rw [hg];exact (below_size (by repeat (first|(with_reducible first|exact HB.out|apply below_alloc|apply pw_below_drewN|apply below_drew1|refine below_set ?_ GE389.out|refine below_set ?_ GE390.out|refine below_set ?_ GE391.out|refine below_set ?_ GE392.out)|exact HB.out))) : w.heap.size≤gb396))
           have n7_:=Aside0.mk ((by rw [hg];exact (below_size (by repeat (first|(with_reducible first|exact HB.out|apply below_alloc|apply pw_below_drewN|apply below_drew1|refine below_set ?_ GE389.out|refine below_set ?_ GE390.out|refine below_set ?_ GE391.out|refine below_set ?_ GE392.out)|exact HB.out))) : w.heap.size≤gb396))
           have n8_:=Aside0.mk ((by rw [hg];exact Nat.ne_of_lt (blk_lt (g:=gb389) (o:=.cells #[.slice (some ad393) l0_0.length c0_0,.int .i64 a0_1,.int .i64 a0_2,.int .i64 a0_3] 29 (0,0)) (by (with_reducible repeat (first|refine blk_drewN ?_ _|refine blk_drew ?_|refine blk_alloc ?_ _));exact BK389.out)) : gb389≠gb396))
           have n9_:=Aside0.mk ((by rw [hg];exact Nat.ne_of_gt (blk_lt (g:=gb389) (o:=.cells #[.slice (some ad393) l0_0.length c0_0,.int .i64 a0_1,.int .i64 a0_2,.int .i64 a0_3] 29 (0,0)) (by (with_reducible repeat (first|refine blk_drewN ?_ _|refine blk_drew ?_|refine blk_alloc ?_ _));exact BK389.out)) : gb396≠gb389))
           have n10_:=Aside0.mk ((by rw [hg];exact Nat.ne_of_lt (blk_lt (g:=gb390) (o:=.cells #[.int .i64 a1_0,.int .i64 a1_1] 33 (0,0)) (by (with_reducible repeat (first|refine blk_drewN ?_ _|refine blk_drew ?_|refine blk_alloc ?_ _));exact BK390.out)) : gb390≠gb396))
           have n11_:=Aside0.mk ((by rw [hg];exact Nat.ne_of_gt (blk_lt (g:=gb390) (o:=.cells #[.int .i64 a1_0,.int .i64 a1_1] 33 (0,0)) (by (with_reducible repeat (first|refine blk_drewN ?_ _|refine blk_drew ?_|refine blk_alloc ?_ _));exact BK390.out)) : gb396≠gb390))
           have n12_:=Aside0.mk ((by rw [hg];exact Nat.ne_of_lt (blk_lt (g:=gb391) (o:=.cells #[.bool false,.int .i64 0,.string (⟨#[]⟩ : ByteArray)] 42 (0,0)) (by (with_reducible repeat (first|refine blk_drewN ?_ _|refine blk_drew ?_|refine blk_alloc ?_ _));exact BK391.out)) : gb391≠gb396))
           have n13_:=Aside0.mk ((by rw [hg];exact Nat.ne_of_gt (blk_lt (g:=gb391) (o:=.cells #[.bool false,.int .i64 0,.string (⟨#[]⟩ : ByteArray)] 42 (0,0)) (by (with_reducible repeat (first|refine blk_drewN ?_ _|refine blk_drew ?_|refine blk_alloc ?_ _));exact BK391.out)) : gb396≠gb391))
           have n14_:=Aside0.mk ((by rw [hg];exact Nat.ne_of_lt (blk_lt (g:=gb392) (o:=.cells #[.bool x393000_1,.int .i64 x393001_1,.string x393002_1] 42 (0,0)) (by (with_reducible repeat (first|refine blk_drewN ?_ _|refine blk_drew ?_|refine blk_alloc ?_ _));exact BK392.out)) : gb392≠gb396))
           have n15_:=Aside0.mk ((by rw [hg];exact Nat.ne_of_gt (blk_lt (g:=gb392) (o:=.cells #[.bool x393000_1,.int .i64 x393001_1,.string x393002_1] 42 (0,0)) (by (with_reducible repeat (first|refine blk_drewN ?_ _|refine blk_drew ?_|refine blk_alloc ?_ _));exact BK392.out)) : gb396≠gb392))
           clear BK389
           clear BK390
           clear BK391
           clear BK392
           clear HB
           have BK389:=n0_
           have BK390:=n1_
           have BK391:=n2_
           have BK392:=n3_
           have HB:=n4_
           have BK396:=n5_
           have GW396:=n6_
           have GE396:=n7_
           have NB389_396:=n8_
           have NB396_389:=n9_
           have NB390_396:=n10_
           have NB396_390:=n11_
           have NB391_396:=n12_
           have NB396_391:=n13_
           have NB392_396:=n14_
           have NB396_392:=n15_
           clear n0_ n1_ n2_ n3_ n4_ n5_ n6_ n7_ n8_ n9_ n10_ n11_ n12_ n13_ n14_ n15_
           clear hb hbox hg
           refine hK.out _ _ ⟨(blk_cell BK390.out 0).trans rfl,(blk_cell BK390.out 1).trans rfl,((HB.out.cell (World.block_lt_of_cell? w _ hw394_0)).trans hw394_0),((HB.out.cell (World.block_lt_of_cell? w _ hw395_0)).trans hw395_0),((HB.out.cell (World.block_lt_of_cell? w _ hw395_1)).trans hw395_1)⟩ (fun hHeld=>?_)
           clear hK K
           refine norm_ (a':=?_) ?_ ?_
           rotate_left
           ·show Act.put _ (some 10) _=_
            simp only [Act.put,List.setIfInBounds_toArray,List.set_cons_zero,List.set_cons_succ,i64_w,i32_w]
            rfl
           refine one_ (i:=9) (N:=none) #[true,true,true,true,true,true,true,true,true,true] rfl rfl (one_of HT_.out (by kernel_rfl)) (by decide) (fun K hK=>?_)
           have hs57 : w56.cell? ⟨gb396,0,none⟩=some (.int .i64 0):=(blk_cell BK396.out 0).trans rfl
           have hfs57:=blk_frozen BK396.out 0
           have hns57_0:=NB389_396.out
           have hns57_1:=NB390_396.out
           have hns57_2:=NB391_396.out
           have hns57_3:=NB392_396.out
           have hms57_0:=NB396_389.out
           have hms57_1:=NB396_390.out
           have hms57_2:=NB396_391.out
           have hms57_3:=NB396_392.out
           have hs58 : w56.cell? ⟨gb396,1,none⟩=some (.string (⟨#[]⟩ : ByteArray)):=(blk_cell BK396.out 1).trans rfl
           have hfs58:=blk_frozen BK396.out 1
           have hns58_0:=NB389_396.out
           have hns58_1:=NB390_396.out
           have hns58_2:=NB391_396.out
           have hns58_3:=NB392_396.out
           have hms58_0:=NB396_389.out
           have hms58_1:=NB396_390.out
           have hms58_2:=NB396_391.out
           have hms58_3:=NB396_392.out
           refine skip_ (w1:=?_) (by rfl) rfl ?_ ?_
           rotate_left
           ·go_simp
            rfl
           refine hK.out _ _ ⟨((cell_far (p:=⟨gb396,_,none⟩) NB390_396.out _).trans (((cell_far (p:=⟨gb396,_,none⟩) NB390_396.out _).trans (hHeld.1)))),((cell_far (p:=⟨gb396,_,none⟩) NB390_396.out _).trans (((cell_far (p:=⟨gb396,_,none⟩) NB390_396.out _).trans (hHeld.2.1)))),((cell_far (p:=⟨gb396,_,none⟩) (by first|exact Nat.ne_of_lt (Nat.lt_of_lt_of_le (by have:=World.block_lt_of_cell? _ _ hw394_0;first|rwa [add_block] at this|exact this) GW396.out)|(rw [add_block];exact Nat.ne_of_lt (Nat.lt_of_lt_of_le (by have:=World.block_lt_of_cell? _ _ hw394_0;first|rwa [add_block] at this|exact this) GW396.out))|(show (Addr.add _ _).block≠_;rw [add_block];exact Nat.ne_of_lt (Nat.lt_of_lt_of_le (by have:=World.block_lt_of_cell? _ _ hw394_0;first|rwa [add_block] at this|exact this) GW396.out))|(dsimp only;exact Nat.ne_of_lt (Nat.lt_of_lt_of_le (by have:=World.block_lt_of_cell? _ _ hw394_0;first|rwa [add_block] at this|exact this) GW396.out))) _).trans (((cell_far (p:=⟨gb396,_,none⟩) (by first|exact Nat.ne_of_lt (Nat.lt_of_lt_of_le (by have:=World.block_lt_of_cell? _ _ hw394_0;first|rwa [add_block] at this|exact this) GW396.out)|(rw [add_block];exact Nat.ne_of_lt (Nat.lt_of_lt_of_le (by have:=World.block_lt_of_cell? _ _ hw394_0;first|rwa [add_block] at this|exact this) GW396.out))|(show (Addr.add _ _).block≠_;rw [add_block];exact Nat.ne_of_lt (Nat.lt_of_lt_of_le (by have:=World.block_lt_of_cell? _ _ hw394_0;first|rwa [add_block] at this|exact this) GW396.out))|(dsimp only;exact Nat.ne_of_lt (Nat.lt_of_lt_of_le (by have:=World.block_lt_of_cell? _ _ hw394_0;first|rwa [add_block] at this|exact this) GW396.out))) _).trans (hHeld.2.2.1)))),((cell_far (p:=⟨gb396,_,none⟩) (by first|exact Nat.ne_of_lt (Nat.lt_of_lt_of_le (by have:=World.block_lt_of_cell? _ _ hw395_0;first|rwa [add_block] at this|exact this) GW396.out)|(rw [add_block];exact Nat.ne_of_lt (Nat.lt_of_lt_of_le (by have:=World.block_lt_of_cell? _ _ hw395_0;first|rwa [add_block] at this|exact this) GW396.out))|(show (Addr.add _ _).block≠_;rw [add_block];exact Nat.ne_of_lt (Nat.lt_of_lt_of_le (by have:=World.block_lt_of_cell? _ _ hw395_0;first|rwa [add_block] at this|exact this) GW396.out))|(dsimp only;exact Nat.ne_of_lt (Nat.lt_of_lt_of_le (by have:=World.block_lt_of_cell? _ _ hw395_0;first|rwa [add_block] at this|exact this) GW396.out))) _).trans (((cell_far (p:=⟨gb396,_,none⟩) (by first|exact Nat.ne_of_lt (Nat.lt_of_lt_of_le (by have:=World.block_lt_of_cell? _ _ hw395_0;first|rwa [add_block] at this|exact this) GW396.out)|(rw [add_block];exact Nat.ne_of_lt (Nat.lt_of_lt_of_le (by have:=World.block_lt_of_cell? _ _ hw395_0;first|rwa [add_block] at this|exact this) GW396.out))|(show (Addr.add _ _).block≠_;rw [add_block];exact Nat.ne_of_lt (Nat.lt_of_lt_of_le (by have:=World.block_lt_of_cell? _ _ hw395_0;first|rwa [add_block] at this|exact this) GW396.out))|(dsimp only;exact Nat.ne_of_lt (Nat.lt_of_lt_of_le (by have:=World.block_lt_of_cell? _ _ hw395_0;first|rwa [add_block] at this|exact this) GW396.out))) _).trans (hHeld.2.2.2.1)))),((cell_far (p:=⟨gb396,_,none⟩) (by first|exact Nat.ne_of_lt (Nat.lt_of_lt_of_le (by have:=World.block_lt_of_cell? _ _ hw395_1;first|rwa [add_block] at this|exact this) GW396.out)|(rw [add_block];exact Nat.ne_of_lt (Nat.lt_of_lt_of_le (by have:=World.block_lt_of_cell? _ _ hw395_1;first|rwa [add_block] at this|exact this) GW396.out))|(show (Addr.add _ _).block≠_;rw [add_block];exact Nat.ne_of_lt (Nat.lt_of_lt_of_le (by have:=World.block_lt_of_cell? _ _ hw395_1;first|rwa [add_block] at this|exact this) GW396.out))|(dsimp only;exact Nat.ne_of_lt (Nat.lt_of_lt_of_le (by have:=World.block_lt_of_cell? _ _ hw395_1;first|rwa [add_block] at this|exact this) GW396.out))) _).trans (((cell_far (p:=⟨gb396,_,none⟩) (by first|exact Nat.ne_of_lt (Nat.lt_of_lt_of_le (by have:=World.block_lt_of_cell? _ _ hw395_1;first|rwa [add_block] at this|exact this) GW396.out)|(rw [add_block];exact Nat.ne_of_lt (Nat.lt_of_lt_of_le (by have:=World.block_lt_of_cell? _ _ hw395_1;first|rwa [add_block] at this|exact this) GW396.out))|(show (Addr.add _ _).block≠_;rw [add_block];exact Nat.ne_of_lt (Nat.lt_of_lt_of_le (by have:=World.block_lt_of_cell? _ _ hw395_1;first|rwa [add_block] at this|exact this) GW396.out))|(dsimp only;exact Nat.ne_of_lt (Nat.lt_of_lt_of_le (by have:=World.block_lt_of_cell? _ _ hw395_1;first|rwa [add_block] at this|exact this) GW396.out))) _).trans (hHeld.2.2.2.2))))⟩ (fun hHeld=>?_)
           clear hK K
           refine done_ (done_of HT_.out (by kernel_rfl)) ?_
           (try clear hHeld)
           have hnb59:=NB390_389.out
           have hnc59:=NB389_390.out
           have hnb60:=NB390_391.out
           have hnc60:=NB391_390.out
           have hnb61:=NB390_392.out
           have hnc61:=NB392_390.out
           have hnb62:=NB390_396.out
           have hnc62:=NB396_390.out
           have hcz63_0 : w56.cell? ⟨gb390,0,none⟩=some (.int .i64 a1_0):=(blk_cell BK390.out 0).trans rfl
           have hcz63_1 : w56.cell? ⟨gb390,1,none⟩=some (.int .i64 a1_1):=(blk_cell BK390.out 1).trans rfl
           have hfz63_0:=blk_frozen BK390.out 0
           have hfz63_1:=blk_frozen BK390.out 1
           have hnb64:=NB396_389.out
           have hnc64:=NB389_396.out
           have hnb65:=NB396_391.out
           have hnc65:=NB391_396.out
           have hnb66:=NB396_392.out
           have hnc66:=NB392_396.out
           have hcz67_0 : w56.cell? ⟨gb396,0,none⟩=some (.int .i64 0):=(blk_cell BK396.out 0).trans rfl
           have hcz67_1 : w56.cell? ⟨gb396,1,none⟩=some (.string (⟨#[]⟩ : ByteArray)):=(blk_cell BK396.out 1).trans rfl
           have hfz67_0:=blk_frozen BK396.out 0
           have hfz67_1:=blk_frozen BK396.out 1
           have hnb68:=NB392_389.out
           have hnc68:=NB389_392.out
           have hnb69:=NB392_391.out
           have hnc69:=NB391_392.out
           have hcz70_0 : w56.cell? ⟨gb392,0,none⟩=some (.bool x393000_1):=(blk_cell BK392.out 0).trans rfl
           have hcz70_1 : w56.cell? ⟨gb392,1,none⟩=some (.int .i64 x393001_1):=(blk_cell BK392.out 1).trans rfl
           have hcz70_2 : w56.cell? ⟨gb392,2,none⟩=some (.string x393002_1):=(blk_cell BK392.out 2).trans rfl
           have hfz70_0:=blk_frozen BK392.out 0
           have hfz70_1:=blk_frozen BK392.out 1
           have hfz70_2:=blk_frozen BK392.out 2
           go_upto_region 12 with (first|((with_reducible refine gate_callee (f:=30) rfl ?_);refine goesL_ (some 56) rfl rfl Try.func30 (by kernel_rfl) rfl #[.int .i64 (rd l0_0 a1_1),.agg #[.int .i64 ((rd_T40 (rd_L7 l2 x9_1) a1_1).f0),.string ((rd_T40 (rd_L7 l2 x9_1) a1_1).f1)],.agg #[.int .i64 x393001_1,.string x393002_1]] rfl (by (try simp only [List.map_toArray,List.map_cons,List.map_nil]);first|done|rfl|(simp only [List.length_drop,List.length_take];rfl)) ?_;(with_reducible refine (thresherref03_Compare.calls k1 (rd l0_0 a1_1) ((rd_T40 (rd_L7 l2 x9_1) a1_1).f0) ((rd_T40 (rd_L7 l2 x9_1) a1_1).f1) x393001_1 x393002_1 t399 _ A53.out).mono ?_);rintro e w71 ⟨rfl,hb⟩;refine ⟨_,rfl,?_⟩;have n0_:=Aside0.mk (blk_below (g:=gb389) (o:=.cells #[.slice (some ad393) l0_0.length c0_0,.int .i64 a0_1,.int .i64 a0_2,.int .i64 a0_3] 29 (0,0)) (by (with_reducible repeat (first|refine blk_drewN ?_ _|refine blk_drew ?_|refine blk_alloc ?_ _));refine blk_far ?_ NB389_396.out _;(with_reducible repeat (first|refine blk_drewN ?_ _|refine blk_drew ?_|refine blk_alloc ?_ _));refine blk_far ?_ NB389_396.out _;(with_reducible repeat (first|refine blk_drewN ?_ _|refine blk_drew ?_|refine blk_alloc ?_ _));exact BK389.out) hb);have n1_:=Aside0.mk (blk_below (g:=gb390) (o:=.cells #[.int .i64 a1_0,.int .i64 a1_1] 33 (0,0)) (by (with_reducible repeat (first|refine blk_drewN ?_ _|refine blk_drew ?_|refine blk_alloc ?_ _));refine blk_far ?_ NB390_396.out _;(with_reducible repeat (first|refine blk_drewN ?_ _|refine blk_drew ?_|refine blk_alloc ?_ _));refine blk_far ?_ NB390_396.out _;(with_reducible repeat (first|refine blk_drewN ?_ _|refine blk_drew ?_|refine blk_alloc ?_ _));exact BK390.out) hb);have n2_:=Aside0.mk (blk_below (g:=gb391) (o:=.cells #[.bool false,.int .i64 0,.string (⟨#[]⟩ : ByteArray)] 42 (0,0)) (by (with_reducible repeat (first|refine blk_drewN ?_ _|refine blk_drew ?_|refine blk_alloc ?_ _));refine blk_far ?_ NB391_396.out _;(with_reducible repeat (first|refine blk_drewN ?_ _|refine blk_drew ?_|refine blk_alloc ?_ _));refine blk_far ?_ NB391_396.out _;(with_reducible repeat (first|refine blk_drewN ?_ _|refine blk_drew ?_|refine blk_alloc ?_ _));exact BK391.out) hb);have n3_:=Aside0.mk (blk_below (g:=gb392) (o:=.cells #[.bool x393000_1,.int .i64 x393001_1,.string x393002_1] 42 (0,0)) (by (with_reducible repeat (first|refine blk_drewN ?_ _|refine blk_drew ?_|refine blk_alloc ?_ _));refine blk_far ?_ NB392_396.out _;(with_reducible repeat (first|refine blk_drewN ?_ _|refine blk_drew ?_|refine blk_alloc ?_ _));refine blk_far ?_ NB392_396.out _;(with_reducible repeat (first|refine blk_drewN ?_ _|refine blk_drew ?_|refine blk_alloc ?_ _));exact BK392.out) hb);have n4_:=Aside0.mk (blk_below (g:=gb396) (o:=.cells #[.int .i64 ((rd_T40 (rd_L7 l2 x9_1) a1_1).f0),.string ((rd_T40 (rd_L7 l2 x9_1) a1_1).f1)] 40 (0,0)) (by (with_reducible repeat (first|refine blk_drewN ?_ _|refine blk_drew ?_|refine blk_alloc ?_ _));refine blk_put (cs:=#[.int .i64 ((rd_T40 (rd_L7 l2 x9_1) a1_1).f0),.string (⟨#[]⟩ : ByteArray)]) ?_ 1 _ rfl;(with_reducible repeat (first|refine blk_drewN ?_ _|refine blk_drew ?_|refine blk_alloc ?_ _));refine blk_put (cs:=#[.int .i64 0,.string (⟨#[]⟩ : ByteArray)]) ?_ 0 _ rfl;(with_reducible repeat (first|refine blk_drewN ?_ _|refine blk_drew ?_|refine blk_alloc ?_ _));exact BK396.out) hb);have n5_:=Aside0.mk (below_step (by repeat (first|(with_reducible first|exact HB.out|apply below_alloc|apply pw_below_drewN|apply below_drew1|refine below_set ?_ GE389.out|refine below_set ?_ GE390.out|refine below_set ?_ GE391.out|refine below_set ?_ GE392.out|refine below_set ?_ GE396.out)|exact HB.out)) hb);clear BK389;clear BK390;clear BK391;clear BK392;clear BK396;clear HB;have BK389:=n0_;have BK390:=n1_;have BK391:=n2_;have BK392:=n3_;have BK396:=n4_;have HB:=n5_;clear n0_ n1_ n2_ n3_ n4_ n5_;(try clear hb);(try clear hb2);(try clear hk);(try clear hi)))
           (try simp only [Act.put,List.setIfInBounds_toArray,List.set_cons_zero,List.set_cons_succ])
           go_cut [77] (fun v77 wc=>∃ (kq : Nat) (x77_53 : Bool),v77=.bool x77_53∧Aside0 (thresherref20_one.j1 kq l2 (rd l0_0 a1_1) x9_1 x77_53 a1_0 a1_1 x393000_1 x393001_1 x393002_1 ((rd_T40 (rd_L7 l2 x9_1) a1_1).f0) ((rd_T40 (rd_L7 l2 x9_1) a1_1).f1)=some (r1,r2,r3))∧Aside0 (kq≤k1)∧Aside0 (wc.heap[gb389]?=some (.cells #[(.slice (some ad393) l0_0.length c0_0),.int .i64 a0_1,.int .i64 a0_2,.int .i64 a0_3] 29 (0,0)))∧Aside0 (wc.heap[gb390]?=some (.cells #[.int .i64 a1_0,.int .i64 a1_1] 33 (0,0)))∧Aside0 (wc.heap[gb391]?=some (.cells #[.bool false,.int .i64 0,.string (⟨#[]⟩ : ByteArray)] 42 (0,0)))∧Aside0 (wc.heap[gb392]?=some (.cells #[.bool x393000_1,.int .i64 x393001_1,.string x393002_1] 42 (0,0)))∧Aside0 (wc.heap[gb396]?=some (.cells #[.int .i64 ((rd_T40 (rd_L7 l2 x9_1) a1_1).f0),.string ((rd_T40 (rd_L7 l2 x9_1) a1_1).f1)] 40 (0,0)))∧Aside0 (Below w.heap.size w wc))
           case first =>
            have H:=HC54.out
            clear HC54
            by_cases c72 : x393000_1=true
            ·subst c72
             have H1 : (if a1_0=3 then (if t399 < 0 then (thresherref20_one.j1 k1 l2 (rd l0_0 a1_1) x9_1 true a1_0 a1_1 true x393001_1 x393002_1 ((rd_T40 (rd_L7 l2 x9_1) a1_1).f0) ((rd_T40 (rd_L7 l2 x9_1) a1_1).f1)) else (if a1_0=4 then (thresherref20_one.j1 k1 l2 (rd l0_0 a1_1) x9_1 (decide (t399 > 0)) a1_0 a1_1 true x393001_1 x393002_1 ((rd_T40 (rd_L7 l2 x9_1) a1_1).f0) ((rd_T40 (rd_L7 l2 x9_1) a1_1).f1)) else (thresherref20_one.j1 k1 l2 (rd l0_0 a1_1) x9_1 false a1_0 a1_1 true x393001_1 x393002_1 ((rd_T40 (rd_L7 l2 x9_1) a1_1).f0) ((rd_T40 (rd_L7 l2 x9_1) a1_1).f1)))) else (if a1_0=4 then (thresherref20_one.j1 k1 l2 (rd l0_0 a1_1) x9_1 (decide (t399 > 0)) a1_0 a1_1 true x393001_1 x393002_1 ((rd_T40 (rd_L7 l2 x9_1) a1_1).f0) ((rd_T40 (rd_L7 l2 x9_1) a1_1).f1)) else (thresherref20_one.j1 k1 l2 (rd l0_0 a1_1) x9_1 false a1_0 a1_1 true x393001_1 x393002_1 ((rd_T40 (rd_L7 l2 x9_1) a1_1).f0) ((rd_T40 (rd_L7 l2 x9_1) a1_1).f1))))=some (r1,r2,r3):=by rw [if_pos rfl] at H;exact H
             clear H
             have H:=H1
             clear H1
             by_cases c73 : a1_0=3
             ·rw [if_pos c73] at H
              have c73b0 : (a1_0 == 3)=true:=beq_iff_eq.mpr c73
              have c73b1 : (a1_0 != 3)=false:=bne_eq_false_iff_eq.mpr c73
              clear c73
              (first|rw [c73b0]|(simp only [i64_w,i32_w];rw [c73b0])|skip)
              by_cases c74 : t399 < 0
              ·rw [if_pos c74] at H
               have c74b0 : decide (t399 < 0)=true:=decide_eq_true c74
               clear c74
               have H':=Aside0.mk H
               clear H
               have hnb75:=NB392_389.out
               have hnc75:=NB389_392.out
               have hnb76:=NB392_390.out
               have hnc76:=NB390_392.out
               have hnb77:=NB392_391.out
               have hnc77:=NB391_392.out
               have hnb78:=NB392_396.out
               have hnc78:=NB396_392.out
               have hcz79_0 : w71.cell? ⟨gb392,0,none⟩=some (.bool true):=(blk_cell BK392.out 0).trans rfl
               have hcz79_1 : w71.cell? ⟨gb392,1,none⟩=some (.int .i64 x393001_1):=(blk_cell BK392.out 1).trans rfl
               have hcz79_2 : w71.cell? ⟨gb392,2,none⟩=some (.string x393002_1):=(blk_cell BK392.out 2).trans rfl
               have hfz79_0:=blk_frozen BK392.out 0
               have hfz79_1:=blk_frozen BK392.out 1
               have hfz79_2:=blk_frozen BK392.out 2
               have hnb80:=NB390_389.out
               have hnc80:=NB389_390.out
               have hnb81:=NB390_391.out
               have hnc81:=NB391_390.out
               have hnb82:=NB390_396.out
               have hnc82:=NB396_390.out
               have hcz83_0 : w71.cell? ⟨gb390,0,none⟩=some (.int .i64 a1_0):=(blk_cell BK390.out 0).trans rfl
               have hcz83_1 : w71.cell? ⟨gb390,1,none⟩=some (.int .i64 a1_1):=(blk_cell BK390.out 1).trans rfl
               have hfz83_0:=blk_frozen BK390.out 0
               have hfz83_1:=blk_frozen BK390.out 1
               go_wp2
               go_meet
               case rel=>exact ⟨_,(true),(by first|rfl|(simp;done)|(simp [*];done)),(by first|exact H'|(subst_vars;exact H')),⟨by have:=HK1.out;first|omega|exact Nat.le_refl _⟩,⟨by (with_reducible repeat (first|refine blk_drewN ?_ _|refine blk_drew ?_|refine blk_alloc ?_ _));exact BK389.out⟩,⟨by (with_reducible repeat (first|refine blk_drewN ?_ _|refine blk_drew ?_|refine blk_alloc ?_ _));exact BK390.out⟩,⟨by (with_reducible repeat (first|refine blk_drewN ?_ _|refine blk_drew ?_|refine blk_alloc ?_ _));exact BK391.out⟩,⟨by (with_reducible repeat (first|refine blk_drewN ?_ _|refine blk_drew ?_|refine blk_alloc ?_ _));exact BK392.out⟩,⟨by (with_reducible repeat (first|refine blk_drewN ?_ _|refine blk_drew ?_|refine blk_alloc ?_ _));exact BK396.out⟩,⟨by repeat (first|(with_reducible first|exact HB.out|apply below_alloc|apply pw_below_drewN|apply below_drew1|refine below_set ?_ GE389.out|refine below_set ?_ GE390.out|refine below_set ?_ GE391.out|refine below_set ?_ GE392.out|refine below_set ?_ GE396.out)|exact HB.out)⟩⟩
              ·rw [if_neg c74] at H
               have c74b0 : decide (t399 < 0)=false:=decide_eq_false c74
               clear c74
               by_cases c84 : a1_0=4
               ·rw [if_pos c84] at H
                have c84b0 : (a1_0 == 4)=true:=beq_iff_eq.mpr c84
                have c84b1 : (a1_0 != 4)=false:=bne_eq_false_iff_eq.mpr c84
                clear c84
                have H':=Aside0.mk H
                clear H
                have hnb85:=NB392_389.out
                have hnc85:=NB389_392.out
                have hnb86:=NB392_390.out
                have hnc86:=NB390_392.out
                have hnb87:=NB392_391.out
                have hnc87:=NB391_392.out
                have hnb88:=NB392_396.out
                have hnc88:=NB396_392.out
                have hcz89_0 : w71.cell? ⟨gb392,0,none⟩=some (.bool true):=(blk_cell BK392.out 0).trans rfl
                have hcz89_1 : w71.cell? ⟨gb392,1,none⟩=some (.int .i64 x393001_1):=(blk_cell BK392.out 1).trans rfl
                have hcz89_2 : w71.cell? ⟨gb392,2,none⟩=some (.string x393002_1):=(blk_cell BK392.out 2).trans rfl
                have hfz89_0:=blk_frozen BK392.out 0
                have hfz89_1:=blk_frozen BK392.out 1
                have hfz89_2:=blk_frozen BK392.out 2
                have hnb90:=NB390_389.out
                have hnc90:=NB389_390.out
                have hnb91:=NB390_391.out
                have hnc91:=NB391_390.out
                have hnb92:=NB390_396.out
                have hnc92:=NB396_390.out
                have hcz93_0 : w71.cell? ⟨gb390,0,none⟩=some (.int .i64 a1_0):=(blk_cell BK390.out 0).trans rfl
                have hcz93_1 : w71.cell? ⟨gb390,1,none⟩=some (.int .i64 a1_1):=(blk_cell BK390.out 1).trans rfl
                have hfz93_0:=blk_frozen BK390.out 0
                have hfz93_1:=blk_frozen BK390.out 1
                go_wp2
                go_meet
                case rel=>exact ⟨_,(decide (t399 > 0)),(by first|rfl|(simp;done)|(simp [*];done)),(by first|exact H'|(subst_vars;exact H')),⟨by have:=HK1.out;first|omega|exact Nat.le_refl _⟩,⟨by (with_reducible repeat (first|refine blk_drewN ?_ _|refine blk_drew ?_|refine blk_alloc ?_ _));exact BK389.out⟩,⟨by (with_reducible repeat (first|refine blk_drewN ?_ _|refine blk_drew ?_|refine blk_alloc ?_ _));exact BK390.out⟩,⟨by (with_reducible repeat (first|refine blk_drewN ?_ _|refine blk_drew ?_|refine blk_alloc ?_ _));exact BK391.out⟩,⟨by (with_reducible repeat (first|refine blk_drewN ?_ _|refine blk_drew ?_|refine blk_alloc ?_ _));exact BK392.out⟩,⟨by (with_reducible repeat (first|refine blk_drewN ?_ _|refine blk_drew ?_|refine blk_alloc ?_ _));exact BK396.out⟩,⟨by repeat (first|(with_reducible first|exact HB.out|apply below_alloc|apply pw_below_drewN|apply below_drew1|refine below_set ?_ GE389.out|refine below_set ?_ GE390.out|refine below_set ?_ GE391.out|refine below_set ?_ GE392.out|refine below_set ?_ GE396.out)|exact HB.out)⟩⟩
               ·rw [if_neg c84] at H
                have c84b0 : (a1_0 == 4)=false:=beq_eq_false_iff_ne.mpr c84
                have c84b1 : (a1_0 != 4)=true:=bne_iff_ne.mpr c84
                have H':=Aside0.mk H
                clear H
                have hnb94:=NB392_389.out
                have hnc94:=NB389_392.out
                have hnb95:=NB392_390.out
                have hnc95:=NB390_392.out
                have hnb96:=NB392_391.out
                have hnc96:=NB391_392.out
                have hnb97:=NB392_396.out
                have hnc97:=NB396_392.out
                have hcz98_0 : w71.cell? ⟨gb392,0,none⟩=some (.bool true):=(blk_cell BK392.out 0).trans rfl
                have hcz98_1 : w71.cell? ⟨gb392,1,none⟩=some (.int .i64 x393001_1):=(blk_cell BK392.out 1).trans rfl
                have hcz98_2 : w71.cell? ⟨gb392,2,none⟩=some (.string x393002_1):=(blk_cell BK392.out 2).trans rfl
                have hfz98_0:=blk_frozen BK392.out 0
                have hfz98_1:=blk_frozen BK392.out 1
                have hfz98_2:=blk_frozen BK392.out 2
                have hnb99:=NB390_389.out
                have hnc99:=NB389_390.out
                have hnb100:=NB390_391.out
                have hnc100:=NB391_390.out
                have hnb101:=NB390_396.out
                have hnc101:=NB396_390.out
                have hcz102_0 : w71.cell? ⟨gb390,0,none⟩=some (.int .i64 a1_0):=(blk_cell BK390.out 0).trans rfl
                have hcz102_1 : w71.cell? ⟨gb390,1,none⟩=some (.int .i64 a1_1):=(blk_cell BK390.out 1).trans rfl
                have hfz102_0:=blk_frozen BK390.out 0
                have hfz102_1:=blk_frozen BK390.out 1
                go_wp2
                go_meet
                case rel=>exact ⟨_,(false),(by first|rfl|(simp;done)|(simp [*];done)),(by first|exact H'|(subst_vars;exact H')),⟨by have:=HK1.out;first|omega|exact Nat.le_refl _⟩,⟨by (with_reducible repeat (first|refine blk_drewN ?_ _|refine blk_drew ?_|refine blk_alloc ?_ _));exact BK389.out⟩,⟨by (with_reducible repeat (first|refine blk_drewN ?_ _|refine blk_drew ?_|refine blk_alloc ?_ _));exact BK390.out⟩,⟨by (with_reducible repeat (first|refine blk_drewN ?_ _|refine blk_drew ?_|refine blk_alloc ?_ _));exact BK391.out⟩,⟨by (with_reducible repeat (first|refine blk_drewN ?_ _|refine blk_drew ?_|refine blk_alloc ?_ _));exact BK392.out⟩,⟨by (with_reducible repeat (first|refine blk_drewN ?_ _|refine blk_drew ?_|refine blk_alloc ?_ _));exact BK396.out⟩,⟨by repeat (first|(with_reducible first|exact HB.out|apply below_alloc|apply pw_below_drewN|apply below_drew1|refine below_set ?_ GE389.out|refine below_set ?_ GE390.out|refine below_set ?_ GE391.out|refine below_set ?_ GE392.out|refine below_set ?_ GE396.out)|exact HB.out)⟩⟩
             ·rw [if_neg c73] at H
              have c73b0 : (a1_0 == 3)=false:=beq_eq_false_iff_ne.mpr c73
              have c73b1 : (a1_0 != 3)=true:=bne_iff_ne.mpr c73
              (first|rw [c73b0]|(simp only [i64_w,i32_w];rw [c73b0])|skip)
              by_cases c103 : a1_0=4
              ·rw [if_pos c103] at H
               have c103b0 : (a1_0 == 4)=true:=beq_iff_eq.mpr c103
               have c103b1 : (a1_0 != 4)=false:=bne_eq_false_iff_eq.mpr c103
               clear c103
               have H':=Aside0.mk H
               clear H
               have hnb104:=NB392_389.out
               have hnc104:=NB389_392.out
               have hnb105:=NB392_390.out
               have hnc105:=NB390_392.out
               have hnb106:=NB392_391.out
               have hnc106:=NB391_392.out
               have hnb107:=NB392_396.out
               have hnc107:=NB396_392.out
               have hcz108_0 : w71.cell? ⟨gb392,0,none⟩=some (.bool true):=(blk_cell BK392.out 0).trans rfl
               have hcz108_1 : w71.cell? ⟨gb392,1,none⟩=some (.int .i64 x393001_1):=(blk_cell BK392.out 1).trans rfl
               have hcz108_2 : w71.cell? ⟨gb392,2,none⟩=some (.string x393002_1):=(blk_cell BK392.out 2).trans rfl
               have hfz108_0:=blk_frozen BK392.out 0
               have hfz108_1:=blk_frozen BK392.out 1
               have hfz108_2:=blk_frozen BK392.out 2
               have hnb109:=NB390_389.out
               have hnc109:=NB389_390.out
               have hnb110:=NB390_391.out
               have hnc110:=NB391_390.out
               have hnb111:=NB390_396.out
               have hnc111:=NB396_390.out
               have hcz112_0 : w71.cell? ⟨gb390,0,none⟩=some (.int .i64 a1_0):=(blk_cell BK390.out 0).trans rfl
               have hcz112_1 : w71.cell? ⟨gb390,1,none⟩=some (.int .i64 a1_1):=(blk_cell BK390.out 1).trans rfl
               have hfz112_0:=blk_frozen BK390.out 0
               have hfz112_1:=blk_frozen BK390.out 1
               go_wp2
               go_meet
               case rel=>exact ⟨_,(decide (t399 > 0)),(by first|rfl|(simp;done)|(simp [*];done)),(by first|exact H'|(subst_vars;exact H')),⟨by have:=HK1.out;first|omega|exact Nat.le_refl _⟩,⟨by (with_reducible repeat (first|refine blk_drewN ?_ _|refine blk_drew ?_|refine blk_alloc ?_ _));exact BK389.out⟩,⟨by (with_reducible repeat (first|refine blk_drewN ?_ _|refine blk_drew ?_|refine blk_alloc ?_ _));exact BK390.out⟩,⟨by (with_reducible repeat (first|refine blk_drewN ?_ _|refine blk_drew ?_|refine blk_alloc ?_ _));exact BK391.out⟩,⟨by (with_reducible repeat (first|refine blk_drewN ?_ _|refine blk_drew ?_|refine blk_alloc ?_ _));exact BK392.out⟩,⟨by (with_reducible repeat (first|refine blk_drewN ?_ _|refine blk_drew ?_|refine blk_alloc ?_ _));exact BK396.out⟩,⟨by repeat (first|(with_reducible first|exact HB.out|apply below_alloc|apply pw_below_drewN|apply below_drew1|refine below_set ?_ GE389.out|refine below_set ?_ GE390.out|refine below_set ?_ GE391.out|refine below_set ?_ GE392.out|refine below_set ?_ GE396.out)|exact HB.out)⟩⟩
              ·rw [if_neg c103] at H
               have c103b0 : (a1_0 == 4)=false:=beq_eq_false_iff_ne.mpr c103
               have c103b1 : (a1_0 != 4)=true:=bne_iff_ne.mpr c103
               have H':=Aside0.mk H
               clear H
               have hnb113:=NB392_389.out
               have hnc113:=NB389_392.out
               have hnb114:=NB392_390.out
               have hnc114:=NB390_392.out
               have hnb115:=NB392_391.out
               have hnc115:=NB391_392.out
               have hnb116:=NB392_396.out
               have hnc116:=NB396_392.out
               have hcz117_0 : w71.cell? ⟨gb392,0,none⟩=some (.bool true):=(blk_cell BK392.out 0).trans rfl
               have hcz117_1 : w71.cell? ⟨gb392,1,none⟩=some (.int .i64 x393001_1):=(blk_cell BK392.out 1).trans rfl
               have hcz117_2 : w71.cell? ⟨gb392,2,none⟩=some (.string x393002_1):=(blk_cell BK392.out 2).trans rfl
               have hfz117_0:=blk_frozen BK392.out 0
               have hfz117_1:=blk_frozen BK392.out 1
               have hfz117_2:=blk_frozen BK392.out 2
               have hnb118:=NB390_389.out
               have hnc118:=NB389_390.out
               have hnb119:=NB390_391.out
               have hnc119:=NB391_390.out
               have hnb120:=NB390_396.out
               have hnc120:=NB396_390.out
               have hcz121_0 : w71.cell? ⟨gb390,0,none⟩=some (.int .i64 a1_0):=(blk_cell BK390.out 0).trans rfl
               have hcz121_1 : w71.cell? ⟨gb390,1,none⟩=some (.int .i64 a1_1):=(blk_cell BK390.out 1).trans rfl
               have hfz121_0:=blk_frozen BK390.out 0
               have hfz121_1:=blk_frozen BK390.out 1
               go_wp2
               go_meet
               case rel=>exact ⟨_,(false),(by first|rfl|(simp;done)|(simp [*];done)),(by first|exact H'|(subst_vars;exact H')),⟨by have:=HK1.out;first|omega|exact Nat.le_refl _⟩,⟨by (with_reducible repeat (first|refine blk_drewN ?_ _|refine blk_drew ?_|refine blk_alloc ?_ _));exact BK389.out⟩,⟨by (with_reducible repeat (first|refine blk_drewN ?_ _|refine blk_drew ?_|refine blk_alloc ?_ _));exact BK390.out⟩,⟨by (with_reducible repeat (first|refine blk_drewN ?_ _|refine blk_drew ?_|refine blk_alloc ?_ _));exact BK391.out⟩,⟨by (with_reducible repeat (first|refine blk_drewN ?_ _|refine blk_drew ?_|refine blk_alloc ?_ _));exact BK392.out⟩,⟨by (with_reducible repeat (first|refine blk_drewN ?_ _|refine blk_drew ?_|refine blk_alloc ?_ _));exact BK396.out⟩,⟨by repeat (first|(with_reducible first|exact HB.out|apply below_alloc|apply pw_below_drewN|apply below_drew1|refine below_set ?_ GE389.out|refine below_set ?_ GE390.out|refine below_set ?_ GE391.out|refine below_set ?_ GE392.out|refine below_set ?_ GE396.out)|exact HB.out)⟩⟩
            ·replace c72:=Bool.eq_false_iff.mpr c72
             subst c72
             have H1 : (thresherref20_one.j1 k1 l2 (rd l0_0 a1_1) x9_1 true a1_0 a1_1 false x393001_1 x393002_1 ((rd_T40 (rd_L7 l2 x9_1) a1_1).f0) ((rd_T40 (rd_L7 l2 x9_1) a1_1).f1))=some (r1,r2,r3):=by rw [if_neg (show ¬ (false=true) by decide)] at H;exact H
             clear H
             have H:=H1
             clear H1
             have H':=Aside0.mk H
             clear H
             have hnb122:=NB392_389.out
             have hnc122:=NB389_392.out
             have hnb123:=NB392_390.out
             have hnc123:=NB390_392.out
             have hnb124:=NB392_391.out
             have hnc124:=NB391_392.out
             have hnb125:=NB392_396.out
             have hnc125:=NB396_392.out
             have hcz126_0 : w71.cell? ⟨gb392,0,none⟩=some (.bool false):=(blk_cell BK392.out 0).trans rfl
             have hcz126_1 : w71.cell? ⟨gb392,1,none⟩=some (.int .i64 x393001_1):=(blk_cell BK392.out 1).trans rfl
             have hcz126_2 : w71.cell? ⟨gb392,2,none⟩=some (.string x393002_1):=(blk_cell BK392.out 2).trans rfl
             have hfz126_0:=blk_frozen BK392.out 0
             have hfz126_1:=blk_frozen BK392.out 1
             have hfz126_2:=blk_frozen BK392.out 2
             go_wp2
             go_meet
             case rel=>exact ⟨_,(true),(by first|rfl|(simp;done)|(simp [*];done)),(by first|exact H'|(subst_vars;exact H')),⟨by have:=HK1.out;first|omega|exact Nat.le_refl _⟩,⟨by (with_reducible repeat (first|refine blk_drewN ?_ _|refine blk_drew ?_|refine blk_alloc ?_ _));exact BK389.out⟩,⟨by (with_reducible repeat (first|refine blk_drewN ?_ _|refine blk_drew ?_|refine blk_alloc ?_ _));exact BK390.out⟩,⟨by (with_reducible repeat (first|refine blk_drewN ?_ _|refine blk_drew ?_|refine blk_alloc ?_ _));exact BK391.out⟩,⟨by (with_reducible repeat (first|refine blk_drewN ?_ _|refine blk_drew ?_|refine blk_alloc ?_ _));exact BK392.out⟩,⟨by (with_reducible repeat (first|refine blk_drewN ?_ _|refine blk_drew ?_|refine blk_alloc ?_ _));exact BK396.out⟩,⟨by repeat (first|(with_reducible first|exact HB.out|apply below_alloc|apply pw_below_drewN|apply below_drew1|refine below_set ?_ GE389.out|refine below_set ?_ GE390.out|refine below_set ?_ GE391.out|refine below_set ?_ GE392.out|refine below_set ?_ GE396.out)|exact HB.out)⟩⟩
           case rest =>
            clear HC54
            try clear c1
            try clear p2
            try clear c3
            try clear p3
            try clear q3
            try clear hx3
            try clear c4
            try clear c5
            try clear c6
            try clear p6
            try clear c7
            try clear c8
            try clear c9
            try clear c10
            try clear c11
            try clear c12
            try clear c30
            try clear c31
            try clear c33
            try clear c33b0
            try clear c33b1
            try clear c39
            try clear p39
            try clear q39
            try clear hx39
            try clear c40
            try clear c41
            try clear c42
            try clear c44
            try clear c45
            try clear c46
            try clear c48
            try clear c49
            try clear c59
            try clear c60
            try clear c61
            try clear c62
            try clear c64
            try clear p64
            try clear c65
            try clear c66
            try clear c68
            try clear c69
            try clear c72
            try clear c73
            try clear c73b0
            try clear c73b1
            try clear c74
            try clear c74b0
            try clear c75
            try clear c76
            try clear c77
            try clear c78
            try clear c80
            try clear c81
            try clear c82
            try clear c84
            try clear c84b0
            try clear c84b1
            try clear c85
            try clear c86
            try clear c87
            try clear c88
            try clear c90
            try clear c91
            try clear c92
            try clear c94
            try clear c95
            try clear c96
            try clear c97
            try clear c99
            try clear c100
            try clear c101
            try clear c103
            try clear c103b0
            try clear c103b1
            try clear c104
            try clear c105
            try clear c106
            try clear c107
            try clear c109
            try clear c110
            try clear c111
            try clear c113
            try clear c114
            try clear c115
            try clear c116
            try clear c118
            try clear c119
            try clear c120
            try clear c122
            try clear c123
            try clear c124
            try clear c125
            try clear hcz102_0
            try clear hcz102_1
            try clear hcz108_0
            try clear hcz108_1
            try clear hcz108_2
            try clear hcz112_0
            try clear hcz112_1
            try clear hcz117_0
            try clear hcz117_1
            try clear hcz117_2
            try clear hcz121_0
            try clear hcz121_1
            try clear hcz126_0
            try clear hcz126_1
            try clear hcz126_2
            try clear hcz43_0
            try clear hcz43_1
            try clear hcz47_0
            try clear hcz47_1
            try clear hcz47_2
            try clear hcz50_0
            try clear hcz50_1
            try clear hcz52_0
            try clear hcz52_1
            try clear hcz52_2
            try clear hcz63_0
            try clear hcz63_1
            try clear hcz67_0
            try clear hcz67_1
            try clear hcz70_0
            try clear hcz70_1
            try clear hcz70_2
            try clear hcz79_0
            try clear hcz79_1
            try clear hcz79_2
            try clear hcz83_0
            try clear hcz83_1
            try clear hcz89_0
            try clear hcz89_1
            try clear hcz89_2
            try clear hcz93_0
            try clear hcz93_1
            try clear hcz98_0
            try clear hcz98_1
            try clear hcz98_2
            try clear hfz102_0
            try clear hfz102_1
            try clear hfz108_0
            try clear hfz108_1
            try clear hfz108_2
            try clear hfz112_0
            try clear hfz112_1
            try clear hfz117_0
            try clear hfz117_1
            try clear hfz117_2
            try clear hfz121_0
            try clear hfz121_1
            try clear hfz126_0
            try clear hfz126_1
            try clear hfz126_2
            try clear hfz43_0
            try clear hfz43_1
            try clear hfz47_0
            try clear hfz47_1
            try clear hfz47_2
            try clear hfz50_0
            try clear hfz50_1
            try clear hfz52_0
            try clear hfz52_1
            try clear hfz52_2
            try clear hfz63_0
            try clear hfz63_1
            try clear hfz67_0
            try clear hfz67_1
            try clear hfz70_0
            try clear hfz70_1
            try clear hfz70_2
            try clear hfz79_0
            try clear hfz79_1
            try clear hfz79_2
            try clear hfz83_0
            try clear hfz83_1
            try clear hfz89_0
            try clear hfz89_1
            try clear hfz89_2
            try clear hfz93_0
            try clear hfz93_1
            try clear hfz98_0
            try clear hfz98_1
            try clear hfz98_2
            try clear hx394_0
            try clear hx395_0
            try clear hx395_1
            try clear p394
            try clear p395
            try clear q394
            try clear q395
            obtain ⟨kq,x77_53,rfl,HA,HJ53,BK389,BK390,BK391,BK392,BK396,HB⟩:=hcut
            cases kq with
            | zero=>exact absurd HA.out (by simp [thresherref20_one.j1])
            | succ kj53 =>
             have H:=HA.out
             clear HA
             simp only [thresherref20_one.j1] at H
             by_cases c127 : x77_53=true
             ·subst c127
              have H1 : (thresherref20_one.l0 kj53 l2 (rd l0_0 a1_1) (wrap64 (x9_1 + 1)) a1_0 a1_1 true ((rd_T40 (rd_L7 l2 x9_1) a1_1).f0) ((rd_T40 (rd_L7 l2 x9_1) a1_1).f1))=some (r1,r2,r3):=by rw [if_pos rfl] at H;exact H
              clear H
              have H:=H1
              clear H1
              have H':=Aside0.mk H
              clear H
              have hnb128:=NB396_389.out
              have hnc128:=NB389_396.out
              have hnb129:=NB396_390.out
              have hnc129:=NB390_396.out
              have hnb130:=NB396_391.out
              have hnc130:=NB391_396.out
              have hnb131:=NB396_392.out
              have hnc131:=NB392_396.out
              have hcz132_0 : wc.cell? ⟨gb396,0,none⟩=some (.int .i64 ((rd_T40 (rd_L7 l2 x9_1) a1_1).f0)):=(blk_cell BK396.out 0).trans rfl
              have hcz132_1 : wc.cell? ⟨gb396,1,none⟩=some (.string ((rd_T40 (rd_L7 l2 x9_1) a1_1).f1)):=(blk_cell BK396.out 1).trans rfl
              have hfz132_0:=blk_frozen BK396.out 0
              have hfz132_1:=blk_frozen BK396.out 1
              have hnb133:=NB392_389.out
              have hnc133:=NB389_392.out
              have hnb134:=NB392_390.out
              have hnc134:=NB390_392.out
              have hnb135:=NB392_391.out
              have hnc135:=NB391_392.out
              have hcz136_0 : wc.cell? ⟨gb392,0,none⟩=some (.bool x393000_1):=(blk_cell BK392.out 0).trans rfl
              have hcz136_1 : wc.cell? ⟨gb392,1,none⟩=some (.int .i64 x393001_1):=(blk_cell BK392.out 1).trans rfl
              have hcz136_2 : wc.cell? ⟨gb392,2,none⟩=some (.string x393002_1):=(blk_cell BK392.out 2).trans rfl
              have hfz136_0:=blk_frozen BK392.out 0
              have hfz136_1:=blk_frozen BK392.out 1
              have hfz136_2:=blk_frozen BK392.out 2
              go_wp2
              go_roundg kj53
              case measure=>have:=HK1.out;have:=HJ53.out;omega
              case rel=>exact ⟨(wrap64 (x9_1 + 1)),(true),(((rd_T40 (rd_L7 l2 x9_1) a1_1).f0)),(((rd_T40 (rd_L7 l2 x9_1) a1_1).f1)),(by first|rfl|(simp;done)|(simp [*];done)),(by first|exact H'|(subst_vars;exact H')),⟨by have:=HK1.out;have:=HJ53.out;omega⟩,⟨by (with_reducible repeat (first|refine blk_drewN ?_ _|refine blk_drew ?_|refine blk_alloc ?_ _));refine blk_far ?_ NB389_392.out _;(with_reducible repeat (first|refine blk_drewN ?_ _|refine blk_drew ?_|refine blk_alloc ?_ _));refine blk_far ?_ NB389_392.out _;(with_reducible repeat (first|refine blk_drewN ?_ _|refine blk_drew ?_|refine blk_alloc ?_ _));refine blk_far ?_ NB389_392.out _;(with_reducible repeat (first|refine blk_drewN ?_ _|refine blk_drew ?_|refine blk_alloc ?_ _));exact BK389.out⟩,⟨by (with_reducible repeat (first|refine blk_drewN ?_ _|refine blk_drew ?_|refine blk_alloc ?_ _));refine blk_far ?_ NB390_392.out _;(with_reducible repeat (first|refine blk_drewN ?_ _|refine blk_drew ?_|refine blk_alloc ?_ _));refine blk_far ?_ NB390_392.out _;(with_reducible repeat (first|refine blk_drewN ?_ _|refine blk_drew ?_|refine blk_alloc ?_ _));refine blk_far ?_ NB390_392.out _;(with_reducible repeat (first|refine blk_drewN ?_ _|refine blk_drew ?_|refine blk_alloc ?_ _));exact BK390.out⟩,⟨by (with_reducible repeat (first|refine blk_drewN ?_ _|refine blk_drew ?_|refine blk_alloc ?_ _));refine blk_far ?_ NB391_392.out _;(with_reducible repeat (first|refine blk_drewN ?_ _|refine blk_drew ?_|refine blk_alloc ?_ _));refine blk_far ?_ NB391_392.out _;(with_reducible repeat (first|refine blk_drewN ?_ _|refine blk_drew ?_|refine blk_alloc ?_ _));refine blk_far ?_ NB391_392.out _;(with_reducible repeat (first|refine blk_drewN ?_ _|refine blk_drew ?_|refine blk_alloc ?_ _));exact BK391.out⟩,⟨by (with_reducible repeat (first|refine blk_drewN ?_ _|refine blk_drew ?_|refine blk_alloc ?_ _));refine blk_put (cs:=#[.bool true,.int .i64 ((rd_T40 (rd_L7 l2 x9_1) a1_1).f0),.string x393002_1]) ?_ 2 _ rfl;(with_reducible repeat (first|refine blk_drewN ?_ _|refine blk_drew ?_|refine blk_alloc ?_ _));refine blk_put (cs:=#[.bool true,.int .i64 x393001_1,.string x393002_1]) ?_ 1 _ rfl;(with_reducible repeat (first|refine blk_drewN ?_ _|refine blk_drew ?_|refine blk_alloc ?_ _));refine blk_put (cs:=#[.bool x393000_1,.int .i64 x393001_1,.string x393002_1]) ?_ 0 _ rfl;(with_reducible repeat (first|refine blk_drewN ?_ _|refine blk_drew ?_|refine blk_alloc ?_ _));exact BK392.out⟩,⟨by repeat (first|(with_reducible first|exact HB.out|apply below_alloc|apply pw_below_drewN|apply below_drew1|refine below_set ?_ GE389.out|refine below_set ?_ GE390.out|refine below_set ?_ GE391.out|refine below_set ?_ GE392.out|refine below_set ?_ GE396.out)|exact HB.out)⟩⟩
             ·replace c127:=Bool.eq_false_iff.mpr c127
              subst c127
              have H1 : (thresherref20_one.l0 kj53 l2 (rd l0_0 a1_1) (wrap64 (x9_1 + 1)) a1_0 a1_1 x393000_1 x393001_1 x393002_1)=some (r1,r2,r3):=by rw [if_neg (show ¬ (false=true) by decide)] at H;exact H
              clear H
              have H:=H1
              clear H1
              have H':=Aside0.mk H
              clear H
              go_wp2
              go_roundg kj53
              case measure=>have:=HK1.out;have:=HJ53.out;omega
              case rel=>exact ⟨(wrap64 (x9_1 + 1)),(x393000_1),(x393001_1),(x393002_1),(by first|rfl|(simp;done)|(simp [*];done)),(by first|exact H'|(subst_vars;exact H')),⟨by have:=HK1.out;have:=HJ53.out;omega⟩,⟨by (with_reducible repeat (first|refine blk_drewN ?_ _|refine blk_drew ?_|refine blk_alloc ?_ _));exact BK389.out⟩,⟨by (with_reducible repeat (first|refine blk_drewN ?_ _|refine blk_drew ?_|refine blk_alloc ?_ _));exact BK390.out⟩,⟨by (with_reducible repeat (first|refine blk_drewN ?_ _|refine blk_drew ?_|refine blk_alloc ?_ _));exact BK391.out⟩,⟨by (with_reducible repeat (first|refine blk_drewN ?_ _|refine blk_drew ?_|refine blk_alloc ?_ _));exact BK392.out⟩,⟨by repeat (first|(with_reducible first|exact HB.out|apply below_alloc|apply pw_below_drewN|apply below_drew1|refine below_set ?_ GE389.out|refine below_set ?_ GE390.out|refine below_set ?_ GE391.out|refine below_set ?_ GE392.out|refine below_set ?_ GE396.out)|exact HB.out)⟩⟩
         ·rw [if_neg c32] at H
          exact absurd H (by simp)
        ·rw [if_neg c31] at H
         exact absurd H (by simp)
       ·rw [if_neg c30] at H
        exact absurd H (by simp)
      ·rw [if_neg c29] at H
       have c29b0 : decide (x9_1 < (l2.length : Int))=false:=decide_eq_false c29
       clear c29
       simp only [Option.some.injEq,Prod.mk.injEq] at H
       obtain ⟨rfl,rfl,rfl⟩:=H
       have hnb137:=NB392_389.out
       have hnc137:=NB389_392.out
       have hnb138:=NB392_390.out
       have hnc138:=NB390_392.out
       have hnb139:=NB392_391.out
       have hnc139:=NB391_392.out
       have hcz140_0 : wr.cell? ⟨gb392,0,none⟩=some (.bool x393000_1):=(blk_cell BK392.out 0).trans rfl
       have hcz140_1 : wr.cell? ⟨gb392,1,none⟩=some (.int .i64 x393001_1):=(blk_cell BK392.out 1).trans rfl
       have hcz140_2 : wr.cell? ⟨gb392,2,none⟩=some (.string x393002_1):=(blk_cell BK392.out 2).trans rfl
       have hfz140_0:=blk_frozen BK392.out 0
       have hfz140_1:=blk_frozen BK392.out 1
       have hfz140_2:=blk_frozen BK392.out 2
       have hnb141:=NB391_389.out
       have hnc141:=NB389_391.out
       have hnb142:=NB391_390.out
       have hnc142:=NB390_391.out
       have hcz143_0 : wr.cell? ⟨gb391,0,none⟩=some (.bool false):=(blk_cell BK391.out 0).trans rfl
       have hcz143_1 : wr.cell? ⟨gb391,1,none⟩=some (.int .i64 0):=(blk_cell BK391.out 1).trans rfl
       have hcz143_2 : wr.cell? ⟨gb391,2,none⟩=some (.string (⟨#[]⟩ : ByteArray)):=(blk_cell BK391.out 2).trans rfl
       have hfz143_0:=blk_frozen BK391.out 0
       have hfz143_1:=blk_frozen BK391.out 1
       have hfz143_2:=blk_frozen BK391.out 2
       go_wp2
       refine bodyPost_ret (results_cell_row rfl _ _ gb391 42 #[.bool x393000_1,.int .i64 x393001_1,.string x393002_1] (0,0) _ rfl (by (with_reducible repeat (first|refine blk_drewN ?_ _|refine blk_drew ?_|refine blk_alloc ?_ _));refine blk_put (cs:=#[.bool x393000_1,.int .i64 x393001_1,.string (⟨#[]⟩ : ByteArray)]) ?_ 2 _ rfl;(with_reducible repeat (first|refine blk_drewN ?_ _|refine blk_drew ?_|refine blk_alloc ?_ _));refine blk_put (cs:=#[.bool x393000_1,.int .i64 0,.string (⟨#[]⟩ : ByteArray)]) ?_ 1 _ rfl;(with_reducible repeat (first|refine blk_drewN ?_ _|refine blk_drew ?_|refine blk_alloc ?_ _));refine blk_put (cs:=#[.bool false,.int .i64 0,.string (⟨#[]⟩ : ByteArray)]) ?_ 0 _ rfl;(with_reducible repeat (first|refine blk_drewN ?_ _|refine blk_drew ?_|refine blk_alloc ?_ _));exact BK391.out) Try.underlying42 rfl (by kernel_rfl)) rfl ?_
       exact ⟨by first|rfl|(simp [errW_none,errW_some] <;> rfl)|(simp [*,errW_none,errW_some] <;> rfl),by repeat (first|(with_reducible first|exact HB.out|apply below_alloc|apply pw_below_drewN|apply below_drew1|refine below_set ?_ GE389.out|refine below_set ?_ GE390.out|refine below_set ?_ GE391.out|refine below_set ?_ GE392.out)|exact HB.out)⟩
   ·rw [if_neg c14] at H
    exact absurd H (by simp)
  ·rw [if_neg c13] at H
   exact absurd H (by simp)

end Go.Proofs.Ytapaldcdoahfeaa.P

