/- Texts of FoldLast. Merged: Px10. -/
import Derived.Test.YtmanchjamkpklaaQFoldLastPx0
import Derived.Test.YtmanchjamkpklaaQFoldLastPx1
namespace Go.Proofs.Ytmanchjamkpklaa.P
open Go.RowKit Go.Proofs.YtmanchjamkpklaaW.PrintWords Go.Proofs.YtmanchjamkpklaaW.PrintLast Go.Proofs.YtmanchjamkpklaaW.PrintMore
attribute [local go_sem] max2_int min2_int max_two min_two max_three min_three max_four min_four   -- for this text's walks alone
set_option linter.unusedVariables false
set_option linter.unusedSimpArgs false
attribute [local go_sem high] eqA45
mutual
def thresherref04_Fit.l0 : Nat→List (S45)→List (S45)→Int→List Int→Int→Int→Int→Option ((List (S45)))
 | 0,_,_,_,_,_,_,_=>none
 | k + 1,x1,x5,x6,x235000,x235001,x235002,x235003=>if x6 < (x235000.length : Int) then (if x6 < (x1.length : Int) then (if 0≤x6 then (thresherref04_Fit.j1 k x1 x5 x6 x235000 x235001 x235002 x235003 ((rd_T45 x1 x6).f0) ((rd_T45 x1 x6).f1)) else (none)) else (thresherref04_Fit.j1 k x1 x5 x6 x235000 x235001 x235002 x235003 0 (⟨#[]⟩ : ByteArray))) else (some x5)
def thresherref04_Fit.j1 : Nat→List (S45)→List (S45)→Int→List Int→Int→Int→Int→Int→ByteArray→Option ((List (S45)))
 | 0,_,_,_,_,_,_,_,_,_=>none
 | k + 1,x1,x5,x6,x235000,x235001,x235002,x235003,x239000,x239001=>if 0≤x6 then (if x6 < (x235000.length : Int) then (if (rd x235000 x6)=3 then (if (x239001.size : Int) > 60 then (if 0≤60 then (if 60≤(x239001.size : Int) then (if x5.length < 5864062014805 then (thresherref04_Fit.l0 k x1 (x5 ++ [(⟨0,x239001.extract 0 60⟩ : S45)]) (wrap64 (x6 + 1)) x235000 x235001 x235002 x235003) else (none)) else (none)) else (none)) else (if x5.length < 5864062014805 then (thresherref04_Fit.l0 k x1 (x5 ++ [(⟨0,x239001⟩ : S45)]) (wrap64 (x6 + 1)) x235000 x235001 x235002 x235003) else (none))) else (if x5.length < 5864062014805 then (thresherref04_Fit.l0 k x1 (x5 ++ [(⟨x239000,(⟨#[]⟩ : ByteArray)⟩ : S45)]) (wrap64 (x6 + 1)) x235000 x235001 x235002 x235003) else (none))) else (none)) else (none)
end
def thresherref04_Fit.f (k : Nat) (l0_0 : List Int) (a0_1 : Int) (a0_2 : Int) (a0_3 : Int) (l1 : List (S45)) : Option ((List (S45))):=thresherref04_Fit.l0 k l1 (([] : List (S45))) 0 l0_0 a0_1 a0_2 a0_3
theorem thresherref04_Fit.mono_l : ∀ k,(∀ y0 y1 y2 y3 y4 y5 y6,LeO (thresherref04_Fit.l0 k y0 y1 y2 y3 y4 y5 y6) (thresherref04_Fit.l0 (k + 1) y0 y1 y2 y3 y4 y5 y6))∧(∀ y0 y1 y2 y3 y4 y5 y6 y7 y8,LeO (thresherref04_Fit.j1 k y0 y1 y2 y3 y4 y5 y6 y7 y8) (thresherref04_Fit.j1 (k + 1) y0 y1 y2 y3 y4 y5 y6 y7 y8))
 | 0=>⟨fun _ _ _ _ _ _ _ r h=>by simp [thresherref04_Fit.l0] at h,fun _ _ _ _ _ _ _ _ _ r h=>by simp [thresherref04_Fit.j1] at h⟩
 | k + 1=>by
  obtain ⟨ih0,ih1⟩:=thresherref04_Fit.mono_l k
  refine ⟨?_,?_⟩
  ·intro y0 y1 y2 y3 y4 y5 y6
   unfold thresherref04_Fit.l0
   repeat' first
   | (with_reducible exact ih0 _ _ _ _ _ _ _)
   | (with_reducible exact ih1 _ _ _ _ _ _ _ _ _)
   | (with_reducible exact LeO.refl _)
   | (with_reducible exact LeO.none _)
   | (with_reducible refine LeO.ite ?_ ?_)
   | (with_reducible refine LeO.bind ?_ (fun _=>?_))
   | exact ih0 _ _ _ _ _ _ _
   | exact ih1 _ _ _ _ _ _ _ _ _
   | exact LeO.none _
   | refine LeO.ite ?_ ?_
   | refine LeO.bind ?_ (fun _=>?_)
  ·intro y0 y1 y2 y3 y4 y5 y6 y7 y8
   unfold thresherref04_Fit.j1
   repeat' first
   | (with_reducible exact ih0 _ _ _ _ _ _ _)
   | (with_reducible exact ih1 _ _ _ _ _ _ _ _ _)
   | (with_reducible exact LeO.refl _)
   | (with_reducible exact LeO.none _)
   | (with_reducible refine LeO.ite ?_ ?_)
   | (with_reducible refine LeO.bind ?_ (fun _=>?_))
   | exact ih0 _ _ _ _ _ _ _
   | exact ih1 _ _ _ _ _ _ _ _ _
   | exact LeO.none _
   | refine LeO.ite ?_ ?_
   | refine LeO.bind ?_ (fun _=>?_)
theorem thresherref04_Fit.mono : ∀ a0 a1 a2 a3 a4 k,LeO (thresherref04_Fit.f k a0 a1 a2 a3 a4) (thresherref04_Fit.f (k + 1) a0 a1 a2 a3 a4):=by
 intro a0 a1 a2 a3 a4 k
 obtain ⟨ih0,ih1⟩:=thresherref04_Fit.mono_l k
 unfold thresherref04_Fit.f
 repeat' first
   | (with_reducible exact ih0 _ _ _ _ _ _ _)
   | (with_reducible exact ih1 _ _ _ _ _ _ _ _ _)
   | (with_reducible exact LeO.refl _)
   | (with_reducible exact LeO.none _)
   | (with_reducible refine LeO.ite ?_ ?_)
   | (with_reducible refine LeO.bind ?_ (fun _=>?_))
   | exact ih0 _ _ _ _ _ _ _
   | exact ih1 _ _ _ _ _ _ _ _ _
   | exact LeO.none _
   | refine LeO.ite ?_ ?_
   | refine LeO.bind ?_ (fun _=>?_)
set_option maxHeartbeats 8000000 in
set_option maxRecDepth 100000 in
theorem thresherref04_Fit.calls (k : Nat) (A0_0 : Option Addr) (c0_0 : Nat) (l0_0 : List Int) (a0_1 : Int) (a0_2 : Int) (a0_3 : Int) (A1 : Option Addr) (c1 : Nat) (l1 : List (S45)) (r : List (S45)) (w : World) (hr0_0 : Kd.C (Kd.int .i64) w A0_0 l0_0.length l0_0) (hc0_0 : l0_0.length≤c0_0) (hr1 : Kd.C k45 w A1 l1.length l1) (hc1 : l1.length≤c1) (h : thresherref04_Fit.f k l0_0 a0_1 a0_2 a0_3 l1=some r) :
  Calls Try.prog 20 #[.agg #[.slice A0_0 l0_0.length c0_0,.int .i64 a0_1,.int .i64 a0_2,.int .i64 a0_3],.slice A1 l1.length c1] w fun e w'=>∃ v0_ : Value,e=.returned (v0_)∧Kd.R k45 45 w' w.heap.size (fun _=>True) v0_ r∧Below w.heap.size w w':=by
 have hu29:=Try.underlying29
 have hu45:=Try.underlying45
 have HR0_0:=Aside0.mk hr0_0
 have HC0_0:=Aside0.mk hc0_0
 clear hr0_0 hc0_0
 have HR1:=Aside0.mk hr1
 have HC1:=Aside0.mk hc1
 clear hr1 hc1
 have HB:=Aside0.mk (Below.refl w.heap.size w)
 have H : (thresherref04_Fit.l0 k l1 (([] : List (S45))) 0 l0_0 a0_1 a0_2 a0_3)=some r:=h
 clear h
 obtain ⟨y235,hy235⟩ : ∃ y_ : List (S45),y_=(([] : List (S45))):=⟨_,rfl⟩
 replace H : (thresherref04_Fit.l0 k l1 y235 0 l0_0 a0_1 a0_2 a0_3)=some r:=by first|(rw [hy235];with_reducible exact H)|(have H2_:=(Option.bind_some _ _).symm.trans H;rw [hy235];with_reducible exact H2_)|(have H2_:=(Option.bind_some _ _).symm.trans H;with_reducible exact H2_)|with_reducible exact H|(rw [hy235];exact H)|exact H
 have Ny235:=Aside0.mk hy235
 clear hy235
 have H':=Aside0.mk H
 clear H
 go_enter Try.func20,Try.ntmps20
 go_wp2_with (first|((with_reducible refine gate_dst (N:=2) rfl ?_);refine box_event ?hg (N:=2) ?hd (cs:=#[.slice A0_0 l0_0.length c0_0,.int .i64 a0_1,.int .i64 a0_2,.int .i64 a0_3]) (t:=29) ?hr ?_;(case hd=>rfl);(case hg=>rfl);(case hr=>first|(go_simp;done)|(go_simp;rfl));intro gb234 hg w3 hbox hb;have n0_:=Aside0.mk (below_step (by repeat (first|(with_reducible first|exact HB.out|apply below_alloc|apply pw_below_drewN|apply below_drew1)|exact HB.out)) hb);have n1_:=Aside0.mk (hbox);have n2_:=Aside0.mk ((by rw [hg];exact (below_size (by repeat (first|(with_reducible first|exact HB.out|apply below_alloc|apply pw_below_drewN|apply below_drew1)|exact HB.out))) : w.heap.size≤gb234));have n3_:=Aside0.mk ((by rw [hg];exact (below_size (by repeat (first|(with_reducible first|exact HB.out|apply below_alloc|apply pw_below_drewN|apply below_drew1)|exact HB.out))) : w.heap.size≤gb234));clear HB;have HB:=n0_;have BK234:=n1_;have GW234:=n2_;have GE234:=n3_;clear n0_ n1_ n2_ n3_;clear hb hbox hg)|((with_reducible refine gate_dst (N:=9) rfl ?_);refine Kd.R_lit k45 _ 45 ?hg (N:=9) ?hd (xs:=([] : List (S45))) (inner:=[]) (ok:=fun _=>True) (okp:=fun _=>True) ?hr ?hp (fun _ hk=>hk) trivial (Below.refl _ _) (Nat.le_refl _) (by simp) ?_;(case hd=>rfl);(case hg=>rfl);(case hr=>first|(go_simp;done)|(go_simp;rfl));(case hp=>exact (Reps.none _ _));intro v236 w4 ho5 hb hg_ hnew_;clear hg_ hnew_;(first|rw [← Ny235.out] at ho5|(simp only [Int.reduceToNat] at ho5;rw [← Ny235.out] at ho5));have n0_:=Aside0.mk (Kd.R_lower ho5 (below_size (by repeat (first|(with_reducible first|exact HB.out|apply below_alloc|apply pw_below_drewN|apply below_drew1|refine below_set ?_ GE234.out)|exact HB.out))));have n1_:=Aside0.mk (blk_below (g:=gb234) (o:=.cells #[.slice A0_0 l0_0.length c0_0,.int .i64 a0_1,.int .i64 a0_2,.int .i64 a0_3] 29 (0,0)) (by (with_reducible repeat (first|refine blk_drewN ?_ _|refine blk_drew ?_|refine blk_alloc ?_ _));exact BK234.out) hb);have n2_:=Aside0.mk (below_step (by repeat (first|(with_reducible first|exact HB.out|apply below_alloc|apply pw_below_drewN|apply below_drew1|refine below_set ?_ GE234.out)|exact HB.out)) hb);clear BK234;clear HB;have HO237:=n0_;have BK234:=n1_;have HB:=n2_;clear n0_ n1_ n2_;clear hb ho5))
 go_loopg [5,6] k (fun kq v5 v6 w'=>∃ (x5_1 : List (S45)) (x6_1 : Int),v6=.int .i64 x6_1∧Aside0 (thresherref04_Fit.l0 kq l1 x5_1 x6_1 l0_0 a0_1 a0_2 a0_3=some r)∧Aside0 (kq≤k)∧Aside0 (Kd.R k45 45 w' w.heap.size (fun _=>True) v5 x5_1)∧Aside0 (w'.heap[gb234]?=some (.cells #[(.slice A0_0 l0_0.length c0_0),.int .i64 a0_1,.int .i64 a0_2,.int .i64 a0_3] 29 (0,0)))∧Aside0 (Below w.heap.size w w'))
 case atStart=>exact ⟨(y235),(0),(by first|rfl|(simp;done)|(simp [*];done)),H',⟨Nat.le_refl _⟩,⟨by (with_reducible repeat (first|apply Kd.R_alloc|apply Kd.R_drewN|apply Kd.R_drew));exact HO237.out⟩,⟨by (with_reducible repeat (first|refine blk_drewN ?_ _|refine blk_drew ?_|refine blk_alloc ?_ _));exact BK234.out⟩,⟨by repeat (first|(with_reducible first|exact HB.out|apply below_alloc|apply pw_below_drewN|apply below_drew1|refine below_set ?_ GE234.out)|exact HB.out)⟩⟩
 case round =>
  clear H'
  try clear c1
  try clear c2
  try clear p2
  obtain ⟨x5_1,x6_1,rfl,HA,HK1,HO_5,BK234,HB⟩:=hrel
  cases gk with
  | zero=>exact absurd HA.out (by simp [thresherref04_Fit.l0])
  | succ k1 =>
   have H:=HA.out
   clear HA
   simp only [thresherref04_Fit.l0] at H
   by_cases c6 : x6_1 < (l0_0.length : Int)
   ·rw [if_pos c6] at H
    have c6b0 : decide (x6_1 < (l0_0.length : Int))=true:=decide_eq_true c6
    clear c6
    have HC7:=Aside0.mk H
    clear H
    have hcz8_0 : wr.cell? ⟨gb234,0,none⟩=some (.slice A0_0 l0_0.length c0_0):=(blk_cell BK234.out 0).trans rfl
    have hcz8_1 : wr.cell? ⟨gb234,1,none⟩=some (.int .i64 a0_1):=(blk_cell BK234.out 1).trans rfl
    have hcz8_2 : wr.cell? ⟨gb234,2,none⟩=some (.int .i64 a0_2):=(blk_cell BK234.out 2).trans rfl
    have hcz8_3 : wr.cell? ⟨gb234,3,none⟩=some (.int .i64 a0_3):=(blk_cell BK234.out 3).trans rfl
    have hfz8_0:=blk_frozen BK234.out 0
    have hfz8_1:=blk_frozen BK234.out 1
    have hfz8_2:=blk_frozen BK234.out 2
    have hfz8_3:=blk_frozen BK234.out 3
    go_upto_if 21 with (first|((with_reducible refine gate_dst (N:=7) rfl ?_);refine box_event ?hg (N:=7) ?hd (cs:=#[.int .i64 0,.string (⟨#[]⟩ : ByteArray)]) (t:=45) ?hr ?_;(case hd=>rfl);(case hg=>rfl);(case hr=>first|(go_simp;done)|(go_simp;rfl));intro gb238 hg w9 hbox hb;have n0_:=Aside0.mk (Kd.R_below (Kd.R_elderB (by (with_reducible repeat (first|apply Kd.R_alloc|apply Kd.R_drewN|apply Kd.R_drew));exact HO_5.out) gb238 (Nat.le_of_eq hg.symm)) hb);have n1_:=Aside0.mk (blk_below (g:=gb234) (o:=.cells #[.slice A0_0 l0_0.length c0_0,.int .i64 a0_1,.int .i64 a0_2,.int .i64 a0_3] 29 (0,0)) (by (with_reducible repeat (first|refine blk_drewN ?_ _|refine blk_drew ?_|refine blk_alloc ?_ _));exact BK234.out) hb);have n2_:=Aside0.mk (below_step (by repeat (first|(with_reducible first|exact HB.out|apply below_alloc|apply pw_below_drewN|apply below_drew1|refine below_set ?_ GE234.out)|exact HB.out)) hb);have n3_:=Aside0.mk (hbox);have n4_:=Aside0.mk ((by rw [hg];exact (below_size (by repeat (first|(with_reducible first|exact HB.out|apply below_alloc|apply pw_below_drewN|apply below_drew1|refine below_set ?_ GE234.out)|exact HB.out))) : w.heap.size≤gb238));have n5_:=Aside0.mk ((by rw [hg];exact (below_size (by repeat (first|(with_reducible first|exact HB.out|apply below_alloc|apply pw_below_drewN|apply below_drew1|refine below_set ?_ GE234.out)|exact HB.out))) : w.heap.size≤gb238));have n6_:=Aside0.mk ((by rw [hg];exact Nat.ne_of_lt (blk_lt (g:=gb234) (o:=.cells #[.slice A0_0 l0_0.length c0_0,.int .i64 a0_1,.int .i64 a0_2,.int .i64 a0_3] 29 (0,0)) (by (with_reducible repeat (first|refine blk_drewN ?_ _|refine blk_drew ?_|refine blk_alloc ?_ _));exact BK234.out)) : gb234≠gb238));have n7_:=Aside0.mk ((by rw [hg];exact Nat.ne_of_gt (blk_lt (g:=gb234) (o:=.cells #[.slice A0_0 l0_0.length c0_0,.int .i64 a0_1,.int .i64 a0_2,.int .i64 a0_3] 29 (0,0)) (by (with_reducible repeat (first|refine blk_drewN ?_ _|refine blk_drew ?_|refine blk_alloc ?_ _));exact BK234.out)) : gb238≠gb234));clear HO_5;clear BK234;clear HB;have HO_5:=n0_;have BK234:=n1_;have HB:=n2_;have BK238:=n3_;have GW238:=n4_;have GE238:=n5_;have NB234_238:=n6_;have NB238_234:=n7_;clear n0_ n1_ n2_ n3_ n4_ n5_ n6_ n7_;clear hb hbox hg;have hnb10:=NB238_234.out;have hnc10:=NB234_238.out;have hcz11_0 : w9.cell? ⟨gb238,0,none⟩=some (.int .i64 0):=(blk_cell BK238.out 0).trans rfl;have hcz11_1 : w9.cell? ⟨gb238,1,none⟩=some (.string (⟨#[]⟩ : ByteArray)):=(blk_cell BK238.out 1).trans rfl;have hfz11_0:=blk_frozen BK238.out 0;have hfz11_1:=blk_frozen BK238.out 1))
    (try simp only [Act.put,List.setIfInBounds_toArray,List.set_cons_zero,List.set_cons_succ])
    go_cut [] (fun wc=>∃ (kq : Nat) (x239000_6 : Int) (x239001_6 : ByteArray),Aside0 (thresherref04_Fit.j1 kq l1 x5_1 x6_1 l0_0 a0_1 a0_2 a0_3 x239000_6 x239001_6=some r)∧Aside0 (kq≤k1)∧Aside0 (Kd.R k45 45 wc w.heap.size (fun k_=>k_≠gb238) u5 x5_1)∧Aside0 (wc.heap[gb234]?=some (.cells #[(.slice A0_0 l0_0.length c0_0),.int .i64 a0_1,.int .i64 a0_2,.int .i64 a0_3] 29 (0,0)))∧Aside0 (wc.heap[gb238]?=some (.cells #[.int .i64 x239000_6,.string x239001_6] 45 (0,0)))∧Aside0 (Below w.heap.size w wc))
    case first =>
     have H:=HC7.out
     clear HC7
     by_cases c12 : x6_1 < (l1.length : Int)
     ·rw [if_pos c12] at H
      have c12b0 : decide (x6_1 < (l1.length : Int))=true:=decide_eq_true c12
      clear c12
      (first|rw [c12b0]|(simp only [i64_w,i32_w];rw [c12b0])|skip)
      by_cases c13 : 0≤x6_1
      ·rw [if_pos c13] at H
       have c13b0 : decide (0≤x6_1)=true:=decide_eq_true c13
       clear c13
       have H':=Aside0.mk H
       clear H
       have p239 : 0≤(x6_1 : Int):=of_decide_eq_true (by first|(with_reducible assumption)|assumption)
       have q239 : x6_1 < (l1.length : Int):=of_decide_eq_true (by first|(with_reducible assumption)|assumption)
       obtain ⟨ad239,e239,hx239_0,hx239_1⟩:=at_T45 HR1.out x6_1 p239 q239
       cases e239
       have hn239_0 : ad239.block≠gb238:=Nat.ne_of_lt (Nat.lt_of_lt_of_le (by have:=World.block_lt_of_cell? _ _ hx239_0;first|rwa [add_block] at this|exact this) GW238.out)
       have hn239_1 : ad239.block≠gb238:=Nat.ne_of_lt (Nat.lt_of_lt_of_le (by have:=World.block_lt_of_cell? _ _ hx239_0;first|rwa [add_block] at this|exact this) GW238.out)
       replace hx239_0:=(HB.out.cell (World.block_lt_of_cell? w _ hx239_0)).trans hx239_0
       replace hx239_1:=(HB.out.cell (World.block_lt_of_cell? w _ hx239_1)).trans hx239_1
       replace hx239_0:=(cell_far (p:=⟨gb238,0,none⟩) (by first|(rw [add_block];exact hn239_0)|(show (Addr.add _ _).block≠_;rw [add_block];exact hn239_0)|exact hn239_0) (.int .i64 0)).trans hx239_0
       replace hx239_1:=(cell_far (p:=⟨gb238,0,none⟩) (by first|(rw [add_block];exact hn239_0)|(show (Addr.add _ _).block≠_;rw [add_block];exact hn239_0)|exact hn239_0) (.int .i64 0)).trans hx239_1
       replace hx239_0:=(cell_far (p:=⟨gb238,1,none⟩) (by first|(rw [add_block];exact hn239_1)|(show (Addr.add _ _).block≠_;rw [add_block];exact hn239_1)|exact hn239_1) (.string (⟨#[]⟩ : ByteArray))).trans hx239_0
       replace hx239_1:=(cell_far (p:=⟨gb238,1,none⟩) (by first|(rw [add_block];exact hn239_1)|(show (Addr.add _ _).block≠_;rw [add_block];exact hn239_1)|exact hn239_1) (.string (⟨#[]⟩ : ByteArray))).trans hx239_1
       clear hn239_0
       clear hn239_1
       replace p239:=eq_true p239
       replace q239:=eq_true q239
       have hnb14:=NB238_234.out
       have hnc14:=NB234_238.out
       have hcz15_0 : w9.cell? ⟨gb238,0,none⟩=some (.int .i64 0):=(blk_cell BK238.out 0).trans rfl
       have hcz15_1 : w9.cell? ⟨gb238,1,none⟩=some (.string (⟨#[]⟩ : ByteArray)):=(blk_cell BK238.out 1).trans rfl
       have hfz15_0:=blk_frozen BK238.out 0
       have hfz15_1:=blk_frozen BK238.out 1
       go_wp2
       go_meet
       case rel=>exact ⟨_,((rd_T45 l1 x6_1).f0),((rd_T45 l1 x6_1).f1),(by first|exact H'|(subst_vars;exact H')),⟨by have:=HK1.out;first|omega|exact Nat.le_refl _⟩,⟨by (with_reducible repeat (first|apply Kd.R_alloc|apply Kd.R_drewN|apply Kd.R_drew));exact Kd.R_mono (Kd.R_far (p:=⟨gb238,1,none⟩) (Kd.R_far (p:=⟨gb238,0,none⟩) (Kd.R_far (p:=⟨gb238,1,none⟩) (Kd.R_far (p:=⟨gb238,0,none⟩) (Kd.R_mono HO_5.out (fun k_ hk=>(⟨hk,hk.2⟩ : _∧k_≠gb238))) (fun _ hk=>hk.2) (.int .i64 0)) (fun _ hk=>hk.2) (.string (⟨#[]⟩ : ByteArray))) (fun _ hk=>hk.2) (.int .i64 ((rd_T45 l1 x6_1).f0))) (fun _ hk=>hk.2) (.string ((rd_T45 l1 x6_1).f1))) (fun _ hk=>hk.1.2)⟩,⟨by (with_reducible repeat (first|refine blk_drewN ?_ _|refine blk_drew ?_|refine blk_alloc ?_ _));refine blk_far ?_ NB234_238.out _;(with_reducible repeat (first|refine blk_drewN ?_ _|refine blk_drew ?_|refine blk_alloc ?_ _));refine blk_far ?_ NB234_238.out _;(with_reducible repeat (first|refine blk_drewN ?_ _|refine blk_drew ?_|refine blk_alloc ?_ _));refine blk_far ?_ NB234_238.out _;(with_reducible repeat (first|refine blk_drewN ?_ _|refine blk_drew ?_|refine blk_alloc ?_ _));refine blk_far ?_ NB234_238.out _;(with_reducible repeat (first|refine blk_drewN ?_ _|refine blk_drew ?_|refine blk_alloc ?_ _));exact BK234.out⟩,⟨by (with_reducible repeat (first|refine blk_drewN ?_ _|refine blk_drew ?_|refine blk_alloc ?_ _));refine blk_put (cs:=#[.int .i64 ((rd_T45 l1 x6_1).f0),.string (⟨#[]⟩ : ByteArray)]) ?_ 1 _ rfl;(with_reducible repeat (first|refine blk_drewN ?_ _|refine blk_drew ?_|refine blk_alloc ?_ _));refine blk_put (cs:=#[.int .i64 0,.string (⟨#[]⟩ : ByteArray)]) ?_ 0 _ rfl;(with_reducible repeat (first|refine blk_drewN ?_ _|refine blk_drew ?_|refine blk_alloc ?_ _));refine blk_put (cs:=#[.int .i64 0,.string (⟨#[]⟩ : ByteArray)]) ?_ 1 _ rfl;(with_reducible repeat (first|refine blk_drewN ?_ _|refine blk_drew ?_|refine blk_alloc ?_ _));refine blk_put (cs:=#[.int .i64 0,.string (⟨#[]⟩ : ByteArray)]) ?_ 0 _ rfl;(with_reducible repeat (first|refine blk_drewN ?_ _|refine blk_drew ?_|refine blk_alloc ?_ _));exact BK238.out⟩,⟨by repeat (first|(with_reducible first|exact HB.out|apply below_alloc|apply pw_below_drewN|apply below_drew1|refine below_set ?_ GE234.out|refine below_set ?_ GE238.out)|exact HB.out)⟩⟩
      ·rw [if_neg c13] at H
       exact absurd H (by simp)
     ·rw [if_neg c12] at H
      have c12b0 : decide (x6_1 < (l1.length : Int))=false:=decide_eq_false c12
      clear c12
      (first|rw [c12b0]|(simp only [i64_w,i32_w];rw [c12b0])|skip)
      have H':=Aside0.mk H
      clear H
      go_wp2
      go_meet
      case rel=>exact ⟨_,(0),((⟨#[]⟩ : ByteArray)),(by first|exact H'|(subst_vars;exact H')),⟨by have:=HK1.out;first|omega|exact Nat.le_refl _⟩,⟨by (with_reducible repeat (first|apply Kd.R_alloc|apply Kd.R_drewN|apply Kd.R_drew));exact Kd.R_mono (Kd.R_far (p:=⟨gb238,1,none⟩) (Kd.R_far (p:=⟨gb238,0,none⟩) (Kd.R_mono HO_5.out (fun k_ hk=>(⟨hk,hk.2⟩ : _∧k_≠gb238))) (fun _ hk=>hk.2) (.int .i64 0)) (fun _ hk=>hk.2) (.string (⟨#[]⟩ : ByteArray))) (fun _ hk=>hk.1.2)⟩,⟨by (with_reducible repeat (first|refine blk_drewN ?_ _|refine blk_drew ?_|refine blk_alloc ?_ _));refine blk_far ?_ NB234_238.out _;(with_reducible repeat (first|refine blk_drewN ?_ _|refine blk_drew ?_|refine blk_alloc ?_ _));refine blk_far ?_ NB234_238.out _;(with_reducible repeat (first|refine blk_drewN ?_ _|refine blk_drew ?_|refine blk_alloc ?_ _));exact BK234.out⟩,⟨by (with_reducible repeat (first|refine blk_drewN ?_ _|refine blk_drew ?_|refine blk_alloc ?_ _));refine blk_put (cs:=#[.int .i64 0,.string (⟨#[]⟩ : ByteArray)]) ?_ 1 _ rfl;(with_reducible repeat (first|refine blk_drewN ?_ _|refine blk_drew ?_|refine blk_alloc ?_ _));refine blk_put (cs:=#[.int .i64 0,.string (⟨#[]⟩ : ByteArray)]) ?_ 0 _ rfl;(with_reducible repeat (first|refine blk_drewN ?_ _|refine blk_drew ?_|refine blk_alloc ?_ _));exact BK238.out⟩,⟨by repeat (first|(with_reducible first|exact HB.out|apply below_alloc|apply pw_below_drewN|apply below_drew1|refine below_set ?_ GE234.out|refine below_set ?_ GE238.out)|exact HB.out)⟩⟩
    case rest =>
     clear HC7
     try clear c1
     try clear c2
     try clear p2
     try clear q2
     try clear hx2
     try clear c6
     try clear c6b0
     try clear c10
     try clear c12
     try clear c12b0
     try clear c13
     try clear c13b0
     try clear c14
     try clear hcz11_0
     try clear hcz11_1
     try clear hcz15_0
     try clear hcz15_1
     try clear hcz8_0
     try clear hcz8_1
     try clear hcz8_2
     try clear hcz8_3
     try clear hfz11_0
     try clear hfz11_1
     try clear hfz15_0
     try clear hfz15_1
     try clear hfz8_0
     try clear hfz8_1
     try clear hfz8_2
     try clear hfz8_3
     try clear hx239_0
     try clear hx239_1
     try clear p2
     try clear p239
     try clear q239
     obtain ⟨kq,x239000_6,x239001_6,HA,HJ6,HO_5,BK234,BK238,HB⟩:=hcut
     cases kq with
     | zero=>exact absurd HA.out (by simp [thresherref04_Fit.j1])
     | succ kj6 =>
      have H:=HA.out
      clear HA
      simp only [thresherref04_Fit.j1] at H
      by_cases c16 : 0≤x6_1
      ·rw [if_pos c16] at H
       have c16b0 : decide (0≤x6_1)=true:=decide_eq_true c16
       clear c16
       by_cases c17 : x6_1 < (l0_0.length : Int)
       ·rw [if_pos c17] at H
        have c17b0 : decide (x6_1 < (l0_0.length : Int))=true:=decide_eq_true c17
        clear c17
        by_cases c18 : (rd l0_0 x6_1)=3
        ·rw [if_pos c18] at H
         have c18b0 : ((rd l0_0 x6_1) == 3)=true:=beq_iff_eq.mpr c18
         have c18b1 : ((rd l0_0 x6_1) != 3)=false:=bne_eq_false_iff_eq.mpr c18
         clear c18
         by_cases c19 : (x239001_6.size : Int) > 60
         ·rw [if_pos c19] at H
          have c19b0 : decide (60 < (x239001_6.size : Int))=true:=decide_eq_true c19
          have c19b1 : decide (60 < x239001_6.size)=true:=decide_eq_true (by omega)
          clear c19
          by_cases c20 : 0≤60
          ·rw [if_pos c20] at H
           have c20b0:=eq_true c20
           have c20b1 : decide (0≤60)=true:=decide_eq_true c20
           clear c20
           by_cases c21 : 60≤(x239001_6.size : Int)
           ·rw [if_pos c21] at H
            have c21b0:=eq_true c21
            have c21b1 : decide (60≤(x239001_6.size : Int))=true:=decide_eq_true c21
            clear c21
            by_cases c22 : x5_1.length < 5864062014805
            ·rw [if_pos c22] at H
             have LMc22:=Aside0.mk c22
             clear c22
             obtain ⟨y241,hy241⟩ : ∃ y_ : List (S45),y_=(x5_1 ++ [(⟨0,x239001_6.extract 0 60⟩ : S45)]):=⟨_,rfl⟩
             replace H : (thresherref04_Fit.l0 kj6 l1 y241 (wrap64 (x6_1 + 1)) l0_0 a0_1 a0_2 a0_3)=some r:=by first|(rw [hy241];with_reducible exact H)|(have H2_:=(Option.bind_some _ _).symm.trans H;rw [hy241];with_reducible exact H2_)|(have H2_:=(Option.bind_some _ _).symm.trans H;with_reducible exact H2_)|with_reducible exact H|(rw [hy241];exact H)|exact H
             have Ny241:=Aside0.mk hy241
             clear hy241
             have H':=Aside0.mk H
             clear H
             have hnb23:=NB234_238.out
             have hnc23:=NB238_234.out
             have hcz24_0 : wc.cell? ⟨gb234,0,none⟩=some (.slice A0_0 l0_0.length c0_0):=(blk_cell BK234.out 0).trans rfl
             have hcz24_1 : wc.cell? ⟨gb234,1,none⟩=some (.int .i64 a0_1):=(blk_cell BK234.out 1).trans rfl
             have hcz24_2 : wc.cell? ⟨gb234,2,none⟩=some (.int .i64 a0_2):=(blk_cell BK234.out 2).trans rfl
             have hcz24_3 : wc.cell? ⟨gb234,3,none⟩=some (.int .i64 a0_3):=(blk_cell BK234.out 3).trans rfl
             have hfz24_0:=blk_frozen BK234.out 0
             have hfz24_1:=blk_frozen BK234.out 1
             have hfz24_2:=blk_frozen BK234.out 2
             have hfz24_3:=blk_frozen BK234.out 3
             have p240 : 0≤(x6_1 : Int):=of_decide_eq_true (by first|(with_reducible assumption)|assumption)
             have q240 : x6_1 < (l0_0.length : Int):=of_decide_eq_true (by first|(with_reducible assumption)|assumption)
             obtain ⟨ad240,e240,hx240_0⟩:=Kd.at_int HR0_0.out x6_1 p240 q240
             cases e240
             replace hx240_0:=(HB.out.cell (World.block_lt_of_cell? w _ hx240_0)).trans hx240_0
             replace p240:=eq_true p240
             replace q240:=eq_true q240
             have hcz25_0 : wc.cell? ⟨gb238,0,none⟩=some (.int .i64 x239000_6):=(blk_cell BK238.out 0).trans rfl
             have hcz25_1 : wc.cell? ⟨gb238,1,none⟩=some (.string x239001_6):=(blk_cell BK238.out 1).trans rfl
             have hfz25_0:=blk_frozen BK238.out 0
             have hfz25_1:=blk_frozen BK238.out 1
             go_wp2_with (first|((with_reducible refine gate_builtin (b:=.append) (xs:=#[.tmp 39,.tmp 42]) rfl ?_);at_builtin;refine Kd.R_append k45 (w0:=w) w.heap.size rfl (.tmp 39) (.tmp 42) 36 45 (.agg #[(.int .i64 0),(.string ⟨#[]⟩)]) 24 rfl Try.underlying36 info45 rfl (by decide) (by omega) u5 x5_1 (⟨0,x239001_6.extract 0 60⟩ : S45) [.int .i64 0,.string (x239001_6.extract 0 60)] (fun k_=>k_≠gb238) (fun _=>False) rfl rfl ?aP (fun _ hk=>hk.elim) ?aF ?aO ?aB ?aS ?aL ?_;(case aP=>exact k45_mkM _ _ _ (⟨0,x239001_6.extract 0 60⟩ : S45));(case aB=>exact (by repeat (first|(with_reducible first|exact HB.out|apply below_alloc|apply pw_below_drewN|apply below_drew1|refine below_set ?_ GE234.out|refine below_set ?_ GE238.out)|exact HB.out)));(case aF=>exact (fun k_ hk=>Kd.freshB (g:=gb238) (o:=.cells #[.int .i64 x239000_6,.string x239001_6] 45 (0,0)) (by (with_reducible repeat (first|refine blk_drewN ?_ _|refine blk_drew ?_|refine blk_alloc ?_ _));exact BK238.out) k_ hk));(case aO=>exact (by (with_reducible repeat (first|apply Kd.R_alloc|apply Kd.R_drewN|apply Kd.R_drew));exact HO_5.out));(case aS=>exact (below_size (by repeat (first|(with_reducible first|exact HB.out|apply below_alloc|apply pw_below_drewN|apply below_drew1|refine below_set ?_ GE234.out|refine below_set ?_ GE238.out)|exact HB.out))));(case aL=>have:=LMc22.out;omega);intro v242 w26 ho hb hg hat;rw [← Ny241.out] at ho;have n0_:=Aside0.mk (blk_grown (g:=gb234) (o:=.cells #[.slice (some ad240) l0_0.length c0_0,.int .i64 a0_1,.int .i64 a0_2,.int .i64 a0_3] 29 (0,0)) (by (with_reducible repeat (first|refine blk_drewN ?_ _|refine blk_drew ?_|refine blk_alloc ?_ _));exact BK234.out) hg (Kd.R_ne HO_5.out BK234.out (by decide)));have n1_:=Aside0.mk (blk_grown (g:=gb238) (o:=.cells #[.int .i64 x239000_6,.string x239001_6] 45 (0,0)) (by (with_reducible repeat (first|refine blk_drewN ?_ _|refine blk_drew ?_|refine blk_alloc ?_ _));exact BK238.out) hg (Kd.R_away HO_5.out (fun _ hk=>hk)));have n2_:=Aside0.mk (hb);have n3_:=Aside0.mk (ho);clear BK234;clear BK238;clear HB;clear HO_5;have BK234:=n0_;have BK238:=n1_;have HB:=n2_;have HO243:=n3_;clear n0_ n1_ n2_ n3_;clear ho hb hg hat))
             go_roundg kj6
             case measure=>have:=HK1.out;have:=HJ6.out;omega
             case rel=>exact ⟨(y241),(wrap64 (x6_1 + 1)),(by first|rfl|(simp;done)|(simp [*];done)),(by first|exact H'|(subst_vars;exact H')),⟨by have:=HK1.out;have:=HJ6.out;omega⟩,⟨by (with_reducible repeat (first|apply Kd.R_alloc|apply Kd.R_drewN|apply Kd.R_drew));exact Kd.R_mono HO243.out (fun _ hk=>trivial)⟩,⟨by (with_reducible repeat (first|refine blk_drewN ?_ _|refine blk_drew ?_|refine blk_alloc ?_ _));exact BK234.out⟩,⟨by repeat (first|(with_reducible first|exact HB.out|apply below_alloc|apply pw_below_drewN|apply below_drew1|refine below_set ?_ GE234.out|refine below_set ?_ GE238.out)|exact HB.out)⟩⟩
            ·rw [if_neg c22] at H
             exact absurd H (by simp)
           ·rw [if_neg c21] at H
            exact absurd H (by simp)
          ·rw [if_neg c20] at H
           exact absurd H (by simp)
         ·rw [if_neg c19] at H
          have c19b0 : decide (60 < (x239001_6.size : Int))=false:=decide_eq_false c19
          have c19b1 : decide (60 < x239001_6.size)=false:=decide_eq_false (by omega)
          clear c19
          by_cases c27 : x5_1.length < 5864062014805
          ·rw [if_pos c27] at H
           have LMc27:=Aside0.mk c27
           clear c27
           obtain ⟨y244,hy244⟩ : ∃ y_ : List (S45),y_=(x5_1 ++ [(⟨0,x239001_6⟩ : S45)]):=⟨_,rfl⟩
           replace H : (thresherref04_Fit.l0 kj6 l1 y244 (wrap64 (x6_1 + 1)) l0_0 a0_1 a0_2 a0_3)=some r:=by first|(rw [hy244];with_reducible exact H)|(have H2_:=(Option.bind_some _ _).symm.trans H;rw [hy244];with_reducible exact H2_)|(have H2_:=(Option.bind_some _ _).symm.trans H;with_reducible exact H2_)|with_reducible exact H|(rw [hy244];exact H)|exact H
           have Ny244:=Aside0.mk hy244
           clear hy244
           have H':=Aside0.mk H
           clear H
           have hnb28:=NB234_238.out
           have hnc28:=NB238_234.out
           have hcz29_0 : wc.cell? ⟨gb234,0,none⟩=some (.slice A0_0 l0_0.length c0_0):=(blk_cell BK234.out 0).trans rfl
           have hcz29_1 : wc.cell? ⟨gb234,1,none⟩=some (.int .i64 a0_1):=(blk_cell BK234.out 1).trans rfl
           have hcz29_2 : wc.cell? ⟨gb234,2,none⟩=some (.int .i64 a0_2):=(blk_cell BK234.out 2).trans rfl
           have hcz29_3 : wc.cell? ⟨gb234,3,none⟩=some (.int .i64 a0_3):=(blk_cell BK234.out 3).trans rfl
           have hfz29_0:=blk_frozen BK234.out 0
           have hfz29_1:=blk_frozen BK234.out 1
           have hfz29_2:=blk_frozen BK234.out 2
           have hfz29_3:=blk_frozen BK234.out 3
           have p240 : 0≤(x6_1 : Int):=of_decide_eq_true (by first|(with_reducible assumption)|assumption)
           have q240 : x6_1 < (l0_0.length : Int):=of_decide_eq_true (by first|(with_reducible assumption)|assumption)
           obtain ⟨ad240,e240,hx240_0⟩:=Kd.at_int HR0_0.out x6_1 p240 q240
           cases e240
           replace hx240_0:=(HB.out.cell (World.block_lt_of_cell? w _ hx240_0)).trans hx240_0
           replace p240:=eq_true p240
           replace q240:=eq_true q240
           have hcz30_0 : wc.cell? ⟨gb238,0,none⟩=some (.int .i64 x239000_6):=(blk_cell BK238.out 0).trans rfl
           have hcz30_1 : wc.cell? ⟨gb238,1,none⟩=some (.string x239001_6):=(blk_cell BK238.out 1).trans rfl
           have hfz30_0:=blk_frozen BK238.out 0
           have hfz30_1:=blk_frozen BK238.out 1
           go_wp2_with (first|((with_reducible refine gate_builtin (b:=.append) (xs:=#[.tmp 39,.tmp 42]) rfl ?_);at_builtin;refine Kd.R_append k45 (w0:=w) w.heap.size rfl (.tmp 39) (.tmp 42) 36 45 (.agg #[(.int .i64 0),(.string ⟨#[]⟩)]) 24 rfl Try.underlying36 info45 rfl (by decide) (by omega) u5 x5_1 (⟨0,x239001_6⟩ : S45) [.int .i64 0,.string x239001_6] (fun k_=>k_≠gb238) (fun _=>False) rfl rfl ?aP (fun _ hk=>hk.elim) ?aF ?aO ?aB ?aS ?aL ?_;(case aP=>exact k45_mkM _ _ _ (⟨0,x239001_6⟩ : S45));(case aB=>exact (by repeat (first|(with_reducible first|exact HB.out|apply below_alloc|apply pw_below_drewN|apply below_drew1|refine below_set ?_ GE234.out|refine below_set ?_ GE238.out)|exact HB.out)));(case aF=>exact (fun k_ hk=>Kd.freshB (g:=gb238) (o:=.cells #[.int .i64 x239000_6,.string x239001_6] 45 (0,0)) (by (with_reducible repeat (first|refine blk_drewN ?_ _|refine blk_drew ?_|refine blk_alloc ?_ _));exact BK238.out) k_ hk));(case aO=>exact (by (with_reducible repeat (first|apply Kd.R_alloc|apply Kd.R_drewN|apply Kd.R_drew));exact HO_5.out));(case aS=>exact (below_size (by repeat (first|(with_reducible first|exact HB.out|apply below_alloc|apply pw_below_drewN|apply below_drew1|refine below_set ?_ GE234.out|refine below_set ?_ GE238.out)|exact HB.out))));(case aL=>have:=LMc27.out;omega);intro v245 w31 ho hb hg hat;rw [← Ny244.out] at ho;have n0_:=Aside0.mk (blk_grown (g:=gb234) (o:=.cells #[.slice (some ad240) l0_0.length c0_0,.int .i64 a0_1,.int .i64 a0_2,.int .i64 a0_3] 29 (0,0)) (by (with_reducible repeat (first|refine blk_drewN ?_ _|refine blk_drew ?_|refine blk_alloc ?_ _));exact BK234.out) hg (Kd.R_ne HO_5.out BK234.out (by decide)));have n1_:=Aside0.mk (blk_grown (g:=gb238) (o:=.cells #[.int .i64 x239000_6,.string x239001_6] 45 (0,0)) (by (with_reducible repeat (first|refine blk_drewN ?_ _|refine blk_drew ?_|refine blk_alloc ?_ _));exact BK238.out) hg (Kd.R_away HO_5.out (fun _ hk=>hk)));have n2_:=Aside0.mk (hb);have n3_:=Aside0.mk (ho);clear BK234;clear BK238;clear HB;clear HO_5;have BK234:=n0_;have BK238:=n1_;have HB:=n2_;have HO246:=n3_;clear n0_ n1_ n2_ n3_;clear ho hb hg hat))
           go_roundg kj6
           case measure=>have:=HK1.out;have:=HJ6.out;omega
           case rel=>exact ⟨(y244),(wrap64 (x6_1 + 1)),(by first|rfl|(simp;done)|(simp [*];done)),(by first|exact H'|(subst_vars;exact H')),⟨by have:=HK1.out;have:=HJ6.out;omega⟩,⟨by (with_reducible repeat (first|apply Kd.R_alloc|apply Kd.R_drewN|apply Kd.R_drew));exact Kd.R_mono HO246.out (fun _ hk=>trivial)⟩,⟨by (with_reducible repeat (first|refine blk_drewN ?_ _|refine blk_drew ?_|refine blk_alloc ?_ _));exact BK234.out⟩,⟨by repeat (first|(with_reducible first|exact HB.out|apply below_alloc|apply pw_below_drewN|apply below_drew1|refine below_set ?_ GE234.out|refine below_set ?_ GE238.out)|exact HB.out)⟩⟩
          ·rw [if_neg c27] at H
           exact absurd H (by simp)
        ·rw [if_neg c18] at H
         have c18b0 : ((rd l0_0 x6_1) == 3)=false:=beq_eq_false_iff_ne.mpr c18
         have c18b1 : ((rd l0_0 x6_1) != 3)=true:=bne_iff_ne.mpr c18
         by_cases c32 : x5_1.length < 5864062014805
         ·rw [if_pos c32] at H
          have LMc32:=Aside0.mk c32
          clear c32
          obtain ⟨y247,hy247⟩ : ∃ y_ : List (S45),y_=(x5_1 ++ [(⟨x239000_6,(⟨#[]⟩ : ByteArray)⟩ : S45)]):=⟨_,rfl⟩
          replace H : (thresherref04_Fit.l0 kj6 l1 y247 (wrap64 (x6_1 + 1)) l0_0 a0_1 a0_2 a0_3)=some r:=by first|(rw [hy247];with_reducible exact H)|(have H2_:=(Option.bind_some _ _).symm.trans H;rw [hy247];with_reducible exact H2_)|(have H2_:=(Option.bind_some _ _).symm.trans H;with_reducible exact H2_)|with_reducible exact H|(rw [hy247];exact H)|exact H
          have Ny247:=Aside0.mk hy247
          clear hy247
          have H':=Aside0.mk H
          clear H
          have hnb33:=NB234_238.out
          have hnc33:=NB238_234.out
          have hcz34_0 : wc.cell? ⟨gb234,0,none⟩=some (.slice A0_0 l0_0.length c0_0):=(blk_cell BK234.out 0).trans rfl
          have hcz34_1 : wc.cell? ⟨gb234,1,none⟩=some (.int .i64 a0_1):=(blk_cell BK234.out 1).trans rfl
          have hcz34_2 : wc.cell? ⟨gb234,2,none⟩=some (.int .i64 a0_2):=(blk_cell BK234.out 2).trans rfl
          have hcz34_3 : wc.cell? ⟨gb234,3,none⟩=some (.int .i64 a0_3):=(blk_cell BK234.out 3).trans rfl
          have hfz34_0:=blk_frozen BK234.out 0
          have hfz34_1:=blk_frozen BK234.out 1
          have hfz34_2:=blk_frozen BK234.out 2
          have hfz34_3:=blk_frozen BK234.out 3
          have p240 : 0≤(x6_1 : Int):=of_decide_eq_true (by first|(with_reducible assumption)|assumption)
          have q240 : x6_1 < (l0_0.length : Int):=of_decide_eq_true (by first|(with_reducible assumption)|assumption)
          obtain ⟨ad240,e240,hx240_0⟩:=Kd.at_int HR0_0.out x6_1 p240 q240
          cases e240
          replace hx240_0:=(HB.out.cell (World.block_lt_of_cell? w _ hx240_0)).trans hx240_0
          replace p240:=eq_true p240
          replace q240:=eq_true q240
          have hcz35_0 : wc.cell? ⟨gb238,0,none⟩=some (.int .i64 x239000_6):=(blk_cell BK238.out 0).trans rfl
          have hcz35_1 : wc.cell? ⟨gb238,1,none⟩=some (.string x239001_6):=(blk_cell BK238.out 1).trans rfl
          have hfz35_0:=blk_frozen BK238.out 0
          have hfz35_1:=blk_frozen BK238.out 1
          go_wp2_with (first|((with_reducible refine gate_builtin (b:=.append) (xs:=#[.tmp 44,.tmp 48]) rfl ?_);at_builtin;refine Kd.R_append k45 (w0:=w) w.heap.size rfl (.tmp 44) (.tmp 48) 36 45 (.agg #[(.int .i64 0),(.string ⟨#[]⟩)]) 24 rfl Try.underlying36 info45 rfl (by decide) (by omega) u5 x5_1 (⟨x239000_6,(⟨#[]⟩ : ByteArray)⟩ : S45) [.int .i64 x239000_6,.string (⟨#[]⟩ : ByteArray)] (fun k_=>k_≠gb238) (fun _=>False) rfl rfl ?aP (fun _ hk=>hk.elim) ?aF ?aO ?aB ?aS ?aL ?_;(case aP=>exact k45_mkM _ _ _ (⟨x239000_6,(⟨#[]⟩ : ByteArray)⟩ : S45));(case aB=>exact (by repeat (first|(with_reducible first|exact HB.out|apply below_alloc|apply pw_below_drewN|apply below_drew1|refine below_set ?_ GE234.out|refine below_set ?_ GE238.out)|exact HB.out)));(case aF=>exact (fun k_ hk=>Kd.freshB (g:=gb238) (o:=.cells #[.int .i64 x239000_6,.string x239001_6] 45 (0,0)) (by (with_reducible repeat (first|refine blk_drewN ?_ _|refine blk_drew ?_|refine blk_alloc ?_ _));exact BK238.out) k_ hk));(case aO=>exact (by (with_reducible repeat (first|apply Kd.R_alloc|apply Kd.R_drewN|apply Kd.R_drew));exact HO_5.out));(case aS=>exact (below_size (by repeat (first|(with_reducible first|exact HB.out|apply below_alloc|apply pw_below_drewN|apply below_drew1|refine below_set ?_ GE234.out|refine below_set ?_ GE238.out)|exact HB.out))));(case aL=>have:=LMc32.out;omega);intro v248 w36 ho hb hg hat;rw [← Ny247.out] at ho;have n0_:=Aside0.mk (blk_grown (g:=gb234) (o:=.cells #[.slice (some ad240) l0_0.length c0_0,.int .i64 a0_1,.int .i64 a0_2,.int .i64 a0_3] 29 (0,0)) (by (with_reducible repeat (first|refine blk_drewN ?_ _|refine blk_drew ?_|refine blk_alloc ?_ _));exact BK234.out) hg (Kd.R_ne HO_5.out BK234.out (by decide)));have n1_:=Aside0.mk (blk_grown (g:=gb238) (o:=.cells #[.int .i64 x239000_6,.string x239001_6] 45 (0,0)) (by (with_reducible repeat (first|refine blk_drewN ?_ _|refine blk_drew ?_|refine blk_alloc ?_ _));exact BK238.out) hg (Kd.R_away HO_5.out (fun _ hk=>hk)));have n2_:=Aside0.mk (hb);have n3_:=Aside0.mk (ho);clear BK234;clear BK238;clear HB;clear HO_5;have BK234:=n0_;have BK238:=n1_;have HB:=n2_;have HO249:=n3_;clear n0_ n1_ n2_ n3_;clear ho hb hg hat))
          go_roundg kj6
          case measure=>have:=HK1.out;have:=HJ6.out;omega
          case rel=>exact ⟨(y247),(wrap64 (x6_1 + 1)),(by first|rfl|(simp;done)|(simp [*];done)),(by first|exact H'|(subst_vars;exact H')),⟨by have:=HK1.out;have:=HJ6.out;omega⟩,⟨by (with_reducible repeat (first|apply Kd.R_alloc|apply Kd.R_drewN|apply Kd.R_drew));exact Kd.R_mono HO249.out (fun _ hk=>trivial)⟩,⟨by (with_reducible repeat (first|refine blk_drewN ?_ _|refine blk_drew ?_|refine blk_alloc ?_ _));exact BK234.out⟩,⟨by repeat (first|(with_reducible first|exact HB.out|apply below_alloc|apply pw_below_drewN|apply below_drew1|refine below_set ?_ GE234.out|refine below_set ?_ GE238.out)|exact HB.out)⟩⟩
         ·rw [if_neg c32] at H
          exact absurd H (by simp)
       ·rw [if_neg c17] at H
        exact absurd H (by simp)
      ·rw [if_neg c16] at H
       exact absurd H (by simp)
   ·rw [if_neg c6] at H
    have c6b0 : decide (x6_1 < (l0_0.length : Int))=false:=decide_eq_false c6
    clear c6
    obtain rfl:=Option.some.inj H
    have hcz37_0 : wr.cell? ⟨gb234,0,none⟩=some (.slice A0_0 l0_0.length c0_0):=(blk_cell BK234.out 0).trans rfl
    have hcz37_1 : wr.cell? ⟨gb234,1,none⟩=some (.int .i64 a0_1):=(blk_cell BK234.out 1).trans rfl
    have hcz37_2 : wr.cell? ⟨gb234,2,none⟩=some (.int .i64 a0_2):=(blk_cell BK234.out 2).trans rfl
    have hcz37_3 : wr.cell? ⟨gb234,3,none⟩=some (.int .i64 a0_3):=(blk_cell BK234.out 3).trans rfl
    have hfz37_0:=blk_frozen BK234.out 0
    have hfz37_1:=blk_frozen BK234.out 1
    have hfz37_2:=blk_frozen BK234.out 2
    have hfz37_3:=blk_frozen BK234.out 3
    go_wp2
    go_ret
    exact ⟨_,by first|rfl|(simp [errW_none,errW_some] <;> rfl)|(simp [*,errW_none,errW_some] <;> rfl),by (with_reducible repeat (first|apply Kd.R_alloc|apply Kd.R_drewN|apply Kd.R_drew));exact HO_5.out,by repeat (first|(with_reducible first|exact HB.out|apply below_alloc|apply pw_below_drewN|apply below_drew1|refine below_set ?_ GE234.out)|exact HB.out)⟩
def thresherref04_Fits.l0 : Nat→List (List (S45))→Int→List (List (S45))→Int→List Int→Int→Int→Int→Option ((List (List (S45))))
 | 0,_,_,_,_,_,_,_,_=>none
 | k + 1,x1,x2,x7,x8,x251000,x251001,x251002,x251003=>if x8 < (x1.length : Int) then (if x8 < x2 then (if 0≤x8 then ((thresherref04_Fit.f k x251000 x251001 x251002 x251003 (rd_L5 x1 x8)).bind fun t255=>(if x7.length < 5864062014805 then (thresherref04_Fits.l0 k x1 x2 (x7 ++ [t255]) (wrap64 (x8 + 1)) x251000 x251001 x251002 x251003) else (none))) else (none)) else (some x7)) else (some x7)
def thresherref04_Fits.f (k : Nat) (l0_0 : List Int) (a0_1 : Int) (a0_2 : Int) (a0_3 : Int) (l1 : List (List (S45))) (a2 : Int) : Option ((List (List (S45)))):=thresherref04_Fits.l0 k l1 a2 (([] : List (List (S45)))) 0 l0_0 a0_1 a0_2 a0_3
theorem thresherref04_Fits.mono_l : ∀ k,(∀ y0 y1 y2 y3 y4 y5 y6 y7,LeO (thresherref04_Fits.l0 k y0 y1 y2 y3 y4 y5 y6 y7) (thresherref04_Fits.l0 (k + 1) y0 y1 y2 y3 y4 y5 y6 y7))
 | 0=>fun _ _ _ _ _ _ _ _ r h=>by simp [thresherref04_Fits.l0] at h
 | k + 1=>by
  have ih0:=thresherref04_Fits.mono_l k
  ·intro y0 y1 y2 y3 y4 y5 y6 y7
   unfold thresherref04_Fits.l0
   repeat' first
   | (with_reducible exact ih0 _ _ _ _ _ _ _ _)
   | (with_reducible exact thresherref04_Fit.mono _ _ _ _ _ _)
   | (with_reducible exact LeO.refl _)
   | (with_reducible exact LeO.none _)
   | (with_reducible refine LeO.ite ?_ ?_)
   | (with_reducible refine LeO.bind ?_ (fun _=>?_))
   | exact ih0 _ _ _ _ _ _ _ _
   | exact thresherref04_Fit.mono _ _ _ _ _ _
   | exact LeO.none _
   | refine LeO.ite ?_ ?_
   | refine LeO.bind ?_ (fun _=>?_)
theorem thresherref04_Fits.mono : ∀ a0 a1 a2 a3 a4 a5 k,LeO (thresherref04_Fits.f k a0 a1 a2 a3 a4 a5) (thresherref04_Fits.f (k + 1) a0 a1 a2 a3 a4 a5):=by
 intro a0 a1 a2 a3 a4 a5 k
 have ih0:=thresherref04_Fits.mono_l k
 unfold thresherref04_Fits.f
 repeat' first
   | (with_reducible exact ih0 _ _ _ _ _ _ _ _)
   | (with_reducible exact thresherref04_Fit.mono _ _ _ _ _ _)
   | (with_reducible exact LeO.refl _)
   | (with_reducible exact LeO.none _)
   | (with_reducible refine LeO.ite ?_ ?_)
   | (with_reducible refine LeO.bind ?_ (fun _=>?_))
   | exact ih0 _ _ _ _ _ _ _ _
   | exact thresherref04_Fit.mono _ _ _ _ _ _
   | exact LeO.none _
   | refine LeO.ite ?_ ?_
   | refine LeO.bind ?_ (fun _=>?_)
def thresherref04_Fits.T5 : Bool × List (List Nat × List Nat):=(true,[([],[]),([],[]),([],[]),([],[]),([2,3],[2,3]),([4],[4]),([1,5],[1,5]),([6],[6]),([0,7,6],[0,7]),([8,8,0,1,2,3,4,5,6,7,8],[0,8])])
def thresherref04_Fits.B5 : List Nat:=[0,0,0,0,12,28,62,126,255,511]
theorem thresherref04_Fits.tab5 : rtab .any (opsOf Try.f11 5)=thresherref04_Fits.T5:=by kernel_rfl
theorem thresherref04_Fits.bits5 : waitsOk thresherref04_Fits.T5.2 thresherref04_Fits.B5=true:=by kernel_rfl
set_option maxHeartbeats 8000000 in
set_option maxRecDepth 100000 in
theorem thresherref04_Fits.calls (k : Nat) (A0_0 : Option Addr) (c0_0 : Nat) (l0_0 : List Int) (a0_1 : Int) (a0_2 : Int) (a0_3 : Int) (A1 : Option Addr) (c1 : Nat) (l1 : List (List (S45))) (a2 : Int) (r : List (List (S45))) (w : World) (hr0_0 : Kd.C (Kd.int .i64) w A0_0 l0_0.length l0_0) (hc0_0 : l0_0.length≤c0_0) (hr1 : Kd.C (Kd.slice 45 k45) w A1 l1.length l1) (hc1 : l1.length≤c1) (h : thresherref04_Fits.f k l0_0 a0_1 a0_2 a0_3 l1 a2=some r) :
  Calls Try.prog 11 #[.agg #[.slice A0_0 l0_0.length c0_0,.int .i64 a0_1,.int .i64 a0_2,.int .i64 a0_3],.slice A1 l1.length c1,.int .i64 a2] w fun e w'=>∃ v0_ : Value,e=.returned (v0_)∧Kd.S (Kd.slice 45 k45) 36 w' w.heap.size (fun _=>True) v0_ r∧Below w.heap.size w w':=by
 have hu29:=Try.underlying29
 have HR0_0:=Aside0.mk hr0_0
 have HC0_0:=Aside0.mk hc0_0
 clear hr0_0 hc0_0
 have HR1:=Aside0.mk hr1
 have HC1:=Aside0.mk hc1
 clear hr1 hc1
 have HB:=Aside0.mk (Below.refl w.heap.size w)
 have H : (thresherref04_Fits.l0 k l1 a2 (([] : List (List (S45)))) 0 l0_0 a0_1 a0_2 a0_3)=some r:=h
 clear h
 obtain ⟨y251,hy251⟩ : ∃ y_ : List (List (S45)),y_=(([] : List (List (S45)))):=⟨_,rfl⟩
 replace H : (thresherref04_Fits.l0 k l1 a2 y251 0 l0_0 a0_1 a0_2 a0_3)=some r:=by first|(rw [hy251];with_reducible exact H)|(have H2_:=(Option.bind_some _ _).symm.trans H;rw [hy251];with_reducible exact H2_)|(have H2_:=(Option.bind_some _ _).symm.trans H;with_reducible exact H2_)|with_reducible exact H|(rw [hy251];exact H)|exact H
 have Ny251:=Aside0.mk hy251
 clear hy251
 have H':=Aside0.mk H
 clear H
 go_enter Try.func11,Try.ntmps11
 go_wp2_with (first|((with_reducible refine gate_dst (N:=3) rfl ?_);refine box_event ?hg (N:=3) ?hd (cs:=#[.slice A0_0 l0_0.length c0_0,.int .i64 a0_1,.int .i64 a0_2,.int .i64 a0_3]) (t:=29) ?hr ?_;(case hd=>rfl);(case hg=>rfl);(case hr=>first|(go_simp;done)|(go_simp;rfl));intro gb250 hg w4 hbox hb;have n0_:=Aside0.mk (below_step (by repeat (first|(with_reducible first|exact HB.out|apply below_alloc|apply pw_below_drewN|apply below_drew1)|exact HB.out)) hb);have n1_:=Aside0.mk (hbox);have n2_:=Aside0.mk ((by rw [hg];exact (below_size (by repeat (first|(with_reducible first|exact HB.out|apply below_alloc|apply pw_below_drewN|apply below_drew1)|exact HB.out))) : w.heap.size≤gb250));have n3_:=Aside0.mk ((by rw [hg];exact (below_size (by repeat (first|(with_reducible first|exact HB.out|apply below_alloc|apply pw_below_drewN|apply below_drew1)|exact HB.out))) : w.heap.size≤gb250));clear HB;have HB:=n0_;have BK250:=n1_;have GW250:=n2_;have GE250:=n3_;clear n0_ n1_ n2_ n3_;clear hb hbox hg)|((with_reducible refine gate_dst (N:=9) rfl ?_);refine Kd.S_lit (Kd.slice 45 k45) _ 36 ?hg (N:=9) ?hd (xs:=([] : List (List (S45)))) (inner:=[]) (ok:=fun _=>True) (okp:=fun _=>True) ?hr ?hp (fun _ hk=>hk) trivial (Below.refl _ _) (Nat.le_refl _) (by simp) ?_;(case hd=>rfl);(case hg=>rfl);(case hr=>first|(go_simp;done)|(go_simp;rfl));(case hp=>exact (Reps.none _ _));intro v252 w5 ho6 hb hg_ hnew_;clear hg_ hnew_;(first|rw [← Ny251.out] at ho6|(simp only [Int.reduceToNat] at ho6;rw [← Ny251.out] at ho6));have n0_:=Aside0.mk (Kd.S_lower ho6 (below_size (by repeat (first|(with_reducible first|exact HB.out|apply below_alloc|apply pw_below_drewN|apply below_drew1|refine below_set ?_ GE250.out)|exact HB.out))));have n1_:=Aside0.mk (blk_below (g:=gb250) (o:=.cells #[.slice A0_0 l0_0.length c0_0,.int .i64 a0_1,.int .i64 a0_2,.int .i64 a0_3] 29 (0,0)) (by (with_reducible repeat (first|refine blk_drewN ?_ _|refine blk_drew ?_|refine blk_alloc ?_ _));exact BK250.out) hb);have n2_:=Aside0.mk (below_step (by repeat (first|(with_reducible first|exact HB.out|apply below_alloc|apply pw_below_drewN|apply below_drew1|refine below_set ?_ GE250.out)|exact HB.out)) hb);clear BK250;clear HB;have HO253:=n0_;have BK250:=n1_;have HB:=n2_;clear n0_ n1_ n2_;clear hb ho6))
 go_loopg [7,8] k (fun kq v7 v8 w'=>∃ (x7_1 : List (List (S45))) (x8_1 : Int),v8=.int .i64 x8_1∧Aside0 (thresherref04_Fits.l0 kq l1 a2 x7_1 x8_1 l0_0 a0_1 a0_2 a0_3=some r)∧Aside0 (kq≤k)∧Aside0 (Kd.S (Kd.slice 45 k45) 36 w' w.heap.size (fun _=>True) v7 x7_1)∧Aside0 (w'.heap[gb250]?=some (.cells #[(.slice A0_0 l0_0.length c0_0),.int .i64 a0_1,.int .i64 a0_2,.int .i64 a0_3] 29 (0,0)))∧Aside0 (Below w.heap.size w w'))
 case atStart=>exact ⟨(y251),(0),(by first|rfl|(simp;done)|(simp [*];done)),H',⟨Nat.le_refl _⟩,⟨by (with_reducible repeat (first|apply Kd.S_alloc|apply Kd.S_drewN|apply Kd.S_drew));exact HO253.out⟩,⟨by (with_reducible repeat (first|refine blk_drewN ?_ _|refine blk_drew ?_|refine blk_alloc ?_ _));exact BK250.out⟩,⟨by repeat (first|(with_reducible first|exact HB.out|apply below_alloc|apply pw_below_drewN|apply below_drew1|refine below_set ?_ GE250.out)|exact HB.out)⟩⟩
 case round =>
  clear H'
  try clear c1
  try clear p2
  obtain ⟨x7_1,x8_1,rfl,HA,HK1,HO_7,BK250,HB⟩:=hrel
  cases gk with
  | zero=>exact absurd HA.out (by simp [thresherref04_Fits.l0])
  | succ k1 =>
   have H:=HA.out
   clear HA
   simp only [thresherref04_Fits.l0] at H
   by_cases c7 : x8_1 < (l1.length : Int)
   ·rw [if_pos c7] at H
    have c7b0 : decide (x8_1 < (l1.length : Int))=true:=decide_eq_true c7
    clear c7
    by_cases c8 : x8_1 < a2
    ·rw [if_pos c8] at H
     have c8b0 : decide (x8_1 < a2)=true:=decide_eq_true c8
     clear c8
     by_cases c9 : 0≤x8_1
     ·rw [if_pos c9] at H
      have c9b0 : decide (0≤x8_1)=true:=decide_eq_true c9
      clear c9
      replace H:=Option.bind_eq_some_iff.mp H
      obtain ⟨t255,A100,H⟩:=H
      replace H : (if x7_1.length < 5864062014805 then (thresherref04_Fits.l0 k1 l1 a2 (x7_1 ++ [t255]) (wrap64 (x8_1 + 1)) l0_0 a0_1 a0_2 a0_3) else (none))=some r:=H
      have A10:=Aside0.mk A100
      clear A100
      by_cases c11 : x7_1.length < 5864062014805
      ·rw [if_pos c11] at H
       have LMc11:=Aside0.mk c11
       clear c11
       obtain ⟨y258,hy258⟩ : ∃ y_ : List (List (S45)),y_=(x7_1 ++ [t255]):=⟨_,rfl⟩
       replace H : (thresherref04_Fits.l0 k1 l1 a2 y258 (wrap64 (x8_1 + 1)) l0_0 a0_1 a0_2 a0_3)=some r:=by first|(rw [hy258];with_reducible exact H)|(have H2_:=(Option.bind_some _ _).symm.trans H;rw [hy258];with_reducible exact H2_)|(have H2_:=(Option.bind_some _ _).symm.trans H;with_reducible exact H2_)|with_reducible exact H|(rw [hy258];exact H)|exact H
       have Ny258:=Aside0.mk hy258
       clear hy258
       have H':=Aside0.mk H
       clear H
       try go_wp2
       have n0_:=Aside0.mk (Kd.S_drew HO_7.out)
       have n1_:=Aside0.mk (blk_drew BK250.out)
       have n2_:=Aside0.mk (below_drew1 HB.out)
       clear HO_7
       clear BK250
       clear HB
       have HO_7:=n0_
       have BK250:=n1_
       have HB:=n2_
       clear n0_ n1_ n2_
       have p254 : 0≤(x8_1 : Int):=of_decide_eq_true (by first|(with_reducible assumption)|assumption)
       have q254 : x8_1 < (l1.length : Int):=of_decide_eq_true (by first|(with_reducible assumption)|assumption)
       obtain ⟨ad254,A254_0,c254_0,e254,hx254_0,hl254_0,hi254_0⟩:=at_L5 HR1.out x8_1 p254 q254
       have hw254_0:=hx254_0
       cases e254
       replace hx254_0:=(HB.out.cell (World.block_lt_of_cell? w _ hx254_0)).trans hx254_0
       have HR254_0:=Aside0.mk hi254_0
       have HC254_0:=Aside0.mk hl254_0
       clear hi254_0 hl254_0
       replace p254:=eq_true p254
       replace q254:=eq_true q254
       refine start_ (n:=10) (S:=fun w'=>w'.cell? ⟨gb250,0,none⟩=some (.slice A0_0 l0_0.length c0_0)∧w'.cell? ⟨gb250,1,none⟩=some (.int .i64 a0_1)∧w'.cell? ⟨gb250,2,none⟩=some (.int .i64 a0_2)∧w'.cell? ⟨gb250,3,none⟩=some (.int .i64 a0_3)∧w'.cell? (ad254.add (x8_1).toNat)=some (.slice A254_0 (rd_L5 l1 x8_1).length c254_0)) (ds:=[]) #[false,false,false,false,false,false,false,false,false,false] (by kernel_rfl) rfl rfl ⟨(blk_cell BK250.out 0).trans rfl,(blk_cell BK250.out 1).trans rfl,(blk_cell BK250.out 2).trans rfl,(blk_cell BK250.out 3).trans rfl,((HB.out.cell (World.block_lt_of_cell? w _ hw254_0)).trans hw254_0)⟩ (fun hHeld=>?_);refine with_tabW thresherref04_Fits.tab5 thresherref04_Fits.bits5 (fun HT_ HW_=>?_)
       generalize wr.drew=w12 at HO_7 BK250 HB HR254_0 hx254_0 hHeld ⊢
       refine pure_ (i:=0) (N:=some 21) (v:=?_) (a':=?_) #[true,false,false,false,false,false,false,false,false,false] rfl rfl (any_of HT_.out (by kernel_rfl)) (fun _ _ _ h=>h) (Or.inl ⟨by rfl,?_⟩) ?_ ?_
       rotate_left;(intro w';go_simp;with_reducible rfl);rotate_left;(simp only [Act.put,List.setIfInBounds_toArray,List.set_cons_zero,List.set_cons_succ,i64_w,i32_w];rfl)
       refine pure_ (i:=2) (N:=some 23) (v:=?_) (a':=?_) #[true,false,true,false,false,false,false,false,false,false] rfl rfl (any_of HT_.out (by kernel_rfl)) (fun _ _ _ h=>h) (Or.inl ⟨by rfl,?_⟩) ?_ ?_
       rotate_left;(intro w';go_simp;with_reducible rfl);rotate_left;(simp only [Act.put,List.setIfInBounds_toArray,List.set_cons_zero,List.set_cons_succ,i64_w,i32_w];rfl)
       refine pure_ (i:=3) (N:=some 24) (v:=?_) (a':=?_) #[true,false,true,true,false,false,false,false,false,false] rfl rfl (any_of HT_.out (by kernel_rfl)) (fun _ _ _ h=>h) (Or.inl ⟨by rfl,?_⟩) ?_ ?_
       rotate_left;(intro w';go_simp;with_reducible rfl);rotate_left;(simp only [Act.put,List.setIfInBounds_toArray,List.set_cons_zero,List.set_cons_succ,i64_w,i32_w];rfl)
       refine pure_ (i:=4) (N:=some 25) (v:=?_) (a':=?_) #[true,false,true,true,true,false,false,false,false,false] rfl rfl (any_of HT_.out (by kernel_rfl)) (fun _ _ _ h=>h) (Or.inl ⟨by rfl,?_⟩) ?_ ?_
       rotate_left;(intro w';go_simp;with_reducible rfl);rotate_left;(simp only [Act.put,List.setIfInBounds_toArray,List.set_cons_zero,List.set_cons_succ,i64_w,i32_w];rfl)
       refine take_ (i:=1) (N:=some 22) (v:=?_) (a':=?_) #[true,true,true,true,true,false,false,false,false,false] rfl rfl (take_ofW HT_.out HW_.out (by kernel_rfl)) (fun _ _ _ h=>h) (Or.inl ⟨by rfl,?_⟩) hHeld ?_ ?_
       rotate_left;(rintro w' ⟨s0,s1,s2,s3,s4⟩;go_simp;with_reducible rfl);rotate_left;(simp only [Act.put,List.setIfInBounds_toArray,List.set_cons_zero,List.set_cons_succ,i64_w,i32_w];rfl)
       refine take_ (i:=5) (N:=some 26) (v:=?_) (a':=?_) #[true,true,true,true,true,true,false,false,false,false] rfl rfl (take_ofW HT_.out HW_.out (by kernel_rfl)) (fun _ _ _ h=>h) (Or.inl ⟨by rfl,?_⟩) hHeld ?_ ?_
       rotate_left;(rintro w' ⟨s0,s1,s2,s3,s4⟩;go_simp;with_reducible rfl);rotate_left;(simp only [Act.put,List.setIfInBounds_toArray,List.set_cons_zero,List.set_cons_succ,i64_w,i32_w];rfl)
       refine one_ (i:=6) (N:=some 27) #[true,true,true,true,true,true,true,false,false,false] rfl rfl (one_of HT_.out (by kernel_rfl)) (by decide) (fun K hK=>?_)
       refine goes_ Try.func20 (by kernel_rfl) rfl #[.agg #[.slice A0_0 l0_0.length c0_0,.int .i64 a0_1,.int .i64 a0_2,.int .i64 a0_3],.slice A254_0 (rd_L5 l1 x8_1).length c254_0] (by rfl) rfl rfl (by (try simp only [List.map_toArray,List.map_cons,List.map_nil]);first|done|rfl|(simp only [List.length_drop,List.length_take];rfl)) ?_
       with_reducible refine (thresherref04_Fit.calls k1 _ _ l0_0 a0_1 a0_2 a0_3 _ _ (rd_L5 l1 x8_1) t255 _ ?side1 ?side2 ?side3 ?side4 A10.out).mono ?_
       (case side1=>repeat (first|exact (Kd.C_below HR0_0.out HB.out)|(with_reducible refine Kd.C_alloc ?_ _)|(with_reducible refine Kd.C_drewN ?_ _)|(with_reducible refine Kd.C_drew ?_)))
       (case side2=>exact HC0_0.out)
       (case side3=>repeat (first|exact (Kd.C_below HR254_0.out HB.out)|(with_reducible refine Kd.C_alloc ?_ _)|(with_reducible refine Kd.C_drewN ?_ _)|(with_reducible refine Kd.C_drew ?_)))
       (case side4=>exact HC254_0.out)
       rintro e w13 ⟨v256,rfl,ho0,hb⟩
       refine ⟨_,rfl,?_⟩
       have n0_:=Aside0.mk (Kd.S_elder' (by (with_reducible repeat (first|apply Kd.S_alloc|apply Kd.S_drewN|apply Kd.S_drew));exact HO_7.out) (Kd.R_base ho0) hb)
       have n1_:=Aside0.mk (Kd.R_lower ho0 (below_size (by repeat (first|(with_reducible first|exact HB.out|apply below_alloc|apply pw_below_drewN|apply below_drew1|refine below_set ?_ GE250.out)|exact HB.out))))
       have n2_:=Aside0.mk (blk_below (g:=gb250) (o:=.cells #[.slice A0_0 l0_0.length c0_0,.int .i64 a0_1,.int .i64 a0_2,.int .i64 a0_3] 29 (0,0)) (by (with_reducible repeat (first|refine blk_drewN ?_ _|refine blk_drew ?_|refine blk_alloc ?_ _));exact BK250.out) hb)
       have n3_:=Aside0.mk (below_step (by repeat (first|(with_reducible first|exact HB.out|apply below_alloc|apply pw_below_drewN|apply below_drew1|refine below_set ?_ GE250.out)|exact HB.out)) hb)
       clear HO_7
       clear BK250
       clear HB
       have HO_7:=n0_
       have HO257:=n1_
       have BK250:=n2_
       have HB:=n3_
       clear n0_ n1_ n2_ n3_
       (try clear hb)
       (try clear hb2)
       (try clear hk)
       (try clear hi)
       (try clear ho0)
       obtain ⟨Ao15,co15,eo15⟩:=Kd.R_slice HO257.out
       (first|subst eo15|(injection eo15 with f1_ f2_ f3_;have f4_:=f1_.symm;have f5_:=f3_.symm;clear f1_ f2_ f3_;subst f4_;subst f5_))
       refine hK.out _ _ ⟨(blk_cell BK250.out 0).trans rfl,(blk_cell BK250.out 1).trans rfl,(blk_cell BK250.out 2).trans rfl,(blk_cell BK250.out 3).trans rfl,((HB.out.cell (World.block_lt_of_cell? w _ hw254_0)).trans hw254_0)⟩ (fun hHeld=>?_)
       clear hK K
       refine norm_ (a':=?_) ?_ ?_
       rotate_left
       ·show Act.put _ (some 27) _=_
        simp only [Act.put,List.setIfInBounds_toArray,List.set_cons_zero,List.set_cons_succ,i64_w,i32_w]
        rfl
       refine one_ (i:=7) (N:=some 28) #[true,true,true,true,true,true,true,true,false,false] rfl rfl (one_of HT_.out (by kernel_rfl)) (by decide) (fun K hK=>?_)
       refine value_ (w1:=?_) (v:=?_) (by rfl) rfl ?_ ?_
       rotate_left 2
       ·go_simp
        constructor
        ·rfl
        ·rfl
       refine hK.out _ _ ⟨(blk_cell (blk_alloc BK250.out _) 0).trans rfl,(blk_cell (blk_alloc BK250.out _) 1).trans rfl,(blk_cell (blk_alloc BK250.out _) 2).trans rfl,(blk_cell (blk_alloc BK250.out _) 3).trans rfl,(World.cell?_alloc_lt _ _ _ (World.block_lt_of_cell? _ _ (((HB.out.cell (World.block_lt_of_cell? w _ hw254_0)).trans hw254_0)))).trans (((HB.out.cell (World.block_lt_of_cell? w _ hw254_0)).trans hw254_0))⟩ (fun hHeld=>?_)
       clear hK K
       refine norm_ (a':=?_) ?_ ?_
       rotate_left
       ·show Act.put _ (some 28) _=_
        simp only [Act.put,List.setIfInBounds_toArray,List.set_cons_zero,List.set_cons_succ,i64_w,i32_w]
        rfl
       refine one_ (i:=8) (N:=some 29) #[true,true,true,true,true,true,true,true,true,false] rfl rfl (one_of HT_.out (by kernel_rfl)) (by decide) (fun K hK=>?_)
       refine Kd.S_append_step (Kd.slice 45 k45) (w0:=w) w.heap.size (by rfl) (.tmp 21) (.tmp 28) 25 36 (.slice none 0 0) 24 rfl Try.underlying25 info36 rfl (by decide) (by omega) u7 x7_1 t255 [.slice Ao15 t255.length co15] (fun _=>True) (fun k_=>some k_=(.slice Ao15 t255.length co15 : Value).ownBlock) rfl rfl ?aP (fun k_ hk_=>((Kd.R_mono (ok':=fun k_=>((fun _=>True)) k_∧some k_≠(u7 : Value).ownBlock) (Kd.R_apart' (HO257.out) (Kd.S_typed HO_7.out) (by decide)) (fun k_ hk=>⟨trivial,hk.2⟩))).1 k_ hk_.symm) ?aF ?aO ?aB ?aS ?aL ?_
       (case aP=>exact Kd.M_row (Kd.R_mono (Kd.R_tight rfl (Kd.R_mono (ok':=fun k_=>((fun _=>True)) k_∧some k_≠(u7 : Value).ownBlock) (Kd.R_apart' (HO257.out) (Kd.S_typed HO_7.out) (by decide)) (fun k_ hk=>⟨trivial,hk.2⟩))) (fun _ h_=>h_)))
       (case aB=>exact (by repeat (first|(with_reducible first|exact HB.out|apply below_alloc|apply pw_below_drewN|apply below_drew1|refine below_set ?_ GE250.out)|exact HB.out)))
       (case aF=>exact (fun _ _=>trivial))
       (case aO=>exact (by (with_reducible repeat (first|apply Kd.S_alloc|apply Kd.S_drewN|apply Kd.S_drew));exact Kd.S_mono HO_7.out (fun k_ hk=>⟨trivial,fun e_=>hk.2 e_⟩)))
       (case aS=>exact (below_size (by repeat (first|(with_reducible first|exact HB.out|apply below_alloc|apply pw_below_drewN|apply below_drew1|refine below_set ?_ GE250.out)|exact HB.out))))
       (case aL=>have:=LMc11.out;omega)
       intro v259 w14 ho hb hg hat
       rw [← Ny258.out] at ho
       have n0_:=Aside0.mk (blk_grown (g:=gb250) (o:=.cells #[.slice A0_0 l0_0.length c0_0,.int .i64 a0_1,.int .i64 a0_2,.int .i64 a0_3] 29 (0,0)) (by (with_reducible repeat (first|refine blk_drewN ?_ _|refine blk_drew ?_|refine blk_alloc ?_ _));exact BK250.out) hg (Kd.S_ne HO_7.out BK250.out (by decide)))
       have n1_:=Aside0.mk (hb)
       have n2_:=Aside0.mk (ho)
       clear BK250
       clear HB
       clear HO_7
       clear HO257
       have BK250:=n0_
       have HB:=n1_
       have HO260:=n2_
       clear n0_ n1_ n2_
       clear ho hb hg hat
       refine hK.out _ _ ⟨(blk_cell BK250.out 0).trans rfl,(blk_cell BK250.out 1).trans rfl,(blk_cell BK250.out 2).trans rfl,(blk_cell BK250.out 3).trans rfl,((HB.out.cell (World.block_lt_of_cell? w _ hw254_0)).trans hw254_0)⟩ (fun hHeld=>?_)
       clear hK K
       refine norm_ (a':=?_) ?_ ?_
       rotate_left
       ·show Act.put _ (some 29) _=_
        simp only [Act.put,List.setIfInBounds_toArray,List.set_cons_zero,List.set_cons_succ,i64_w,i32_w]
        rfl
       refine pure_ (i:=9) (N:=some 7) (v:=?_) (a':=?_) #[true,true,true,true,true,true,true,true,true,true] rfl rfl (any_of HT_.out (by kernel_rfl)) (fun _ _ _ h=>h) (Or.inl ⟨by rfl,?_⟩) ?_ ?_
       rotate_left;(intro w';go_simp;with_reducible rfl);rotate_left;(simp only [Act.put,List.setIfInBounds_toArray,List.set_cons_zero,List.set_cons_succ,i64_w,i32_w];rfl)
       refine done_ (done_of HT_.out (by kernel_rfl)) ?_
       (try clear hHeld)
       try go_wp2
       go_roundg k1
       case measure=>have:=HK1.out;omega
       case rel=>exact ⟨(y258),(wrap64 (x8_1 + 1)),(by first|rfl|(simp;done)|(simp [*];done)),(by first|exact H'|(subst_vars;exact H')),⟨by have:=HK1.out;omega⟩,⟨by (with_reducible repeat (first|apply Kd.S_alloc|apply Kd.S_drewN|apply Kd.S_drew));exact HO260.out⟩,⟨by (with_reducible repeat (first|refine blk_drewN ?_ _|refine blk_drew ?_|refine blk_alloc ?_ _));exact BK250.out⟩,⟨by repeat (first|(with_reducible first|exact HB.out|apply below_alloc|apply pw_below_drewN|apply below_drew1|refine below_set ?_ GE250.out)|exact HB.out)⟩⟩
      ·rw [if_neg c11] at H
       exact absurd H (by simp)
     ·rw [if_neg c9] at H
      exact absurd H (by simp)
    ·rw [if_neg c8] at H
     have c8b0 : decide (x8_1 < a2)=false:=decide_eq_false c8
     clear c8
     obtain rfl:=Option.some.inj H
     go_wp2
     go_ret
     exact ⟨_,by first|rfl|(simp [errW_none,errW_some] <;> rfl)|(simp [*,errW_none,errW_some] <;> rfl),by (with_reducible repeat (first|apply Kd.S_alloc|apply Kd.S_drewN|apply Kd.S_drew));exact HO_7.out,by repeat (first|(with_reducible first|exact HB.out|apply below_alloc|apply pw_below_drewN|apply below_drew1|refine below_set ?_ GE250.out)|exact HB.out)⟩
   ·rw [if_neg c7] at H
    have c7b0 : decide (x8_1 < (l1.length : Int))=false:=decide_eq_false c7
    clear c7
    obtain rfl:=Option.some.inj H
    go_wp2
    go_ret
    exact ⟨_,by first|rfl|(simp [errW_none,errW_some] <;> rfl)|(simp [*,errW_none,errW_some] <;> rfl),by (with_reducible repeat (first|apply Kd.S_alloc|apply Kd.S_drewN|apply Kd.S_drew));exact HO_7.out,by repeat (first|(with_reducible first|exact HB.out|apply below_alloc|apply pw_below_drewN|apply below_drew1|refine below_set ?_ GE250.out)|exact HB.out)⟩
def thresherref04_One.l0 : Nat→List (S45)→List (S45)→Int→Option (Bool)
 | 0,_,_,_=>none
 | k + 1,x0,x1,x5=>if x5 < (x0.length : Int) then (if 0≤x5 then (if x5 < (x1.length : Int) then (if (!(((rd_T45 x0 x5).f0) == ((rd_T45 x1 x5).f0)) || (!((((rd_T45 x0 x5).f1).toList) == (((rd_T45 x1 x5).f1).toList))))=true then (some false) else (thresherref04_One.l0 k x0 x1 (wrap64 (x5 + 1)))) else (none)) else (none)) else (some true)
def thresherref04_One.f (k : Nat) (l0 : List (S45)) (l1 : List (S45)) : Option (Bool):=if (l0.length : Int)=(l1.length : Int) then (thresherref04_One.l0 k l0 l1 0) else (some false)
theorem thresherref04_One.mono_l : ∀ k,(∀ y0 y1 y2,LeO (thresherref04_One.l0 k y0 y1 y2) (thresherref04_One.l0 (k + 1) y0 y1 y2))
 | 0=>fun _ _ _ r h=>by simp [thresherref04_One.l0] at h
 | k + 1=>by
  have ih0:=thresherref04_One.mono_l k
  ·intro y0 y1 y2
   unfold thresherref04_One.l0
   repeat' first
   | (with_reducible exact ih0 _ _ _)
   | (with_reducible exact LeO.refl _)
   | (with_reducible exact LeO.none _)
   | (with_reducible refine LeO.ite ?_ ?_)
   | (with_reducible refine LeO.bind ?_ (fun _=>?_))
   | exact ih0 _ _ _
   | exact LeO.none _
   | refine LeO.ite ?_ ?_
   | refine LeO.bind ?_ (fun _=>?_)
theorem thresherref04_One.mono : ∀ a0 a1 k,LeO (thresherref04_One.f k a0 a1) (thresherref04_One.f (k + 1) a0 a1):=by
 intro a0 a1 k
 have ih0:=thresherref04_One.mono_l k
 unfold thresherref04_One.f
 repeat' first
   | (with_reducible exact ih0 _ _ _)
   | (with_reducible exact LeO.refl _)
   | (with_reducible exact LeO.none _)
   | (with_reducible refine LeO.ite ?_ ?_)
   | (with_reducible refine LeO.bind ?_ (fun _=>?_))
   | exact ih0 _ _ _
   | exact LeO.none _
   | refine LeO.ite ?_ ?_
   | refine LeO.bind ?_ (fun _=>?_)
set_option maxHeartbeats 8000000 in
set_option maxRecDepth 100000 in
theorem thresherref04_One.calls (k : Nat) (A0 : Option Addr) (c0 : Nat) (l0 : List (S45)) (A1 : Option Addr) (c1 : Nat) (l1 : List (S45)) (r : Bool) (w : World) (hr0 : Kd.C k45 w A0 l0.length l0) (hc0 : l0.length≤c0) (hr1 : Kd.C k45 w A1 l1.length l1) (hc1 : l1.length≤c1) (h : thresherref04_One.f k l0 l1=some r) :
  Calls Try.prog 16 #[.slice A0 l0.length c0,.slice A1 l1.length c1] w fun e w'=>e=.returned (.bool r)∧Drawn0 w w':=by
 have hu45:=Try.underlying45
 have HR0:=Aside0.mk hr0
 have HC0:=Aside0.mk hc0
 clear hr0 hc0
 have HR1:=Aside0.mk hr1
 have HC1:=Aside0.mk hc1
 clear hr1 hc1
 have H : (if (l0.length : Int)=(l1.length : Int) then (thresherref04_One.l0 k l0 l1 0) else (some false))=some r:=h
 clear h
 by_cases c3 : (l0.length : Int)=(l1.length : Int)
 ·rw [if_pos c3] at H
  have c3b0 : ((l0.length : Int) == (l1.length : Int))=true:=beq_iff_eq.mpr c3
  have c3b1 : ((l0.length : Int) != (l1.length : Int))=false:=bne_eq_false_iff_eq.mpr c3
  have c3b2 : (l0.length == l1.length)=true:=by first|simpa using c3|(simp at c3 ⊢;omega)
  clear c3
  have H':=Aside0.mk H
  clear H
  go_enter Try.func16,Try.ntmps16
  go_wp2
  repeat (go_quiet (fail);try go_wp2)
  go_loopg [5] k (fun kq v5 w'=>∃ (x5_1 : Int),v5=.int .i64 x5_1∧Aside0 (thresherref04_One.l0 kq l0 l1 x5_1=some r)∧Aside0 (kq≤k)∧Drawn0 w w')
  case atStart=>exact ⟨(0),(by first|rfl|(simp;done)|(simp [*];done)),H',⟨Nat.le_refl _⟩,by repeat (first|exact Drawn0.refl _|apply Drawn0.step)⟩
  case round =>
   clear H'
   try clear c1
   try clear p2
   try clear c3
   try clear c3b0
   try clear c3b1
   try clear c3b2
   obtain ⟨x5_1,rfl,HA,HK1,⟨m1,rfl⟩⟩:=hrel
   cases gk with
   | zero=>exact absurd HA.out (by simp [thresherref04_One.l0])
   | succ k1 =>
    have H:=HA.out
    clear HA
    simp only [thresherref04_One.l0] at H
    by_cases c4 : x5_1 < (l0.length : Int)
    ·rw [if_pos c4] at H
     have c4b0 : decide (x5_1 < (l0.length : Int))=true:=decide_eq_true c4
     clear c4
     by_cases c5 : 0≤x5_1
     ·rw [if_pos c5] at H
      have c5b0 : decide (0≤x5_1)=true:=decide_eq_true c5
      clear c5
      by_cases c6 : x5_1 < (l1.length : Int)
      ·rw [if_pos c6] at H
       have c6b0 : decide (x5_1 < (l1.length : Int))=true:=decide_eq_true c6
       clear c6
       by_cases c7 : (!(((rd_T45 l0 x5_1).f0) == ((rd_T45 l1 x5_1).f0)) || (!((((rd_T45 l0 x5_1).f1).toList) == (((rd_T45 l1 x5_1).f1).toList))))=true
       ·rw [if_pos c7] at H
        have c7b0 : (!(((rd_T45 l0 x5_1).f0) == ((rd_T45 l1 x5_1).f0)) || (!((((rd_T45 l0 x5_1).f1).toList) == (((rd_T45 l1 x5_1).f1).toList))))=true:=c7
        clear c7
        obtain rfl:=Option.some.inj H
        have p261 : 0≤(x5_1 : Int):=of_decide_eq_true (by first|(with_reducible assumption)|assumption)
        have q261 : x5_1 < (l0.length : Int):=of_decide_eq_true (by first|(with_reducible assumption)|assumption)
        obtain ⟨ad261,e261,hx261_0,hx261_1⟩:=at_T45 HR0.out x5_1 p261 q261
        cases e261
        replace p261:=eq_true p261
        replace q261:=eq_true q261
        have p262 : 0≤(x5_1 : Int):=of_decide_eq_true (by first|(with_reducible assumption)|assumption)
        have q262 : x5_1 < (l1.length : Int):=of_decide_eq_true (by first|(with_reducible assumption)|assumption)
        obtain ⟨ad262,e262,hx262_0,hx262_1⟩:=at_T45 HR1.out x5_1 p262 q262
        cases e262
        replace p262:=eq_true p262
        replace q262:=eq_true q262
        go_wp2
        repeat (go_quiet (fail);try go_wp2)
        go_ret
        exact ⟨by first|rfl|(simp;done)|(simp [*];done),by repeat (first|exact Drawn0.refl _|apply Drawn0.step)⟩
       ·rw [if_neg c7] at H
        have c7b0 : (!(((rd_T45 l0 x5_1).f0) == ((rd_T45 l1 x5_1).f0)) || (!((((rd_T45 l0 x5_1).f1).toList) == (((rd_T45 l1 x5_1).f1).toList))))=false:=by simpa using c7
        clear c7
        have H':=Aside0.mk H
        clear H
        have p261 : 0≤(x5_1 : Int):=of_decide_eq_true (by first|(with_reducible assumption)|assumption)
        have q261 : x5_1 < (l0.length : Int):=of_decide_eq_true (by first|(with_reducible assumption)|assumption)
        obtain ⟨ad261,e261,hx261_0,hx261_1⟩:=at_T45 HR0.out x5_1 p261 q261
        cases e261
        replace p261:=eq_true p261
        replace q261:=eq_true q261
        have p262 : 0≤(x5_1 : Int):=of_decide_eq_true (by first|(with_reducible assumption)|assumption)
        have q262 : x5_1 < (l1.length : Int):=of_decide_eq_true (by first|(with_reducible assumption)|assumption)
        obtain ⟨ad262,e262,hx262_0,hx262_1⟩:=at_T45 HR1.out x5_1 p262 q262
        cases e262
        replace p262:=eq_true p262
        replace q262:=eq_true q262
        go_wp2
        repeat (go_quiet (fail);try go_wp2)
        go_roundg k1
        case measure=>have:=HK1.out;omega
        case rel=>exact ⟨(wrap64 (x5_1 + 1)),(by first|rfl|(simp;done)|(simp [*];done)),(by first|exact H'|(subst_vars;exact H')),⟨by have:=HK1.out;omega⟩,by repeat (first|exact Drawn0.refl _|apply Drawn0.step)⟩
      ·rw [if_neg c6] at H
       exact absurd H (by simp)
     ·rw [if_neg c5] at H
      exact absurd H (by simp)
    ·rw [if_neg c4] at H
     have c4b0 : decide (x5_1 < (l0.length : Int))=false:=decide_eq_false c4
     clear c4
     obtain rfl:=Option.some.inj H
     go_wp2
     repeat (go_quiet (fail);try go_wp2)
     go_ret
     exact ⟨by first|rfl|(simp;done)|(simp [*];done),by repeat (first|exact Drawn0.refl _|apply Drawn0.step)⟩
 ·rw [if_neg c3] at H
  have c3b0 : ((l0.length : Int) == (l1.length : Int))=false:=beq_eq_false_iff_ne.mpr c3
  have c3b1 : ((l0.length : Int) != (l1.length : Int))=true:=bne_iff_ne.mpr c3
  have c3b2 : (l0.length == l1.length)=false:=by first|simpa using c3|(simp at c3 ⊢;omega)
  obtain rfl:=Option.some.inj H
  go_enter Try.func16,Try.ntmps16
  go_wp2
  repeat (go_quiet (fail);try go_wp2)
  go_ret
  exact ⟨by first|rfl|(simp;done)|(simp [*];done),by repeat (first|exact Drawn0.refl _|apply Drawn0.step)⟩
end Go.Proofs.Ytmanchjamkpklaa.P

