/- Texts of IndexGrows. Merged: Px7. -/
import Derived.Test.YtfccebnoflhkcaaQIndexGrowsPx0
import Derived.Test.YtfccebnoflhkcaaQIndexGrowsPx2
namespace Go.Proofs.Ytfccebnoflhkcaa.P
open Go.RowKit Go.Proofs.YtfccebnoflhkcaaW.PrintWords Go.Proofs.YtfccebnoflhkcaaW.PrintLast Go.Proofs.YtfccebnoflhkcaaW.PrintMore
attribute [local go_sem] max2_int min2_int max_two min_two max_three min_three max_four min_four   -- for this text's walks alone
set_option linter.unusedVariables false
set_option linter.unusedSimpArgs false
mutual
def thresherref04_Fit.l0 : Nat→List (S44)→List (S44)→Int→List Int→Int→Int→Int→Option ((List (S44)))
 | 0,_,_,_,_,_,_,_=>none
 | k + 1,x1,x5,x6,x213000,x213001,x213002,x213003=>if x6 < (x213000.length : Int) then (if x6 < (x1.length : Int) then (if 0≤x6 then (thresherref04_Fit.j1 k x1 x5 x6 x213000 x213001 x213002 x213003 ((rd_T44 x1 x6).f0) ((rd_T44 x1 x6).f1)) else (none)) else (thresherref04_Fit.j1 k x1 x5 x6 x213000 x213001 x213002 x213003 0 (⟨#[]⟩ : ByteArray))) else (some x5)
def thresherref04_Fit.j1 : Nat→List (S44)→List (S44)→Int→List Int→Int→Int→Int→Int→ByteArray→Option ((List (S44)))
 | 0,_,_,_,_,_,_,_,_,_=>none
 | k + 1,x1,x5,x6,x213000,x213001,x213002,x213003,x217000,x217001=>if 0≤x6 then (if x6 < (x213000.length : Int) then (if (rd x213000 x6)=3 then (if (x217001.size : Int) > 60 then (if 0≤60 then (if 60≤(x217001.size : Int) then (if x5.length < 5864062014805 then (thresherref04_Fit.l0 k x1 (x5 ++ [(⟨0,x217001.extract 0 60⟩ : S44)]) (wrap64 (x6 + 1)) x213000 x213001 x213002 x213003) else (none)) else (none)) else (none)) else (if x5.length < 5864062014805 then (thresherref04_Fit.l0 k x1 (x5 ++ [(⟨0,x217001⟩ : S44)]) (wrap64 (x6 + 1)) x213000 x213001 x213002 x213003) else (none))) else (if x5.length < 5864062014805 then (thresherref04_Fit.l0 k x1 (x5 ++ [(⟨x217000,(⟨#[]⟩ : ByteArray)⟩ : S44)]) (wrap64 (x6 + 1)) x213000 x213001 x213002 x213003) else (none))) else (none)) else (none)
end
def thresherref04_Fit.f (k : Nat) (l0_0 : List Int) (a0_1 : Int) (a0_2 : Int) (a0_3 : Int) (l1 : List (S44)) : Option ((List (S44))):=thresherref04_Fit.l0 k l1 (([] : List (S44))) 0 l0_0 a0_1 a0_2 a0_3
theorem thresherref04_Fit.mono_l : ∀ k,(∀ y0 y1 y2 y3 y4 y5 y6,LeO (thresherref04_Fit.l0 k y0 y1 y2 y3 y4 y5 y6) (thresherref04_Fit.l0 (k + 1) y0 y1 y2 y3 y4 y5 y6))∧(∀ y0 y1 y2 y3 y4 y5 y6 y7 y8,LeO (thresherref04_Fit.j1 k y0 y1 y2 y3 y4 y5 y6 y7 y8) (thresherref04_Fit.j1 (k + 1) y0 y1 y2 y3 y4 y5 y6 y7 y8))
 | 0=>⟨fun _ _ _ _ _ _ _ r h=>by simp [thresherref04_Fit.l0] at h,fun _ _ _ _ _ _ _ _ _ r h=>by simp [thresherref04_Fit.j1] at h⟩
 | k + 1=>by
  obtain ⟨ih0,ih1⟩:=thresherref04_Fit.mono_l k
  refine ⟨?_,?_⟩
  ·intro y0 y1 y2 y3 y4 y5 y6
   unfold thresherref04_Fit.l0
   repeat' first
   | (with_reducible exact ih0 _ _ _ _ _ _ _)
   | (with_reducible exact ih1 _ _ _ _ _ _ _ _ _)
   | (with_reducible exact LeO.refl _)
   | (with_reducible exact LeO.none _)
   | (with_reducible refine LeO.ite ?_ ?_)
   | (with_reducible refine LeO.bind ?_ (fun _=>?_))
   | exact ih0 _ _ _ _ _ _ _
   | exact ih1 _ _ _ _ _ _ _ _ _
   | exact LeO.none _
   | refine LeO.ite ?_ ?_
   | refine LeO.bind ?_ (fun _=>?_)
  ·intro y0 y1 y2 y3 y4 y5 y6 y7 y8
   unfold thresherref04_Fit.j1
   repeat' first
   | (with_reducible exact ih0 _ _ _ _ _ _ _)
   | (with_reducible exact ih1 _ _ _ _ _ _ _ _ _)
   | (with_reducible exact LeO.refl _)
   | (with_reducible exact LeO.none _)
   | (with_reducible refine LeO.ite ?_ ?_)
   | (with_reducible refine LeO.bind ?_ (fun _=>?_))
   | exact ih0 _ _ _ _ _ _ _
   | exact ih1 _ _ _ _ _ _ _ _ _
   | exact LeO.none _
   | refine LeO.ite ?_ ?_
   | refine LeO.bind ?_ (fun _=>?_)
theorem thresherref04_Fit.mono : ∀ a0 a1 a2 a3 a4 k,LeO (thresherref04_Fit.f k a0 a1 a2 a3 a4) (thresherref04_Fit.f (k + 1) a0 a1 a2 a3 a4):=by
 intro a0 a1 a2 a3 a4 k
 obtain ⟨ih0,ih1⟩:=thresherref04_Fit.mono_l k
 unfold thresherref04_Fit.f
 repeat' first
   | (with_reducible exact ih0 _ _ _ _ _ _ _)
   | (with_reducible exact ih1 _ _ _ _ _ _ _ _ _)
   | (with_reducible exact LeO.refl _)
   | (with_reducible exact LeO.none _)
   | (with_reducible refine LeO.ite ?_ ?_)
   | (with_reducible refine LeO.bind ?_ (fun _=>?_))
   | exact ih0 _ _ _ _ _ _ _
   | exact ih1 _ _ _ _ _ _ _ _ _
   | exact LeO.none _
   | refine LeO.ite ?_ ?_
   | refine LeO.bind ?_ (fun _=>?_)
set_option maxHeartbeats 8000000 in
set_option maxRecDepth 100000 in
theorem thresherref04_Fit.calls (k : Nat) (A0_0 : Option Addr) (c0_0 : Nat) (l0_0 : List Int) (a0_1 : Int) (a0_2 : Int) (a0_3 : Int) (A1 : Option Addr) (c1 : Nat) (l1 : List (S44)) (r : List (S44)) (w : World) (hr0_0 : Kd.C (Kd.int .i64) w A0_0 l0_0.length l0_0) (hc0_0 : l0_0.length≤c0_0) (hr1 : Kd.C k44 w A1 l1.length l1) (hc1 : l1.length≤c1) (h : thresherref04_Fit.f k l0_0 a0_1 a0_2 a0_3 l1=some r) :
  Calls Try.prog 22 #[.agg #[.slice A0_0 l0_0.length c0_0,.int .i64 a0_1,.int .i64 a0_2,.int .i64 a0_3],.slice A1 l1.length c1] w fun e w'=>∃ v0_ : Value,e=.returned (v0_)∧Kd.R k44 44 w' w.heap.size (fun _=>True) v0_ r∧Below w.heap.size w w':=by
 have hu33:=Try.underlying33
 have hu44:=Try.underlying44
 have HR0_0:=Aside0.mk hr0_0
 have HC0_0:=Aside0.mk hc0_0
 clear hr0_0 hc0_0
 have HR1:=Aside0.mk hr1
 have HC1:=Aside0.mk hc1
 clear hr1 hc1
 have HB:=Aside0.mk (Below.refl w.heap.size w)
 have H : (thresherref04_Fit.l0 k l1 (([] : List (S44))) 0 l0_0 a0_1 a0_2 a0_3)=some r:=h
 clear h
 obtain ⟨y213,hy213⟩ : ∃ y_ : List (S44),y_=(([] : List (S44))):=⟨_,rfl⟩
 replace H : (thresherref04_Fit.l0 k l1 y213 0 l0_0 a0_1 a0_2 a0_3)=some r:=by first|(rw [hy213];with_reducible exact H)|(have H2_:=(Option.bind_some _ _).symm.trans H;rw [hy213];with_reducible exact H2_)|(have H2_:=(Option.bind_some _ _).symm.trans H;with_reducible exact H2_)|with_reducible exact H|(rw [hy213];exact H)|exact H
 have Ny213:=Aside0.mk hy213
 clear hy213
 have H':=Aside0.mk H
 clear H
 go_enter Try.func22,Try.ntmps22
 go_wp2_with (first|((with_reducible refine gate_dst (N:=2) rfl ?_);refine box_event ?hg (N:=2) ?hd (cs:=#[.slice A0_0 l0_0.length c0_0,.int .i64 a0_1,.int .i64 a0_2,.int .i64 a0_3]) (t:=33) ?hr ?_;(case hd=>rfl);(case hg=>rfl);(case hr=>first|(go_simp;done)|(go_simp;rfl));intro gb212 hg w3 hbox hb;have n0_:=Aside0.mk (below_step (below_up HB.out) hb);have n1_:=Aside0.mk (hbox);have n2_:=Aside0.mk ((by rw [hg];exact (below_size (below_up HB.out)) : w.heap.size≤gb212));have n3_:=Aside0.mk ((by rw [hg];exact (below_size (below_up HB.out)) : w.heap.size≤gb212));clear HB;have HB:=n0_;have BK212:=n1_;have GW212:=n2_;have GE212:=n3_;clear n0_ n1_ n2_ n3_;clear hb hbox hg)|((with_reducible refine gate_dst (N:=9) rfl ?_);refine Kd.R_lit k44 _ 44 ?hg (N:=9) ?hd (xs:=([] : List (S44))) (inner:=[]) (ok:=fun _=>True) (okp:=fun _=>True) ?hr ?hp (fun _ hk=>hk) trivial (Below.refl _ _) (Nat.le_refl _) (by simp) ?_;(case hd=>rfl);(case hg=>rfl);(case hr=>first|(go_simp;done)|(go_simp;rfl));(case hp=>exact (Reps.none _ _));intro v214 w4 ho5 hb hg_ hnew_;clear hg_ hnew_;(first|rw [← Ny213.out] at ho5|(simp only [Int.reduceToNat] at ho5;rw [← Ny213.out] at ho5));have n0_:=Aside0.mk (Kd.R_lower ho5 (below_size (by repeat (first|(with_reducible first|exact HB.out|apply below_alloc|apply pw_below_drewN|apply below_drew1|refine below_set ?_ GE212.out)|exact HB.out))));have n1_:=Aside0.mk (blk_below (g:=gb212) (o:=.cells #[.slice A0_0 l0_0.length c0_0,.int .i64 a0_1,.int .i64 a0_2,.int .i64 a0_3] 33 (0,0)) (blk_up BK212.out) hb);have n2_:=Aside0.mk (below_step (by repeat (first|(with_reducible first|exact HB.out|apply below_alloc|apply pw_below_drewN|apply below_drew1|refine below_set ?_ GE212.out)|exact HB.out)) hb);clear BK212;clear HB;have HO215:=n0_;have BK212:=n1_;have HB:=n2_;clear n0_ n1_ n2_;clear hb ho5))
 go_loopg [5,6] k (fun kq v5 v6 w'=>∃ (x5_1 : List (S44)) (x6_1 : Int),v6=.int .i64 x6_1∧Aside0 (thresherref04_Fit.l0 kq l1 x5_1 x6_1 l0_0 a0_1 a0_2 a0_3=some r)∧Aside0 (kq≤k)∧Aside0 (Kd.R k44 44 w' w.heap.size (fun _=>True) v5 x5_1)∧Aside0 (w'.heap[gb212]?=some (.cells #[(.slice A0_0 l0_0.length c0_0),.int .i64 a0_1,.int .i64 a0_2,.int .i64 a0_3] 33 (0,0)))∧Aside0 (Below w.heap.size w w'))
 case atStart=>exact ⟨(y213),(0),(by first|rfl|(simp;done)|(simp [*];done)),H',⟨Nat.le_refl _⟩,⟨by (with_reducible repeat (first|apply Kd.R_alloc|apply Kd.R_drewN|apply Kd.R_drew));exact HO215.out⟩,⟨by (with_reducible repeat (first|refine blk_drewN ?_ _|refine blk_drew ?_|refine blk_alloc ?_ _));exact BK212.out⟩,⟨by repeat (first|(with_reducible first|exact HB.out|apply below_alloc|apply pw_below_drewN|apply below_drew1|refine below_set ?_ GE212.out)|exact HB.out)⟩⟩
 case round =>
  clear H'
  try clear c1
  try clear c2
  try clear p2
  obtain ⟨x5_1,x6_1,rfl,HA,HK1,HO_5,BK212,HB⟩:=hrel
  cases gk with
  | zero=>exact absurd HA.out (by simp [thresherref04_Fit.l0])
  | succ k1 =>
   have H:=HA.out
   clear HA
   simp only [thresherref04_Fit.l0] at H
   by_cases c6 : x6_1 < (l0_0.length : Int)
   ·rw [if_pos c6] at H
    have c6b0 : decide (x6_1 < (l0_0.length : Int))=true:=decide_eq_true c6
    clear c6
    have HC7:=Aside0.mk H
    clear H
    have hcz8_0 : wr.cell? ⟨gb212,0,none⟩=some (.slice A0_0 l0_0.length c0_0):=(blk_cell BK212.out 0).trans rfl
    have hcz8_1 : wr.cell? ⟨gb212,1,none⟩=some (.int .i64 a0_1):=(blk_cell BK212.out 1).trans rfl
    have hcz8_2 : wr.cell? ⟨gb212,2,none⟩=some (.int .i64 a0_2):=(blk_cell BK212.out 2).trans rfl
    have hcz8_3 : wr.cell? ⟨gb212,3,none⟩=some (.int .i64 a0_3):=(blk_cell BK212.out 3).trans rfl
    have hfz8_0:=blk_frozen BK212.out 0
    have hfz8_1:=blk_frozen BK212.out 1
    have hfz8_2:=blk_frozen BK212.out 2
    have hfz8_3:=blk_frozen BK212.out 3
    go_upto_if 21 with (first|((with_reducible refine gate_dst (N:=7) rfl ?_);refine box_event ?hg (N:=7) ?hd (cs:=#[.int .i64 0,.string (⟨#[]⟩ : ByteArray)]) (t:=44) ?hr ?_;(case hd=>rfl);(case hg=>rfl);(case hr=>first|(go_simp;done)|(go_simp;rfl));intro gb216 hg w9 hbox hb;have n0_:=Aside0.mk (Kd.R_below (Kd.R_elderB (R_up HO_5.out) gb216 (Nat.le_of_eq hg.symm)) hb);have n1_:=Aside0.mk (blk_below (g:=gb212) (o:=.cells #[.slice A0_0 l0_0.length c0_0,.int .i64 a0_1,.int .i64 a0_2,.int .i64 a0_3] 33 (0,0)) (blk_up BK212.out) hb);have n2_:=Aside0.mk (below_step (by repeat (first|(with_reducible first|exact HB.out|apply below_alloc|apply pw_below_drewN|apply below_drew1|refine below_set ?_ GE212.out)|exact HB.out)) hb);have n3_:=Aside0.mk (hbox);have n4_:=Aside0.mk ((by rw [hg];exact (below_size (by repeat (first|(with_reducible first|exact HB.out|apply below_alloc|apply pw_below_drewN|apply below_drew1|refine below_set ?_ GE212.out)|exact HB.out))) : w.heap.size≤gb216));have n5_:=Aside0.mk ((by rw [hg];exact (below_size (by repeat (first|(with_reducible first|exact HB.out|apply below_alloc|apply pw_below_drewN|apply below_drew1|refine below_set ?_ GE212.out)|exact HB.out))) : w.heap.size≤gb216));have n6_:=Aside0.mk ((by rw [hg];exact Nat.ne_of_lt (blk_lt (g:=gb212) (o:=.cells #[.slice A0_0 l0_0.length c0_0,.int .i64 a0_1,.int .i64 a0_2,.int .i64 a0_3] 33 (0,0)) (blk_up BK212.out)) : gb212≠gb216));have n7_:=Aside0.mk ((by rw [hg];exact Nat.ne_of_gt (blk_lt (g:=gb212) (o:=.cells #[.slice A0_0 l0_0.length c0_0,.int .i64 a0_1,.int .i64 a0_2,.int .i64 a0_3] 33 (0,0)) (blk_up BK212.out)) : gb216≠gb212));clear HO_5;clear BK212;clear HB;have HO_5:=n0_;have BK212:=n1_;have HB:=n2_;have BK216:=n3_;have GW216:=n4_;have GE216:=n5_;have NB212_216:=n6_;have NB216_212:=n7_;clear n0_ n1_ n2_ n3_ n4_ n5_ n6_ n7_;clear hb hbox hg;have hnb10:=NB216_212.out;have hnc10:=NB212_216.out;have hcz11_0 : w9.cell? ⟨gb216,0,none⟩=some (.int .i64 0):=(blk_cell BK216.out 0).trans rfl;have hcz11_1 : w9.cell? ⟨gb216,1,none⟩=some (.string (⟨#[]⟩ : ByteArray)):=(blk_cell BK216.out 1).trans rfl;have hfz11_0:=blk_frozen BK216.out 0;have hfz11_1:=blk_frozen BK216.out 1))
    (try simp only [Act.put,List.setIfInBounds_toArray,List.set_cons_zero,List.set_cons_succ])
    go_cut [] (fun wc=>∃ (kq : Nat) (x217000_6 : Int) (x217001_6 : ByteArray),Aside0 (thresherref04_Fit.j1 kq l1 x5_1 x6_1 l0_0 a0_1 a0_2 a0_3 x217000_6 x217001_6=some r)∧Aside0 (kq≤k1)∧Aside0 (Kd.R k44 44 wc w.heap.size (fun k_=>k_≠gb216) u5 x5_1)∧Aside0 (wc.heap[gb212]?=some (.cells #[(.slice A0_0 l0_0.length c0_0),.int .i64 a0_1,.int .i64 a0_2,.int .i64 a0_3] 33 (0,0)))∧Aside0 (wc.heap[gb216]?=some (.cells #[.int .i64 x217000_6,.string x217001_6] 44 (0,0)))∧Aside0 (Below w.heap.size w wc))
    case first =>
     have H:=HC7.out
     clear HC7
     by_cases c12 : x6_1 < (l1.length : Int)
     ·rw [if_pos c12] at H
      have c12b0 : decide (x6_1 < (l1.length : Int))=true:=decide_eq_true c12
      clear c12
      (first|rw [c12b0]|(simp only [i64_w,i32_w];rw [c12b0])|skip)
      by_cases c13 : 0≤x6_1
      ·rw [if_pos c13] at H
       have c13b0 : decide (0≤x6_1)=true:=decide_eq_true c13
       clear c13
       have H':=Aside0.mk H
       clear H
       have p217 : 0≤(x6_1 : Int):=of_decide_eq_true (by first|(with_reducible assumption)|assumption)
       have q217 : x6_1 < (l1.length : Int):=of_decide_eq_true (by first|(with_reducible assumption)|assumption)
       obtain ⟨ad217,e217,hx217_0,hx217_1⟩:=at_T44 HR1.out x6_1 p217 q217
       cases e217
       have hn217_0 : ad217.block≠gb216:=Nat.ne_of_lt (Nat.lt_of_lt_of_le (by have:=World.block_lt_of_cell? _ _ hx217_0;first|rwa [add_block] at this|exact this) GW216.out)
       have hn217_1 : ad217.block≠gb216:=Nat.ne_of_lt (Nat.lt_of_lt_of_le (by have:=World.block_lt_of_cell? _ _ hx217_0;first|rwa [add_block] at this|exact this) GW216.out)
       replace hx217_0:=(HB.out.cell (World.block_lt_of_cell? w _ hx217_0)).trans hx217_0
       replace hx217_1:=(HB.out.cell (World.block_lt_of_cell? w _ hx217_1)).trans hx217_1
       replace hx217_0:=(cell_far (p:=⟨gb216,0,none⟩) (by first|(rw [add_block];exact hn217_0)|(show (Addr.add _ _).block≠_;rw [add_block];exact hn217_0)|exact hn217_0) (.int .i64 0)).trans hx217_0
       replace hx217_1:=(cell_far (p:=⟨gb216,0,none⟩) (by first|(rw [add_block];exact hn217_0)|(show (Addr.add _ _).block≠_;rw [add_block];exact hn217_0)|exact hn217_0) (.int .i64 0)).trans hx217_1
       replace hx217_0:=(cell_far (p:=⟨gb216,1,none⟩) (by first|(rw [add_block];exact hn217_1)|(show (Addr.add _ _).block≠_;rw [add_block];exact hn217_1)|exact hn217_1) (.string (⟨#[]⟩ : ByteArray))).trans hx217_0
       replace hx217_1:=(cell_far (p:=⟨gb216,1,none⟩) (by first|(rw [add_block];exact hn217_1)|(show (Addr.add _ _).block≠_;rw [add_block];exact hn217_1)|exact hn217_1) (.string (⟨#[]⟩ : ByteArray))).trans hx217_1
       clear hn217_0
       clear hn217_1
       replace p217:=eq_true p217
       replace q217:=eq_true q217
       have hnb14:=NB216_212.out
       have hnc14:=NB212_216.out
       have hcz15_0 : w9.cell? ⟨gb216,0,none⟩=some (.int .i64 0):=(blk_cell BK216.out 0).trans rfl
       have hcz15_1 : w9.cell? ⟨gb216,1,none⟩=some (.string (⟨#[]⟩ : ByteArray)):=(blk_cell BK216.out 1).trans rfl
       have hfz15_0:=blk_frozen BK216.out 0
       have hfz15_1:=blk_frozen BK216.out 1
       go_wp2
       go_meet
       case rel=>exact ⟨_,((rd_T44 l1 x6_1).f0),((rd_T44 l1 x6_1).f1),(by first|exact H'|(subst_vars;exact H')),⟨by have:=HK1.out;first|omega|exact Nat.le_refl _⟩,⟨by (with_reducible repeat (first|apply Kd.R_alloc|apply Kd.R_drewN|apply Kd.R_drew));exact Kd.R_mono (Kd.R_far (p:=⟨gb216,1,none⟩) (Kd.R_far (p:=⟨gb216,0,none⟩) (Kd.R_far (p:=⟨gb216,1,none⟩) (Kd.R_far (p:=⟨gb216,0,none⟩) (Kd.R_mono HO_5.out (fun k_ hk=>(⟨hk,hk.2⟩ : _∧k_≠gb216))) (fun _ hk=>hk.2) (.int .i64 0)) (fun _ hk=>hk.2) (.string (⟨#[]⟩ : ByteArray))) (fun _ hk=>hk.2) (.int .i64 ((rd_T44 l1 x6_1).f0))) (fun _ hk=>hk.2) (.string ((rd_T44 l1 x6_1).f1))) (fun _ hk=>hk.1.2)⟩,⟨by (with_reducible repeat (first|refine blk_drewN ?_ _|refine blk_drew ?_|refine blk_alloc ?_ _));refine blk_far ?_ NB212_216.out _;(with_reducible repeat (first|refine blk_drewN ?_ _|refine blk_drew ?_|refine blk_alloc ?_ _));refine blk_far ?_ NB212_216.out _;(with_reducible repeat (first|refine blk_drewN ?_ _|refine blk_drew ?_|refine blk_alloc ?_ _));refine blk_far ?_ NB212_216.out _;(with_reducible repeat (first|refine blk_drewN ?_ _|refine blk_drew ?_|refine blk_alloc ?_ _));refine blk_far ?_ NB212_216.out _;(with_reducible repeat (first|refine blk_drewN ?_ _|refine blk_drew ?_|refine blk_alloc ?_ _));exact BK212.out⟩,⟨by (with_reducible repeat (first|refine blk_drewN ?_ _|refine blk_drew ?_|refine blk_alloc ?_ _));refine blk_put (cs:=#[.int .i64 ((rd_T44 l1 x6_1).f0),.string (⟨#[]⟩ : ByteArray)]) ?_ 1 _ rfl;(with_reducible repeat (first|refine blk_drewN ?_ _|refine blk_drew ?_|refine blk_alloc ?_ _));refine blk_put (cs:=#[.int .i64 0,.string (⟨#[]⟩ : ByteArray)]) ?_ 0 _ rfl;(with_reducible repeat (first|refine blk_drewN ?_ _|refine blk_drew ?_|refine blk_alloc ?_ _));refine blk_put (cs:=#[.int .i64 0,.string (⟨#[]⟩ : ByteArray)]) ?_ 1 _ rfl;(with_reducible repeat (first|refine blk_drewN ?_ _|refine blk_drew ?_|refine blk_alloc ?_ _));refine blk_put (cs:=#[.int .i64 0,.string (⟨#[]⟩ : ByteArray)]) ?_ 0 _ rfl;(with_reducible repeat (first|refine blk_drewN ?_ _|refine blk_drew ?_|refine blk_alloc ?_ _));exact BK216.out⟩,⟨by repeat (first|(with_reducible first|exact HB.out|apply below_alloc|apply pw_below_drewN|apply below_drew1|refine below_set ?_ GE212.out|refine below_set ?_ GE216.out)|exact HB.out)⟩⟩
      ·rw [if_neg c13] at H
       exact absurd H (by simp)
     ·rw [if_neg c12] at H
      have c12b0 : decide (x6_1 < (l1.length : Int))=false:=decide_eq_false c12
      clear c12
      (first|rw [c12b0]|(simp only [i64_w,i32_w];rw [c12b0])|skip)
      have H':=Aside0.mk H
      clear H
      go_wp2
      go_meet
      case rel=>exact ⟨_,(0),((⟨#[]⟩ : ByteArray)),(by first|exact H'|(subst_vars;exact H')),⟨by have:=HK1.out;first|omega|exact Nat.le_refl _⟩,⟨by (with_reducible repeat (first|apply Kd.R_alloc|apply Kd.R_drewN|apply Kd.R_drew));exact Kd.R_mono (Kd.R_far (p:=⟨gb216,1,none⟩) (Kd.R_far (p:=⟨gb216,0,none⟩) (Kd.R_mono HO_5.out (fun k_ hk=>(⟨hk,hk.2⟩ : _∧k_≠gb216))) (fun _ hk=>hk.2) (.int .i64 0)) (fun _ hk=>hk.2) (.string (⟨#[]⟩ : ByteArray))) (fun _ hk=>hk.1.2)⟩,⟨by (with_reducible repeat (first|refine blk_drewN ?_ _|refine blk_drew ?_|refine blk_alloc ?_ _));refine blk_far ?_ NB212_216.out _;(with_reducible repeat (first|refine blk_drewN ?_ _|refine blk_drew ?_|refine blk_alloc ?_ _));refine blk_far ?_ NB212_216.out _;(with_reducible repeat (first|refine blk_drewN ?_ _|refine blk_drew ?_|refine blk_alloc ?_ _));exact BK212.out⟩,⟨by (with_reducible repeat (first|refine blk_drewN ?_ _|refine blk_drew ?_|refine blk_alloc ?_ _));refine blk_put (cs:=#[.int .i64 0,.string (⟨#[]⟩ : ByteArray)]) ?_ 1 _ rfl;(with_reducible repeat (first|refine blk_drewN ?_ _|refine blk_drew ?_|refine blk_alloc ?_ _));refine blk_put (cs:=#[.int .i64 0,.string (⟨#[]⟩ : ByteArray)]) ?_ 0 _ rfl;(with_reducible repeat (first|refine blk_drewN ?_ _|refine blk_drew ?_|refine blk_alloc ?_ _));exact BK216.out⟩,⟨by repeat (first|(with_reducible first|exact HB.out|apply below_alloc|apply pw_below_drewN|apply below_drew1|refine below_set ?_ GE212.out|refine below_set ?_ GE216.out)|exact HB.out)⟩⟩
    case rest =>
     clear HC7
     try clear c1
     try clear c2
     try clear p2
     try clear q2
     try clear hx2
     try clear c6
     try clear c6b0
     try clear c10
     try clear c12
     try clear c12b0
     try clear c13
     try clear c13b0
     try clear c14
     try clear hcz11_0
     try clear hcz11_1
     try clear hcz15_0
     try clear hcz15_1
     try clear hcz8_0
     try clear hcz8_1
     try clear hcz8_2
     try clear hcz8_3
     try clear hfz11_0
     try clear hfz11_1
     try clear hfz15_0
     try clear hfz15_1
     try clear hfz8_0
     try clear hfz8_1
     try clear hfz8_2
     try clear hfz8_3
     try clear hx217_0
     try clear hx217_1
     try clear p2
     try clear p217
     try clear q217
     obtain ⟨kq,x217000_6,x217001_6,HA,HJ6,HO_5,BK212,BK216,HB⟩:=hcut
     cases kq with
     | zero=>exact absurd HA.out (by simp [thresherref04_Fit.j1])
     | succ kj6 =>
      have H:=HA.out
      clear HA
      simp only [thresherref04_Fit.j1] at H
      by_cases c16 : 0≤x6_1
      ·rw [if_pos c16] at H
       have c16b0 : decide (0≤x6_1)=true:=decide_eq_true c16
       clear c16
       by_cases c17 : x6_1 < (l0_0.length : Int)
       ·rw [if_pos c17] at H
        have c17b0 : decide (x6_1 < (l0_0.length : Int))=true:=decide_eq_true c17
        clear c17
        by_cases c18 : (rd l0_0 x6_1)=3
        ·rw [if_pos c18] at H
         have c18b0 : ((rd l0_0 x6_1) == 3)=true:=beq_iff_eq.mpr c18
         have c18b1 : ((rd l0_0 x6_1) != 3)=false:=bne_eq_false_iff_eq.mpr c18
         clear c18
         by_cases c19 : (x217001_6.size : Int) > 60
         ·rw [if_pos c19] at H
          have c19b0 : decide (60 < (x217001_6.size : Int))=true:=decide_eq_true c19
          have c19b1 : decide (60 < x217001_6.size)=true:=decide_eq_true (by omega)
          clear c19
          by_cases c20 : 0≤60
          ·rw [if_pos c20] at H
           have c20b0:=eq_true c20
           have c20b1 : decide (0≤60)=true:=decide_eq_true c20
           clear c20
           by_cases c21 : 60≤(x217001_6.size : Int)
           ·rw [if_pos c21] at H
            have c21b0:=eq_true c21
            have c21b1 : decide (60≤(x217001_6.size : Int))=true:=decide_eq_true c21
            clear c21
            by_cases c22 : x5_1.length < 5864062014805
            ·rw [if_pos c22] at H
             have LMc22:=Aside0.mk c22
             clear c22
             obtain ⟨y219,hy219⟩ : ∃ y_ : List (S44),y_=(x5_1 ++ [(⟨0,x217001_6.extract 0 60⟩ : S44)]):=⟨_,rfl⟩
             replace H : (thresherref04_Fit.l0 kj6 l1 y219 (wrap64 (x6_1 + 1)) l0_0 a0_1 a0_2 a0_3)=some r:=by first|(rw [hy219];with_reducible exact H)|(have H2_:=(Option.bind_some _ _).symm.trans H;rw [hy219];with_reducible exact H2_)|(have H2_:=(Option.bind_some _ _).symm.trans H;with_reducible exact H2_)|with_reducible exact H|(rw [hy219];exact H)|exact H
             have Ny219:=Aside0.mk hy219
             clear hy219
             have H':=Aside0.mk H
             clear H
             have hnb23:=NB212_216.out
             have hnc23:=NB216_212.out
             have hcz24_0 : wc.cell? ⟨gb212,0,none⟩=some (.slice A0_0 l0_0.length c0_0):=(blk_cell BK212.out 0).trans rfl
             have hcz24_1 : wc.cell? ⟨gb212,1,none⟩=some (.int .i64 a0_1):=(blk_cell BK212.out 1).trans rfl
             have hcz24_2 : wc.cell? ⟨gb212,2,none⟩=some (.int .i64 a0_2):=(blk_cell BK212.out 2).trans rfl
             have hcz24_3 : wc.cell? ⟨gb212,3,none⟩=some (.int .i64 a0_3):=(blk_cell BK212.out 3).trans rfl
             have hfz24_0:=blk_frozen BK212.out 0
             have hfz24_1:=blk_frozen BK212.out 1
             have hfz24_2:=blk_frozen BK212.out 2
             have hfz24_3:=blk_frozen BK212.out 3
             have p218 : 0≤(x6_1 : Int):=of_decide_eq_true (by first|(with_reducible assumption)|assumption)
             have q218 : x6_1 < (l0_0.length : Int):=of_decide_eq_true (by first|(with_reducible assumption)|assumption)
             obtain ⟨ad218,e218,hx218_0⟩:=Kd.at_int HR0_0.out x6_1 p218 q218
             cases e218
             replace hx218_0:=(HB.out.cell (World.block_lt_of_cell? w _ hx218_0)).trans hx218_0
             replace p218:=eq_true p218
             replace q218:=eq_true q218
             have hcz25_0 : wc.cell? ⟨gb216,0,none⟩=some (.int .i64 x217000_6):=(blk_cell BK216.out 0).trans rfl
             have hcz25_1 : wc.cell? ⟨gb216,1,none⟩=some (.string x217001_6):=(blk_cell BK216.out 1).trans rfl
             have hfz25_0:=blk_frozen BK216.out 0
             have hfz25_1:=blk_frozen BK216.out 1
             go_wp2_with (first|((with_reducible refine gate_builtin (b:=.append) (xs:=#[.tmp 39,.tmp 42]) rfl ?_);at_builtin;refine Kd.R_append k44 (w0:=w) w.heap.size rfl (.tmp 39) (.tmp 42) 27 44 (.agg #[(.int .i64 0),(.string ⟨#[]⟩)]) 24 rfl Try.underlying27 info44 rfl (by decide) (by omega) u5 x5_1 (⟨0,x217001_6.extract 0 60⟩ : S44) [.int .i64 0,.string (x217001_6.extract 0 60)] (fun k_=>k_≠gb216) (fun _=>False) rfl rfl ?aP (fun _ hk=>hk.elim) ?aF ?aO ?aB ?aS ?aL ?_;(case aP=>exact k44_mkM _ _ _ (⟨0,x217001_6.extract 0 60⟩ : S44));(case aB=>exact (by repeat (first|(with_reducible first|exact HB.out|apply below_alloc|apply pw_below_drewN|apply below_drew1|refine below_set ?_ GE212.out|refine below_set ?_ GE216.out)|exact HB.out)));(case aF=>exact (fun k_ hk=>Kd.freshB (g:=gb216) (o:=.cells #[.int .i64 x217000_6,.string x217001_6] 44 (0,0)) (blk_up BK216.out) k_ hk));(case aO=>exact (R_up HO_5.out));(case aS=>exact (below_size (by repeat (first|(with_reducible first|exact HB.out|apply below_alloc|apply pw_below_drewN|apply below_drew1|refine below_set ?_ GE212.out|refine below_set ?_ GE216.out)|exact HB.out))));(case aL=>have:=LMc22.out;omega);intro v220 w26 ho hb hg hat;rw [← Ny219.out] at ho;have n0_:=Aside0.mk (blk_grown (g:=gb212) (o:=.cells #[.slice (some ad218) l0_0.length c0_0,.int .i64 a0_1,.int .i64 a0_2,.int .i64 a0_3] 33 (0,0)) (blk_up BK212.out) hg (Kd.R_ne HO_5.out BK212.out (by decide)));have n1_:=Aside0.mk (blk_grown (g:=gb216) (o:=.cells #[.int .i64 x217000_6,.string x217001_6] 44 (0,0)) (blk_up BK216.out) hg (Kd.R_away HO_5.out (fun _ hk=>hk)));have n2_:=Aside0.mk (hb);have n3_:=Aside0.mk (ho);clear BK212;clear BK216;clear HB;clear HO_5;have BK212:=n0_;have BK216:=n1_;have HB:=n2_;have HO221:=n3_;clear n0_ n1_ n2_ n3_;clear ho hb hg hat))
             go_roundg kj6
             case measure=>have:=HK1.out;have:=HJ6.out;omega
             case rel=>exact ⟨(y219),(wrap64 (x6_1 + 1)),(by first|rfl|(simp;done)|(simp [*];done)),(by first|exact H'|(subst_vars;exact H')),⟨by have:=HK1.out;have:=HJ6.out;omega⟩,⟨by (with_reducible repeat (first|apply Kd.R_alloc|apply Kd.R_drewN|apply Kd.R_drew));exact Kd.R_mono HO221.out (fun _ hk=>trivial)⟩,⟨by (with_reducible repeat (first|refine blk_drewN ?_ _|refine blk_drew ?_|refine blk_alloc ?_ _));exact BK212.out⟩,⟨by repeat (first|(with_reducible first|exact HB.out|apply below_alloc|apply pw_below_drewN|apply below_drew1|refine below_set ?_ GE212.out|refine below_set ?_ GE216.out)|exact HB.out)⟩⟩
            ·rw [if_neg c22] at H
             exact absurd H (by simp)
           ·rw [if_neg c21] at H
            exact absurd H (by simp)
          ·rw [if_neg c20] at H
           exact absurd H (by simp)
         ·rw [if_neg c19] at H
          have c19b0 : decide (60 < (x217001_6.size : Int))=false:=decide_eq_false c19
          have c19b1 : decide (60 < x217001_6.size)=false:=decide_eq_false (by omega)
          clear c19
          by_cases c27 : x5_1.length < 5864062014805
          ·rw [if_pos c27] at H
           have LMc27:=Aside0.mk c27
           clear c27
           obtain ⟨y222,hy222⟩ : ∃ y_ : List (S44),y_=(x5_1 ++ [(⟨0,x217001_6⟩ : S44)]):=⟨_,rfl⟩
           replace H : (thresherref04_Fit.l0 kj6 l1 y222 (wrap64 (x6_1 + 1)) l0_0 a0_1 a0_2 a0_3)=some r:=by first|(rw [hy222];with_reducible exact H)|(have H2_:=(Option.bind_some _ _).symm.trans H;rw [hy222];with_reducible exact H2_)|(have H2_:=(Option.bind_some _ _).symm.trans H;with_reducible exact H2_)|with_reducible exact H|(rw [hy222];exact H)|exact H
           have Ny222:=Aside0.mk hy222
           clear hy222
           have H':=Aside0.mk H
           clear H
           have hnb28:=NB212_216.out
           have hnc28:=NB216_212.out
           have hcz29_0 : wc.cell? ⟨gb212,0,none⟩=some (.slice A0_0 l0_0.length c0_0):=(blk_cell BK212.out 0).trans rfl
           have hcz29_1 : wc.cell? ⟨gb212,1,none⟩=some (.int .i64 a0_1):=(blk_cell BK212.out 1).trans rfl
           have hcz29_2 : wc.cell? ⟨gb212,2,none⟩=some (.int .i64 a0_2):=(blk_cell BK212.out 2).trans rfl
           have hcz29_3 : wc.cell? ⟨gb212,3,none⟩=some (.int .i64 a0_3):=(blk_cell BK212.out 3).trans rfl
           have hfz29_0:=blk_frozen BK212.out 0
           have hfz29_1:=blk_frozen BK212.out 1
           have hfz29_2:=blk_frozen BK212.out 2
           have hfz29_3:=blk_frozen BK212.out 3
           have p218 : 0≤(x6_1 : Int):=of_decide_eq_true (by first|(with_reducible assumption)|assumption)
           have q218 : x6_1 < (l0_0.length : Int):=of_decide_eq_true (by first|(with_reducible assumption)|assumption)
           obtain ⟨ad218,e218,hx218_0⟩:=Kd.at_int HR0_0.out x6_1 p218 q218
           cases e218
           replace hx218_0:=(HB.out.cell (World.block_lt_of_cell? w _ hx218_0)).trans hx218_0
           replace p218:=eq_true p218
           replace q218:=eq_true q218
           have hcz30_0 : wc.cell? ⟨gb216,0,none⟩=some (.int .i64 x217000_6):=(blk_cell BK216.out 0).trans rfl
           have hcz30_1 : wc.cell? ⟨gb216,1,none⟩=some (.string x217001_6):=(blk_cell BK216.out 1).trans rfl
           have hfz30_0:=blk_frozen BK216.out 0
           have hfz30_1:=blk_frozen BK216.out 1
           go_wp2_with (first|((with_reducible refine gate_builtin (b:=.append) (xs:=#[.tmp 39,.tmp 42]) rfl ?_);at_builtin;refine Kd.R_append k44 (w0:=w) w.heap.size rfl (.tmp 39) (.tmp 42) 27 44 (.agg #[(.int .i64 0),(.string ⟨#[]⟩)]) 24 rfl Try.underlying27 info44 rfl (by decide) (by omega) u5 x5_1 (⟨0,x217001_6⟩ : S44) [.int .i64 0,.string x217001_6] (fun k_=>k_≠gb216) (fun _=>False) rfl rfl ?aP (fun _ hk=>hk.elim) ?aF ?aO ?aB ?aS ?aL ?_;(case aP=>exact k44_mkM _ _ _ (⟨0,x217001_6⟩ : S44));(case aB=>exact (by repeat (first|(with_reducible first|exact HB.out|apply below_alloc|apply pw_below_drewN|apply below_drew1|refine below_set ?_ GE212.out|refine below_set ?_ GE216.out)|exact HB.out)));(case aF=>exact (fun k_ hk=>Kd.freshB (g:=gb216) (o:=.cells #[.int .i64 x217000_6,.string x217001_6] 44 (0,0)) (blk_up BK216.out) k_ hk));(case aO=>exact (R_up HO_5.out));(case aS=>exact (below_size (by repeat (first|(with_reducible first|exact HB.out|apply below_alloc|apply pw_below_drewN|apply below_drew1|refine below_set ?_ GE212.out|refine below_set ?_ GE216.out)|exact HB.out))));(case aL=>have:=LMc27.out;omega);intro v223 w31 ho hb hg hat;rw [← Ny222.out] at ho;have n0_:=Aside0.mk (blk_grown (g:=gb212) (o:=.cells #[.slice (some ad218) l0_0.length c0_0,.int .i64 a0_1,.int .i64 a0_2,.int .i64 a0_3] 33 (0,0)) (blk_up BK212.out) hg (Kd.R_ne HO_5.out BK212.out (by decide)));have n1_:=Aside0.mk (blk_grown (g:=gb216) (o:=.cells #[.int .i64 x217000_6,.string x217001_6] 44 (0,0)) (blk_up BK216.out) hg (Kd.R_away HO_5.out (fun _ hk=>hk)));have n2_:=Aside0.mk (hb);have n3_:=Aside0.mk (ho);clear BK212;clear BK216;clear HB;clear HO_5;have BK212:=n0_;have BK216:=n1_;have HB:=n2_;have HO224:=n3_;clear n0_ n1_ n2_ n3_;clear ho hb hg hat))
           go_roundg kj6
           case measure=>have:=HK1.out;have:=HJ6.out;omega
           case rel=>exact ⟨(y222),(wrap64 (x6_1 + 1)),(by first|rfl|(simp;done)|(simp [*];done)),(by first|exact H'|(subst_vars;exact H')),⟨by have:=HK1.out;have:=HJ6.out;omega⟩,⟨by (with_reducible repeat (first|apply Kd.R_alloc|apply Kd.R_drewN|apply Kd.R_drew));exact Kd.R_mono HO224.out (fun _ hk=>trivial)⟩,⟨by (with_reducible repeat (first|refine blk_drewN ?_ _|refine blk_drew ?_|refine blk_alloc ?_ _));exact BK212.out⟩,⟨by repeat (first|(with_reducible first|exact HB.out|apply below_alloc|apply pw_below_drewN|apply below_drew1|refine below_set ?_ GE212.out|refine below_set ?_ GE216.out)|exact HB.out)⟩⟩
          ·rw [if_neg c27] at H
           exact absurd H (by simp)
        ·rw [if_neg c18] at H
         have c18b0 : ((rd l0_0 x6_1) == 3)=false:=beq_eq_false_iff_ne.mpr c18
         have c18b1 : ((rd l0_0 x6_1) != 3)=true:=bne_iff_ne.mpr c18
         by_cases c32 : x5_1.length < 5864062014805
         ·rw [if_pos c32] at H
          have LMc32:=Aside0.mk c32
          clear c32
          obtain ⟨y225,hy225⟩ : ∃ y_ : List (S44),y_=(x5_1 ++ [(⟨x217000_6,(⟨#[]⟩ : ByteArray)⟩ : S44)]):=⟨_,rfl⟩
          replace H : (thresherref04_Fit.l0 kj6 l1 y225 (wrap64 (x6_1 + 1)) l0_0 a0_1 a0_2 a0_3)=some r:=by first|(rw [hy225];with_reducible exact H)|(have H2_:=(Option.bind_some _ _).symm.trans H;rw [hy225];with_reducible exact H2_)|(have H2_:=(Option.bind_some _ _).symm.trans H;with_reducible exact H2_)|with_reducible exact H|(rw [hy225];exact H)|exact H
          have Ny225:=Aside0.mk hy225
          clear hy225
          have H':=Aside0.mk H
          clear H
          have hnb33:=NB212_216.out
          have hnc33:=NB216_212.out
          have hcz34_0 : wc.cell? ⟨gb212,0,none⟩=some (.slice A0_0 l0_0.length c0_0):=(blk_cell BK212.out 0).trans rfl
          have hcz34_1 : wc.cell? ⟨gb212,1,none⟩=some (.int .i64 a0_1):=(blk_cell BK212.out 1).trans rfl
          have hcz34_2 : wc.cell? ⟨gb212,2,none⟩=some (.int .i64 a0_2):=(blk_cell BK212.out 2).trans rfl
          have hcz34_3 : wc.cell? ⟨gb212,3,none⟩=some (.int .i64 a0_3):=(blk_cell BK212.out 3).trans rfl
          have hfz34_0:=blk_frozen BK212.out 0
          have hfz34_1:=blk_frozen BK212.out 1
          have hfz34_2:=blk_frozen BK212.out 2
          have hfz34_3:=blk_frozen BK212.out 3
          have p218 : 0≤(x6_1 : Int):=of_decide_eq_true (by first|(with_reducible assumption)|assumption)
          have q218 : x6_1 < (l0_0.length : Int):=of_decide_eq_true (by first|(with_reducible assumption)|assumption)
          obtain ⟨ad218,e218,hx218_0⟩:=Kd.at_int HR0_0.out x6_1 p218 q218
          cases e218
          replace hx218_0:=(HB.out.cell (World.block_lt_of_cell? w _ hx218_0)).trans hx218_0
          replace p218:=eq_true p218
          replace q218:=eq_true q218
          have hcz35_0 : wc.cell? ⟨gb216,0,none⟩=some (.int .i64 x217000_6):=(blk_cell BK216.out 0).trans rfl
          have hcz35_1 : wc.cell? ⟨gb216,1,none⟩=some (.string x217001_6):=(blk_cell BK216.out 1).trans rfl
          have hfz35_0:=blk_frozen BK216.out 0
          have hfz35_1:=blk_frozen BK216.out 1
          go_wp2_with (first|((with_reducible refine gate_builtin (b:=.append) (xs:=#[.tmp 44,.tmp 48]) rfl ?_);at_builtin;refine Kd.R_append k44 (w0:=w) w.heap.size rfl (.tmp 44) (.tmp 48) 27 44 (.agg #[(.int .i64 0),(.string ⟨#[]⟩)]) 24 rfl Try.underlying27 info44 rfl (by decide) (by omega) u5 x5_1 (⟨x217000_6,(⟨#[]⟩ : ByteArray)⟩ : S44) [.int .i64 x217000_6,.string (⟨#[]⟩ : ByteArray)] (fun k_=>k_≠gb216) (fun _=>False) rfl rfl ?aP (fun _ hk=>hk.elim) ?aF ?aO ?aB ?aS ?aL ?_;(case aP=>exact k44_mkM _ _ _ (⟨x217000_6,(⟨#[]⟩ : ByteArray)⟩ : S44));(case aB=>exact (by repeat (first|(with_reducible first|exact HB.out|apply below_alloc|apply pw_below_drewN|apply below_drew1|refine below_set ?_ GE212.out|refine below_set ?_ GE216.out)|exact HB.out)));(case aF=>exact (fun k_ hk=>Kd.freshB (g:=gb216) (o:=.cells #[.int .i64 x217000_6,.string x217001_6] 44 (0,0)) (blk_up BK216.out) k_ hk));(case aO=>exact (R_up HO_5.out));(case aS=>exact (below_size (by repeat (first|(with_reducible first|exact HB.out|apply below_alloc|apply pw_below_drewN|apply below_drew1|refine below_set ?_ GE212.out|refine below_set ?_ GE216.out)|exact HB.out))));(case aL=>have:=LMc32.out;omega);intro v226 w36 ho hb hg hat;rw [← Ny225.out] at ho;have n0_:=Aside0.mk (blk_grown (g:=gb212) (o:=.cells #[.slice (some ad218) l0_0.length c0_0,.int .i64 a0_1,.int .i64 a0_2,.int .i64 a0_3] 33 (0,0)) (blk_up BK212.out) hg (Kd.R_ne HO_5.out BK212.out (by decide)));have n1_:=Aside0.mk (blk_grown (g:=gb216) (o:=.cells #[.int .i64 x217000_6,.string x217001_6] 44 (0,0)) (blk_up BK216.out) hg (Kd.R_away HO_5.out (fun _ hk=>hk)));have n2_:=Aside0.mk (hb);have n3_:=Aside0.mk (ho);clear BK212;clear BK216;clear HB;clear HO_5;have BK212:=n0_;have BK216:=n1_;have HB:=n2_;have HO227:=n3_;clear n0_ n1_ n2_ n3_;clear ho hb hg hat))
          go_roundg kj6
          case measure=>have:=HK1.out;have:=HJ6.out;omega
          case rel=>exact ⟨(y225),(wrap64 (x6_1 + 1)),(by first|rfl|(simp;done)|(simp [*];done)),(by first|exact H'|(subst_vars;exact H')),⟨by have:=HK1.out;have:=HJ6.out;omega⟩,⟨by (with_reducible repeat (first|apply Kd.R_alloc|apply Kd.R_drewN|apply Kd.R_drew));exact Kd.R_mono HO227.out (fun _ hk=>trivial)⟩,⟨by (with_reducible repeat (first|refine blk_drewN ?_ _|refine blk_drew ?_|refine blk_alloc ?_ _));exact BK212.out⟩,⟨by repeat (first|(with_reducible first|exact HB.out|apply below_alloc|apply pw_below_drewN|apply below_drew1|refine below_set ?_ GE212.out|refine below_set ?_ GE216.out)|exact HB.out)⟩⟩
         ·rw [if_neg c32] at H
          exact absurd H (by simp)
       ·rw [if_neg c17] at H
        exact absurd H (by simp)
      ·rw [if_neg c16] at H
       exact absurd H (by simp)
   ·rw [if_neg c6] at H
    have c6b0 : decide (x6_1 < (l0_0.length : Int))=false:=decide_eq_false c6
    clear c6
    obtain rfl:=Option.some.inj H
    have hcz37_0 : wr.cell? ⟨gb212,0,none⟩=some (.slice A0_0 l0_0.length c0_0):=(blk_cell BK212.out 0).trans rfl
    have hcz37_1 : wr.cell? ⟨gb212,1,none⟩=some (.int .i64 a0_1):=(blk_cell BK212.out 1).trans rfl
    have hcz37_2 : wr.cell? ⟨gb212,2,none⟩=some (.int .i64 a0_2):=(blk_cell BK212.out 2).trans rfl
    have hcz37_3 : wr.cell? ⟨gb212,3,none⟩=some (.int .i64 a0_3):=(blk_cell BK212.out 3).trans rfl
    have hfz37_0:=blk_frozen BK212.out 0
    have hfz37_1:=blk_frozen BK212.out 1
    have hfz37_2:=blk_frozen BK212.out 2
    have hfz37_3:=blk_frozen BK212.out 3
    go_wp2
    go_ret
    exact ⟨_,by first|rfl|(simp [errW_none,errW_some] <;> rfl)|(simp [*,errW_none,errW_some] <;> rfl),by (with_reducible repeat (first|apply Kd.R_alloc|apply Kd.R_drewN|apply Kd.R_drew));exact HO_5.out,by repeat (first|(with_reducible first|exact HB.out|apply below_alloc|apply pw_below_drewN|apply below_drew1|refine below_set ?_ GE212.out)|exact HB.out)⟩
def thresherref04_Fits.l0 : Nat→List (List (S44))→Int→List (List (S44))→Int→List Int→Int→Int→Int→Option ((List (List (S44))))
 | 0,_,_,_,_,_,_,_,_=>none
 | k + 1,x1,x2,x7,x8,x229000,x229001,x229002,x229003=>if x8 < (x1.length : Int) then (if x8 < x2 then (if 0≤x8 then ((thresherref04_Fit.f k x229000 x229001 x229002 x229003 (rd_L5 x1 x8)).bind fun t233=>(if x7.length < 5864062014805 then (thresherref04_Fits.l0 k x1 x2 (x7 ++ [t233]) (wrap64 (x8 + 1)) x229000 x229001 x229002 x229003) else (none))) else (none)) else (some x7)) else (some x7)
def thresherref04_Fits.f (k : Nat) (l0_0 : List Int) (a0_1 : Int) (a0_2 : Int) (a0_3 : Int) (l1 : List (List (S44))) (a2 : Int) : Option ((List (List (S44)))):=thresherref04_Fits.l0 k l1 a2 (([] : List (List (S44)))) 0 l0_0 a0_1 a0_2 a0_3
theorem thresherref04_Fits.mono_l : ∀ k,(∀ y0 y1 y2 y3 y4 y5 y6 y7,LeO (thresherref04_Fits.l0 k y0 y1 y2 y3 y4 y5 y6 y7) (thresherref04_Fits.l0 (k + 1) y0 y1 y2 y3 y4 y5 y6 y7))
 | 0=>fun _ _ _ _ _ _ _ _ r h=>by simp [thresherref04_Fits.l0] at h
 | k + 1=>by
  have ih0:=thresherref04_Fits.mono_l k
  ·intro y0 y1 y2 y3 y4 y5 y6 y7
   unfold thresherref04_Fits.l0
   repeat' first
   | (with_reducible exact ih0 _ _ _ _ _ _ _ _)
   | (with_reducible exact thresherref04_Fit.mono _ _ _ _ _ _)
   | (with_reducible exact LeO.refl _)
   | (with_reducible exact LeO.none _)
   | (with_reducible refine LeO.ite ?_ ?_)
   | (with_reducible refine LeO.bind ?_ (fun _=>?_))
   | exact ih0 _ _ _ _ _ _ _ _
   | exact thresherref04_Fit.mono _ _ _ _ _ _
   | exact LeO.none _
   | refine LeO.ite ?_ ?_
   | refine LeO.bind ?_ (fun _=>?_)
theorem thresherref04_Fits.mono : ∀ a0 a1 a2 a3 a4 a5 k,LeO (thresherref04_Fits.f k a0 a1 a2 a3 a4 a5) (thresherref04_Fits.f (k + 1) a0 a1 a2 a3 a4 a5):=by
 intro a0 a1 a2 a3 a4 a5 k
 have ih0:=thresherref04_Fits.mono_l k
 unfold thresherref04_Fits.f
 repeat' first
   | (with_reducible exact ih0 _ _ _ _ _ _ _ _)
   | (with_reducible exact thresherref04_Fit.mono _ _ _ _ _ _)
   | (with_reducible exact LeO.refl _)
   | (with_reducible exact LeO.none _)
   | (with_reducible refine LeO.ite ?_ ?_)
   | (with_reducible refine LeO.bind ?_ (fun _=>?_))
   | exact ih0 _ _ _ _ _ _ _ _
   | exact thresherref04_Fit.mono _ _ _ _ _ _
   | exact LeO.none _
   | refine LeO.ite ?_ ?_
   | refine LeO.bind ?_ (fun _=>?_)
def thresherref04_Fits.T5 : Bool × List (List Nat × List Nat):=(true,[([],[]),([],[]),([],[]),([],[]),([2,3],[2,3]),([4],[4]),([1,5],[1,5]),([6],[6]),([0,7,6],[0,7]),([8,8,0,1,2,3,4,5,6,7,8],[0,8])])
def thresherref04_Fits.B5 : List Nat:=[0,0,0,0,12,28,62,126,255,511]
theorem thresherref04_Fits.tab5 : rtab .any (opsOf Try.f10 5)=thresherref04_Fits.T5:=by kernel_rfl
theorem thresherref04_Fits.bits5 : waitsOk thresherref04_Fits.T5.2 thresherref04_Fits.B5=true:=by kernel_rfl
set_option maxHeartbeats 8000000 in
set_option maxRecDepth 100000 in
theorem thresherref04_Fits.calls (k : Nat) (A0_0 : Option Addr) (c0_0 : Nat) (l0_0 : List Int) (a0_1 : Int) (a0_2 : Int) (a0_3 : Int) (A1 : Option Addr) (c1 : Nat) (l1 : List (List (S44))) (a2 : Int) (r : List (List (S44))) (w : World) (hr0_0 : Kd.C (Kd.int .i64) w A0_0 l0_0.length l0_0) (hc0_0 : l0_0.length≤c0_0) (hr1 : Kd.C (Kd.slice 44 k44) w A1 l1.length l1) (hc1 : l1.length≤c1) (h : thresherref04_Fits.f k l0_0 a0_1 a0_2 a0_3 l1 a2=some r) :
  Calls Try.prog 10 #[.agg #[.slice A0_0 l0_0.length c0_0,.int .i64 a0_1,.int .i64 a0_2,.int .i64 a0_3],.slice A1 l1.length c1,.int .i64 a2] w fun e w'=>∃ v0_ : Value,e=.returned (v0_)∧Kd.S (Kd.slice 44 k44) 27 w' w.heap.size (fun _=>True) v0_ r∧Below w.heap.size w w':=by
 have hu33:=Try.underlying33
 have HR0_0:=Aside0.mk hr0_0
 have HC0_0:=Aside0.mk hc0_0
 clear hr0_0 hc0_0
 have HR1:=Aside0.mk hr1
 have HC1:=Aside0.mk hc1
 clear hr1 hc1
 have HB:=Aside0.mk (Below.refl w.heap.size w)
 have H : (thresherref04_Fits.l0 k l1 a2 (([] : List (List (S44)))) 0 l0_0 a0_1 a0_2 a0_3)=some r:=h
 clear h
 obtain ⟨y229,hy229⟩ : ∃ y_ : List (List (S44)),y_=(([] : List (List (S44)))):=⟨_,rfl⟩
 replace H : (thresherref04_Fits.l0 k l1 a2 y229 0 l0_0 a0_1 a0_2 a0_3)=some r:=by first|(rw [hy229];with_reducible exact H)|(have H2_:=(Option.bind_some _ _).symm.trans H;rw [hy229];with_reducible exact H2_)|(have H2_:=(Option.bind_some _ _).symm.trans H;with_reducible exact H2_)|with_reducible exact H|(rw [hy229];exact H)|exact H
 have Ny229:=Aside0.mk hy229
 clear hy229
 have H':=Aside0.mk H
 clear H
 go_enter Try.func10,Try.ntmps10
 go_wp2_with (first|((with_reducible refine gate_dst (N:=3) rfl ?_);refine box_event ?hg (N:=3) ?hd (cs:=#[.slice A0_0 l0_0.length c0_0,.int .i64 a0_1,.int .i64 a0_2,.int .i64 a0_3]) (t:=33) ?hr ?_;(case hd=>rfl);(case hg=>rfl);(case hr=>first|(go_simp;done)|(go_simp;rfl));intro gb228 hg w4 hbox hb;have n0_:=Aside0.mk (below_step (below_up HB.out) hb);have n1_:=Aside0.mk (hbox);have n2_:=Aside0.mk ((by rw [hg];exact (below_size (below_up HB.out)) : w.heap.size≤gb228));have n3_:=Aside0.mk ((by rw [hg];exact (below_size (below_up HB.out)) : w.heap.size≤gb228));clear HB;have HB:=n0_;have BK228:=n1_;have GW228:=n2_;have GE228:=n3_;clear n0_ n1_ n2_ n3_;clear hb hbox hg)|((with_reducible refine gate_dst (N:=9) rfl ?_);refine Kd.S_lit (Kd.slice 44 k44) _ 27 ?hg (N:=9) ?hd (xs:=([] : List (List (S44)))) (inner:=[]) (ok:=fun _=>True) (okp:=fun _=>True) ?hr ?hp (fun _ hk=>hk) trivial (Below.refl _ _) (Nat.le_refl _) (by simp) ?_;(case hd=>rfl);(case hg=>rfl);(case hr=>first|(go_simp;done)|(go_simp;rfl));(case hp=>exact (Reps.none _ _));intro v230 w5 ho6 hb hg_ hnew_;clear hg_ hnew_;(first|rw [← Ny229.out] at ho6|(simp only [Int.reduceToNat] at ho6;rw [← Ny229.out] at ho6));have n0_:=Aside0.mk (Kd.S_lower ho6 (below_size (by repeat (first|(with_reducible first|exact HB.out|apply below_alloc|apply pw_below_drewN|apply below_drew1|refine below_set ?_ GE228.out)|exact HB.out))));have n1_:=Aside0.mk (blk_below (g:=gb228) (o:=.cells #[.slice A0_0 l0_0.length c0_0,.int .i64 a0_1,.int .i64 a0_2,.int .i64 a0_3] 33 (0,0)) (blk_up BK228.out) hb);have n2_:=Aside0.mk (below_step (by repeat (first|(with_reducible first|exact HB.out|apply below_alloc|apply pw_below_drewN|apply below_drew1|refine below_set ?_ GE228.out)|exact HB.out)) hb);clear BK228;clear HB;have HO231:=n0_;have BK228:=n1_;have HB:=n2_;clear n0_ n1_ n2_;clear hb ho6))
 go_loopg [7,8] k (fun kq v7 v8 w'=>∃ (x7_1 : List (List (S44))) (x8_1 : Int),v8=.int .i64 x8_1∧Aside0 (thresherref04_Fits.l0 kq l1 a2 x7_1 x8_1 l0_0 a0_1 a0_2 a0_3=some r)∧Aside0 (kq≤k)∧Aside0 (Kd.S (Kd.slice 44 k44) 27 w' w.heap.size (fun _=>True) v7 x7_1)∧Aside0 (w'.heap[gb228]?=some (.cells #[(.slice A0_0 l0_0.length c0_0),.int .i64 a0_1,.int .i64 a0_2,.int .i64 a0_3] 33 (0,0)))∧Aside0 (Below w.heap.size w w'))
 case atStart=>exact ⟨(y229),(0),(by first|rfl|(simp;done)|(simp [*];done)),H',⟨Nat.le_refl _⟩,⟨by (with_reducible repeat (first|apply Kd.S_alloc|apply Kd.S_drewN|apply Kd.S_drew));exact HO231.out⟩,⟨by (with_reducible repeat (first|refine blk_drewN ?_ _|refine blk_drew ?_|refine blk_alloc ?_ _));exact BK228.out⟩,⟨by repeat (first|(with_reducible first|exact HB.out|apply below_alloc|apply pw_below_drewN|apply below_drew1|refine below_set ?_ GE228.out)|exact HB.out)⟩⟩
 case round =>
  clear H'
  try clear c1
  try clear p2
  obtain ⟨x7_1,x8_1,rfl,HA,HK1,HO_7,BK228,HB⟩:=hrel
  cases gk with
  | zero=>exact absurd HA.out (by simp [thresherref04_Fits.l0])
  | succ k1 =>
   have H:=HA.out
   clear HA
   simp only [thresherref04_Fits.l0] at H
   by_cases c7 : x8_1 < (l1.length : Int)
   ·rw [if_pos c7] at H
    have c7b0 : decide (x8_1 < (l1.length : Int))=true:=decide_eq_true c7
    clear c7
    by_cases c8 : x8_1 < a2
    ·rw [if_pos c8] at H
     have c8b0 : decide (x8_1 < a2)=true:=decide_eq_true c8
     clear c8
     by_cases c9 : 0≤x8_1
     ·rw [if_pos c9] at H
      have c9b0 : decide (0≤x8_1)=true:=decide_eq_true c9
      clear c9
      replace H:=Option.bind_eq_some_iff.mp H
      obtain ⟨t233,A100,H⟩:=H
      replace H : (if x7_1.length < 5864062014805 then (thresherref04_Fits.l0 k1 l1 a2 (x7_1 ++ [t233]) (wrap64 (x8_1 + 1)) l0_0 a0_1 a0_2 a0_3) else (none))=some r:=H
      have A10:=Aside0.mk A100
      clear A100
      by_cases c11 : x7_1.length < 5864062014805
      ·rw [if_pos c11] at H
       have LMc11:=Aside0.mk c11
       clear c11
       obtain ⟨y236,hy236⟩ : ∃ y_ : List (List (S44)),y_=(x7_1 ++ [t233]):=⟨_,rfl⟩
       replace H : (thresherref04_Fits.l0 k1 l1 a2 y236 (wrap64 (x8_1 + 1)) l0_0 a0_1 a0_2 a0_3)=some r:=by first|(rw [hy236];with_reducible exact H)|(have H2_:=(Option.bind_some _ _).symm.trans H;rw [hy236];with_reducible exact H2_)|(have H2_:=(Option.bind_some _ _).symm.trans H;with_reducible exact H2_)|with_reducible exact H|(rw [hy236];exact H)|exact H
       have Ny236:=Aside0.mk hy236
       clear hy236
       have H':=Aside0.mk H
       clear H
       try go_wp2
       have n0_:=Aside0.mk (Kd.S_drew HO_7.out)
       have n1_:=Aside0.mk (blk_drew BK228.out)
       have n2_:=Aside0.mk (below_drew1 HB.out)
       clear HO_7
       clear BK228
       clear HB
       have HO_7:=n0_
       have BK228:=n1_
       have HB:=n2_
       clear n0_ n1_ n2_
       have p232 : 0≤(x8_1 : Int):=of_decide_eq_true (by first|(with_reducible assumption)|assumption)
       have q232 : x8_1 < (l1.length : Int):=of_decide_eq_true (by first|(with_reducible assumption)|assumption)
       obtain ⟨ad232,A232_0,c232_0,e232,hx232_0,hl232_0,hi232_0⟩:=at_L5 HR1.out x8_1 p232 q232
       have hw232_0:=hx232_0
       cases e232
       replace hx232_0:=(HB.out.cell (World.block_lt_of_cell? w _ hx232_0)).trans hx232_0
       have HR232_0:=Aside0.mk hi232_0
       have HC232_0:=Aside0.mk hl232_0
       clear hi232_0 hl232_0
       replace p232:=eq_true p232
       replace q232:=eq_true q232
       refine start_ (n:=10) (S:=fun w'=>w'.cell? ⟨gb228,0,none⟩=some (.slice A0_0 l0_0.length c0_0)∧w'.cell? ⟨gb228,1,none⟩=some (.int .i64 a0_1)∧w'.cell? ⟨gb228,2,none⟩=some (.int .i64 a0_2)∧w'.cell? ⟨gb228,3,none⟩=some (.int .i64 a0_3)∧w'.cell? (ad232.add (x8_1).toNat)=some (.slice A232_0 (rd_L5 l1 x8_1).length c232_0)) (ds:=[]) #[false,false,false,false,false,false,false,false,false,false] (by kernel_rfl) rfl rfl ⟨(blk_cell BK228.out 0).trans rfl,(blk_cell BK228.out 1).trans rfl,(blk_cell BK228.out 2).trans rfl,(blk_cell BK228.out 3).trans rfl,((HB.out.cell (World.block_lt_of_cell? w _ hw232_0)).trans hw232_0)⟩ (fun hHeld=>?_);refine with_tabW thresherref04_Fits.tab5 thresherref04_Fits.bits5 (fun HT_ HW_=>?_)
       generalize wr.drew=w12 at HO_7 BK228 HB HR232_0 hx232_0 hHeld ⊢
       refine pure_ (i:=0) (N:=some 21) (v:=?_) (a':=?_) #[true,false,false,false,false,false,false,false,false,false] rfl rfl (any_of HT_.out (by kernel_rfl)) (fun _ _ _ h=>h) (Or.inl ⟨by rfl,?_⟩) ?_ ?_
       rotate_left;(intro w';go_simp;with_reducible rfl);rotate_left;(simp only [Act.put,List.setIfInBounds_toArray,List.set_cons_zero,List.set_cons_succ,i64_w,i32_w];rfl)
       refine pure_ (i:=2) (N:=some 23) (v:=?_) (a':=?_) #[true,false,true,false,false,false,false,false,false,false] rfl rfl (any_of HT_.out (by kernel_rfl)) (fun _ _ _ h=>h) (Or.inl ⟨by rfl,?_⟩) ?_ ?_
       rotate_left;(intro w';go_simp;with_reducible rfl);rotate_left;(simp only [Act.put,List.setIfInBounds_toArray,List.set_cons_zero,List.set_cons_succ,i64_w,i32_w];rfl)
       refine pure_ (i:=3) (N:=some 24) (v:=?_) (a':=?_) #[true,false,true,true,false,false,false,false,false,false] rfl rfl (any_of HT_.out (by kernel_rfl)) (fun _ _ _ h=>h) (Or.inl ⟨by rfl,?_⟩) ?_ ?_
       rotate_left;(intro w';go_simp;with_reducible rfl);rotate_left;(simp only [Act.put,List.setIfInBounds_toArray,List.set_cons_zero,List.set_cons_succ,i64_w,i32_w];rfl)
       refine pure_ (i:=4) (N:=some 25) (v:=?_) (a':=?_) #[true,false,true,true,true,false,false,false,false,false] rfl rfl (any_of HT_.out (by kernel_rfl)) (fun _ _ _ h=>h) (Or.inl ⟨by rfl,?_⟩) ?_ ?_
       rotate_left;(intro w';go_simp;with_reducible rfl);rotate_left;(simp only [Act.put,List.setIfInBounds_toArray,List.set_cons_zero,List.set_cons_succ,i64_w,i32_w];rfl)
       refine take_ (i:=1) (N:=some 22) (v:=?_) (a':=?_) #[true,true,true,true,true,false,false,false,false,false] rfl rfl (take_ofW HT_.out HW_.out (by kernel_rfl)) (fun _ _ _ h=>h) (Or.inl ⟨by rfl,?_⟩) hHeld ?_ ?_
       rotate_left;(rintro w' ⟨s0,s1,s2,s3,s4⟩;go_simp;with_reducible rfl);rotate_left;(simp only [Act.put,List.setIfInBounds_toArray,List.set_cons_zero,List.set_cons_succ,i64_w,i32_w];rfl)
       refine take_ (i:=5) (N:=some 26) (v:=?_) (a':=?_) #[true,true,true,true,true,true,false,false,false,false] rfl rfl (take_ofW HT_.out HW_.out (by kernel_rfl)) (fun _ _ _ h=>h) (Or.inl ⟨by rfl,?_⟩) hHeld ?_ ?_
       rotate_left;(rintro w' ⟨s0,s1,s2,s3,s4⟩;go_simp;with_reducible rfl);rotate_left;(simp only [Act.put,List.setIfInBounds_toArray,List.set_cons_zero,List.set_cons_succ,i64_w,i32_w];rfl)
       refine one_ (i:=6) (N:=some 27) #[true,true,true,true,true,true,true,false,false,false] rfl rfl (one_of HT_.out (by kernel_rfl)) (by decide) (fun K hK=>?_)
       refine goes_ Try.func22 (by kernel_rfl) rfl #[.agg #[.slice A0_0 l0_0.length c0_0,.int .i64 a0_1,.int .i64 a0_2,.int .i64 a0_3],.slice A232_0 (rd_L5 l1 x8_1).length c232_0] (by rfl) rfl rfl (by (try simp only [List.map_toArray,List.map_cons,List.map_nil]);first|done|rfl|(simp only [List.length_drop,List.length_take];rfl)) ?_
       with_reducible refine (thresherref04_Fit.calls k1 _ _ l0_0 a0_1 a0_2 a0_3 _ _ (rd_L5 l1 x8_1) t233 _ ?side1 ?side2 ?side3 ?side4 A10.out).mono ?_
       (case side1=>repeat (first|exact (Kd.C_below HR0_0.out HB.out)|(with_reducible refine Kd.C_alloc ?_ _)|(with_reducible refine Kd.C_drewN ?_ _)|(with_reducible refine Kd.C_drew ?_)))
       (case side2=>exact HC0_0.out)
       (case side3=>repeat (first|exact (Kd.C_below HR232_0.out HB.out)|(with_reducible refine Kd.C_alloc ?_ _)|(with_reducible refine Kd.C_drewN ?_ _)|(with_reducible refine Kd.C_drew ?_)))
       (case side4=>exact HC232_0.out)
       rintro e w13 ⟨v234,rfl,ho0,hb⟩
       refine ⟨_,rfl,?_⟩
       have n0_:=Aside0.mk (Kd.S_elder' (S_up HO_7.out) (Kd.R_base ho0) hb)
       have n1_:=Aside0.mk (Kd.R_lower ho0 (below_size (by repeat (first|(with_reducible first|exact HB.out|apply below_alloc|apply pw_below_drewN|apply below_drew1|refine below_set ?_ GE228.out)|exact HB.out))))
       have n2_:=Aside0.mk (blk_below (g:=gb228) (o:=.cells #[.slice A0_0 l0_0.length c0_0,.int .i64 a0_1,.int .i64 a0_2,.int .i64 a0_3] 33 (0,0)) (blk_up BK228.out) hb)
       have n3_:=Aside0.mk (below_step (by repeat (first|(with_reducible first|exact HB.out|apply below_alloc|apply pw_below_drewN|apply below_drew1|refine below_set ?_ GE228.out)|exact HB.out)) hb)
       clear HO_7
       clear BK228
       clear HB
       have HO_7:=n0_
       have HO235:=n1_
       have BK228:=n2_
       have HB:=n3_
       clear n0_ n1_ n2_ n3_
       (try clear hb)
       (try clear hb2)
       (try clear hk)
       (try clear hi)
       (try clear ho0)
       obtain ⟨Ao15,co15,eo15⟩:=Kd.R_slice HO235.out
       (first|subst eo15|(injection eo15 with f1_ f2_ f3_;have f4_:=f1_.symm;have f5_:=f3_.symm;clear f1_ f2_ f3_;subst f4_;subst f5_))
       refine hK.out _ _ ⟨(blk_cell BK228.out 0).trans rfl,(blk_cell BK228.out 1).trans rfl,(blk_cell BK228.out 2).trans rfl,(blk_cell BK228.out 3).trans rfl,((HB.out.cell (World.block_lt_of_cell? w _ hw232_0)).trans hw232_0)⟩ (fun hHeld=>?_)
       clear hK K
       refine norm_ (a':=?_) ?_ ?_
       rotate_left
       ·show Act.put _ (some 27) _=_
        simp only [Act.put,List.setIfInBounds_toArray,List.set_cons_zero,List.set_cons_succ,i64_w,i32_w]
        rfl
       refine one_ (i:=7) (N:=some 28) #[true,true,true,true,true,true,true,true,false,false] rfl rfl (one_of HT_.out (by kernel_rfl)) (by decide) (fun K hK=>?_)
       refine value_ (w1:=?_) (v:=?_) (by rfl) rfl ?_ ?_
       rotate_left 2
       ·go_simp
        constructor
        ·rfl
        ·rfl
       refine hK.out _ _ ⟨(blk_cell (blk_alloc BK228.out _) 0).trans rfl,(blk_cell (blk_alloc BK228.out _) 1).trans rfl,(blk_cell (blk_alloc BK228.out _) 2).trans rfl,(blk_cell (blk_alloc BK228.out _) 3).trans rfl,(World.cell?_alloc_lt _ _ _ (World.block_lt_of_cell? _ _ (((HB.out.cell (World.block_lt_of_cell? w _ hw232_0)).trans hw232_0)))).trans (((HB.out.cell (World.block_lt_of_cell? w _ hw232_0)).trans hw232_0))⟩ (fun hHeld=>?_)
       clear hK K
       refine norm_ (a':=?_) ?_ ?_
       rotate_left
       ·show Act.put _ (some 28) _=_
        simp only [Act.put,List.setIfInBounds_toArray,List.set_cons_zero,List.set_cons_succ,i64_w,i32_w]
        rfl
       refine one_ (i:=8) (N:=some 29) #[true,true,true,true,true,true,true,true,true,false] rfl rfl (one_of HT_.out (by kernel_rfl)) (by decide) (fun K hK=>?_)
       refine Kd.S_append_step (Kd.slice 44 k44) (w0:=w) w.heap.size (by rfl) (.tmp 21) (.tmp 28) 25 27 (.slice none 0 0) 24 rfl Try.underlying25 info27 rfl (by decide) (by omega) u7 x7_1 t233 [.slice Ao15 t233.length co15] (fun _=>True) (fun k_=>some k_=(.slice Ao15 t233.length co15 : Value).ownBlock) rfl rfl ?aP (fun k_ hk_=>((Kd.R_mono (ok':=fun k_=>((fun _=>True)) k_∧some k_≠(u7 : Value).ownBlock) (Kd.R_apart' (HO235.out) (Kd.S_typed HO_7.out) (by decide)) (fun k_ hk=>⟨trivial,hk.2⟩))).1 k_ hk_.symm) ?aF ?aO ?aB ?aS ?aL ?_
       (case aP=>exact Kd.M_row (Kd.R_mono (Kd.R_tight rfl (Kd.R_mono (ok':=fun k_=>((fun _=>True)) k_∧some k_≠(u7 : Value).ownBlock) (Kd.R_apart' (HO235.out) (Kd.S_typed HO_7.out) (by decide)) (fun k_ hk=>⟨trivial,hk.2⟩))) (fun _ h_=>h_)))
       (case aB=>exact (by repeat (first|(with_reducible first|exact HB.out|apply below_alloc|apply pw_below_drewN|apply below_drew1|refine below_set ?_ GE228.out)|exact HB.out)))
       (case aF=>exact (fun _ _=>trivial))
       (case aO=>exact (by (with_reducible repeat (first|apply Kd.S_alloc|apply Kd.S_drewN|apply Kd.S_drew));exact Kd.S_mono HO_7.out (fun k_ hk=>⟨trivial,fun e_=>hk.2 e_⟩)))
       (case aS=>exact (below_size (by repeat (first|(with_reducible first|exact HB.out|apply below_alloc|apply pw_below_drewN|apply below_drew1|refine below_set ?_ GE228.out)|exact HB.out))))
       (case aL=>have:=LMc11.out;omega)
       intro v237 w14 ho hb hg hat
       rw [← Ny236.out] at ho
       have n0_:=Aside0.mk (blk_grown (g:=gb228) (o:=.cells #[.slice A0_0 l0_0.length c0_0,.int .i64 a0_1,.int .i64 a0_2,.int .i64 a0_3] 33 (0,0)) (blk_up BK228.out) hg (Kd.S_ne HO_7.out BK228.out (by decide)))
       have n1_:=Aside0.mk (hb)
       have n2_:=Aside0.mk (ho)
       clear BK228
       clear HB
       clear HO_7
       clear HO235
       have BK228:=n0_
       have HB:=n1_
       have HO238:=n2_
       clear n0_ n1_ n2_
       clear ho hb hg hat
       refine hK.out _ _ ⟨(blk_cell BK228.out 0).trans rfl,(blk_cell BK228.out 1).trans rfl,(blk_cell BK228.out 2).trans rfl,(blk_cell BK228.out 3).trans rfl,((HB.out.cell (World.block_lt_of_cell? w _ hw232_0)).trans hw232_0)⟩ (fun hHeld=>?_)
       clear hK K
       refine norm_ (a':=?_) ?_ ?_
       rotate_left
       ·show Act.put _ (some 29) _=_
        simp only [Act.put,List.setIfInBounds_toArray,List.set_cons_zero,List.set_cons_succ,i64_w,i32_w]
        rfl
       refine pure_ (i:=9) (N:=some 7) (v:=?_) (a':=?_) #[true,true,true,true,true,true,true,true,true,true] rfl rfl (any_of HT_.out (by kernel_rfl)) (fun _ _ _ h=>h) (Or.inl ⟨by rfl,?_⟩) ?_ ?_
       rotate_left;(intro w';go_simp;with_reducible rfl);rotate_left;(simp only [Act.put,List.setIfInBounds_toArray,List.set_cons_zero,List.set_cons_succ,i64_w,i32_w];rfl)
       refine done_ (done_of HT_.out (by kernel_rfl)) ?_
       (try clear hHeld)
       try go_wp2
       go_roundg k1
       case measure=>have:=HK1.out;omega
       case rel=>exact ⟨(y236),(wrap64 (x8_1 + 1)),(by first|rfl|(simp;done)|(simp [*];done)),(by first|exact H'|(subst_vars;exact H')),⟨by have:=HK1.out;omega⟩,⟨by (with_reducible repeat (first|apply Kd.S_alloc|apply Kd.S_drewN|apply Kd.S_drew));exact HO238.out⟩,⟨by (with_reducible repeat (first|refine blk_drewN ?_ _|refine blk_drew ?_|refine blk_alloc ?_ _));exact BK228.out⟩,⟨by repeat (first|(with_reducible first|exact HB.out|apply below_alloc|apply pw_below_drewN|apply below_drew1|refine below_set ?_ GE228.out)|exact HB.out)⟩⟩
      ·rw [if_neg c11] at H
       exact absurd H (by simp)
     ·rw [if_neg c9] at H
      exact absurd H (by simp)
    ·rw [if_neg c8] at H
     have c8b0 : decide (x8_1 < a2)=false:=decide_eq_false c8
     clear c8
     obtain rfl:=Option.some.inj H
     go_wp2
     go_ret
     exact ⟨_,by first|rfl|(simp [errW_none,errW_some] <;> rfl)|(simp [*,errW_none,errW_some] <;> rfl),by (with_reducible repeat (first|apply Kd.S_alloc|apply Kd.S_drewN|apply Kd.S_drew));exact HO_7.out,by repeat (first|(with_reducible first|exact HB.out|apply below_alloc|apply pw_below_drewN|apply below_drew1|refine below_set ?_ GE228.out)|exact HB.out)⟩
   ·rw [if_neg c7] at H
    have c7b0 : decide (x8_1 < (l1.length : Int))=false:=decide_eq_false c7
    clear c7
    obtain rfl:=Option.some.inj H
    go_wp2
    go_ret
    exact ⟨_,by first|rfl|(simp [errW_none,errW_some] <;> rfl)|(simp [*,errW_none,errW_some] <;> rfl),by (with_reducible repeat (first|apply Kd.S_alloc|apply Kd.S_drewN|apply Kd.S_drew));exact HO_7.out,by repeat (first|(with_reducible first|exact HB.out|apply below_alloc|apply pw_below_drewN|apply below_drew1|refine below_set ?_ GE228.out)|exact HB.out)⟩
def index_In.f (k : Nat) (l0_0 : List Int) (a0_1 : Int) (a0_2 : Int) (a0_3 : Int) (a1_0 : Bool) (a1_1 : Bool) (l1_2 : List (S44)) (l1_3 : List (S44)) (l2 : List (S44)) : Option (Bool):=if a1_0=true then ((schema_Compare.f k l0_0 a0_1 a0_2 a0_3 l2 l1_2).bind fun t241=>(if t241 ≥ 0 then (if a1_1=true then ((schema_Compare.f k l0_0 a0_1 a0_2 a0_3 l2 l1_3).bind fun t242=>(some (decide (t242≤0)))) else (some true)) else (some false))) else (if a1_1=true then ((schema_Compare.f k l0_0 a0_1 a0_2 a0_3 l2 l1_3).bind fun t243=>(some (decide (t243≤0)))) else (some true))
theorem index_In.mono : ∀ a0 a1 a2 a3 a4 a5 a6 a7 a8 k,LeO (index_In.f k a0 a1 a2 a3 a4 a5 a6 a7 a8) (index_In.f (k + 1) a0 a1 a2 a3 a4 a5 a6 a7 a8):=by
 intro a0 a1 a2 a3 a4 a5 a6 a7 a8 k
 unfold index_In.f
 repeat' first
   | (with_reducible exact schema_Compare.mono _ _ _ _ _ _ _)
   | (with_reducible exact LeO.refl _)
   | (with_reducible exact LeO.none _)
   | (with_reducible refine LeO.ite ?_ ?_)
   | (with_reducible refine LeO.bind ?_ (fun _=>?_))
   | exact schema_Compare.mono _ _ _ _ _ _ _
   | exact LeO.none _
   | refine LeO.ite ?_ ?_
   | refine LeO.bind ?_ (fun _=>?_)
set_option maxHeartbeats 8000000 in
set_option maxRecDepth 100000 in
theorem index_In.calls (k : Nat) (A0_0 : Option Addr) (c0_0 : Nat) (l0_0 : List Int) (a0_1 : Int) (a0_2 : Int) (a0_3 : Int) (a1_0 : Bool) (a1_1 : Bool) (A1_2 : Option Addr) (c1_2 : Nat) (l1_2 : List (S44)) (A1_3 : Option Addr) (c1_3 : Nat) (l1_3 : List (S44)) (A2 : Option Addr) (c2 : Nat) (l2 : List (S44)) (r : Bool) (w : World) (hr0_0 : Kd.C (Kd.int .i64) w A0_0 l0_0.length l0_0) (hc0_0 : l0_0.length≤c0_0) (hr1_2 : Kd.C k44 w A1_2 l1_2.length l1_2) (hc1_2 : l1_2.length≤c1_2) (hr1_3 : Kd.C k44 w A1_3 l1_3.length l1_3) (hc1_3 : l1_3.length≤c1_3) (hr2 : Kd.C k44 w A2 l2.length l2) (hc2 : l2.length≤c2) (h : index_In.f k l0_0 a0_1 a0_2 a0_3 a1_0 a1_1 l1_2 l1_3 l2=some r) :
  Calls Try.prog 12 #[.agg #[.slice A0_0 l0_0.length c0_0,.int .i64 a0_1,.int .i64 a0_2,.int .i64 a0_3],.agg #[.bool a1_0,.bool a1_1,.slice A1_2 l1_2.length c1_2,.slice A1_3 l1_3.length c1_3],.slice A2 l2.length c2] w fun e w'=>e=.returned (.bool r)∧Below w.heap.size w w':=by
 have hu33:=Try.underlying33
 have hu29:=Try.underlying29
 have HR0_0:=Aside0.mk hr0_0
 have HC0_0:=Aside0.mk hc0_0
 clear hr0_0 hc0_0
 have HR1_2:=Aside0.mk hr1_2
 have HC1_2:=Aside0.mk hc1_2
 clear hr1_2 hc1_2
 have HR1_3:=Aside0.mk hr1_3
 have HC1_3:=Aside0.mk hc1_3
 clear hr1_3 hc1_3
 have HR2:=Aside0.mk hr2
 have HC2:=Aside0.mk hc2
 clear hr2 hc2
 have HB:=Aside0.mk (Below.refl w.heap.size w)
 have H : (if a1_0=true then ((schema_Compare.f k l0_0 a0_1 a0_2 a0_3 l2 l1_2).bind fun t241=>(if t241 ≥ 0 then (if a1_1=true then ((schema_Compare.f k l0_0 a0_1 a0_2 a0_3 l2 l1_3).bind fun t242=>(some (decide (t242≤0)))) else (some true)) else (some false))) else (if a1_1=true then ((schema_Compare.f k l0_0 a0_1 a0_2 a0_3 l2 l1_3).bind fun t243=>(some (decide (t243≤0)))) else (some true)))=some r:=h
 clear h
 by_cases c4 : a1_0=true
 ·subst c4
  have H1 : ((schema_Compare.f k l0_0 a0_1 a0_2 a0_3 l2 l1_2).bind fun t241=>(if t241 ≥ 0 then (if a1_1=true then ((schema_Compare.f k l0_0 a0_1 a0_2 a0_3 l2 l1_3).bind fun t242=>(some (decide (t242≤0)))) else (some true)) else (some false)))=some r:=by rw [if_pos rfl] at H;exact H
  clear H
  have H:=H1
  clear H1
  replace H:=Option.bind_eq_some_iff.mp H
  obtain ⟨t241,A50,H⟩:=H
  replace H : (if t241 ≥ 0 then (if a1_1=true then ((schema_Compare.f k l0_0 a0_1 a0_2 a0_3 l2 l1_3).bind fun t242=>(some (decide (t242≤0)))) else (some true)) else (some false))=some r:=H
  have A5:=Aside0.mk A50
  clear A50
  by_cases c6 : t241 ≥ 0
  ·rw [if_pos c6] at H
   have c6b0 : decide (0≤t241)=true:=decide_eq_true c6
   clear c6
   by_cases c7 : a1_1=true
   ·subst c7
    have H1 : ((schema_Compare.f k l0_0 a0_1 a0_2 a0_3 l2 l1_3).bind fun t242=>(some (decide (t242≤0))))=some r:=by rw [if_pos rfl] at H;exact H
    clear H
    have H:=H1
    clear H1
    replace H:=Option.bind_eq_some_iff.mp H
    obtain ⟨t242,A80,H⟩:=H
    replace H : (some (decide (t242≤0)))=some r:=H
    have A8:=Aside0.mk A80
    clear A80
    obtain rfl:=Option.some.inj H
    go_enter Try.func12,Try.ntmps12
    go_wp2_with (first|((with_reducible refine gate_dst (N:=3) rfl ?_);refine box_event ?hg (N:=3) ?hd (cs:=#[.slice A0_0 l0_0.length c0_0,.int .i64 a0_1,.int .i64 a0_2,.int .i64 a0_3]) (t:=33) ?hr ?_;(case hd=>rfl);(case hg=>rfl);(case hr=>first|(go_simp;done)|(go_simp;rfl));intro gb239 hg w9 hbox hb;have n0_:=Aside0.mk (below_step (below_up HB.out) hb);have n1_:=Aside0.mk (hbox);have n2_:=Aside0.mk ((by rw [hg];exact (below_size (below_up HB.out)) : w.heap.size≤gb239));have n3_:=Aside0.mk ((by rw [hg];exact (below_size (below_up HB.out)) : w.heap.size≤gb239));clear HB;have HB:=n0_;have BK239:=n1_;have GW239:=n2_;have GE239:=n3_;clear n0_ n1_ n2_ n3_;clear hb hbox hg)|((with_reducible refine gate_dst (N:=4) rfl ?_);refine box_event ?hg (N:=4) ?hd (cs:=#[.bool true,.bool true,.slice A1_2 l1_2.length c1_2,.slice A1_3 l1_3.length c1_3]) (t:=29) ?hr ?_;(case hd=>rfl);(case hg=>rfl);(case hr=>first|(go_simp;done)|(go_simp;rfl));intro gb240 hg w10 hbox hb;have n0_:=Aside0.mk (blk_below (g:=gb239) (o:=.cells #[.slice A0_0 l0_0.length c0_0,.int .i64 a0_1,.int .i64 a0_2,.int .i64 a0_3] 33 (0,0)) (blk_up BK239.out) hb);have n1_:=Aside0.mk (below_step (by repeat (first|(with_reducible first|exact HB.out|apply below_alloc|apply pw_below_drewN|apply below_drew1|refine below_set ?_ GE239.out)|exact HB.out)) hb);have n2_:=Aside0.mk (hbox);have n3_:=Aside0.mk ((by rw [hg];exact (below_size (by repeat (first|(with_reducible first|exact HB.out|apply below_alloc|apply pw_below_drewN|apply below_drew1|refine below_set ?_ GE239.out)|exact HB.out))) : w.heap.size≤gb240));have n4_:=Aside0.mk ((by rw [hg];exact (below_size (by repeat (first|(with_reducible first|exact HB.out|apply below_alloc|apply pw_below_drewN|apply below_drew1|refine below_set ?_ GE239.out)|exact HB.out))) : w.heap.size≤gb240));have n5_:=Aside0.mk ((by rw [hg];exact Nat.ne_of_lt (blk_lt (g:=gb239) (o:=.cells #[.slice A0_0 l0_0.length c0_0,.int .i64 a0_1,.int .i64 a0_2,.int .i64 a0_3] 33 (0,0)) (blk_up BK239.out)) : gb239≠gb240));have n6_:=Aside0.mk ((by rw [hg];exact Nat.ne_of_gt (blk_lt (g:=gb239) (o:=.cells #[.slice A0_0 l0_0.length c0_0,.int .i64 a0_1,.int .i64 a0_2,.int .i64 a0_3] 33 (0,0)) (blk_up BK239.out)) : gb240≠gb239));clear BK239;clear HB;have BK239:=n0_;have HB:=n1_;have BK240:=n2_;have GW240:=n3_;have GE240:=n4_;have NB239_240:=n5_;have NB240_239:=n6_;clear n0_ n1_ n2_ n3_ n4_ n5_ n6_;clear hb hbox hg;have hnb11:=NB240_239.out;have hnc11:=NB239_240.out;have hcz12_0 : w10.cell? ⟨gb240,0,none⟩=some (.bool true):=(blk_cell BK240.out 0).trans rfl;have hcz12_1 : w10.cell? ⟨gb240,1,none⟩=some (.bool true):=(blk_cell BK240.out 1).trans rfl;have hcz12_2 : w10.cell? ⟨gb240,2,none⟩=some (.slice A1_2 l1_2.length c1_2):=(blk_cell BK240.out 2).trans rfl;have hcz12_3 : w10.cell? ⟨gb240,3,none⟩=some (.slice A1_3 l1_3.length c1_3):=(blk_cell BK240.out 3).trans rfl;have hfz12_0:=blk_frozen BK240.out 0;have hfz12_1:=blk_frozen BK240.out 1;have hfz12_2:=blk_frozen BK240.out 2;have hfz12_3:=blk_frozen BK240.out 3;have hcz13_0 : w10.cell? ⟨gb239,0,none⟩=some (.slice A0_0 l0_0.length c0_0):=(blk_cell BK239.out 0).trans rfl;have hcz13_1 : w10.cell? ⟨gb239,1,none⟩=some (.int .i64 a0_1):=(blk_cell BK239.out 1).trans rfl;have hcz13_2 : w10.cell? ⟨gb239,2,none⟩=some (.int .i64 a0_2):=(blk_cell BK239.out 2).trans rfl;have hcz13_3 : w10.cell? ⟨gb239,3,none⟩=some (.int .i64 a0_3):=(blk_cell BK239.out 3).trans rfl;have hfz13_0:=blk_frozen BK239.out 0;have hfz13_1:=blk_frozen BK239.out 1;have hfz13_2:=blk_frozen BK239.out 2;have hfz13_3:=blk_frozen BK239.out 3)|(go_at_call 23;(with_reducible refine (schema_Compare.calls k _ _ l0_0 a0_1 a0_2 a0_3 _ _ l2 _ _ l1_2 t241 _ ?side1 ?side2 ?side3 ?side4 ?side5 ?side6 A5.out).mono ?_);(case side1=>repeat (first|exact (Kd.C_below HR0_0.out HB.out)|(with_reducible refine Kd.C_alloc ?_ _)|(with_reducible refine Kd.C_drewN ?_ _)|(with_reducible refine Kd.C_drew ?_)));(case side2=>exact HC0_0.out);(case side3=>repeat (first|exact (Kd.C_below HR2.out HB.out)|(with_reducible refine Kd.C_alloc ?_ _)|(with_reducible refine Kd.C_drewN ?_ _)|(with_reducible refine Kd.C_drew ?_)));(case side4=>exact HC2.out);(case side5=>repeat (first|exact (Kd.C_below HR1_2.out HB.out)|(with_reducible refine Kd.C_alloc ?_ _)|(with_reducible refine Kd.C_drewN ?_ _)|(with_reducible refine Kd.C_drew ?_)));(case side6=>exact HC1_2.out);rintro e w14 ⟨rfl,hb⟩;have n0_:=Aside0.mk (blk_below (g:=gb239) (o:=.cells #[.slice A0_0 l0_0.length c0_0,.int .i64 a0_1,.int .i64 a0_2,.int .i64 a0_3] 33 (0,0)) (blk_up BK239.out) hb);have n1_:=Aside0.mk (blk_below (g:=gb240) (o:=.cells #[.bool true,.bool true,.slice A1_2 l1_2.length c1_2,.slice A1_3 l1_3.length c1_3] 29 (0,0)) (blk_up BK240.out) hb);have n2_:=Aside0.mk (below_step (by repeat (first|(with_reducible first|exact HB.out|apply below_alloc|apply pw_below_drewN|apply below_drew1|refine below_set ?_ GE239.out|refine below_set ?_ GE240.out)|exact HB.out)) hb);clear BK239;clear BK240;clear HB;have BK239:=n0_;have BK240:=n1_;have HB:=n2_;clear n0_ n1_ n2_;(try clear hb);(try clear hb2);(try clear hk);(try clear hi);have hcz15_0 : w14.cell? ⟨gb240,0,none⟩=some (.bool true):=(blk_cell BK240.out 0).trans rfl;have hcz15_1 : w14.cell? ⟨gb240,1,none⟩=some (.bool true):=(blk_cell BK240.out 1).trans rfl;have hcz15_2 : w14.cell? ⟨gb240,2,none⟩=some (.slice A1_2 l1_2.length c1_2):=(blk_cell BK240.out 2).trans rfl;have hcz15_3 : w14.cell? ⟨gb240,3,none⟩=some (.slice A1_3 l1_3.length c1_3):=(blk_cell BK240.out 3).trans rfl;have hfz15_0:=blk_frozen BK240.out 0;have hfz15_1:=blk_frozen BK240.out 1;have hfz15_2:=blk_frozen BK240.out 2;have hfz15_3:=blk_frozen BK240.out 3;have hcz16_0 : w14.cell? ⟨gb239,0,none⟩=some (.slice A0_0 l0_0.length c0_0):=(blk_cell BK239.out 0).trans rfl;have hcz16_1 : w14.cell? ⟨gb239,1,none⟩=some (.int .i64 a0_1):=(blk_cell BK239.out 1).trans rfl;have hcz16_2 : w14.cell? ⟨gb239,2,none⟩=some (.int .i64 a0_2):=(blk_cell BK239.out 2).trans rfl;have hcz16_3 : w14.cell? ⟨gb239,3,none⟩=some (.int .i64 a0_3):=(blk_cell BK239.out 3).trans rfl;have hfz16_0:=blk_frozen BK239.out 0;have hfz16_1:=blk_frozen BK239.out 1;have hfz16_2:=blk_frozen BK239.out 2;have hfz16_3:=blk_frozen BK239.out 3)|(go_at_call 23;(with_reducible refine (schema_Compare.calls k _ _ l0_0 a0_1 a0_2 a0_3 _ _ l2 _ _ l1_3 t242 _ ?side1 ?side2 ?side3 ?side4 ?side5 ?side6 A8.out).mono ?_);(case side1=>repeat (first|exact (Kd.C_below HR0_0.out HB.out)|(with_reducible refine Kd.C_alloc ?_ _)|(with_reducible refine Kd.C_drewN ?_ _)|(with_reducible refine Kd.C_drew ?_)));(case side2=>exact HC0_0.out);(case side3=>repeat (first|exact (Kd.C_below HR2.out HB.out)|(with_reducible refine Kd.C_alloc ?_ _)|(with_reducible refine Kd.C_drewN ?_ _)|(with_reducible refine Kd.C_drew ?_)));(case side4=>exact HC2.out);(case side5=>repeat (first|exact (Kd.C_below HR1_3.out HB.out)|(with_reducible refine Kd.C_alloc ?_ _)|(with_reducible refine Kd.C_drewN ?_ _)|(with_reducible refine Kd.C_drew ?_)));(case side6=>exact HC1_3.out);rintro e w17 ⟨rfl,hb⟩;have n0_:=Aside0.mk (blk_below (g:=gb239) (o:=.cells #[.slice A0_0 l0_0.length c0_0,.int .i64 a0_1,.int .i64 a0_2,.int .i64 a0_3] 33 (0,0)) (blk_up BK239.out) hb);have n1_:=Aside0.mk (blk_below (g:=gb240) (o:=.cells #[.bool true,.bool true,.slice A1_2 l1_2.length c1_2,.slice A1_3 l1_3.length c1_3] 29 (0,0)) (blk_up BK240.out) hb);have n2_:=Aside0.mk (below_step (by repeat (first|(with_reducible first|exact HB.out|apply below_alloc|apply pw_below_drewN|apply below_drew1|refine below_set ?_ GE239.out|refine below_set ?_ GE240.out)|exact HB.out)) hb);clear BK239;clear BK240;clear HB;have BK239:=n0_;have BK240:=n1_;have HB:=n2_;clear n0_ n1_ n2_;(try clear hb);(try clear hb2);(try clear hk);(try clear hi)))
    go_ret
    exact ⟨by first|rfl|(simp [errW_none,errW_some] <;> rfl)|(simp [*,errW_none,errW_some] <;> rfl),by repeat (first|(with_reducible first|exact HB.out|apply below_alloc|apply pw_below_drewN|apply below_drew1|refine below_set ?_ GE239.out|refine below_set ?_ GE240.out)|exact HB.out)⟩
   ·replace c7:=Bool.eq_false_iff.mpr c7
    subst c7
    have H1 : (some true)=some r:=by rw [if_neg (show ¬ (false=true) by decide)] at H;exact H
    clear H
    have H:=H1
    clear H1
    obtain rfl:=Option.some.inj H
    go_enter Try.func12,Try.ntmps12
    go_wp2_with (first|((with_reducible refine gate_dst (N:=3) rfl ?_);refine box_event ?hg (N:=3) ?hd (cs:=#[.slice A0_0 l0_0.length c0_0,.int .i64 a0_1,.int .i64 a0_2,.int .i64 a0_3]) (t:=33) ?hr ?_;(case hd=>rfl);(case hg=>rfl);(case hr=>first|(go_simp;done)|(go_simp;rfl));intro gb239 hg w18 hbox hb;have n0_:=Aside0.mk (below_step (below_up HB.out) hb);have n1_:=Aside0.mk (hbox);have n2_:=Aside0.mk ((by rw [hg];exact (below_size (below_up HB.out)) : w.heap.size≤gb239));have n3_:=Aside0.mk ((by rw [hg];exact (below_size (below_up HB.out)) : w.heap.size≤gb239));clear HB;have HB:=n0_;have BK239:=n1_;have GW239:=n2_;have GE239:=n3_;clear n0_ n1_ n2_ n3_;clear hb hbox hg)|((with_reducible refine gate_dst (N:=4) rfl ?_);refine box_event ?hg (N:=4) ?hd (cs:=#[.bool true,.bool false,.slice A1_2 l1_2.length c1_2,.slice A1_3 l1_3.length c1_3]) (t:=29) ?hr ?_;(case hd=>rfl);(case hg=>rfl);(case hr=>first|(go_simp;done)|(go_simp;rfl));intro gb240 hg w19 hbox hb;have n0_:=Aside0.mk (blk_below (g:=gb239) (o:=.cells #[.slice A0_0 l0_0.length c0_0,.int .i64 a0_1,.int .i64 a0_2,.int .i64 a0_3] 33 (0,0)) (blk_up BK239.out) hb);have n1_:=Aside0.mk (below_step (by repeat (first|(with_reducible first|exact HB.out|apply below_alloc|apply pw_below_drewN|apply below_drew1|refine below_set ?_ GE239.out)|exact HB.out)) hb);have n2_:=Aside0.mk (hbox);have n3_:=Aside0.mk ((by rw [hg];exact (below_size (by repeat (first|(with_reducible first|exact HB.out|apply below_alloc|apply pw_below_drewN|apply below_drew1|refine below_set ?_ GE239.out)|exact HB.out))) : w.heap.size≤gb240));have n4_:=Aside0.mk ((by rw [hg];exact (below_size (by repeat (first|(with_reducible first|exact HB.out|apply below_alloc|apply pw_below_drewN|apply below_drew1|refine below_set ?_ GE239.out)|exact HB.out))) : w.heap.size≤gb240));have n5_:=Aside0.mk ((by rw [hg];exact Nat.ne_of_lt (blk_lt (g:=gb239) (o:=.cells #[.slice A0_0 l0_0.length c0_0,.int .i64 a0_1,.int .i64 a0_2,.int .i64 a0_3] 33 (0,0)) (blk_up BK239.out)) : gb239≠gb240));have n6_:=Aside0.mk ((by rw [hg];exact Nat.ne_of_gt (blk_lt (g:=gb239) (o:=.cells #[.slice A0_0 l0_0.length c0_0,.int .i64 a0_1,.int .i64 a0_2,.int .i64 a0_3] 33 (0,0)) (blk_up BK239.out)) : gb240≠gb239));clear BK239;clear HB;have BK239:=n0_;have HB:=n1_;have BK240:=n2_;have GW240:=n3_;have GE240:=n4_;have NB239_240:=n5_;have NB240_239:=n6_;clear n0_ n1_ n2_ n3_ n4_ n5_ n6_;clear hb hbox hg;have hnb20:=NB240_239.out;have hnc20:=NB239_240.out;have hcz21_0 : w19.cell? ⟨gb240,0,none⟩=some (.bool true):=(blk_cell BK240.out 0).trans rfl;have hcz21_1 : w19.cell? ⟨gb240,1,none⟩=some (.bool false):=(blk_cell BK240.out 1).trans rfl;have hcz21_2 : w19.cell? ⟨gb240,2,none⟩=some (.slice A1_2 l1_2.length c1_2):=(blk_cell BK240.out 2).trans rfl;have hcz21_3 : w19.cell? ⟨gb240,3,none⟩=some (.slice A1_3 l1_3.length c1_3):=(blk_cell BK240.out 3).trans rfl;have hfz21_0:=blk_frozen BK240.out 0;have hfz21_1:=blk_frozen BK240.out 1;have hfz21_2:=blk_frozen BK240.out 2;have hfz21_3:=blk_frozen BK240.out 3;have hcz22_0 : w19.cell? ⟨gb239,0,none⟩=some (.slice A0_0 l0_0.length c0_0):=(blk_cell BK239.out 0).trans rfl;have hcz22_1 : w19.cell? ⟨gb239,1,none⟩=some (.int .i64 a0_1):=(blk_cell BK239.out 1).trans rfl;have hcz22_2 : w19.cell? ⟨gb239,2,none⟩=some (.int .i64 a0_2):=(blk_cell BK239.out 2).trans rfl;have hcz22_3 : w19.cell? ⟨gb239,3,none⟩=some (.int .i64 a0_3):=(blk_cell BK239.out 3).trans rfl;have hfz22_0:=blk_frozen BK239.out 0;have hfz22_1:=blk_frozen BK239.out 1;have hfz22_2:=blk_frozen BK239.out 2;have hfz22_3:=blk_frozen BK239.out 3)|(go_at_call 23;(with_reducible refine (schema_Compare.calls k _ _ l0_0 a0_1 a0_2 a0_3 _ _ l2 _ _ l1_2 t241 _ ?side1 ?side2 ?side3 ?side4 ?side5 ?side6 A5.out).mono ?_);(case side1=>repeat (first|exact (Kd.C_below HR0_0.out HB.out)|(with_reducible refine Kd.C_alloc ?_ _)|(with_reducible refine Kd.C_drewN ?_ _)|(with_reducible refine Kd.C_drew ?_)));(case side2=>exact HC0_0.out);(case side3=>repeat (first|exact (Kd.C_below HR2.out HB.out)|(with_reducible refine Kd.C_alloc ?_ _)|(with_reducible refine Kd.C_drewN ?_ _)|(with_reducible refine Kd.C_drew ?_)));(case side4=>exact HC2.out);(case side5=>repeat (first|exact (Kd.C_below HR1_2.out HB.out)|(with_reducible refine Kd.C_alloc ?_ _)|(with_reducible refine Kd.C_drewN ?_ _)|(with_reducible refine Kd.C_drew ?_)));(case side6=>exact HC1_2.out);rintro e w23 ⟨rfl,hb⟩;have n0_:=Aside0.mk (blk_below (g:=gb239) (o:=.cells #[.slice A0_0 l0_0.length c0_0,.int .i64 a0_1,.int .i64 a0_2,.int .i64 a0_3] 33 (0,0)) (blk_up BK239.out) hb);have n1_:=Aside0.mk (blk_below (g:=gb240) (o:=.cells #[.bool true,.bool false,.slice A1_2 l1_2.length c1_2,.slice A1_3 l1_3.length c1_3] 29 (0,0)) (blk_up BK240.out) hb);have n2_:=Aside0.mk (below_step (by repeat (first|(with_reducible first|exact HB.out|apply below_alloc|apply pw_below_drewN|apply below_drew1|refine below_set ?_ GE239.out|refine below_set ?_ GE240.out)|exact HB.out)) hb);clear BK239;clear BK240;clear HB;have BK239:=n0_;have BK240:=n1_;have HB:=n2_;clear n0_ n1_ n2_;(try clear hb);(try clear hb2);(try clear hk);(try clear hi);have hcz24_0 : w23.cell? ⟨gb240,0,none⟩=some (.bool true):=(blk_cell BK240.out 0).trans rfl;have hcz24_1 : w23.cell? ⟨gb240,1,none⟩=some (.bool false):=(blk_cell BK240.out 1).trans rfl;have hcz24_2 : w23.cell? ⟨gb240,2,none⟩=some (.slice A1_2 l1_2.length c1_2):=(blk_cell BK240.out 2).trans rfl;have hcz24_3 : w23.cell? ⟨gb240,3,none⟩=some (.slice A1_3 l1_3.length c1_3):=(blk_cell BK240.out 3).trans rfl;have hfz24_0:=blk_frozen BK240.out 0;have hfz24_1:=blk_frozen BK240.out 1;have hfz24_2:=blk_frozen BK240.out 2;have hfz24_3:=blk_frozen BK240.out 3))
    go_ret
    exact ⟨by first|rfl|(simp [errW_none,errW_some] <;> rfl)|(simp [*,errW_none,errW_some] <;> rfl),by repeat (first|(with_reducible first|exact HB.out|apply below_alloc|apply pw_below_drewN|apply below_drew1|refine below_set ?_ GE239.out|refine below_set ?_ GE240.out)|exact HB.out)⟩
  ·rw [if_neg c6] at H
   have c6b0 : decide (0≤t241)=false:=decide_eq_false c6
   clear c6
   obtain rfl:=Option.some.inj H
   go_enter Try.func12,Try.ntmps12
   go_wp2_with (first|((with_reducible refine gate_dst (N:=3) rfl ?_);refine box_event ?hg (N:=3) ?hd (cs:=#[.slice A0_0 l0_0.length c0_0,.int .i64 a0_1,.int .i64 a0_2,.int .i64 a0_3]) (t:=33) ?hr ?_;(case hd=>rfl);(case hg=>rfl);(case hr=>first|(go_simp;done)|(go_simp;rfl));intro gb239 hg w25 hbox hb;have n0_:=Aside0.mk (below_step (below_up HB.out) hb);have n1_:=Aside0.mk (hbox);have n2_:=Aside0.mk ((by rw [hg];exact (below_size (below_up HB.out)) : w.heap.size≤gb239));have n3_:=Aside0.mk ((by rw [hg];exact (below_size (below_up HB.out)) : w.heap.size≤gb239));clear HB;have HB:=n0_;have BK239:=n1_;have GW239:=n2_;have GE239:=n3_;clear n0_ n1_ n2_ n3_;clear hb hbox hg)|((with_reducible refine gate_dst (N:=4) rfl ?_);refine box_event ?hg (N:=4) ?hd (cs:=#[.bool true,.bool a1_1,.slice A1_2 l1_2.length c1_2,.slice A1_3 l1_3.length c1_3]) (t:=29) ?hr ?_;(case hd=>rfl);(case hg=>rfl);(case hr=>first|(go_simp;done)|(go_simp;rfl));intro gb240 hg w26 hbox hb;have n0_:=Aside0.mk (blk_below (g:=gb239) (o:=.cells #[.slice A0_0 l0_0.length c0_0,.int .i64 a0_1,.int .i64 a0_2,.int .i64 a0_3] 33 (0,0)) (blk_up BK239.out) hb);have n1_:=Aside0.mk (below_step (by repeat (first|(with_reducible first|exact HB.out|apply below_alloc|apply pw_below_drewN|apply below_drew1|refine below_set ?_ GE239.out)|exact HB.out)) hb);have n2_:=Aside0.mk (hbox);have n3_:=Aside0.mk ((by rw [hg];exact (below_size (by repeat (first|(with_reducible first|exact HB.out|apply below_alloc|apply pw_below_drewN|apply below_drew1|refine below_set ?_ GE239.out)|exact HB.out))) : w.heap.size≤gb240));have n4_:=Aside0.mk ((by rw [hg];exact (below_size (by repeat (first|(with_reducible first|exact HB.out|apply below_alloc|apply pw_below_drewN|apply below_drew1|refine below_set ?_ GE239.out)|exact HB.out))) : w.heap.size≤gb240));have n5_:=Aside0.mk ((by rw [hg];exact Nat.ne_of_lt (blk_lt (g:=gb239) (o:=.cells #[.slice A0_0 l0_0.length c0_0,.int .i64 a0_1,.int .i64 a0_2,.int .i64 a0_3] 33 (0,0)) (blk_up BK239.out)) : gb239≠gb240));have n6_:=Aside0.mk ((by rw [hg];exact Nat.ne_of_gt (blk_lt (g:=gb239) (o:=.cells #[.slice A0_0 l0_0.length c0_0,.int .i64 a0_1,.int .i64 a0_2,.int .i64 a0_3] 33 (0,0)) (blk_up BK239.out)) : gb240≠gb239));clear BK239;clear HB;have BK239:=n0_;have HB:=n1_;have BK240:=n2_;have GW240:=n3_;have GE240:=n4_;have NB239_240:=n5_;have NB240_239:=n6_;clear n0_ n1_ n2_ n3_ n4_ n5_ n6_;clear hb hbox hg;have hnb27:=NB240_239.out;have hnc27:=NB239_240.out;have hcz28_0 : w26.cell? ⟨gb240,0,none⟩=some (.bool true):=(blk_cell BK240.out 0).trans rfl;have hcz28_1 : w26.cell? ⟨gb240,1,none⟩=some (.bool a1_1):=(blk_cell BK240.out 1).trans rfl;have hcz28_2 : w26.cell? ⟨gb240,2,none⟩=some (.slice A1_2 l1_2.length c1_2):=(blk_cell BK240.out 2).trans rfl;have hcz28_3 : w26.cell? ⟨gb240,3,none⟩=some (.slice A1_3 l1_3.length c1_3):=(blk_cell BK240.out 3).trans rfl;have hfz28_0:=blk_frozen BK240.out 0;have hfz28_1:=blk_frozen BK240.out 1;have hfz28_2:=blk_frozen BK240.out 2;have hfz28_3:=blk_frozen BK240.out 3;have hcz29_0 : w26.cell? ⟨gb239,0,none⟩=some (.slice A0_0 l0_0.length c0_0):=(blk_cell BK239.out 0).trans rfl;have hcz29_1 : w26.cell? ⟨gb239,1,none⟩=some (.int .i64 a0_1):=(blk_cell BK239.out 1).trans rfl;have hcz29_2 : w26.cell? ⟨gb239,2,none⟩=some (.int .i64 a0_2):=(blk_cell BK239.out 2).trans rfl;have hcz29_3 : w26.cell? ⟨gb239,3,none⟩=some (.int .i64 a0_3):=(blk_cell BK239.out 3).trans rfl;have hfz29_0:=blk_frozen BK239.out 0;have hfz29_1:=blk_frozen BK239.out 1;have hfz29_2:=blk_frozen BK239.out 2;have hfz29_3:=blk_frozen BK239.out 3)|(go_at_call 23;(with_reducible refine (schema_Compare.calls k _ _ l0_0 a0_1 a0_2 a0_3 _ _ l2 _ _ l1_2 t241 _ ?side1 ?side2 ?side3 ?side4 ?side5 ?side6 A5.out).mono ?_);(case side1=>repeat (first|exact (Kd.C_below HR0_0.out HB.out)|(with_reducible refine Kd.C_alloc ?_ _)|(with_reducible refine Kd.C_drewN ?_ _)|(with_reducible refine Kd.C_drew ?_)));(case side2=>exact HC0_0.out);(case side3=>repeat (first|exact (Kd.C_below HR2.out HB.out)|(with_reducible refine Kd.C_alloc ?_ _)|(with_reducible refine Kd.C_drewN ?_ _)|(with_reducible refine Kd.C_drew ?_)));(case side4=>exact HC2.out);(case side5=>repeat (first|exact (Kd.C_below HR1_2.out HB.out)|(with_reducible refine Kd.C_alloc ?_ _)|(with_reducible refine Kd.C_drewN ?_ _)|(with_reducible refine Kd.C_drew ?_)));(case side6=>exact HC1_2.out);rintro e w30 ⟨rfl,hb⟩;have n0_:=Aside0.mk (blk_below (g:=gb239) (o:=.cells #[.slice A0_0 l0_0.length c0_0,.int .i64 a0_1,.int .i64 a0_2,.int .i64 a0_3] 33 (0,0)) (blk_up BK239.out) hb);have n1_:=Aside0.mk (blk_below (g:=gb240) (o:=.cells #[.bool true,.bool a1_1,.slice A1_2 l1_2.length c1_2,.slice A1_3 l1_3.length c1_3] 29 (0,0)) (blk_up BK240.out) hb);have n2_:=Aside0.mk (below_step (by repeat (first|(with_reducible first|exact HB.out|apply below_alloc|apply pw_below_drewN|apply below_drew1|refine below_set ?_ GE239.out|refine below_set ?_ GE240.out)|exact HB.out)) hb);clear BK239;clear BK240;clear HB;have BK239:=n0_;have BK240:=n1_;have HB:=n2_;clear n0_ n1_ n2_;(try clear hb);(try clear hb2);(try clear hk);(try clear hi)))
   go_ret
   exact ⟨by first|rfl|(simp [errW_none,errW_some] <;> rfl)|(simp [*,errW_none,errW_some] <;> rfl),by repeat (first|(with_reducible first|exact HB.out|apply below_alloc|apply pw_below_drewN|apply below_drew1|refine below_set ?_ GE239.out|refine below_set ?_ GE240.out)|exact HB.out)⟩
 ·replace c4:=Bool.eq_false_iff.mpr c4
  subst c4
  have H1 : (if a1_1=true then ((schema_Compare.f k l0_0 a0_1 a0_2 a0_3 l2 l1_3).bind fun t243=>(some (decide (t243≤0)))) else (some true))=some r:=by rw [if_neg (show ¬ (false=true) by decide)] at H;exact H
  clear H
  have H:=H1
  clear H1
  by_cases c31 : a1_1=true
  ·subst c31
   have H1 : ((schema_Compare.f k l0_0 a0_1 a0_2 a0_3 l2 l1_3).bind fun t243=>(some (decide (t243≤0))))=some r:=by rw [if_pos rfl] at H;exact H
   clear H
   have H:=H1
   clear H1
   replace H:=Option.bind_eq_some_iff.mp H
   obtain ⟨t243,A320,H⟩:=H
   replace H : (some (decide (t243≤0)))=some r:=H
   have A32:=Aside0.mk A320
   clear A320
   obtain rfl:=Option.some.inj H
   go_enter Try.func12,Try.ntmps12
   go_wp2_with (first|((with_reducible refine gate_dst (N:=3) rfl ?_);refine box_event ?hg (N:=3) ?hd (cs:=#[.slice A0_0 l0_0.length c0_0,.int .i64 a0_1,.int .i64 a0_2,.int .i64 a0_3]) (t:=33) ?hr ?_;(case hd=>rfl);(case hg=>rfl);(case hr=>first|(go_simp;done)|(go_simp;rfl));intro gb239 hg w33 hbox hb;have n0_:=Aside0.mk (below_step (below_up HB.out) hb);have n1_:=Aside0.mk (hbox);have n2_:=Aside0.mk ((by rw [hg];exact (below_size (below_up HB.out)) : w.heap.size≤gb239));have n3_:=Aside0.mk ((by rw [hg];exact (below_size (below_up HB.out)) : w.heap.size≤gb239));clear HB;have HB:=n0_;have BK239:=n1_;have GW239:=n2_;have GE239:=n3_;clear n0_ n1_ n2_ n3_;clear hb hbox hg)|((with_reducible refine gate_dst (N:=4) rfl ?_);refine box_event ?hg (N:=4) ?hd (cs:=#[.bool false,.bool true,.slice A1_2 l1_2.length c1_2,.slice A1_3 l1_3.length c1_3]) (t:=29) ?hr ?_;(case hd=>rfl);(case hg=>rfl);(case hr=>first|(go_simp;done)|(go_simp;rfl));intro gb240 hg w34 hbox hb;have n0_:=Aside0.mk (blk_below (g:=gb239) (o:=.cells #[.slice A0_0 l0_0.length c0_0,.int .i64 a0_1,.int .i64 a0_2,.int .i64 a0_3] 33 (0,0)) (blk_up BK239.out) hb);have n1_:=Aside0.mk (below_step (by repeat (first|(with_reducible first|exact HB.out|apply below_alloc|apply pw_below_drewN|apply below_drew1|refine below_set ?_ GE239.out)|exact HB.out)) hb);have n2_:=Aside0.mk (hbox);have n3_:=Aside0.mk ((by rw [hg];exact (below_size (by repeat (first|(with_reducible first|exact HB.out|apply below_alloc|apply pw_below_drewN|apply below_drew1|refine below_set ?_ GE239.out)|exact HB.out))) : w.heap.size≤gb240));have n4_:=Aside0.mk ((by rw [hg];exact (below_size (by repeat (first|(with_reducible first|exact HB.out|apply below_alloc|apply pw_below_drewN|apply below_drew1|refine below_set ?_ GE239.out)|exact HB.out))) : w.heap.size≤gb240));have n5_:=Aside0.mk ((by rw [hg];exact Nat.ne_of_lt (blk_lt (g:=gb239) (o:=.cells #[.slice A0_0 l0_0.length c0_0,.int .i64 a0_1,.int .i64 a0_2,.int .i64 a0_3] 33 (0,0)) (blk_up BK239.out)) : gb239≠gb240));have n6_:=Aside0.mk ((by rw [hg];exact Nat.ne_of_gt (blk_lt (g:=gb239) (o:=.cells #[.slice A0_0 l0_0.length c0_0,.int .i64 a0_1,.int .i64 a0_2,.int .i64 a0_3] 33 (0,0)) (blk_up BK239.out)) : gb240≠gb239));clear BK239;clear HB;have BK239:=n0_;have HB:=n1_;have BK240:=n2_;have GW240:=n3_;have GE240:=n4_;have NB239_240:=n5_;have NB240_239:=n6_;clear n0_ n1_ n2_ n3_ n4_ n5_ n6_;clear hb hbox hg;have hnb35:=NB240_239.out;have hnc35:=NB239_240.out;have hcz36_0 : w34.cell? ⟨gb240,0,none⟩=some (.bool false):=(blk_cell BK240.out 0).trans rfl;have hcz36_1 : w34.cell? ⟨gb240,1,none⟩=some (.bool true):=(blk_cell BK240.out 1).trans rfl;have hcz36_2 : w34.cell? ⟨gb240,2,none⟩=some (.slice A1_2 l1_2.length c1_2):=(blk_cell BK240.out 2).trans rfl;have hcz36_3 : w34.cell? ⟨gb240,3,none⟩=some (.slice A1_3 l1_3.length c1_3):=(blk_cell BK240.out 3).trans rfl;have hfz36_0:=blk_frozen BK240.out 0;have hfz36_1:=blk_frozen BK240.out 1;have hfz36_2:=blk_frozen BK240.out 2;have hfz36_3:=blk_frozen BK240.out 3;have hcz37_0 : w34.cell? ⟨gb239,0,none⟩=some (.slice A0_0 l0_0.length c0_0):=(blk_cell BK239.out 0).trans rfl;have hcz37_1 : w34.cell? ⟨gb239,1,none⟩=some (.int .i64 a0_1):=(blk_cell BK239.out 1).trans rfl;have hcz37_2 : w34.cell? ⟨gb239,2,none⟩=some (.int .i64 a0_2):=(blk_cell BK239.out 2).trans rfl;have hcz37_3 : w34.cell? ⟨gb239,3,none⟩=some (.int .i64 a0_3):=(blk_cell BK239.out 3).trans rfl;have hfz37_0:=blk_frozen BK239.out 0;have hfz37_1:=blk_frozen BK239.out 1;have hfz37_2:=blk_frozen BK239.out 2;have hfz37_3:=blk_frozen BK239.out 3)|(go_at_call 23;(with_reducible refine (schema_Compare.calls k _ _ l0_0 a0_1 a0_2 a0_3 _ _ l2 _ _ l1_3 t243 _ ?side1 ?side2 ?side3 ?side4 ?side5 ?side6 A32.out).mono ?_);(case side1=>repeat (first|exact (Kd.C_below HR0_0.out HB.out)|(with_reducible refine Kd.C_alloc ?_ _)|(with_reducible refine Kd.C_drewN ?_ _)|(with_reducible refine Kd.C_drew ?_)));(case side2=>exact HC0_0.out);(case side3=>repeat (first|exact (Kd.C_below HR2.out HB.out)|(with_reducible refine Kd.C_alloc ?_ _)|(with_reducible refine Kd.C_drewN ?_ _)|(with_reducible refine Kd.C_drew ?_)));(case side4=>exact HC2.out);(case side5=>repeat (first|exact (Kd.C_below HR1_3.out HB.out)|(with_reducible refine Kd.C_alloc ?_ _)|(with_reducible refine Kd.C_drewN ?_ _)|(with_reducible refine Kd.C_drew ?_)));(case side6=>exact HC1_3.out);rintro e w38 ⟨rfl,hb⟩;have n0_:=Aside0.mk (blk_below (g:=gb239) (o:=.cells #[.slice A0_0 l0_0.length c0_0,.int .i64 a0_1,.int .i64 a0_2,.int .i64 a0_3] 33 (0,0)) (blk_up BK239.out) hb);have n1_:=Aside0.mk (blk_below (g:=gb240) (o:=.cells #[.bool false,.bool true,.slice A1_2 l1_2.length c1_2,.slice A1_3 l1_3.length c1_3] 29 (0,0)) (blk_up BK240.out) hb);have n2_:=Aside0.mk (below_step (by repeat (first|(with_reducible first|exact HB.out|apply below_alloc|apply pw_below_drewN|apply below_drew1|refine below_set ?_ GE239.out|refine below_set ?_ GE240.out)|exact HB.out)) hb);clear BK239;clear BK240;clear HB;have BK239:=n0_;have BK240:=n1_;have HB:=n2_;clear n0_ n1_ n2_;(try clear hb);(try clear hb2);(try clear hk);(try clear hi)))
   go_ret
   exact ⟨by first|rfl|(simp [errW_none,errW_some] <;> rfl)|(simp [*,errW_none,errW_some] <;> rfl),by repeat (first|(with_reducible first|exact HB.out|apply below_alloc|apply pw_below_drewN|apply below_drew1|refine below_set ?_ GE239.out|refine below_set ?_ GE240.out)|exact HB.out)⟩
  ·replace c31:=Bool.eq_false_iff.mpr c31
   subst c31
   have H1 : (some true)=some r:=by rw [if_neg (show ¬ (false=true) by decide)] at H;exact H
   clear H
   have H:=H1
   clear H1
   obtain rfl:=Option.some.inj H
   go_enter Try.func12,Try.ntmps12
   go_wp2_with (first|((with_reducible refine gate_dst (N:=3) rfl ?_);refine box_event ?hg (N:=3) ?hd (cs:=#[.slice A0_0 l0_0.length c0_0,.int .i64 a0_1,.int .i64 a0_2,.int .i64 a0_3]) (t:=33) ?hr ?_;(case hd=>rfl);(case hg=>rfl);(case hr=>first|(go_simp;done)|(go_simp;rfl));intro gb239 hg w39 hbox hb;have n0_:=Aside0.mk (below_step (below_up HB.out) hb);have n1_:=Aside0.mk (hbox);have n2_:=Aside0.mk ((by rw [hg];exact (below_size (below_up HB.out)) : w.heap.size≤gb239));have n3_:=Aside0.mk ((by rw [hg];exact (below_size (below_up HB.out)) : w.heap.size≤gb239));clear HB;have HB:=n0_;have BK239:=n1_;have GW239:=n2_;have GE239:=n3_;clear n0_ n1_ n2_ n3_;clear hb hbox hg)|((with_reducible refine gate_dst (N:=4) rfl ?_);refine box_event ?hg (N:=4) ?hd (cs:=#[.bool false,.bool false,.slice A1_2 l1_2.length c1_2,.slice A1_3 l1_3.length c1_3]) (t:=29) ?hr ?_;(case hd=>rfl);(case hg=>rfl);(case hr=>first|(go_simp;done)|(go_simp;rfl));intro gb240 hg w40 hbox hb;have n0_:=Aside0.mk (blk_below (g:=gb239) (o:=.cells #[.slice A0_0 l0_0.length c0_0,.int .i64 a0_1,.int .i64 a0_2,.int .i64 a0_3] 33 (0,0)) (blk_up BK239.out) hb);have n1_:=Aside0.mk (below_step (by repeat (first|(with_reducible first|exact HB.out|apply below_alloc|apply pw_below_drewN|apply below_drew1|refine below_set ?_ GE239.out)|exact HB.out)) hb);have n2_:=Aside0.mk (hbox);have n3_:=Aside0.mk ((by rw [hg];exact (below_size (by repeat (first|(with_reducible first|exact HB.out|apply below_alloc|apply pw_below_drewN|apply below_drew1|refine below_set ?_ GE239.out)|exact HB.out))) : w.heap.size≤gb240));have n4_:=Aside0.mk ((by rw [hg];exact (below_size (by repeat (first|(with_reducible first|exact HB.out|apply below_alloc|apply pw_below_drewN|apply below_drew1|refine below_set ?_ GE239.out)|exact HB.out))) : w.heap.size≤gb240));have n5_:=Aside0.mk ((by rw [hg];exact Nat.ne_of_lt (blk_lt (g:=gb239) (o:=.cells #[.slice A0_0 l0_0.length c0_0,.int .i64 a0_1,.int .i64 a0_2,.int .i64 a0_3] 33 (0,0)) (blk_up BK239.out)) : gb239≠gb240));have n6_:=Aside0.mk ((by rw [hg];exact Nat.ne_of_gt (blk_lt (g:=gb239) (o:=.cells #[.slice A0_0 l0_0.length c0_0,.int .i64 a0_1,.int .i64 a0_2,.int .i64 a0_3] 33 (0,0)) (blk_up BK239.out)) : gb240≠gb239));clear BK239;clear HB;have BK239:=n0_;have HB:=n1_;have BK240:=n2_;have GW240:=n3_;have GE240:=n4_;have NB239_240:=n5_;have NB240_239:=n6_;clear n0_ n1_ n2_ n3_ n4_ n5_ n6_;clear hb hbox hg;have hnb41:=NB240_239.out;have hnc41:=NB239_240.out;have hcz42_0 : w40.cell? ⟨gb240,0,none⟩=some (.bool false):=(blk_cell BK240.out 0).trans rfl;have hcz42_1 : w40.cell? ⟨gb240,1,none⟩=some (.bool false):=(blk_cell BK240.out 1).trans rfl;have hcz42_2 : w40.cell? ⟨gb240,2,none⟩=some (.slice A1_2 l1_2.length c1_2):=(blk_cell BK240.out 2).trans rfl;have hcz42_3 : w40.cell? ⟨gb240,3,none⟩=some (.slice A1_3 l1_3.length c1_3):=(blk_cell BK240.out 3).trans rfl;have hfz42_0:=blk_frozen BK240.out 0;have hfz42_1:=blk_frozen BK240.out 1;have hfz42_2:=blk_frozen BK240.out 2;have hfz42_3:=blk_frozen BK240.out 3))
   go_ret
   exact ⟨by first|rfl|(simp [errW_none,errW_some] <;> rfl)|(simp [*,errW_none,errW_some] <;> rfl),by repeat (first|(with_reducible first|exact HB.out|apply below_alloc|apply pw_below_drewN|apply below_drew1|refine below_set ?_ GE239.out|refine below_set ?_ GE240.out)|exact HB.out)⟩
end Go.Proofs.Ytfccebnoflhkcaa.P

