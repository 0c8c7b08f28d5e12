/- Texts of GrainBack. Merged: Px6. -/
import Derived.Test.YthoelihgpkffiaaQGrainBackPx0
namespace Go.Proofs.Ythoelihgpkffiaa.P
open Go.RowKit Go.Proofs.YthoelihgpkffiaaW.PrintWords Go.Proofs.YthoelihgpkffiaaW.PrintLast Go.Proofs.YthoelihgpkffiaaW.PrintMore
attribute [local go_sem] max2_int min2_int max_two min_two max_three min_three max_four min_four   -- for this text's walks alone
set_option linter.unusedVariables false
set_option linter.unusedSimpArgs false
mutual
def thresherref04_Fit.l0 : Nat→List (S45)→List (S45)→Int→List Int→Int→Int→Int→Option ((List (S45)))
 | 0,_,_,_,_,_,_,_=>none
 | k + 1,x1,x5,x6,x196000,x196001,x196002,x196003=>if x6 < (x196000.length : Int) then (if x6 < (x1.length : Int) then (if 0≤x6 then (thresherref04_Fit.j1 k x1 x5 x6 x196000 x196001 x196002 x196003 ((rd_T45 x1 x6).f0) ((rd_T45 x1 x6).f1)) else (none)) else (thresherref04_Fit.j1 k x1 x5 x6 x196000 x196001 x196002 x196003 0 (⟨#[]⟩ : ByteArray))) else (some x5)
def thresherref04_Fit.j1 : Nat→List (S45)→List (S45)→Int→List Int→Int→Int→Int→Int→ByteArray→Option ((List (S45)))
 | 0,_,_,_,_,_,_,_,_,_=>none
 | k + 1,x1,x5,x6,x196000,x196001,x196002,x196003,x200000,x200001=>if 0≤x6 then (if x6 < (x196000.length : Int) then (if (rd x196000 x6)=3 then (if (x200001.size : Int) > 60 then (if 0≤60 then (if 60≤(x200001.size : Int) then (if x5.length < 5864062014805 then (thresherref04_Fit.l0 k x1 (x5 ++ [(⟨0,x200001.extract 0 60⟩ : S45)]) (wrap64 (x6 + 1)) x196000 x196001 x196002 x196003) else (none)) else (none)) else (none)) else (if x5.length < 5864062014805 then (thresherref04_Fit.l0 k x1 (x5 ++ [(⟨0,x200001⟩ : S45)]) (wrap64 (x6 + 1)) x196000 x196001 x196002 x196003) else (none))) else (if x5.length < 5864062014805 then (thresherref04_Fit.l0 k x1 (x5 ++ [(⟨x200000,(⟨#[]⟩ : ByteArray)⟩ : S45)]) (wrap64 (x6 + 1)) x196000 x196001 x196002 x196003) else (none))) else (none)) else (none)
end
def thresherref04_Fit.f (k : Nat) (l0_0 : List Int) (a0_1 : Int) (a0_2 : Int) (a0_3 : Int) (l1 : List (S45)) : Option ((List (S45))):=thresherref04_Fit.l0 k l1 (([] : List (S45))) 0 l0_0 a0_1 a0_2 a0_3
theorem thresherref04_Fit.mono_l : ∀ k,(∀ y0 y1 y2 y3 y4 y5 y6,LeO (thresherref04_Fit.l0 k y0 y1 y2 y3 y4 y5 y6) (thresherref04_Fit.l0 (k + 1) y0 y1 y2 y3 y4 y5 y6))∧(∀ y0 y1 y2 y3 y4 y5 y6 y7 y8,LeO (thresherref04_Fit.j1 k y0 y1 y2 y3 y4 y5 y6 y7 y8) (thresherref04_Fit.j1 (k + 1) y0 y1 y2 y3 y4 y5 y6 y7 y8))
 | 0=>⟨fun _ _ _ _ _ _ _ r h=>by simp [thresherref04_Fit.l0] at h,fun _ _ _ _ _ _ _ _ _ r h=>by simp [thresherref04_Fit.j1] at h⟩
 | k + 1=>by
  obtain ⟨ih0,ih1⟩:=thresherref04_Fit.mono_l k
  refine ⟨?_,?_⟩
  ·intro y0 y1 y2 y3 y4 y5 y6
   unfold thresherref04_Fit.l0
   repeat' first
   | (with_reducible exact ih0 _ _ _ _ _ _ _)
   | (with_reducible exact ih1 _ _ _ _ _ _ _ _ _)
   | (with_reducible exact LeO.refl _)
   | (with_reducible exact LeO.none _)
   | (with_reducible refine LeO.ite ?_ ?_)
   | (with_reducible refine LeO.bind ?_ (fun _=>?_))
   | exact ih0 _ _ _ _ _ _ _
   | exact ih1 _ _ _ _ _ _ _ _ _
   | exact LeO.none _
   | refine LeO.ite ?_ ?_
   | refine LeO.bind ?_ (fun _=>?_)
  ·intro y0 y1 y2 y3 y4 y5 y6 y7 y8
   unfold thresherref04_Fit.j1
   repeat' first
   | (with_reducible exact ih0 _ _ _ _ _ _ _)
   | (with_reducible exact ih1 _ _ _ _ _ _ _ _ _)
   | (with_reducible exact LeO.refl _)
   | (with_reducible exact LeO.none _)
   | (with_reducible refine LeO.ite ?_ ?_)
   | (with_reducible refine LeO.bind ?_ (fun _=>?_))
   | exact ih0 _ _ _ _ _ _ _
   | exact ih1 _ _ _ _ _ _ _ _ _
   | exact LeO.none _
   | refine LeO.ite ?_ ?_
   | refine LeO.bind ?_ (fun _=>?_)
theorem thresherref04_Fit.mono : ∀ a0 a1 a2 a3 a4 k,LeO (thresherref04_Fit.f k a0 a1 a2 a3 a4) (thresherref04_Fit.f (k + 1) a0 a1 a2 a3 a4):=by
 intro a0 a1 a2 a3 a4 k
 obtain ⟨ih0,ih1⟩:=thresherref04_Fit.mono_l k
 unfold thresherref04_Fit.f
 repeat' first
   | (with_reducible exact ih0 _ _ _ _ _ _ _)
   | (with_reducible exact ih1 _ _ _ _ _ _ _ _ _)
   | (with_reducible exact LeO.refl _)
   | (with_reducible exact LeO.none _)
   | (with_reducible refine LeO.ite ?_ ?_)
   | (with_reducible refine LeO.bind ?_ (fun _=>?_))
   | exact ih0 _ _ _ _ _ _ _
   | exact ih1 _ _ _ _ _ _ _ _ _
   | exact LeO.none _
   | refine LeO.ite ?_ ?_
   | refine LeO.bind ?_ (fun _=>?_)
set_option maxHeartbeats 8000000 in
set_option maxRecDepth 100000 in
theorem thresherref04_Fit.calls (k : Nat) (A0_0 : Option Addr) (c0_0 : Nat) (l0_0 : List Int) (a0_1 : Int) (a0_2 : Int) (a0_3 : Int) (A1 : Option Addr) (c1 : Nat) (l1 : List (S45)) (r : List (S45)) (w : World) (hr0_0 : Kd.C (Kd.int .i64) w A0_0 l0_0.length l0_0) (hc0_0 : l0_0.length≤c0_0) (hr1 : Kd.C k45 w A1 l1.length l1) (hc1 : l1.length≤c1) (h : thresherref04_Fit.f k l0_0 a0_1 a0_2 a0_3 l1=some r) :
  Calls Try.prog 25 #[.agg #[.slice A0_0 l0_0.length c0_0,.int .i64 a0_1,.int .i64 a0_2,.int .i64 a0_3],.slice A1 l1.length c1] w fun e w'=>∃ v0_ : Value,e=.returned (v0_)∧Kd.R k45 45 w' w.heap.size (fun _=>True) v0_ r∧Below w.heap.size w w':=by
 have hu29:=Try.underlying29
 have hu45:=Try.underlying45
 have HR0_0:=Aside0.mk hr0_0
 have HC0_0:=Aside0.mk hc0_0
 clear hr0_0 hc0_0
 have HR1:=Aside0.mk hr1
 have HC1:=Aside0.mk hc1
 clear hr1 hc1
 have HB:=Aside0.mk (Below.refl w.heap.size w)
 have H : (thresherref04_Fit.l0 k l1 (([] : List (S45))) 0 l0_0 a0_1 a0_2 a0_3)=some r:=h
 clear h
 obtain ⟨y196,hy196⟩ : ∃ y_ : List (S45),y_=(([] : List (S45))):=⟨_,rfl⟩
 replace H : (thresherref04_Fit.l0 k l1 y196 0 l0_0 a0_1 a0_2 a0_3)=some r:=by first|(rw [hy196];with_reducible exact H)|(have H2_:=(Option.bind_some _ _).symm.trans H;rw [hy196];with_reducible exact H2_)|(have H2_:=(Option.bind_some _ _).symm.trans H;with_reducible exact H2_)|with_reducible exact H|(rw [hy196];exact H)|exact H
 have Ny196:=Aside0.mk hy196
 clear hy196
 have H':=Aside0.mk H
 clear H
 go_enter Try.func25,Try.ntmps25
 go_wp2_with (first|((with_reducible refine gate_dst (N:=2) rfl ?_);refine box_event ?hg (N:=2) ?hd (cs:=#[.slice A0_0 l0_0.length c0_0,.int .i64 a0_1,.int .i64 a0_2,.int .i64 a0_3]) (t:=29) ?hr ?_;(case hd=>rfl);(case hg=>rfl);(case hr=>first|(go_simp;done)|(go_simp;rfl));intro gb195 hg w3 hbox hb;have n0_:=Aside0.mk (below_step (below_up HB.out) hb);have n1_:=Aside0.mk (hbox);have n2_:=Aside0.mk ((by rw [hg];exact (below_size (below_up HB.out)) : w.heap.size≤gb195));have n3_:=Aside0.mk ((by rw [hg];exact (below_size (below_up HB.out)) : w.heap.size≤gb195));clear HB;have HB:=n0_;have BK195:=n1_;have GW195:=n2_;have GE195:=n3_;clear n0_ n1_ n2_ n3_;clear hb hbox hg)|((with_reducible refine gate_dst (N:=9) rfl ?_);refine Kd.R_lit k45 _ 45 ?hg (N:=9) ?hd (xs:=([] : List (S45))) (inner:=[]) (ok:=fun _=>True) (okp:=fun _=>True) ?hr ?hp (fun _ hk=>hk) trivial (Below.refl _ _) (Nat.le_refl _) (by simp) ?_;(case hd=>rfl);(case hg=>rfl);(case hr=>first|(go_simp;done)|(go_simp;rfl));(case hp=>exact (Reps.none _ _));intro v197 w4 ho5 hb hg_ hnew_;clear hg_ hnew_;(first|rw [← Ny196.out] at ho5|(simp only [Int.reduceToNat] at ho5;rw [← Ny196.out] at ho5));have n0_:=Aside0.mk (Kd.R_lower ho5 (below_size (by repeat (first|(with_reducible first|exact HB.out|apply below_alloc|apply pw_below_drewN|apply below_drew1|refine below_set ?_ GE195.out)|exact HB.out))));have n1_:=Aside0.mk (blk_below (g:=gb195) (o:=.cells #[.slice A0_0 l0_0.length c0_0,.int .i64 a0_1,.int .i64 a0_2,.int .i64 a0_3] 29 (0,0)) (blk_up BK195.out) hb);have n2_:=Aside0.mk (below_step (by repeat (first|(with_reducible first|exact HB.out|apply below_alloc|apply pw_below_drewN|apply below_drew1|refine below_set ?_ GE195.out)|exact HB.out)) hb);clear BK195;clear HB;have HO198:=n0_;have BK195:=n1_;have HB:=n2_;clear n0_ n1_ n2_;clear hb ho5))
 go_loopg [5,6] k (fun kq v5 v6 w'=>∃ (x5_1 : List (S45)) (x6_1 : Int),v6=.int .i64 x6_1∧Aside0 (thresherref04_Fit.l0 kq l1 x5_1 x6_1 l0_0 a0_1 a0_2 a0_3=some r)∧Aside0 (kq≤k)∧Aside0 (Kd.R k45 45 w' w.heap.size (fun _=>True) v5 x5_1)∧Aside0 (w'.heap[gb195]?=some (.cells #[(.slice A0_0 l0_0.length c0_0),.int .i64 a0_1,.int .i64 a0_2,.int .i64 a0_3] 29 (0,0)))∧Aside0 (Below w.heap.size w w'))
 case atStart=>exact ⟨(y196),(0),(by first|rfl|(simp;done)|(simp [*];done)),H',⟨Nat.le_refl _⟩,⟨by (with_reducible repeat (first|apply Kd.R_alloc|apply Kd.R_drewN|apply Kd.R_drew));exact HO198.out⟩,⟨by (with_reducible repeat (first|refine blk_drewN ?_ _|refine blk_drew ?_|refine blk_alloc ?_ _));exact BK195.out⟩,⟨by repeat (first|(with_reducible first|exact HB.out|apply below_alloc|apply pw_below_drewN|apply below_drew1|refine below_set ?_ GE195.out)|exact HB.out)⟩⟩
 case round =>
  clear H'
  try clear c1
  try clear c2
  try clear p2
  obtain ⟨x5_1,x6_1,rfl,HA,HK1,HO_5,BK195,HB⟩:=hrel
  cases gk with
  | zero=>exact absurd HA.out (by simp [thresherref04_Fit.l0])
  | succ k1 =>
   have H:=HA.out
   clear HA
   simp only [thresherref04_Fit.l0] at H
   by_cases c6 : x6_1 < (l0_0.length : Int)
   ·rw [if_pos c6] at H
    have c6b0 : decide (x6_1 < (l0_0.length : Int))=true:=decide_eq_true c6
    clear c6
    have HC7:=Aside0.mk H
    clear H
    have hcz8_0 : wr.cell? ⟨gb195,0,none⟩=some (.slice A0_0 l0_0.length c0_0):=(blk_cell BK195.out 0).trans rfl
    have hcz8_1 : wr.cell? ⟨gb195,1,none⟩=some (.int .i64 a0_1):=(blk_cell BK195.out 1).trans rfl
    have hcz8_2 : wr.cell? ⟨gb195,2,none⟩=some (.int .i64 a0_2):=(blk_cell BK195.out 2).trans rfl
    have hcz8_3 : wr.cell? ⟨gb195,3,none⟩=some (.int .i64 a0_3):=(blk_cell BK195.out 3).trans rfl
    have hfz8_0:=blk_frozen BK195.out 0
    have hfz8_1:=blk_frozen BK195.out 1
    have hfz8_2:=blk_frozen BK195.out 2
    have hfz8_3:=blk_frozen BK195.out 3
    go_upto_if 21 with (first|((with_reducible refine gate_dst (N:=7) rfl ?_);refine box_event ?hg (N:=7) ?hd (cs:=#[.int .i64 0,.string (⟨#[]⟩ : ByteArray)]) (t:=45) ?hr ?_;(case hd=>rfl);(case hg=>rfl);(case hr=>first|(go_simp;done)|(go_simp;rfl));intro gb199 hg w9 hbox hb;have n0_:=Aside0.mk (Kd.R_below (Kd.R_elderB (R_up HO_5.out) gb199 (Nat.le_of_eq hg.symm)) hb);have n1_:=Aside0.mk (blk_below (g:=gb195) (o:=.cells #[.slice A0_0 l0_0.length c0_0,.int .i64 a0_1,.int .i64 a0_2,.int .i64 a0_3] 29 (0,0)) (blk_up BK195.out) hb);have n2_:=Aside0.mk (below_step (by repeat (first|(with_reducible first|exact HB.out|apply below_alloc|apply pw_below_drewN|apply below_drew1|refine below_set ?_ GE195.out)|exact HB.out)) hb);have n3_:=Aside0.mk (hbox);have n4_:=Aside0.mk ((by rw [hg];exact (below_size (by repeat (first|(with_reducible first|exact HB.out|apply below_alloc|apply pw_below_drewN|apply below_drew1|refine below_set ?_ GE195.out)|exact HB.out))) : w.heap.size≤gb199));have n5_:=Aside0.mk ((by rw [hg];exact (below_size (by repeat (first|(with_reducible first|exact HB.out|apply below_alloc|apply pw_below_drewN|apply below_drew1|refine below_set ?_ GE195.out)|exact HB.out))) : w.heap.size≤gb199));have n6_:=Aside0.mk ((by rw [hg];exact Nat.ne_of_lt (blk_lt (g:=gb195) (o:=.cells #[.slice A0_0 l0_0.length c0_0,.int .i64 a0_1,.int .i64 a0_2,.int .i64 a0_3] 29 (0,0)) (blk_up BK195.out)) : gb195≠gb199));have n7_:=Aside0.mk ((by rw [hg];exact Nat.ne_of_gt (blk_lt (g:=gb195) (o:=.cells #[.slice A0_0 l0_0.length c0_0,.int .i64 a0_1,.int .i64 a0_2,.int .i64 a0_3] 29 (0,0)) (blk_up BK195.out)) : gb199≠gb195));clear HO_5;clear BK195;clear HB;have HO_5:=n0_;have BK195:=n1_;have HB:=n2_;have BK199:=n3_;have GW199:=n4_;have GE199:=n5_;have NB195_199:=n6_;have NB199_195:=n7_;clear n0_ n1_ n2_ n3_ n4_ n5_ n6_ n7_;clear hb hbox hg;have hnb10:=NB199_195.out;have hnc10:=NB195_199.out;have hcz11_0 : w9.cell? ⟨gb199,0,none⟩=some (.int .i64 0):=(blk_cell BK199.out 0).trans rfl;have hcz11_1 : w9.cell? ⟨gb199,1,none⟩=some (.string (⟨#[]⟩ : ByteArray)):=(blk_cell BK199.out 1).trans rfl;have hfz11_0:=blk_frozen BK199.out 0;have hfz11_1:=blk_frozen BK199.out 1))
    (try simp only [Act.put,List.setIfInBounds_toArray,List.set_cons_zero,List.set_cons_succ])
    go_cut [] (fun wc=>∃ (kq : Nat) (x200000_6 : Int) (x200001_6 : ByteArray),Aside0 (thresherref04_Fit.j1 kq l1 x5_1 x6_1 l0_0 a0_1 a0_2 a0_3 x200000_6 x200001_6=some r)∧Aside0 (kq≤k1)∧Aside0 (Kd.R k45 45 wc w.heap.size (fun k_=>k_≠gb199) u5 x5_1)∧Aside0 (wc.heap[gb195]?=some (.cells #[(.slice A0_0 l0_0.length c0_0),.int .i64 a0_1,.int .i64 a0_2,.int .i64 a0_3] 29 (0,0)))∧Aside0 (wc.heap[gb199]?=some (.cells #[.int .i64 x200000_6,.string x200001_6] 45 (0,0)))∧Aside0 (Below w.heap.size w wc))
    case first =>
     have H:=HC7.out
     clear HC7
     by_cases c12 : x6_1 < (l1.length : Int)
     ·rw [if_pos c12] at H
      have c12b0 : decide (x6_1 < (l1.length : Int))=true:=decide_eq_true c12
      clear c12
      (first|rw [c12b0]|(simp only [i64_w,i32_w];rw [c12b0])|skip)
      by_cases c13 : 0≤x6_1
      ·rw [if_pos c13] at H
       have c13b0 : decide (0≤x6_1)=true:=decide_eq_true c13
       clear c13
       have H':=Aside0.mk H
       clear H
       have p200 : 0≤(x6_1 : Int):=of_decide_eq_true (by first|(with_reducible assumption)|assumption)
       have q200 : x6_1 < (l1.length : Int):=of_decide_eq_true (by first|(with_reducible assumption)|assumption)
       obtain ⟨ad200,e200,hx200_0,hx200_1⟩:=at_T45 HR1.out x6_1 p200 q200
       cases e200
       have hn200_0 : ad200.block≠gb199:=Nat.ne_of_lt (Nat.lt_of_lt_of_le (by have:=World.block_lt_of_cell? _ _ hx200_0;first|rwa [add_block] at this|exact this) GW199.out)
       have hn200_1 : ad200.block≠gb199:=Nat.ne_of_lt (Nat.lt_of_lt_of_le (by have:=World.block_lt_of_cell? _ _ hx200_0;first|rwa [add_block] at this|exact this) GW199.out)
       replace hx200_0:=(HB.out.cell (World.block_lt_of_cell? w _ hx200_0)).trans hx200_0
       replace hx200_1:=(HB.out.cell (World.block_lt_of_cell? w _ hx200_1)).trans hx200_1
       replace hx200_0:=(cell_far (p:=⟨gb199,0,none⟩) (by first|(rw [add_block];exact hn200_0)|(show (Addr.add _ _).block≠_;rw [add_block];exact hn200_0)|exact hn200_0) (.int .i64 0)).trans hx200_0
       replace hx200_1:=(cell_far (p:=⟨gb199,0,none⟩) (by first|(rw [add_block];exact hn200_0)|(show (Addr.add _ _).block≠_;rw [add_block];exact hn200_0)|exact hn200_0) (.int .i64 0)).trans hx200_1
       replace hx200_0:=(cell_far (p:=⟨gb199,1,none⟩) (by first|(rw [add_block];exact hn200_1)|(show (Addr.add _ _).block≠_;rw [add_block];exact hn200_1)|exact hn200_1) (.string (⟨#[]⟩ : ByteArray))).trans hx200_0
       replace hx200_1:=(cell_far (p:=⟨gb199,1,none⟩) (by first|(rw [add_block];exact hn200_1)|(show (Addr.add _ _).block≠_;rw [add_block];exact hn200_1)|exact hn200_1) (.string (⟨#[]⟩ : ByteArray))).trans hx200_1
       clear hn200_0
       clear hn200_1
       replace p200:=eq_true p200
       replace q200:=eq_true q200
       have hnb14:=NB199_195.out
       have hnc14:=NB195_199.out
       have hcz15_0 : w9.cell? ⟨gb199,0,none⟩=some (.int .i64 0):=(blk_cell BK199.out 0).trans rfl
       have hcz15_1 : w9.cell? ⟨gb199,1,none⟩=some (.string (⟨#[]⟩ : ByteArray)):=(blk_cell BK199.out 1).trans rfl
       have hfz15_0:=blk_frozen BK199.out 0
       have hfz15_1:=blk_frozen BK199.out 1
       go_wp2
       go_meet
       case rel=>exact ⟨_,((rd_T45 l1 x6_1).f0),((rd_T45 l1 x6_1).f1),(by first|exact H'|(subst_vars;exact H')),⟨by have:=HK1.out;first|omega|exact Nat.le_refl _⟩,⟨by (with_reducible repeat (first|apply Kd.R_alloc|apply Kd.R_drewN|apply Kd.R_drew));exact Kd.R_mono (Kd.R_far (p:=⟨gb199,1,none⟩) (Kd.R_far (p:=⟨gb199,0,none⟩) (Kd.R_far (p:=⟨gb199,1,none⟩) (Kd.R_far (p:=⟨gb199,0,none⟩) (Kd.R_mono HO_5.out (fun k_ hk=>(⟨hk,hk.2⟩ : _∧k_≠gb199))) (fun _ hk=>hk.2) (.int .i64 0)) (fun _ hk=>hk.2) (.string (⟨#[]⟩ : ByteArray))) (fun _ hk=>hk.2) (.int .i64 ((rd_T45 l1 x6_1).f0))) (fun _ hk=>hk.2) (.string ((rd_T45 l1 x6_1).f1))) (fun _ hk=>hk.1.2)⟩,⟨by (with_reducible repeat (first|refine blk_drewN ?_ _|refine blk_drew ?_|refine blk_alloc ?_ _));refine blk_far ?_ NB195_199.out _;(with_reducible repeat (first|refine blk_drewN ?_ _|refine blk_drew ?_|refine blk_alloc ?_ _));refine blk_far ?_ NB195_199.out _;(with_reducible repeat (first|refine blk_drewN ?_ _|refine blk_drew ?_|refine blk_alloc ?_ _));refine blk_far ?_ NB195_199.out _;(with_reducible repeat (first|refine blk_drewN ?_ _|refine blk_drew ?_|refine blk_alloc ?_ _));refine blk_far ?_ NB195_199.out _;(with_reducible repeat (first|refine blk_drewN ?_ _|refine blk_drew ?_|refine blk_alloc ?_ _));exact BK195.out⟩,⟨by (with_reducible repeat (first|refine blk_drewN ?_ _|refine blk_drew ?_|refine blk_alloc ?_ _));refine blk_put (cs:=#[.int .i64 ((rd_T45 l1 x6_1).f0),.string (⟨#[]⟩ : ByteArray)]) ?_ 1 _ rfl;(with_reducible repeat (first|refine blk_drewN ?_ _|refine blk_drew ?_|refine blk_alloc ?_ _));refine blk_put (cs:=#[.int .i64 0,.string (⟨#[]⟩ : ByteArray)]) ?_ 0 _ rfl;(with_reducible repeat (first|refine blk_drewN ?_ _|refine blk_drew ?_|refine blk_alloc ?_ _));refine blk_put (cs:=#[.int .i64 0,.string (⟨#[]⟩ : ByteArray)]) ?_ 1 _ rfl;(with_reducible repeat (first|refine blk_drewN ?_ _|refine blk_drew ?_|refine blk_alloc ?_ _));refine blk_put (cs:=#[.int .i64 0,.string (⟨#[]⟩ : ByteArray)]) ?_ 0 _ rfl;(with_reducible repeat (first|refine blk_drewN ?_ _|refine blk_drew ?_|refine blk_alloc ?_ _));exact BK199.out⟩,⟨by repeat (first|(with_reducible first|exact HB.out|apply below_alloc|apply pw_below_drewN|apply below_drew1|refine below_set ?_ GE195.out|refine below_set ?_ GE199.out)|exact HB.out)⟩⟩
      ·rw [if_neg c13] at H
       exact absurd H (by simp)
     ·rw [if_neg c12] at H
      have c12b0 : decide (x6_1 < (l1.length : Int))=false:=decide_eq_false c12
      clear c12
      (first|rw [c12b0]|(simp only [i64_w,i32_w];rw [c12b0])|skip)
      have H':=Aside0.mk H
      clear H
      go_wp2
      go_meet
      case rel=>exact ⟨_,(0),((⟨#[]⟩ : ByteArray)),(by first|exact H'|(subst_vars;exact H')),⟨by have:=HK1.out;first|omega|exact Nat.le_refl _⟩,⟨by (with_reducible repeat (first|apply Kd.R_alloc|apply Kd.R_drewN|apply Kd.R_drew));exact Kd.R_mono (Kd.R_far (p:=⟨gb199,1,none⟩) (Kd.R_far (p:=⟨gb199,0,none⟩) (Kd.R_mono HO_5.out (fun k_ hk=>(⟨hk,hk.2⟩ : _∧k_≠gb199))) (fun _ hk=>hk.2) (.int .i64 0)) (fun _ hk=>hk.2) (.string (⟨#[]⟩ : ByteArray))) (fun _ hk=>hk.1.2)⟩,⟨by (with_reducible repeat (first|refine blk_drewN ?_ _|refine blk_drew ?_|refine blk_alloc ?_ _));refine blk_far ?_ NB195_199.out _;(with_reducible repeat (first|refine blk_drewN ?_ _|refine blk_drew ?_|refine blk_alloc ?_ _));refine blk_far ?_ NB195_199.out _;(with_reducible repeat (first|refine blk_drewN ?_ _|refine blk_drew ?_|refine blk_alloc ?_ _));exact BK195.out⟩,⟨by (with_reducible repeat (first|refine blk_drewN ?_ _|refine blk_drew ?_|refine blk_alloc ?_ _));refine blk_put (cs:=#[.int .i64 0,.string (⟨#[]⟩ : ByteArray)]) ?_ 1 _ rfl;(with_reducible repeat (first|refine blk_drewN ?_ _|refine blk_drew ?_|refine blk_alloc ?_ _));refine blk_put (cs:=#[.int .i64 0,.string (⟨#[]⟩ : ByteArray)]) ?_ 0 _ rfl;(with_reducible repeat (first|refine blk_drewN ?_ _|refine blk_drew ?_|refine blk_alloc ?_ _));exact BK199.out⟩,⟨by repeat (first|(with_reducible first|exact HB.out|apply below_alloc|apply pw_below_drewN|apply below_drew1|refine below_set ?_ GE195.out|refine below_set ?_ GE199.out)|exact HB.out)⟩⟩
    case rest =>
     clear HC7
     try clear c1
     try clear c2
     try clear p2
     try clear q2
     try clear hx2
     try clear c6
     try clear c6b0
     try clear c10
     try clear c12
     try clear c12b0
     try clear c13
     try clear c13b0
     try clear c14
     try clear hcz11_0
     try clear hcz11_1
     try clear hcz15_0
     try clear hcz15_1
     try clear hcz8_0
     try clear hcz8_1
     try clear hcz8_2
     try clear hcz8_3
     try clear hfz11_0
     try clear hfz11_1
     try clear hfz15_0
     try clear hfz15_1
     try clear hfz8_0
     try clear hfz8_1
     try clear hfz8_2
     try clear hfz8_3
     try clear hx200_0
     try clear hx200_1
     try clear p2
     try clear p200
     try clear q200
     obtain ⟨kq,x200000_6,x200001_6,HA,HJ6,HO_5,BK195,BK199,HB⟩:=hcut
     cases kq with
     | zero=>exact absurd HA.out (by simp [thresherref04_Fit.j1])
     | succ kj6 =>
      have H:=HA.out
      clear HA
      simp only [thresherref04_Fit.j1] at H
      by_cases c16 : 0≤x6_1
      ·rw [if_pos c16] at H
       have c16b0 : decide (0≤x6_1)=true:=decide_eq_true c16
       clear c16
       by_cases c17 : x6_1 < (l0_0.length : Int)
       ·rw [if_pos c17] at H
        have c17b0 : decide (x6_1 < (l0_0.length : Int))=true:=decide_eq_true c17
        clear c17
        by_cases c18 : (rd l0_0 x6_1)=3
        ·rw [if_pos c18] at H
         have c18b0 : ((rd l0_0 x6_1) == 3)=true:=beq_iff_eq.mpr c18
         have c18b1 : ((rd l0_0 x6_1) != 3)=false:=bne_eq_false_iff_eq.mpr c18
         clear c18
         by_cases c19 : (x200001_6.size : Int) > 60
         ·rw [if_pos c19] at H
          have c19b0 : decide (60 < (x200001_6.size : Int))=true:=decide_eq_true c19
          have c19b1 : decide (60 < x200001_6.size)=true:=decide_eq_true (by omega)
          clear c19
          by_cases c20 : 0≤60
          ·rw [if_pos c20] at H
           have c20b0:=eq_true c20
           have c20b1 : decide (0≤60)=true:=decide_eq_true c20
           clear c20
           by_cases c21 : 60≤(x200001_6.size : Int)
           ·rw [if_pos c21] at H
            have c21b0:=eq_true c21
            have c21b1 : decide (60≤(x200001_6.size : Int))=true:=decide_eq_true c21
            clear c21
            by_cases c22 : x5_1.length < 5864062014805
            ·rw [if_pos c22] at H
             have LMc22:=Aside0.mk c22
             clear c22
             obtain ⟨y202,hy202⟩ : ∃ y_ : List (S45),y_=(x5_1 ++ [(⟨0,x200001_6.extract 0 60⟩ : S45)]):=⟨_,rfl⟩
             replace H : (thresherref04_Fit.l0 kj6 l1 y202 (wrap64 (x6_1 + 1)) l0_0 a0_1 a0_2 a0_3)=some r:=by first|(rw [hy202];with_reducible exact H)|(have H2_:=(Option.bind_some _ _).symm.trans H;rw [hy202];with_reducible exact H2_)|(have H2_:=(Option.bind_some _ _).symm.trans H;with_reducible exact H2_)|with_reducible exact H|(rw [hy202];exact H)|exact H
             have Ny202:=Aside0.mk hy202
             clear hy202
             have H':=Aside0.mk H
             clear H
             have hnb23:=NB195_199.out
             have hnc23:=NB199_195.out
             have hcz24_0 : wc.cell? ⟨gb195,0,none⟩=some (.slice A0_0 l0_0.length c0_0):=(blk_cell BK195.out 0).trans rfl
             have hcz24_1 : wc.cell? ⟨gb195,1,none⟩=some (.int .i64 a0_1):=(blk_cell BK195.out 1).trans rfl
             have hcz24_2 : wc.cell? ⟨gb195,2,none⟩=some (.int .i64 a0_2):=(blk_cell BK195.out 2).trans rfl
             have hcz24_3 : wc.cell? ⟨gb195,3,none⟩=some (.int .i64 a0_3):=(blk_cell BK195.out 3).trans rfl
             have hfz24_0:=blk_frozen BK195.out 0
             have hfz24_1:=blk_frozen BK195.out 1
             have hfz24_2:=blk_frozen BK195.out 2
             have hfz24_3:=blk_frozen BK195.out 3
             have p201 : 0≤(x6_1 : Int):=of_decide_eq_true (by first|(with_reducible assumption)|assumption)
             have q201 : x6_1 < (l0_0.length : Int):=of_decide_eq_true (by first|(with_reducible assumption)|assumption)
             obtain ⟨ad201,e201,hx201_0⟩:=Kd.at_int HR0_0.out x6_1 p201 q201
             cases e201
             replace hx201_0:=(HB.out.cell (World.block_lt_of_cell? w _ hx201_0)).trans hx201_0
             replace p201:=eq_true p201
             replace q201:=eq_true q201
             have hcz25_0 : wc.cell? ⟨gb199,0,none⟩=some (.int .i64 x200000_6):=(blk_cell BK199.out 0).trans rfl
             have hcz25_1 : wc.cell? ⟨gb199,1,none⟩=some (.string x200001_6):=(blk_cell BK199.out 1).trans rfl
             have hfz25_0:=blk_frozen BK199.out 0
             have hfz25_1:=blk_frozen BK199.out 1
             go_wp2_with (first|((with_reducible refine gate_builtin (b:=.append) (xs:=#[.tmp 39,.tmp 42]) rfl ?_);at_builtin;refine Kd.R_append k45 (w0:=w) w.heap.size rfl (.tmp 39) (.tmp 42) 38 45 (.agg #[(.int .i64 0),(.string ⟨#[]⟩)]) 24 rfl Try.underlying38 info45 rfl (by decide) (by omega) u5 x5_1 (⟨0,x200001_6.extract 0 60⟩ : S45) [.int .i64 0,.string (x200001_6.extract 0 60)] (fun k_=>k_≠gb199) (fun _=>False) rfl rfl ?aP (fun _ hk=>hk.elim) ?aF ?aO ?aB ?aS ?aL ?_;(case aP=>exact k45_mkM _ _ _ (⟨0,x200001_6.extract 0 60⟩ : S45));(case aB=>exact (by repeat (first|(with_reducible first|exact HB.out|apply below_alloc|apply pw_below_drewN|apply below_drew1|refine below_set ?_ GE195.out|refine below_set ?_ GE199.out)|exact HB.out)));(case aF=>exact (fun k_ hk=>Kd.freshB (g:=gb199) (o:=.cells #[.int .i64 x200000_6,.string x200001_6] 45 (0,0)) (blk_up BK199.out) k_ hk));(case aO=>exact (R_up HO_5.out));(case aS=>exact (below_size (by repeat (first|(with_reducible first|exact HB.out|apply below_alloc|apply pw_below_drewN|apply below_drew1|refine below_set ?_ GE195.out|refine below_set ?_ GE199.out)|exact HB.out))));(case aL=>have:=LMc22.out;omega);intro v203 w26 ho hb hg hat;rw [← Ny202.out] at ho;have n0_:=Aside0.mk (blk_grown (g:=gb195) (o:=.cells #[.slice (some ad201) l0_0.length c0_0,.int .i64 a0_1,.int .i64 a0_2,.int .i64 a0_3] 29 (0,0)) (blk_up BK195.out) hg (Kd.R_ne HO_5.out BK195.out (by decide)));have n1_:=Aside0.mk (blk_grown (g:=gb199) (o:=.cells #[.int .i64 x200000_6,.string x200001_6] 45 (0,0)) (blk_up BK199.out) hg (Kd.R_away HO_5.out (fun _ hk=>hk)));have n2_:=Aside0.mk (hb);have n3_:=Aside0.mk (ho);clear BK195;clear BK199;clear HB;clear HO_5;have BK195:=n0_;have BK199:=n1_;have HB:=n2_;have HO204:=n3_;clear n0_ n1_ n2_ n3_;clear ho hb hg hat))
             go_roundg kj6
             case measure=>have:=HK1.out;have:=HJ6.out;omega
             case rel=>exact ⟨(y202),(wrap64 (x6_1 + 1)),(by first|rfl|(simp;done)|(simp [*];done)),(by first|exact H'|(subst_vars;exact H')),⟨by have:=HK1.out;have:=HJ6.out;omega⟩,⟨by (with_reducible repeat (first|apply Kd.R_alloc|apply Kd.R_drewN|apply Kd.R_drew));exact Kd.R_mono HO204.out (fun _ hk=>trivial)⟩,⟨by (with_reducible repeat (first|refine blk_drewN ?_ _|refine blk_drew ?_|refine blk_alloc ?_ _));exact BK195.out⟩,⟨by repeat (first|(with_reducible first|exact HB.out|apply below_alloc|apply pw_below_drewN|apply below_drew1|refine below_set ?_ GE195.out|refine below_set ?_ GE199.out)|exact HB.out)⟩⟩
            ·rw [if_neg c22] at H
             exact absurd H (by simp)
           ·rw [if_neg c21] at H
            exact absurd H (by simp)
          ·rw [if_neg c20] at H
           exact absurd H (by simp)
         ·rw [if_neg c19] at H
          have c19b0 : decide (60 < (x200001_6.size : Int))=false:=decide_eq_false c19
          have c19b1 : decide (60 < x200001_6.size)=false:=decide_eq_false (by omega)
          clear c19
          by_cases c27 : x5_1.length < 5864062014805
          ·rw [if_pos c27] at H
           have LMc27:=Aside0.mk c27
           clear c27
           obtain ⟨y205,hy205⟩ : ∃ y_ : List (S45),y_=(x5_1 ++ [(⟨0,x200001_6⟩ : S45)]):=⟨_,rfl⟩
           replace H : (thresherref04_Fit.l0 kj6 l1 y205 (wrap64 (x6_1 + 1)) l0_0 a0_1 a0_2 a0_3)=some r:=by first|(rw [hy205];with_reducible exact H)|(have H2_:=(Option.bind_some _ _).symm.trans H;rw [hy205];with_reducible exact H2_)|(have H2_:=(Option.bind_some _ _).symm.trans H;with_reducible exact H2_)|with_reducible exact H|(rw [hy205];exact H)|exact H
           have Ny205:=Aside0.mk hy205
           clear hy205
           have H':=Aside0.mk H
           clear H
           have hnb28:=NB195_199.out
           have hnc28:=NB199_195.out
           have hcz29_0 : wc.cell? ⟨gb195,0,none⟩=some (.slice A0_0 l0_0.length c0_0):=(blk_cell BK195.out 0).trans rfl
           have hcz29_1 : wc.cell? ⟨gb195,1,none⟩=some (.int .i64 a0_1):=(blk_cell BK195.out 1).trans rfl
           have hcz29_2 : wc.cell? ⟨gb195,2,none⟩=some (.int .i64 a0_2):=(blk_cell BK195.out 2).trans rfl
           have hcz29_3 : wc.cell? ⟨gb195,3,none⟩=some (.int .i64 a0_3):=(blk_cell BK195.out 3).trans rfl
           have hfz29_0:=blk_frozen BK195.out 0
           have hfz29_1:=blk_frozen BK195.out 1
           have hfz29_2:=blk_frozen BK195.out 2
           have hfz29_3:=blk_frozen BK195.out 3
           have p201 : 0≤(x6_1 : Int):=of_decide_eq_true (by first|(with_reducible assumption)|assumption)
           have q201 : x6_1 < (l0_0.length : Int):=of_decide_eq_true (by first|(with_reducible assumption)|assumption)
           obtain ⟨ad201,e201,hx201_0⟩:=Kd.at_int HR0_0.out x6_1 p201 q201
           cases e201
           replace hx201_0:=(HB.out.cell (World.block_lt_of_cell? w _ hx201_0)).trans hx201_0
           replace p201:=eq_true p201
           replace q201:=eq_true q201
           have hcz30_0 : wc.cell? ⟨gb199,0,none⟩=some (.int .i64 x200000_6):=(blk_cell BK199.out 0).trans rfl
           have hcz30_1 : wc.cell? ⟨gb199,1,none⟩=some (.string x200001_6):=(blk_cell BK199.out 1).trans rfl
           have hfz30_0:=blk_frozen BK199.out 0
           have hfz30_1:=blk_frozen BK199.out 1
           go_wp2_with (first|((with_reducible refine gate_builtin (b:=.append) (xs:=#[.tmp 39,.tmp 42]) rfl ?_);at_builtin;refine Kd.R_append k45 (w0:=w) w.heap.size rfl (.tmp 39) (.tmp 42) 38 45 (.agg #[(.int .i64 0),(.string ⟨#[]⟩)]) 24 rfl Try.underlying38 info45 rfl (by decide) (by omega) u5 x5_1 (⟨0,x200001_6⟩ : S45) [.int .i64 0,.string x200001_6] (fun k_=>k_≠gb199) (fun _=>False) rfl rfl ?aP (fun _ hk=>hk.elim) ?aF ?aO ?aB ?aS ?aL ?_;(case aP=>exact k45_mkM _ _ _ (⟨0,x200001_6⟩ : S45));(case aB=>exact (by repeat (first|(with_reducible first|exact HB.out|apply below_alloc|apply pw_below_drewN|apply below_drew1|refine below_set ?_ GE195.out|refine below_set ?_ GE199.out)|exact HB.out)));(case aF=>exact (fun k_ hk=>Kd.freshB (g:=gb199) (o:=.cells #[.int .i64 x200000_6,.string x200001_6] 45 (0,0)) (blk_up BK199.out) k_ hk));(case aO=>exact (R_up HO_5.out));(case aS=>exact (below_size (by repeat (first|(with_reducible first|exact HB.out|apply below_alloc|apply pw_below_drewN|apply below_drew1|refine below_set ?_ GE195.out|refine below_set ?_ GE199.out)|exact HB.out))));(case aL=>have:=LMc27.out;omega);intro v206 w31 ho hb hg hat;rw [← Ny205.out] at ho;have n0_:=Aside0.mk (blk_grown (g:=gb195) (o:=.cells #[.slice (some ad201) l0_0.length c0_0,.int .i64 a0_1,.int .i64 a0_2,.int .i64 a0_3] 29 (0,0)) (blk_up BK195.out) hg (Kd.R_ne HO_5.out BK195.out (by decide)));have n1_:=Aside0.mk (blk_grown (g:=gb199) (o:=.cells #[.int .i64 x200000_6,.string x200001_6] 45 (0,0)) (blk_up BK199.out) hg (Kd.R_away HO_5.out (fun _ hk=>hk)));have n2_:=Aside0.mk (hb);have n3_:=Aside0.mk (ho);clear BK195;clear BK199;clear HB;clear HO_5;have BK195:=n0_;have BK199:=n1_;have HB:=n2_;have HO207:=n3_;clear n0_ n1_ n2_ n3_;clear ho hb hg hat))
           go_roundg kj6
           case measure=>have:=HK1.out;have:=HJ6.out;omega
           case rel=>exact ⟨(y205),(wrap64 (x6_1 + 1)),(by first|rfl|(simp;done)|(simp [*];done)),(by first|exact H'|(subst_vars;exact H')),⟨by have:=HK1.out;have:=HJ6.out;omega⟩,⟨by (with_reducible repeat (first|apply Kd.R_alloc|apply Kd.R_drewN|apply Kd.R_drew));exact Kd.R_mono HO207.out (fun _ hk=>trivial)⟩,⟨by (with_reducible repeat (first|refine blk_drewN ?_ _|refine blk_drew ?_|refine blk_alloc ?_ _));exact BK195.out⟩,⟨by repeat (first|(with_reducible first|exact HB.out|apply below_alloc|apply pw_below_drewN|apply below_drew1|refine below_set ?_ GE195.out|refine below_set ?_ GE199.out)|exact HB.out)⟩⟩
          ·rw [if_neg c27] at H
           exact absurd H (by simp)
        ·rw [if_neg c18] at H
         have c18b0 : ((rd l0_0 x6_1) == 3)=false:=beq_eq_false_iff_ne.mpr c18
         have c18b1 : ((rd l0_0 x6_1) != 3)=true:=bne_iff_ne.mpr c18
         by_cases c32 : x5_1.length < 5864062014805
         ·rw [if_pos c32] at H
          have LMc32:=Aside0.mk c32
          clear c32
          obtain ⟨y208,hy208⟩ : ∃ y_ : List (S45),y_=(x5_1 ++ [(⟨x200000_6,(⟨#[]⟩ : ByteArray)⟩ : S45)]):=⟨_,rfl⟩
          replace H : (thresherref04_Fit.l0 kj6 l1 y208 (wrap64 (x6_1 + 1)) l0_0 a0_1 a0_2 a0_3)=some r:=by first|(rw [hy208];with_reducible exact H)|(have H2_:=(Option.bind_some _ _).symm.trans H;rw [hy208];with_reducible exact H2_)|(have H2_:=(Option.bind_some _ _).symm.trans H;with_reducible exact H2_)|with_reducible exact H|(rw [hy208];exact H)|exact H
          have Ny208:=Aside0.mk hy208
          clear hy208
          have H':=Aside0.mk H
          clear H
          have hnb33:=NB195_199.out
          have hnc33:=NB199_195.out
          have hcz34_0 : wc.cell? ⟨gb195,0,none⟩=some (.slice A0_0 l0_0.length c0_0):=(blk_cell BK195.out 0).trans rfl
          have hcz34_1 : wc.cell? ⟨gb195,1,none⟩=some (.int .i64 a0_1):=(blk_cell BK195.out 1).trans rfl
          have hcz34_2 : wc.cell? ⟨gb195,2,none⟩=some (.int .i64 a0_2):=(blk_cell BK195.out 2).trans rfl
          have hcz34_3 : wc.cell? ⟨gb195,3,none⟩=some (.int .i64 a0_3):=(blk_cell BK195.out 3).trans rfl
          have hfz34_0:=blk_frozen BK195.out 0
          have hfz34_1:=blk_frozen BK195.out 1
          have hfz34_2:=blk_frozen BK195.out 2
          have hfz34_3:=blk_frozen BK195.out 3
          have p201 : 0≤(x6_1 : Int):=of_decide_eq_true (by first|(with_reducible assumption)|assumption)
          have q201 : x6_1 < (l0_0.length : Int):=of_decide_eq_true (by first|(with_reducible assumption)|assumption)
          obtain ⟨ad201,e201,hx201_0⟩:=Kd.at_int HR0_0.out x6_1 p201 q201
          cases e201
          replace hx201_0:=(HB.out.cell (World.block_lt_of_cell? w _ hx201_0)).trans hx201_0
          replace p201:=eq_true p201
          replace q201:=eq_true q201
          have hcz35_0 : wc.cell? ⟨gb199,0,none⟩=some (.int .i64 x200000_6):=(blk_cell BK199.out 0).trans rfl
          have hcz35_1 : wc.cell? ⟨gb199,1,none⟩=some (.string x200001_6):=(blk_cell BK199.out 1).trans rfl
          have hfz35_0:=blk_frozen BK199.out 0
          have hfz35_1:=blk_frozen BK199.out 1
          go_wp2_with (first|((with_reducible refine gate_builtin (b:=.append) (xs:=#[.tmp 44,.tmp 48]) rfl ?_);at_builtin;refine Kd.R_append k45 (w0:=w) w.heap.size rfl (.tmp 44) (.tmp 48) 38 45 (.agg #[(.int .i64 0),(.string ⟨#[]⟩)]) 24 rfl Try.underlying38 info45 rfl (by decide) (by omega) u5 x5_1 (⟨x200000_6,(⟨#[]⟩ : ByteArray)⟩ : S45) [.int .i64 x200000_6,.string (⟨#[]⟩ : ByteArray)] (fun k_=>k_≠gb199) (fun _=>False) rfl rfl ?aP (fun _ hk=>hk.elim) ?aF ?aO ?aB ?aS ?aL ?_;(case aP=>exact k45_mkM _ _ _ (⟨x200000_6,(⟨#[]⟩ : ByteArray)⟩ : S45));(case aB=>exact (by repeat (first|(with_reducible first|exact HB.out|apply below_alloc|apply pw_below_drewN|apply below_drew1|refine below_set ?_ GE195.out|refine below_set ?_ GE199.out)|exact HB.out)));(case aF=>exact (fun k_ hk=>Kd.freshB (g:=gb199) (o:=.cells #[.int .i64 x200000_6,.string x200001_6] 45 (0,0)) (blk_up BK199.out) k_ hk));(case aO=>exact (R_up HO_5.out));(case aS=>exact (below_size (by repeat (first|(with_reducible first|exact HB.out|apply below_alloc|apply pw_below_drewN|apply below_drew1|refine below_set ?_ GE195.out|refine below_set ?_ GE199.out)|exact HB.out))));(case aL=>have:=LMc32.out;omega);intro v209 w36 ho hb hg hat;rw [← Ny208.out] at ho;have n0_:=Aside0.mk (blk_grown (g:=gb195) (o:=.cells #[.slice (some ad201) l0_0.length c0_0,.int .i64 a0_1,.int .i64 a0_2,.int .i64 a0_3] 29 (0,0)) (blk_up BK195.out) hg (Kd.R_ne HO_5.out BK195.out (by decide)));have n1_:=Aside0.mk (blk_grown (g:=gb199) (o:=.cells #[.int .i64 x200000_6,.string x200001_6] 45 (0,0)) (blk_up BK199.out) hg (Kd.R_away HO_5.out (fun _ hk=>hk)));have n2_:=Aside0.mk (hb);have n3_:=Aside0.mk (ho);clear BK195;clear BK199;clear HB;clear HO_5;have BK195:=n0_;have BK199:=n1_;have HB:=n2_;have HO210:=n3_;clear n0_ n1_ n2_ n3_;clear ho hb hg hat))
          go_roundg kj6
          case measure=>have:=HK1.out;have:=HJ6.out;omega
          case rel=>exact ⟨(y208),(wrap64 (x6_1 + 1)),(by first|rfl|(simp;done)|(simp [*];done)),(by first|exact H'|(subst_vars;exact H')),⟨by have:=HK1.out;have:=HJ6.out;omega⟩,⟨by (with_reducible repeat (first|apply Kd.R_alloc|apply Kd.R_drewN|apply Kd.R_drew));exact Kd.R_mono HO210.out (fun _ hk=>trivial)⟩,⟨by (with_reducible repeat (first|refine blk_drewN ?_ _|refine blk_drew ?_|refine blk_alloc ?_ _));exact BK195.out⟩,⟨by repeat (first|(with_reducible first|exact HB.out|apply below_alloc|apply pw_below_drewN|apply below_drew1|refine below_set ?_ GE195.out|refine below_set ?_ GE199.out)|exact HB.out)⟩⟩
         ·rw [if_neg c32] at H
          exact absurd H (by simp)
       ·rw [if_neg c17] at H
        exact absurd H (by simp)
      ·rw [if_neg c16] at H
       exact absurd H (by simp)
   ·rw [if_neg c6] at H
    have c6b0 : decide (x6_1 < (l0_0.length : Int))=false:=decide_eq_false c6
    clear c6
    obtain rfl:=Option.some.inj H
    have hcz37_0 : wr.cell? ⟨gb195,0,none⟩=some (.slice A0_0 l0_0.length c0_0):=(blk_cell BK195.out 0).trans rfl
    have hcz37_1 : wr.cell? ⟨gb195,1,none⟩=some (.int .i64 a0_1):=(blk_cell BK195.out 1).trans rfl
    have hcz37_2 : wr.cell? ⟨gb195,2,none⟩=some (.int .i64 a0_2):=(blk_cell BK195.out 2).trans rfl
    have hcz37_3 : wr.cell? ⟨gb195,3,none⟩=some (.int .i64 a0_3):=(blk_cell BK195.out 3).trans rfl
    have hfz37_0:=blk_frozen BK195.out 0
    have hfz37_1:=blk_frozen BK195.out 1
    have hfz37_2:=blk_frozen BK195.out 2
    have hfz37_3:=blk_frozen BK195.out 3
    go_wp2
    go_ret
    exact ⟨_,by first|rfl|(simp [errW_none,errW_some] <;> rfl)|(simp [*,errW_none,errW_some] <;> rfl),by (with_reducible repeat (first|apply Kd.R_alloc|apply Kd.R_drewN|apply Kd.R_drew));exact HO_5.out,by repeat (first|(with_reducible first|exact HB.out|apply below_alloc|apply pw_below_drewN|apply below_drew1|refine below_set ?_ GE195.out)|exact HB.out)⟩
def thresherref04_Fits.l0 : Nat→List (List (S45))→Int→List (List (S45))→Int→List Int→Int→Int→Int→Option ((List (List (S45))))
 | 0,_,_,_,_,_,_,_,_=>none
 | k + 1,x1,x2,x7,x8,x212000,x212001,x212002,x212003=>if x8 < (x1.length : Int) then (if x8 < x2 then (if 0≤x8 then ((thresherref04_Fit.f k x212000 x212001 x212002 x212003 (rd_L3 x1 x8)).bind fun t216=>(if x7.length < 5864062014805 then (thresherref04_Fits.l0 k x1 x2 (x7 ++ [t216]) (wrap64 (x8 + 1)) x212000 x212001 x212002 x212003) else (none))) else (none)) else (some x7)) else (some x7)
def thresherref04_Fits.f (k : Nat) (l0_0 : List Int) (a0_1 : Int) (a0_2 : Int) (a0_3 : Int) (l1 : List (List (S45))) (a2 : Int) : Option ((List (List (S45)))):=thresherref04_Fits.l0 k l1 a2 (([] : List (List (S45)))) 0 l0_0 a0_1 a0_2 a0_3
theorem thresherref04_Fits.mono_l : ∀ k,(∀ y0 y1 y2 y3 y4 y5 y6 y7,LeO (thresherref04_Fits.l0 k y0 y1 y2 y3 y4 y5 y6 y7) (thresherref04_Fits.l0 (k + 1) y0 y1 y2 y3 y4 y5 y6 y7))
 | 0=>fun _ _ _ _ _ _ _ _ r h=>by simp [thresherref04_Fits.l0] at h
 | k + 1=>by
  have ih0:=thresherref04_Fits.mono_l k
  ·intro y0 y1 y2 y3 y4 y5 y6 y7
   unfold thresherref04_Fits.l0
   repeat' first
   | (with_reducible exact ih0 _ _ _ _ _ _ _ _)
   | (with_reducible exact thresherref04_Fit.mono _ _ _ _ _ _)
   | (with_reducible exact LeO.refl _)
   | (with_reducible exact LeO.none _)
   | (with_reducible refine LeO.ite ?_ ?_)
   | (with_reducible refine LeO.bind ?_ (fun _=>?_))
   | exact ih0 _ _ _ _ _ _ _ _
   | exact thresherref04_Fit.mono _ _ _ _ _ _
   | exact LeO.none _
   | refine LeO.ite ?_ ?_
   | refine LeO.bind ?_ (fun _=>?_)
theorem thresherref04_Fits.mono : ∀ a0 a1 a2 a3 a4 a5 k,LeO (thresherref04_Fits.f k a0 a1 a2 a3 a4 a5) (thresherref04_Fits.f (k + 1) a0 a1 a2 a3 a4 a5):=by
 intro a0 a1 a2 a3 a4 a5 k
 have ih0:=thresherref04_Fits.mono_l k
 unfold thresherref04_Fits.f
 repeat' first
   | (with_reducible exact ih0 _ _ _ _ _ _ _ _)
   | (with_reducible exact thresherref04_Fit.mono _ _ _ _ _ _)
   | (with_reducible exact LeO.refl _)
   | (with_reducible exact LeO.none _)
   | (with_reducible refine LeO.ite ?_ ?_)
   | (with_reducible refine LeO.bind ?_ (fun _=>?_))
   | exact ih0 _ _ _ _ _ _ _ _
   | exact thresherref04_Fit.mono _ _ _ _ _ _
   | exact LeO.none _
   | refine LeO.ite ?_ ?_
   | refine LeO.bind ?_ (fun _=>?_)
def thresherref04_Fits.T5 : Bool × List (List Nat × List Nat):=(true,[([],[]),([],[]),([],[]),([],[]),([2,3],[2,3]),([4],[4]),([1,5],[1,5]),([6],[6]),([0,7,6],[0,7]),([8,8,0,1,2,3,4,5,6,7,8],[0,8])])
def thresherref04_Fits.B5 : List Nat:=[0,0,0,0,12,28,62,126,255,511]
theorem thresherref04_Fits.tab5 : rtab .any (opsOf Try.f10 5)=thresherref04_Fits.T5:=by kernel_rfl
theorem thresherref04_Fits.bits5 : waitsOk thresherref04_Fits.T5.2 thresherref04_Fits.B5=true:=by kernel_rfl
set_option maxHeartbeats 8000000 in
set_option maxRecDepth 100000 in
theorem thresherref04_Fits.calls (k : Nat) (A0_0 : Option Addr) (c0_0 : Nat) (l0_0 : List Int) (a0_1 : Int) (a0_2 : Int) (a0_3 : Int) (A1 : Option Addr) (c1 : Nat) (l1 : List (List (S45))) (a2 : Int) (r : List (List (S45))) (w : World) (hr0_0 : Kd.C (Kd.int .i64) w A0_0 l0_0.length l0_0) (hc0_0 : l0_0.length≤c0_0) (hr1 : Kd.C (Kd.slice 45 k45) w A1 l1.length l1) (hc1 : l1.length≤c1) (h : thresherref04_Fits.f k l0_0 a0_1 a0_2 a0_3 l1 a2=some r) :
  Calls Try.prog 10 #[.agg #[.slice A0_0 l0_0.length c0_0,.int .i64 a0_1,.int .i64 a0_2,.int .i64 a0_3],.slice A1 l1.length c1,.int .i64 a2] w fun e w'=>∃ v0_ : Value,e=.returned (v0_)∧Kd.S (Kd.slice 45 k45) 38 w' w.heap.size (fun _=>True) v0_ r∧Below w.heap.size w w':=by
 have hu29:=Try.underlying29
 have HR0_0:=Aside0.mk hr0_0
 have HC0_0:=Aside0.mk hc0_0
 clear hr0_0 hc0_0
 have HR1:=Aside0.mk hr1
 have HC1:=Aside0.mk hc1
 clear hr1 hc1
 have HB:=Aside0.mk (Below.refl w.heap.size w)
 have H : (thresherref04_Fits.l0 k l1 a2 (([] : List (List (S45)))) 0 l0_0 a0_1 a0_2 a0_3)=some r:=h
 clear h
 obtain ⟨y212,hy212⟩ : ∃ y_ : List (List (S45)),y_=(([] : List (List (S45)))):=⟨_,rfl⟩
 replace H : (thresherref04_Fits.l0 k l1 a2 y212 0 l0_0 a0_1 a0_2 a0_3)=some r:=by first|(rw [hy212];with_reducible exact H)|(have H2_:=(Option.bind_some _ _).symm.trans H;rw [hy212];with_reducible exact H2_)|(have H2_:=(Option.bind_some _ _).symm.trans H;with_reducible exact H2_)|with_reducible exact H|(rw [hy212];exact H)|exact H
 have Ny212:=Aside0.mk hy212
 clear hy212
 have H':=Aside0.mk H
 clear H
 go_enter Try.func10,Try.ntmps10
 go_wp2_with (first|((with_reducible refine gate_dst (N:=3) rfl ?_);refine box_event ?hg (N:=3) ?hd (cs:=#[.slice A0_0 l0_0.length c0_0,.int .i64 a0_1,.int .i64 a0_2,.int .i64 a0_3]) (t:=29) ?hr ?_;(case hd=>rfl);(case hg=>rfl);(case hr=>first|(go_simp;done)|(go_simp;rfl));intro gb211 hg w4 hbox hb;have n0_:=Aside0.mk (below_step (below_up HB.out) hb);have n1_:=Aside0.mk (hbox);have n2_:=Aside0.mk ((by rw [hg];exact (below_size (below_up HB.out)) : w.heap.size≤gb211));have n3_:=Aside0.mk ((by rw [hg];exact (below_size (below_up HB.out)) : w.heap.size≤gb211));clear HB;have HB:=n0_;have BK211:=n1_;have GW211:=n2_;have GE211:=n3_;clear n0_ n1_ n2_ n3_;clear hb hbox hg)|((with_reducible refine gate_dst (N:=9) rfl ?_);refine Kd.S_lit (Kd.slice 45 k45) _ 38 ?hg (N:=9) ?hd (xs:=([] : List (List (S45)))) (inner:=[]) (ok:=fun _=>True) (okp:=fun _=>True) ?hr ?hp (fun _ hk=>hk) trivial (Below.refl _ _) (Nat.le_refl _) (by simp) ?_;(case hd=>rfl);(case hg=>rfl);(case hr=>first|(go_simp;done)|(go_simp;rfl));(case hp=>exact (Reps.none _ _));intro v213 w5 ho6 hb hg_ hnew_;clear hg_ hnew_;(first|rw [← Ny212.out] at ho6|(simp only [Int.reduceToNat] at ho6;rw [← Ny212.out] at ho6));have n0_:=Aside0.mk (Kd.S_lower ho6 (below_size (by repeat (first|(with_reducible first|exact HB.out|apply below_alloc|apply pw_below_drewN|apply below_drew1|refine below_set ?_ GE211.out)|exact HB.out))));have n1_:=Aside0.mk (blk_below (g:=gb211) (o:=.cells #[.slice A0_0 l0_0.length c0_0,.int .i64 a0_1,.int .i64 a0_2,.int .i64 a0_3] 29 (0,0)) (blk_up BK211.out) hb);have n2_:=Aside0.mk (below_step (by repeat (first|(with_reducible first|exact HB.out|apply below_alloc|apply pw_below_drewN|apply below_drew1|refine below_set ?_ GE211.out)|exact HB.out)) hb);clear BK211;clear HB;have HO214:=n0_;have BK211:=n1_;have HB:=n2_;clear n0_ n1_ n2_;clear hb ho6))
 go_loopg [7,8] k (fun kq v7 v8 w'=>∃ (x7_1 : List (List (S45))) (x8_1 : Int),v8=.int .i64 x8_1∧Aside0 (thresherref04_Fits.l0 kq l1 a2 x7_1 x8_1 l0_0 a0_1 a0_2 a0_3=some r)∧Aside0 (kq≤k)∧Aside0 (Kd.S (Kd.slice 45 k45) 38 w' w.heap.size (fun _=>True) v7 x7_1)∧Aside0 (w'.heap[gb211]?=some (.cells #[(.slice A0_0 l0_0.length c0_0),.int .i64 a0_1,.int .i64 a0_2,.int .i64 a0_3] 29 (0,0)))∧Aside0 (Below w.heap.size w w'))
 case atStart=>exact ⟨(y212),(0),(by first|rfl|(simp;done)|(simp [*];done)),H',⟨Nat.le_refl _⟩,⟨by (with_reducible repeat (first|apply Kd.S_alloc|apply Kd.S_drewN|apply Kd.S_drew));exact HO214.out⟩,⟨by (with_reducible repeat (first|refine blk_drewN ?_ _|refine blk_drew ?_|refine blk_alloc ?_ _));exact BK211.out⟩,⟨by repeat (first|(with_reducible first|exact HB.out|apply below_alloc|apply pw_below_drewN|apply below_drew1|refine below_set ?_ GE211.out)|exact HB.out)⟩⟩
 case round =>
  clear H'
  try clear c1
  try clear p2
  obtain ⟨x7_1,x8_1,rfl,HA,HK1,HO_7,BK211,HB⟩:=hrel
  cases gk with
  | zero=>exact absurd HA.out (by simp [thresherref04_Fits.l0])
  | succ k1 =>
   have H:=HA.out
   clear HA
   simp only [thresherref04_Fits.l0] at H
   by_cases c7 : x8_1 < (l1.length : Int)
   ·rw [if_pos c7] at H
    have c7b0 : decide (x8_1 < (l1.length : Int))=true:=decide_eq_true c7
    clear c7
    by_cases c8 : x8_1 < a2
    ·rw [if_pos c8] at H
     have c8b0 : decide (x8_1 < a2)=true:=decide_eq_true c8
     clear c8
     by_cases c9 : 0≤x8_1
     ·rw [if_pos c9] at H
      have c9b0 : decide (0≤x8_1)=true:=decide_eq_true c9
      clear c9
      replace H:=Option.bind_eq_some_iff.mp H
      obtain ⟨t216,A100,H⟩:=H
      replace H : (if x7_1.length < 5864062014805 then (thresherref04_Fits.l0 k1 l1 a2 (x7_1 ++ [t216]) (wrap64 (x8_1 + 1)) l0_0 a0_1 a0_2 a0_3) else (none))=some r:=H
      have A10:=Aside0.mk A100
      clear A100
      by_cases c11 : x7_1.length < 5864062014805
      ·rw [if_pos c11] at H
       have LMc11:=Aside0.mk c11
       clear c11
       obtain ⟨y219,hy219⟩ : ∃ y_ : List (List (S45)),y_=(x7_1 ++ [t216]):=⟨_,rfl⟩
       replace H : (thresherref04_Fits.l0 k1 l1 a2 y219 (wrap64 (x8_1 + 1)) l0_0 a0_1 a0_2 a0_3)=some r:=by first|(rw [hy219];with_reducible exact H)|(have H2_:=(Option.bind_some _ _).symm.trans H;rw [hy219];with_reducible exact H2_)|(have H2_:=(Option.bind_some _ _).symm.trans H;with_reducible exact H2_)|with_reducible exact H|(rw [hy219];exact H)|exact H
       have Ny219:=Aside0.mk hy219
       clear hy219
       have H':=Aside0.mk H
       clear H
       try go_wp2
       have n0_:=Aside0.mk (Kd.S_drew HO_7.out)
       have n1_:=Aside0.mk (blk_drew BK211.out)
       have n2_:=Aside0.mk (below_drew1 HB.out)
       clear HO_7
       clear BK211
       clear HB
       have HO_7:=n0_
       have BK211:=n1_
       have HB:=n2_
       clear n0_ n1_ n2_
       have p215 : 0≤(x8_1 : Int):=of_decide_eq_true (by first|(with_reducible assumption)|assumption)
       have q215 : x8_1 < (l1.length : Int):=of_decide_eq_true (by first|(with_reducible assumption)|assumption)
       obtain ⟨ad215,A215_0,c215_0,e215,hx215_0,hl215_0,hi215_0⟩:=at_L3 HR1.out x8_1 p215 q215
       have hw215_0:=hx215_0
       cases e215
       replace hx215_0:=(HB.out.cell (World.block_lt_of_cell? w _ hx215_0)).trans hx215_0
       have HR215_0:=Aside0.mk hi215_0
       have HC215_0:=Aside0.mk hl215_0
       clear hi215_0 hl215_0
       replace p215:=eq_true p215
       replace q215:=eq_true q215
       refine start_ (n:=10) (S:=fun w'=>w'.cell? ⟨gb211,0,none⟩=some (.slice A0_0 l0_0.length c0_0)∧w'.cell? ⟨gb211,1,none⟩=some (.int .i64 a0_1)∧w'.cell? ⟨gb211,2,none⟩=some (.int .i64 a0_2)∧w'.cell? ⟨gb211,3,none⟩=some (.int .i64 a0_3)∧w'.cell? (ad215.add (x8_1).toNat)=some (.slice A215_0 (rd_L3 l1 x8_1).length c215_0)) (ds:=[]) #[false,false,false,false,false,false,false,false,false,false] (by kernel_rfl) rfl rfl ⟨(blk_cell BK211.out 0).trans rfl,(blk_cell BK211.out 1).trans rfl,(blk_cell BK211.out 2).trans rfl,(blk_cell BK211.out 3).trans rfl,((HB.out.cell (World.block_lt_of_cell? w _ hw215_0)).trans hw215_0)⟩ (fun hHeld=>?_);refine with_tabW thresherref04_Fits.tab5 thresherref04_Fits.bits5 (fun HT_ HW_=>?_)
       generalize wr.drew=w12 at HO_7 BK211 HB HR215_0 hx215_0 hHeld ⊢
       refine pure_ (i:=0) (N:=some 21) (v:=?_) (a':=?_) #[true,false,false,false,false,false,false,false,false,false] rfl rfl (any_of HT_.out (by kernel_rfl)) (fun _ _ _ h=>h) (Or.inl ⟨by rfl,?_⟩) ?_ ?_
       rotate_left;(intro w';go_simp;with_reducible rfl);rotate_left;(simp only [Act.put,List.setIfInBounds_toArray,List.set_cons_zero,List.set_cons_succ,i64_w,i32_w];rfl)
       refine pure_ (i:=2) (N:=some 23) (v:=?_) (a':=?_) #[true,false,true,false,false,false,false,false,false,false] rfl rfl (any_of HT_.out (by kernel_rfl)) (fun _ _ _ h=>h) (Or.inl ⟨by rfl,?_⟩) ?_ ?_
       rotate_left;(intro w';go_simp;with_reducible rfl);rotate_left;(simp only [Act.put,List.setIfInBounds_toArray,List.set_cons_zero,List.set_cons_succ,i64_w,i32_w];rfl)
       refine pure_ (i:=3) (N:=some 24) (v:=?_) (a':=?_) #[true,false,true,true,false,false,false,false,false,false] rfl rfl (any_of HT_.out (by kernel_rfl)) (fun _ _ _ h=>h) (Or.inl ⟨by rfl,?_⟩) ?_ ?_
       rotate_left;(intro w';go_simp;with_reducible rfl);rotate_left;(simp only [Act.put,List.setIfInBounds_toArray,List.set_cons_zero,List.set_cons_succ,i64_w,i32_w];rfl)
       refine pure_ (i:=4) (N:=some 25) (v:=?_) (a':=?_) #[true,false,true,true,true,false,false,false,false,false] rfl rfl (any_of HT_.out (by kernel_rfl)) (fun _ _ _ h=>h) (Or.inl ⟨by rfl,?_⟩) ?_ ?_
       rotate_left;(intro w';go_simp;with_reducible rfl);rotate_left;(simp only [Act.put,List.setIfInBounds_toArray,List.set_cons_zero,List.set_cons_succ,i64_w,i32_w];rfl)
       refine take_ (i:=1) (N:=some 22) (v:=?_) (a':=?_) #[true,true,true,true,true,false,false,false,false,false] rfl rfl (take_ofW HT_.out HW_.out (by kernel_rfl)) (fun _ _ _ h=>h) (Or.inl ⟨by rfl,?_⟩) hHeld ?_ ?_
       rotate_left;(rintro w' ⟨s0,s1,s2,s3,s4⟩;go_simp;with_reducible rfl);rotate_left;(simp only [Act.put,List.setIfInBounds_toArray,List.set_cons_zero,List.set_cons_succ,i64_w,i32_w];rfl)
       refine take_ (i:=5) (N:=some 26) (v:=?_) (a':=?_) #[true,true,true,true,true,true,false,false,false,false] rfl rfl (take_ofW HT_.out HW_.out (by kernel_rfl)) (fun _ _ _ h=>h) (Or.inl ⟨by rfl,?_⟩) hHeld ?_ ?_
       rotate_left;(rintro w' ⟨s0,s1,s2,s3,s4⟩;go_simp;with_reducible rfl);rotate_left;(simp only [Act.put,List.setIfInBounds_toArray,List.set_cons_zero,List.set_cons_succ,i64_w,i32_w];rfl)
       refine one_ (i:=6) (N:=some 27) #[true,true,true,true,true,true,true,false,false,false] rfl rfl (one_of HT_.out (by kernel_rfl)) (by decide) (fun K hK=>?_)
       refine goes_ Try.func25 (by kernel_rfl) rfl #[.agg #[.slice A0_0 l0_0.length c0_0,.int .i64 a0_1,.int .i64 a0_2,.int .i64 a0_3],.slice A215_0 (rd_L3 l1 x8_1).length c215_0] (by rfl) rfl rfl (by (try simp only [List.map_toArray,List.map_cons,List.map_nil]);first|done|rfl|(simp only [List.length_drop,List.length_take];rfl)) ?_
       with_reducible refine (thresherref04_Fit.calls k1 _ _ l0_0 a0_1 a0_2 a0_3 _ _ (rd_L3 l1 x8_1) t216 _ ?side1 ?side2 ?side3 ?side4 A10.out).mono ?_
       (case side1=>repeat (first|exact (Kd.C_below HR0_0.out HB.out)|(with_reducible refine Kd.C_alloc ?_ _)|(with_reducible refine Kd.C_drewN ?_ _)|(with_reducible refine Kd.C_drew ?_)))
       (case side2=>exact HC0_0.out)
       (case side3=>repeat (first|exact (Kd.C_below HR215_0.out HB.out)|(with_reducible refine Kd.C_alloc ?_ _)|(with_reducible refine Kd.C_drewN ?_ _)|(with_reducible refine Kd.C_drew ?_)))
       (case side4=>exact HC215_0.out)
       rintro e w13 ⟨v217,rfl,ho0,hb⟩
       refine ⟨_,rfl,?_⟩
       have n0_:=Aside0.mk (Kd.S_elder' (S_up HO_7.out) (Kd.R_base ho0) hb)
       have n1_:=Aside0.mk (Kd.R_lower ho0 (below_size (by repeat (first|(with_reducible first|exact HB.out|apply below_alloc|apply pw_below_drewN|apply below_drew1|refine below_set ?_ GE211.out)|exact HB.out))))
       have n2_:=Aside0.mk (blk_below (g:=gb211) (o:=.cells #[.slice A0_0 l0_0.length c0_0,.int .i64 a0_1,.int .i64 a0_2,.int .i64 a0_3] 29 (0,0)) (blk_up BK211.out) hb)
       have n3_:=Aside0.mk (below_step (by repeat (first|(with_reducible first|exact HB.out|apply below_alloc|apply pw_below_drewN|apply below_drew1|refine below_set ?_ GE211.out)|exact HB.out)) hb)
       clear HO_7
       clear BK211
       clear HB
       have HO_7:=n0_
       have HO218:=n1_
       have BK211:=n2_
       have HB:=n3_
       clear n0_ n1_ n2_ n3_
       (try clear hb)
       (try clear hb2)
       (try clear hk)
       (try clear hi)
       (try clear ho0)
       obtain ⟨Ao15,co15,eo15⟩:=Kd.R_slice HO218.out
       (first|subst eo15|(injection eo15 with f1_ f2_ f3_;have f4_:=f1_.symm;have f5_:=f3_.symm;clear f1_ f2_ f3_;subst f4_;subst f5_))
       refine hK.out _ _ ⟨(blk_cell BK211.out 0).trans rfl,(blk_cell BK211.out 1).trans rfl,(blk_cell BK211.out 2).trans rfl,(blk_cell BK211.out 3).trans rfl,((HB.out.cell (World.block_lt_of_cell? w _ hw215_0)).trans hw215_0)⟩ (fun hHeld=>?_)
       clear hK K
       refine norm_ (a':=?_) ?_ ?_
       rotate_left
       ·show Act.put _ (some 27) _=_
        simp only [Act.put,List.setIfInBounds_toArray,List.set_cons_zero,List.set_cons_succ,i64_w,i32_w]
        rfl
       refine one_ (i:=7) (N:=some 28) #[true,true,true,true,true,true,true,true,false,false] rfl rfl (one_of HT_.out (by kernel_rfl)) (by decide) (fun K hK=>?_)
       refine value_ (w1:=?_) (v:=?_) (by rfl) rfl ?_ ?_
       rotate_left 2
       ·go_simp
        constructor
        ·rfl
        ·rfl
       refine hK.out _ _ ⟨(blk_cell (blk_alloc BK211.out _) 0).trans rfl,(blk_cell (blk_alloc BK211.out _) 1).trans rfl,(blk_cell (blk_alloc BK211.out _) 2).trans rfl,(blk_cell (blk_alloc BK211.out _) 3).trans rfl,(World.cell?_alloc_lt _ _ _ (World.block_lt_of_cell? _ _ (((HB.out.cell (World.block_lt_of_cell? w _ hw215_0)).trans hw215_0)))).trans (((HB.out.cell (World.block_lt_of_cell? w _ hw215_0)).trans hw215_0))⟩ (fun hHeld=>?_)
       clear hK K
       refine norm_ (a':=?_) ?_ ?_
       rotate_left
       ·show Act.put _ (some 28) _=_
        simp only [Act.put,List.setIfInBounds_toArray,List.set_cons_zero,List.set_cons_succ,i64_w,i32_w]
        rfl
       refine one_ (i:=8) (N:=some 29) #[true,true,true,true,true,true,true,true,true,false] rfl rfl (one_of HT_.out (by kernel_rfl)) (by decide) (fun K hK=>?_)
       refine Kd.S_append_step (Kd.slice 45 k45) (w0:=w) w.heap.size (by rfl) (.tmp 21) (.tmp 28) 25 38 (.slice none 0 0) 24 rfl Try.underlying25 info38 rfl (by decide) (by omega) u7 x7_1 t216 [.slice Ao15 t216.length co15] (fun _=>True) (fun k_=>some k_=(.slice Ao15 t216.length co15 : Value).ownBlock) rfl rfl ?aP (fun k_ hk_=>((Kd.R_mono (ok':=fun k_=>((fun _=>True)) k_∧some k_≠(u7 : Value).ownBlock) (Kd.R_apart' (HO218.out) (Kd.S_typed HO_7.out) (by decide)) (fun k_ hk=>⟨trivial,hk.2⟩))).1 k_ hk_.symm) ?aF ?aO ?aB ?aS ?aL ?_
       (case aP=>exact Kd.M_row (Kd.R_mono (Kd.R_tight rfl (Kd.R_mono (ok':=fun k_=>((fun _=>True)) k_∧some k_≠(u7 : Value).ownBlock) (Kd.R_apart' (HO218.out) (Kd.S_typed HO_7.out) (by decide)) (fun k_ hk=>⟨trivial,hk.2⟩))) (fun _ h_=>h_)))
       (case aB=>exact (by repeat (first|(with_reducible first|exact HB.out|apply below_alloc|apply pw_below_drewN|apply below_drew1|refine below_set ?_ GE211.out)|exact HB.out)))
       (case aF=>exact (fun _ _=>trivial))
       (case aO=>exact (by (with_reducible repeat (first|apply Kd.S_alloc|apply Kd.S_drewN|apply Kd.S_drew));exact Kd.S_mono HO_7.out (fun k_ hk=>⟨trivial,fun e_=>hk.2 e_⟩)))
       (case aS=>exact (below_size (by repeat (first|(with_reducible first|exact HB.out|apply below_alloc|apply pw_below_drewN|apply below_drew1|refine below_set ?_ GE211.out)|exact HB.out))))
       (case aL=>have:=LMc11.out;omega)
       intro v220 w14 ho hb hg hat
       rw [← Ny219.out] at ho
       have n0_:=Aside0.mk (blk_grown (g:=gb211) (o:=.cells #[.slice A0_0 l0_0.length c0_0,.int .i64 a0_1,.int .i64 a0_2,.int .i64 a0_3] 29 (0,0)) (blk_up BK211.out) hg (Kd.S_ne HO_7.out BK211.out (by decide)))
       have n1_:=Aside0.mk (hb)
       have n2_:=Aside0.mk (ho)
       clear BK211
       clear HB
       clear HO_7
       clear HO218
       have BK211:=n0_
       have HB:=n1_
       have HO221:=n2_
       clear n0_ n1_ n2_
       clear ho hb hg hat
       refine hK.out _ _ ⟨(blk_cell BK211.out 0).trans rfl,(blk_cell BK211.out 1).trans rfl,(blk_cell BK211.out 2).trans rfl,(blk_cell BK211.out 3).trans rfl,((HB.out.cell (World.block_lt_of_cell? w _ hw215_0)).trans hw215_0)⟩ (fun hHeld=>?_)
       clear hK K
       refine norm_ (a':=?_) ?_ ?_
       rotate_left
       ·show Act.put _ (some 29) _=_
        simp only [Act.put,List.setIfInBounds_toArray,List.set_cons_zero,List.set_cons_succ,i64_w,i32_w]
        rfl
       refine pure_ (i:=9) (N:=some 7) (v:=?_) (a':=?_) #[true,true,true,true,true,true,true,true,true,true] rfl rfl (any_of HT_.out (by kernel_rfl)) (fun _ _ _ h=>h) (Or.inl ⟨by rfl,?_⟩) ?_ ?_
       rotate_left;(intro w';go_simp;with_reducible rfl);rotate_left;(simp only [Act.put,List.setIfInBounds_toArray,List.set_cons_zero,List.set_cons_succ,i64_w,i32_w];rfl)
       refine done_ (done_of HT_.out (by kernel_rfl)) ?_
       (try clear hHeld)
       try go_wp2
       go_roundg k1
       case measure=>have:=HK1.out;omega
       case rel=>exact ⟨(y219),(wrap64 (x8_1 + 1)),(by first|rfl|(simp;done)|(simp [*];done)),(by first|exact H'|(subst_vars;exact H')),⟨by have:=HK1.out;omega⟩,⟨by (with_reducible repeat (first|apply Kd.S_alloc|apply Kd.S_drewN|apply Kd.S_drew));exact HO221.out⟩,⟨by (with_reducible repeat (first|refine blk_drewN ?_ _|refine blk_drew ?_|refine blk_alloc ?_ _));exact BK211.out⟩,⟨by repeat (first|(with_reducible first|exact HB.out|apply below_alloc|apply pw_below_drewN|apply below_drew1|refine below_set ?_ GE211.out)|exact HB.out)⟩⟩
      ·rw [if_neg c11] at H
       exact absurd H (by simp)
     ·rw [if_neg c9] at H
      exact absurd H (by simp)
    ·rw [if_neg c8] at H
     have c8b0 : decide (x8_1 < a2)=false:=decide_eq_false c8
     clear c8
     obtain rfl:=Option.some.inj H
     go_wp2
     go_ret
     exact ⟨_,by first|rfl|(simp [errW_none,errW_some] <;> rfl)|(simp [*,errW_none,errW_some] <;> rfl),by (with_reducible repeat (first|apply Kd.S_alloc|apply Kd.S_drewN|apply Kd.S_drew));exact HO_7.out,by repeat (first|(with_reducible first|exact HB.out|apply below_alloc|apply pw_below_drewN|apply below_drew1|refine below_set ?_ GE211.out)|exact HB.out)⟩
   ·rw [if_neg c7] at H
    have c7b0 : decide (x8_1 < (l1.length : Int))=false:=decide_eq_false c7
    clear c7
    obtain rfl:=Option.some.inj H
    go_wp2
    go_ret
    exact ⟨_,by first|rfl|(simp [errW_none,errW_some] <;> rfl)|(simp [*,errW_none,errW_some] <;> rfl),by (with_reducible repeat (first|apply Kd.S_alloc|apply Kd.S_drewN|apply Kd.S_drew));exact HO_7.out,by repeat (first|(with_reducible first|exact HB.out|apply below_alloc|apply pw_below_drewN|apply below_drew1|refine below_set ?_ GE211.out)|exact HB.out)⟩
def api_Value.f (l0 : List (S45)) : Option ((List (S45))):=(some (([] : List (S45)) : List (S45))).bind fun y222=>(if y222.length + l0.length < 5864062014805 then (some (y222 ++ l0)) else (none))
set_option maxHeartbeats 8000000 in
set_option maxRecDepth 100000 in
theorem api_Value.calls_some (a00 : Addr) (c0 : Nat) (l0 : List (S45)) (r : List (S45)) (w : World) (hr0 : Kd.C k45 w (some a00) l0.length l0) (hc0 : l0.length≤c0) (h : api_Value.f l0=some r) :
  Calls Try.prog 28 #[.slice (some a00) l0.length c0] w fun e w'=>∃ v0_ : Value,e=.returned (v0_)∧Kd.R k45 45 w' w.heap.size (fun _=>True) v0_ r∧Below w.heap.size w w':=by
 have HR0:=Aside0.mk hr0
 have HC0:=Aside0.mk hc0
 clear hr0 hc0
 have HB:=Aside0.mk (Below.refl w.heap.size w)
 have H : ((some (([] : List (S45)) : List (S45))).bind fun y222=>(if y222.length + l0.length < 5864062014805 then (some (y222 ++ l0)) else (none)))=some r:=h
 clear h
 obtain ⟨y222,hy222⟩ : ∃ y_ : List (S45),y_=(([] : List (S45))):=⟨_,rfl⟩
 replace H : (if y222.length + l0.length < 5864062014805 then (some (y222 ++ l0)) else (none))=some r:=by first|(rw [hy222];with_reducible exact H)|(have H2_:=(Option.bind_some _ _).symm.trans H;rw [hy222];with_reducible exact H2_)|(have H2_:=(Option.bind_some _ _).symm.trans H;with_reducible exact H2_)|with_reducible exact H|(rw [hy222];exact H)|exact H
 have Ny222:=Aside0.mk hy222
 clear hy222
 by_cases c2 : y222.length + l0.length < 5864062014805
 ·rw [if_pos c2] at H
  have LMc2:=Aside0.mk c2
  clear c2
  obtain ⟨y225,hy225⟩ : ∃ y_ : List (S45),y_=(y222 ++ l0):=⟨_,rfl⟩
  replace H : (some y225)=some r:=by first|(rw [hy225];with_reducible exact H)|(have H2_:=(Option.bind_some _ _).symm.trans H;rw [hy225];with_reducible exact H2_)|(have H2_:=(Option.bind_some _ _).symm.trans H;with_reducible exact H2_)|with_reducible exact H|(rw [hy225];exact H)|exact H
  have Ny225:=Aside0.mk hy225
  clear hy225
  obtain rfl:=Option.some.inj H
  have hqn : ∀ (w : World) (a : Option Addr) (n c n' c' : Nat),(binOp .eql 38 (.slice a n c) (.slice none n' c')).run Try.prog w=.ok (.bool a.isNone) w:=fun w a n c n' c'=>Lib.run_eql_slice_nil w _ _ a n c n' c' Try.underlying38
  go_enter Try.func28,Try.ntmps28
  go_wp2_with (first|((with_reducible refine gate_dst (N:=5) rfl ?_);refine Kd.R_lit k45 _ 45 ?hg (N:=5) ?hd (xs:=([] : List (S45))) (inner:=[]) (ok:=fun _=>True) (okp:=fun _=>True) ?hr ?hp (fun _ hk=>hk) trivial (Below.refl _ _) (Nat.le_refl _) (by simp) ?_;(case hd=>rfl);(case hg=>rfl);(case hr=>first|(go_simp;done)|(go_simp;rfl));(case hp=>exact (Reps.none _ _));intro v223 w3 ho4 hb hg_ hnew_;clear hg_ hnew_;(first|rw [← Ny222.out] at ho4|(simp only [Int.reduceToNat] at ho4;rw [← Ny222.out] at ho4));have n0_:=Aside0.mk (Kd.R_lower ho4 (below_size (below_up HB.out)));have n1_:=Aside0.mk (below_step (below_up HB.out) hb);clear HB;have HO224:=n0_;have HB:=n1_;clear n0_ n1_;clear hb ho4)|((with_reducible refine gate_builtin (b:=.append) (xs:=#[.tmp 5,.tmp 6]) rfl ?_);at_builtin;refine Kd.R_append_rows k45 (w0:=w) w.heap.size rfl (.tmp 5) (.tmp 6) 38 45 (.agg #[(.int .i64 0),(.string ⟨#[]⟩)]) 24 rfl Try.underlying38 info45 rfl (by decide) (by omega) v223 y222 l0 _ _ _ (fun _=>True) (fun _=>False) rfl rfl ?aO ?aR (fun _ _ h=>h) (fun _ h=>h.elim) ?aF ?aB ?aS ?aL ?_;(case aR=>repeat (first|exact (Kd.C_below HR0.out HB.out)|(with_reducible refine Kd.C_alloc ?_ _)|(with_reducible refine Kd.C_drewN ?_ _)|(with_reducible refine Kd.C_drew ?_)));(case aB=>exact (below_up HB.out));(case aF=>exact (fun _ _=>trivial));(case aO=>exact (R_up HO224.out));(case aS=>exact (below_size (below_up HB.out)));(case aL=>have:=LMc2.out;omega);intro v226 w5 ho hb hg hat;rw [← Ny225.out] at ho;have n0_:=Aside0.mk (hb);have n1_:=Aside0.mk (ho);clear HB;clear HO224;have HB:=n0_;have HO227:=n1_;clear n0_ n1_;clear ho hb hg hat))
  go_ret
  exact ⟨_,by first|rfl|(simp [errW_none,errW_some] <;> rfl)|(simp [*,errW_none,errW_some] <;> rfl),by (with_reducible repeat (first|apply Kd.R_alloc|apply Kd.R_drewN|apply Kd.R_drew));exact HO227.out,by repeat (first|(with_reducible first|exact HB.out|apply below_alloc|apply pw_below_drewN|apply below_drew1)|exact HB.out)⟩
 ·rw [if_neg c2] at H
  exact absurd H (by simp)
set_option maxHeartbeats 8000000 in
set_option maxRecDepth 100000 in
theorem api_Value.calls (A0 : Option Addr) (c0 : Nat) (l0 : List (S45)) (r : List (S45)) (w : World) (hr0 : Kd.C k45 w A0 l0.length l0) (hc0 : l0.length≤c0) (h : api_Value.f l0=some r) :
  Calls Try.prog 28 #[.slice A0 l0.length c0] w fun e w'=>∃ v0_ : Value,e=.returned (v0_)∧Kd.R k45 45 w' w.heap.size (fun _=>True) v0_ r∧Below w.heap.size w w':=by
 cases A0 with
 | some a00=>exact api_Value.calls_some a00 c0 l0 r w hr0 hc0 h
 | none =>
  have e0 : l0=[]:=by
   cases l0 with
   | nil=>rfl
   | cons x xs=>obtain ⟨_,_,h2⟩:=hr0;obtain ⟨ad,e,_⟩:=h2 (by simp);cases e
  subst e0
  simp [api_Value.f] at h
  subst h
  have hqn : ∀ (w : World) (a : Option Addr) (n c n' c' : Nat),(binOp .eql 38 (.slice a n c) (.slice none n' c')).run Try.prog w=.ok (.bool a.isNone) w:=fun w a n c n' c'=>Lib.run_eql_slice_nil w _ _ a n c n' c' Try.underlying38
  go_enter Try.func28,Try.ntmps28
  go_wp2
  go_ret
  exact ⟨_,rfl,Kd.R_nil _ _ _ _ _,Below.refl _ _⟩
def grain_Key.f (l0_0 : List Int) (a0_1 : Int) (a0_2 : Int) (a0_3 : Int) (l1 : List (S45)) : Option ((List (S45))):=if 0≤a0_1 then (if a0_1≤(l1.length : Int) then ((api_Value.f (l1.take (a0_1 : Int).toNat)).bind fun t233=>(some t233)) else (none)) else (none)
set_option maxHeartbeats 8000000 in
set_option maxRecDepth 100000 in
theorem grain_Key.calls (A0_0 : Option Addr) (c0_0 : Nat) (l0_0 : List Int) (a0_1 : Int) (a0_2 : Int) (a0_3 : Int) (A1 : Option Addr) (c1 : Nat) (l1 : List (S45)) (r : List (S45)) (w : World) (hr0_0 : Kd.C (Kd.int .i64) w A0_0 l0_0.length l0_0) (hc0_0 : l0_0.length≤c0_0) (hr1 : Kd.C k45 w A1 l1.length l1) (hc1 : l1.length≤c1) (h : grain_Key.f l0_0 a0_1 a0_2 a0_3 l1=some r) :
  Calls Try.prog 23 #[.agg #[.slice A0_0 l0_0.length c0_0,.int .i64 a0_1,.int .i64 a0_2,.int .i64 a0_3],.slice A1 l1.length c1] w fun e w'=>∃ v0_ : Value,e=.returned (v0_)∧Kd.R k45 45 w' w.heap.size (fun _=>True) v0_ r∧Below w.heap.size w w':=by
 have hu29:=Try.underlying29
 have HR0_0:=Aside0.mk hr0_0
 have HC0_0:=Aside0.mk hc0_0
 clear hr0_0 hc0_0
 have HR1:=Aside0.mk hr1
 have HC1:=Aside0.mk hc1
 clear hr1 hc1
 have HB:=Aside0.mk (Below.refl w.heap.size w)
 have H : (if 0≤a0_1 then (if a0_1≤(l1.length : Int) then ((api_Value.f (l1.take (a0_1 : Int).toNat)).bind fun t233=>(some t233)) else (none)) else (none))=some r:=h
 clear h
 by_cases c3 : 0≤a0_1
 ·rw [if_pos c3] at H
  have c3b0:=eq_true c3
  have c3b1 : decide (0≤a0_1)=true:=decide_eq_true c3
  clear c3
  by_cases c4 : a0_1≤(l1.length : Int)
  ·rw [if_pos c4] at H
   have c4b0:=eq_true c4
   have c4b1 : decide (a0_1≤(l1.length : Int))=true:=decide_eq_true c4
   clear c4
   obtain ⟨y229,hy229⟩ : ∃ y_ : List (S45),y_=(l1.take (a0_1 : Int).toNat):=⟨_,rfl⟩
   replace H : ((api_Value.f y229).bind fun t233=>(some t233))=some r:=by first|(rw [hy229];with_reducible exact H)|(have H2_:=(Option.bind_some _ _).symm.trans H;rw [hy229];with_reducible exact H2_)|(have H2_:=(Option.bind_some _ _).symm.trans H;with_reducible exact H2_)|with_reducible exact H|(rw [hy229];exact H)|exact H
   have Ny229:=Aside0.mk hy229
   clear hy229
   replace H:=Option.bind_eq_some_iff.mp H
   obtain ⟨t233,A50,H⟩:=H
   replace H : (some t233)=some r:=H
   have A5:=Aside0.mk A50
   clear A50
   obtain rfl:=Option.some.inj H
   go_enter Try.func23,Try.ntmps23
   go_wp2_with (first|((with_reducible refine gate_dst (N:=2) rfl ?_);refine box_event ?hg (N:=2) ?hd (cs:=#[.slice A0_0 l0_0.length c0_0,.int .i64 a0_1,.int .i64 a0_2,.int .i64 a0_3]) (t:=29) ?hr ?_;(case hd=>rfl);(case hg=>rfl);(case hr=>first|(go_simp;done)|(go_simp;rfl));intro gb228 hg w6 hbox hb;have n0_:=Aside0.mk (below_step (below_up HB.out) hb);have n1_:=Aside0.mk (hbox);have n2_:=Aside0.mk ((by rw [hg];exact (below_size (below_up HB.out)) : w.heap.size≤gb228));have n3_:=Aside0.mk ((by rw [hg];exact (below_size (below_up HB.out)) : w.heap.size≤gb228));clear HB;have HB:=n0_;have BK228:=n1_;have GW228:=n2_;have GE228:=n3_;clear n0_ n1_ n2_ n3_;clear hb hbox hg;have hcz7_0 : w6.cell? ⟨gb228,0,none⟩=some (.slice A0_0 l0_0.length c0_0):=(blk_cell BK228.out 0).trans rfl;have hcz7_1 : w6.cell? ⟨gb228,1,none⟩=some (.int .i64 a0_1):=(blk_cell BK228.out 1).trans rfl;have hcz7_2 : w6.cell? ⟨gb228,2,none⟩=some (.int .i64 a0_2):=(blk_cell BK228.out 2).trans rfl;have hcz7_3 : w6.cell? ⟨gb228,3,none⟩=some (.int .i64 a0_3):=(blk_cell BK228.out 3).trans rfl;have hfz7_0:=blk_frozen BK228.out 0;have hfz7_1:=blk_frozen BK228.out 1;have hfz7_2:=blk_frozen BK228.out 2;have hfz7_3:=blk_frozen BK228.out 3;have q8 : (a0_1 : Int)≤((l1.length : Int) : Int):=of_decide_eq_true (by first|(with_reducible assumption)|assumption);obtain ⟨i08,hi08,_,hsz8,_⟩:=info_parts info45;have hroom8 : l1.length≤c1:=HC1.out;have hC8 : Kd.C k45 _ A1 l1.length l1:=HR1.out;have hcut8:=cut_to (P:=Try.prog) 38 45 .i64 Try.underlying38 hi08 A1 l1.length c1 a0_1 (of_decide_eq_true (by first|(with_reducible assumption)|assumption)) q8 hroom8;have hr8:=Kd.C_take (m:=(a0_1 : Int).toNat) hC8 (by omega);have hy8 : y229.length=(a0_1 : Int).toNat:=(by rw [Ny229.out,List.length_take];omega);rw [← Ny229.out] at hr8;rw [← hy8] at hcut8;have HR232:=Aside0.mk hr8;have HC232:=Aside0.mk (show y229.length≤c1 from by omega);clear hr8 hC8 hroom8 hi08 hsz8;have KY8:=Aside0.mk hy8;clear hy8;replace q8:=eq_true q8)|((with_reducible refine gate_callee (f:=28) rfl ?_);refine goesL_ (some 9) rfl rfl Try.func28 (by kernel_rfl) rfl #[.slice A1 y229.length c1] rfl (by (try simp only [List.map_toArray,List.map_cons,List.map_nil]);first|done|rfl|(simp only [List.length_drop,List.length_take];rfl)) ?_;(with_reducible refine (api_Value.calls _ _ y229 t233 _ ?side1 ?side2 A5.out).mono ?_);(case side1=>repeat (first|exact (Kd.C_below HR232.out HB.out)|(with_reducible refine Kd.C_alloc ?_ _)|(with_reducible refine Kd.C_drewN ?_ _)|(with_reducible refine Kd.C_drew ?_)));(case side2=>exact HC232.out);rintro e w9 ⟨v234,rfl,ho0,hb⟩;refine ⟨_,rfl,?_⟩;have n0_:=Aside0.mk (Kd.R_lower ho0 (below_size (by repeat (first|(with_reducible first|exact HB.out|apply below_alloc|apply pw_below_drewN|apply below_drew1|refine below_set ?_ GE228.out)|exact HB.out))));have n1_:=Aside0.mk (blk_below (g:=gb228) (o:=.cells #[.slice A0_0 l0_0.length c0_0,.int .i64 a0_1,.int .i64 a0_2,.int .i64 a0_3] 29 (0,0)) (blk_up BK228.out) hb);have n2_:=Aside0.mk (below_step (by repeat (first|(with_reducible first|exact HB.out|apply below_alloc|apply pw_below_drewN|apply below_drew1|refine below_set ?_ GE228.out)|exact HB.out)) hb);clear BK228;clear HB;have HO235:=n0_;have BK228:=n1_;have HB:=n2_;clear n0_ n1_ n2_;(try clear hb);(try clear hb2);(try clear hk);(try clear hi);(try clear ho0)))
   go_ret
   exact ⟨_,by first|rfl|(simp [errW_none,errW_some] <;> rfl)|(simp [*,errW_none,errW_some] <;> rfl),by (with_reducible repeat (first|apply Kd.R_alloc|apply Kd.R_drewN|apply Kd.R_drew));exact HO235.out,by repeat (first|(with_reducible first|exact HB.out|apply below_alloc|apply pw_below_drewN|apply below_drew1|refine below_set ?_ GE228.out)|exact HB.out)⟩
  ·rw [if_neg c4] at H
   exact absurd H (by simp)
 ·rw [if_neg c3] at H
  exact absurd H (by simp)
end Go.Proofs.Ythoelihgpkffiaa.P

