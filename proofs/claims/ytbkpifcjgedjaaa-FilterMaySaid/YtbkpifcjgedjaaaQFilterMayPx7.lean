/- Texts of FilterMay. Merged: Px7. -/
import Derived.Test.YtbkpifcjgedjaaaQFilterMayPx0
namespace Go.Proofs.Ytbkpifcjgedjaaa.P
open Go.RowKit Go.Proofs.YtbkpifcjgedjaaaW.PrintWords Go.Proofs.YtbkpifcjgedjaaaW.PrintLast Go.Proofs.YtbkpifcjgedjaaaW.PrintMore
attribute [local go_sem] max2_int min2_int max_two min_two max_three min_three max_four min_four   -- for this text's walks alone
set_option linter.unusedVariables false
set_option linter.unusedSimpArgs false
mutual
def thresherref04_Fit.l0 : Nat→List (S37)→List (S37)→Int→List Int→Int→Int→Int→Option ((List (S37)))
 | 0,_,_,_,_,_,_,_=>none
 | k + 1,x1,x5,x6,x164000,x164001,x164002,x164003=>if x6 < (x164000.length : Int) then (if x6 < (x1.length : Int) then (if 0≤x6 then (thresherref04_Fit.j1 k x1 x5 x6 x164000 x164001 x164002 x164003 ((rd_T37 x1 x6).f0) ((rd_T37 x1 x6).f1)) else (none)) else (thresherref04_Fit.j1 k x1 x5 x6 x164000 x164001 x164002 x164003 0 (⟨#[]⟩ : ByteArray))) else (some x5)
def thresherref04_Fit.j1 : Nat→List (S37)→List (S37)→Int→List Int→Int→Int→Int→Int→ByteArray→Option ((List (S37)))
 | 0,_,_,_,_,_,_,_,_,_=>none
 | k + 1,x1,x5,x6,x164000,x164001,x164002,x164003,x168000,x168001=>if 0≤x6 then (if x6 < (x164000.length : Int) then (if (rd x164000 x6)=3 then (if (x168001.size : Int) > 60 then (if 0≤60 then (if 60≤(x168001.size : Int) then (if x5.length < 5864062014805 then (thresherref04_Fit.l0 k x1 (x5 ++ [(⟨0,x168001.extract 0 60⟩ : S37)]) (wrap64 (x6 + 1)) x164000 x164001 x164002 x164003) else (none)) else (none)) else (none)) else (if x5.length < 5864062014805 then (thresherref04_Fit.l0 k x1 (x5 ++ [(⟨0,x168001⟩ : S37)]) (wrap64 (x6 + 1)) x164000 x164001 x164002 x164003) else (none))) else (if x5.length < 5864062014805 then (thresherref04_Fit.l0 k x1 (x5 ++ [(⟨x168000,(⟨#[]⟩ : ByteArray)⟩ : S37)]) (wrap64 (x6 + 1)) x164000 x164001 x164002 x164003) else (none))) else (none)) else (none)
end
def thresherref04_Fit.f (k : Nat) (l0_0 : List Int) (a0_1 : Int) (a0_2 : Int) (a0_3 : Int) (l1 : List (S37)) : Option ((List (S37))):=thresherref04_Fit.l0 k l1 (([] : List (S37))) 0 l0_0 a0_1 a0_2 a0_3
theorem thresherref04_Fit.mono_l : ∀ k,(∀ y0 y1 y2 y3 y4 y5 y6,LeO (thresherref04_Fit.l0 k y0 y1 y2 y3 y4 y5 y6) (thresherref04_Fit.l0 (k + 1) y0 y1 y2 y3 y4 y5 y6))∧(∀ y0 y1 y2 y3 y4 y5 y6 y7 y8,LeO (thresherref04_Fit.j1 k y0 y1 y2 y3 y4 y5 y6 y7 y8) (thresherref04_Fit.j1 (k + 1) y0 y1 y2 y3 y4 y5 y6 y7 y8))
 | 0=>⟨fun _ _ _ _ _ _ _ r h=>by simp [thresherref04_Fit.l0] at h,fun _ _ _ _ _ _ _ _ _ r h=>by simp [thresherref04_Fit.j1] at h⟩
 | k + 1=>by
  obtain ⟨ih0,ih1⟩:=thresherref04_Fit.mono_l k
  refine ⟨?_,?_⟩
  ·intro y0 y1 y2 y3 y4 y5 y6
   unfold thresherref04_Fit.l0
   repeat' first
   | (with_reducible exact ih0 _ _ _ _ _ _ _)
   | (with_reducible exact ih1 _ _ _ _ _ _ _ _ _)
   | (with_reducible exact LeO.refl _)
   | (with_reducible exact LeO.none _)
   | (with_reducible refine LeO.ite ?_ ?_)
   | (with_reducible refine LeO.bind ?_ (fun _=>?_))
   | exact ih0 _ _ _ _ _ _ _
   | exact ih1 _ _ _ _ _ _ _ _ _
   | exact LeO.none _
   | refine LeO.ite ?_ ?_
   | refine LeO.bind ?_ (fun _=>?_)
  ·intro y0 y1 y2 y3 y4 y5 y6 y7 y8
   unfold thresherref04_Fit.j1
   repeat' first
   | (with_reducible exact ih0 _ _ _ _ _ _ _)
   | (with_reducible exact ih1 _ _ _ _ _ _ _ _ _)
   | (with_reducible exact LeO.refl _)
   | (with_reducible exact LeO.none _)
   | (with_reducible refine LeO.ite ?_ ?_)
   | (with_reducible refine LeO.bind ?_ (fun _=>?_))
   | exact ih0 _ _ _ _ _ _ _
   | exact ih1 _ _ _ _ _ _ _ _ _
   | exact LeO.none _
   | refine LeO.ite ?_ ?_
   | refine LeO.bind ?_ (fun _=>?_)
theorem thresherref04_Fit.mono : ∀ a0 a1 a2 a3 a4 k,LeO (thresherref04_Fit.f k a0 a1 a2 a3 a4) (thresherref04_Fit.f (k + 1) a0 a1 a2 a3 a4):=by
 intro a0 a1 a2 a3 a4 k
 obtain ⟨ih0,ih1⟩:=thresherref04_Fit.mono_l k
 unfold thresherref04_Fit.f
 repeat' first
   | (with_reducible exact ih0 _ _ _ _ _ _ _)
   | (with_reducible exact ih1 _ _ _ _ _ _ _ _ _)
   | (with_reducible exact LeO.refl _)
   | (with_reducible exact LeO.none _)
   | (with_reducible refine LeO.ite ?_ ?_)
   | (with_reducible refine LeO.bind ?_ (fun _=>?_))
   | exact ih0 _ _ _ _ _ _ _
   | exact ih1 _ _ _ _ _ _ _ _ _
   | exact LeO.none _
   | refine LeO.ite ?_ ?_
   | refine LeO.bind ?_ (fun _=>?_)
set_option maxHeartbeats 8000000 in
set_option maxRecDepth 100000 in
theorem thresherref04_Fit.calls (k : Nat) (A0_0 : Option Addr) (c0_0 : Nat) (l0_0 : List Int) (a0_1 : Int) (a0_2 : Int) (a0_3 : Int) (A1 : Option Addr) (c1 : Nat) (l1 : List (S37)) (r : List (S37)) (w : World) (hr0_0 : Kd.C (Kd.int .i64) w A0_0 l0_0.length l0_0) (hc0_0 : l0_0.length≤c0_0) (hr1 : Kd.C k37 w A1 l1.length l1) (hc1 : l1.length≤c1) (h : thresherref04_Fit.f k l0_0 a0_1 a0_2 a0_3 l1=some r) :
  Calls Try.prog 18 #[.agg #[.slice A0_0 l0_0.length c0_0,.int .i64 a0_1,.int .i64 a0_2,.int .i64 a0_3],.slice A1 l1.length c1] w fun e w'=>∃ v0_ : Value,e=.returned (v0_)∧Kd.R k37 37 w' w.heap.size (fun _=>True) v0_ r∧Below w.heap.size w w':=by
 have hu32:=Try.underlying32
 have hu37:=Try.underlying37
 have HR0_0:=Aside0.mk hr0_0
 have HC0_0:=Aside0.mk hc0_0
 clear hr0_0 hc0_0
 have HR1:=Aside0.mk hr1
 have HC1:=Aside0.mk hc1
 clear hr1 hc1
 have HB:=Aside0.mk (Below.refl w.heap.size w)
 have H : (thresherref04_Fit.l0 k l1 (([] : List (S37))) 0 l0_0 a0_1 a0_2 a0_3)=some r:=h
 clear h
 obtain ⟨y164,hy164⟩ : ∃ y_ : List (S37),y_=(([] : List (S37))):=⟨_,rfl⟩
 replace H : (thresherref04_Fit.l0 k l1 y164 0 l0_0 a0_1 a0_2 a0_3)=some r:=by first|(rw [hy164];with_reducible exact H)|(have H2_:=(Option.bind_some _ _).symm.trans H;rw [hy164];with_reducible exact H2_)|(have H2_:=(Option.bind_some _ _).symm.trans H;with_reducible exact H2_)|with_reducible exact H|(rw [hy164];exact H)|exact H
 have Ny164:=Aside0.mk hy164
 clear hy164
 have H':=Aside0.mk H
 clear H
 go_enter Try.func18,Try.ntmps18
 go_wp2_with (first|((with_reducible refine gate_dst (N:=2) rfl ?_);refine box_event ?hg (N:=2) ?hd (cs:=#[.slice A0_0 l0_0.length c0_0,.int .i64 a0_1,.int .i64 a0_2,.int .i64 a0_3]) (t:=32) ?hr ?_;(case hd=>rfl);(case hg=>rfl);(case hr=>first|(go_simp;done)|(go_simp;rfl));intro gb163 hg w3 hbox hb;have n0_:=Aside0.mk (below_step (below_up HB.out) hb);have n1_:=Aside0.mk (hbox);have n2_:=Aside0.mk ((by rw [hg];exact (below_size (below_up HB.out)) : w.heap.size≤gb163));have n3_:=Aside0.mk ((by rw [hg];exact (below_size (below_up HB.out)) : w.heap.size≤gb163));clear HB;have HB:=n0_;have BK163:=n1_;have GW163:=n2_;have GE163:=n3_;clear n0_ n1_ n2_ n3_;clear hb hbox hg)|((with_reducible refine gate_dst (N:=9) rfl ?_);refine Kd.R_lit k37 _ 37 ?hg (N:=9) ?hd (xs:=([] : List (S37))) (inner:=[]) (ok:=fun _=>True) (okp:=fun _=>True) ?hr ?hp (fun _ hk=>hk) trivial (Below.refl _ _) (Nat.le_refl _) (by simp) ?_;(case hd=>rfl);(case hg=>rfl);(case hr=>first|(go_simp;done)|(go_simp;rfl));(case hp=>exact (Reps.none _ _));intro v165 w4 ho5 hb hg_ hnew_;clear hg_ hnew_;(first|rw [← Ny164.out] at ho5|(simp only [Int.reduceToNat] at ho5;rw [← Ny164.out] at ho5));have n0_:=Aside0.mk (Kd.R_lower ho5 (below_size (below_go HB.out)));have n1_:=Aside0.mk (blk_below (blk_up BK163.out) hb);have n2_:=Aside0.mk (below_step (below_go HB.out) hb);clear BK163;clear HB;have HO166:=n0_;have BK163:=n1_;have HB:=n2_;clear n0_ n1_ n2_;clear hb ho5))
 go_loopg [5,6] k (fun kq v5 v6 w'=>∃ (x5_1 : List (S37)) (x6_1 : Int),v6=.int .i64 x6_1∧Aside0 (thresherref04_Fit.l0 kq l1 x5_1 x6_1 l0_0 a0_1 a0_2 a0_3=some r)∧Aside0 (kq≤k)∧Aside0 (Kd.R k37 37 w' w.heap.size (fun _=>True) v5 x5_1)∧Aside0 (w'.heap[gb163]?=some (.cells #[(.slice A0_0 l0_0.length c0_0),.int .i64 a0_1,.int .i64 a0_2,.int .i64 a0_3] 32 (0,0)))∧Aside0 (Below w.heap.size w w'))
 case atStart=>exact ⟨(y164),(0),(by first|rfl|(simp;done)|(simp [*];done)),H',⟨Nat.le_refl _⟩,⟨by (with_reducible repeat (first|apply Kd.R_alloc|apply Kd.R_drewN|apply Kd.R_drew));exact HO166.out⟩,⟨by (with_reducible repeat (first|refine blk_drewN ?_ _|refine blk_drew ?_|refine blk_alloc ?_ _));exact BK163.out⟩,⟨by repeat (first|(with_reducible first|exact HB.out|apply below_alloc|apply pw_below_drewN|apply below_drew1|refine below_set ?_ GE163.out)|exact HB.out)⟩⟩
 case round =>
  clear H'
  try clear c1
  try clear p2
  obtain ⟨x5_1,x6_1,rfl,HA,HK1,HO_5,BK163,HB⟩:=hrel
  cases gk with
  | zero=>exact absurd HA.out (by simp [thresherref04_Fit.l0])
  | succ k1 =>
   have H:=HA.out
   clear HA
   simp only [thresherref04_Fit.l0] at H
   by_cases c6 : x6_1 < (l0_0.length : Int)
   ·rw [if_pos c6] at H
    have c6b0 : decide (x6_1 < (l0_0.length : Int))=true:=decide_eq_true c6
    clear c6
    have HC7:=Aside0.mk H
    clear H
    have hcz8_0 : wr.cell? ⟨gb163,0,none⟩=some (.slice A0_0 l0_0.length c0_0):=(blk_cell BK163.out 0).trans rfl
    have hcz8_1 : wr.cell? ⟨gb163,1,none⟩=some (.int .i64 a0_1):=(blk_cell BK163.out 1).trans rfl
    have hcz8_2 : wr.cell? ⟨gb163,2,none⟩=some (.int .i64 a0_2):=(blk_cell BK163.out 2).trans rfl
    have hcz8_3 : wr.cell? ⟨gb163,3,none⟩=some (.int .i64 a0_3):=(blk_cell BK163.out 3).trans rfl
    have hfz8_0:=blk_frozen BK163.out 0
    have hfz8_1:=blk_frozen BK163.out 1
    have hfz8_2:=blk_frozen BK163.out 2
    have hfz8_3:=blk_frozen BK163.out 3
    go_upto_if 21 with (first|((with_reducible refine gate_dst (N:=7) rfl ?_);refine box_event ?hg (N:=7) ?hd (cs:=#[.int .i64 0,.string (⟨#[]⟩ : ByteArray)]) (t:=37) ?hr ?_;(case hd=>rfl);(case hg=>rfl);(case hr=>first|(go_simp;done)|(go_simp;rfl));intro gb167 hg w9 hbox hb;have n0_:=Aside0.mk (Kd.R_below (Kd.R_elderB (R_up HO_5.out) gb167 (Nat.le_of_eq hg.symm)) hb);have n1_:=Aside0.mk (blk_below (blk_up BK163.out) hb);have n2_:=Aside0.mk (below_step (below_go HB.out) hb);have n3_:=Aside0.mk (hbox);have n4_:=Aside0.mk ((by rw [hg];exact (below_size (below_go HB.out)) : w.heap.size≤gb167));have n5_:=Aside0.mk ((by rw [hg];exact (below_size (below_go HB.out)) : w.heap.size≤gb167));have n6_:=Aside0.mk ((by rw [hg];exact Nat.ne_of_lt (blk_lt (blk_up BK163.out)) : gb163≠gb167));have n7_:=Aside0.mk ((by rw [hg];exact Nat.ne_of_gt (blk_lt (blk_up BK163.out)) : gb167≠gb163));clear HO_5;clear BK163;clear HB;have HO_5:=n0_;have BK163:=n1_;have HB:=n2_;have BK167:=n3_;have GW167:=n4_;have GE167:=n5_;have NB163_167:=n6_;have NB167_163:=n7_;clear n0_ n1_ n2_ n3_ n4_ n5_ n6_ n7_;clear hb hbox hg;have hnb10:=NB167_163.out;have hnc10:=NB163_167.out;have hcz11_0 : w9.cell? ⟨gb167,0,none⟩=some (.int .i64 0):=(blk_cell BK167.out 0).trans rfl;have hcz11_1 : w9.cell? ⟨gb167,1,none⟩=some (.string (⟨#[]⟩ : ByteArray)):=(blk_cell BK167.out 1).trans rfl;have hfz11_0:=blk_frozen BK167.out 0;have hfz11_1:=blk_frozen BK167.out 1))
    (try simp only [Act.put,List.setIfInBounds_toArray,List.set_cons_zero,List.set_cons_succ])
    go_cut [] (fun wc=>∃ (kq : Nat) (x168000_6 : Int) (x168001_6 : ByteArray),Aside0 (thresherref04_Fit.j1 kq l1 x5_1 x6_1 l0_0 a0_1 a0_2 a0_3 x168000_6 x168001_6=some r)∧Aside0 (kq≤k1)∧Aside0 (Kd.R k37 37 wc w.heap.size (fun k_=>k_≠gb167) u5 x5_1)∧Aside0 (wc.heap[gb163]?=some (.cells #[(.slice A0_0 l0_0.length c0_0),.int .i64 a0_1,.int .i64 a0_2,.int .i64 a0_3] 32 (0,0)))∧Aside0 (wc.heap[gb167]?=some (.cells #[.int .i64 x168000_6,.string x168001_6] 37 (0,0)))∧Aside0 (Below w.heap.size w wc))
    case first =>
     have H:=HC7.out
     clear HC7
     by_cases c12 : x6_1 < (l1.length : Int)
     ·rw [if_pos c12] at H
      have c12b0 : decide (x6_1 < (l1.length : Int))=true:=decide_eq_true c12
      clear c12
      (first|rw [c12b0]|(simp only [i64_w,i32_w];rw [c12b0])|skip)
      by_cases c13 : 0≤x6_1
      ·rw [if_pos c13] at H
       have c13b0 : decide (0≤x6_1)=true:=decide_eq_true c13
       clear c13
       have H':=Aside0.mk H
       clear H
       have p168 : 0≤(x6_1 : Int):=of_decide_eq_true (by first|(with_reducible assumption)|assumption)
       have q168 : x6_1 < (l1.length : Int):=of_decide_eq_true (by first|(with_reducible assumption)|assumption)
       obtain ⟨ad168,e168,hx168_0,hx168_1⟩:=at_T37 HR1.out x6_1 p168 q168
       cases e168
       have hn168_0 : ad168.block≠gb167:=Nat.ne_of_lt (Nat.lt_of_lt_of_le (by have:=World.block_lt_of_cell? _ _ hx168_0;first|rwa [add_block] at this|exact this) GW167.out)
       have hn168_1 : ad168.block≠gb167:=Nat.ne_of_lt (Nat.lt_of_lt_of_le (by have:=World.block_lt_of_cell? _ _ hx168_0;first|rwa [add_block] at this|exact this) GW167.out)
       replace hx168_0:=(HB.out.cell (World.block_lt_of_cell? w _ hx168_0)).trans hx168_0
       replace hx168_1:=(HB.out.cell (World.block_lt_of_cell? w _ hx168_1)).trans hx168_1
       replace hx168_0:=(cell_far (p:=⟨gb167,0,none⟩) (by first|(rw [add_block];exact hn168_0)|(show (Addr.add _ _).block≠_;rw [add_block];exact hn168_0)|exact hn168_0) (.int .i64 0)).trans hx168_0
       replace hx168_1:=(cell_far (p:=⟨gb167,0,none⟩) (by first|(rw [add_block];exact hn168_0)|(show (Addr.add _ _).block≠_;rw [add_block];exact hn168_0)|exact hn168_0) (.int .i64 0)).trans hx168_1
       replace hx168_0:=(cell_far (p:=⟨gb167,1,none⟩) (by first|(rw [add_block];exact hn168_1)|(show (Addr.add _ _).block≠_;rw [add_block];exact hn168_1)|exact hn168_1) (.string (⟨#[]⟩ : ByteArray))).trans hx168_0
       replace hx168_1:=(cell_far (p:=⟨gb167,1,none⟩) (by first|(rw [add_block];exact hn168_1)|(show (Addr.add _ _).block≠_;rw [add_block];exact hn168_1)|exact hn168_1) (.string (⟨#[]⟩ : ByteArray))).trans hx168_1
       clear hn168_0
       clear hn168_1
       replace p168:=eq_true p168
       replace q168:=eq_true q168
       have hnb14:=NB167_163.out
       have hnc14:=NB163_167.out
       have hcz15_0 : w9.cell? ⟨gb167,0,none⟩=some (.int .i64 0):=(blk_cell BK167.out 0).trans rfl
       have hcz15_1 : w9.cell? ⟨gb167,1,none⟩=some (.string (⟨#[]⟩ : ByteArray)):=(blk_cell BK167.out 1).trans rfl
       have hfz15_0:=blk_frozen BK167.out 0
       have hfz15_1:=blk_frozen BK167.out 1
       go_wp2
       go_meet
       case rel=>exact ⟨_,((rd_T37 l1 x6_1).f0),((rd_T37 l1 x6_1).f1),(by first|exact H'|(subst_vars;exact H')),⟨by have:=HK1.out;first|omega|exact Nat.le_refl _⟩,⟨by (with_reducible repeat (first|apply Kd.R_alloc|apply Kd.R_drewN|apply Kd.R_drew));exact Kd.R_mono (Kd.R_far (p:=⟨gb167,1,none⟩) (Kd.R_far (p:=⟨gb167,0,none⟩) (Kd.R_far (p:=⟨gb167,1,none⟩) (Kd.R_far (p:=⟨gb167,0,none⟩) (Kd.R_mono HO_5.out (fun k_ hk=>(⟨hk,hk.2⟩ : _∧k_≠gb167))) (fun _ hk=>hk.2) (.int .i64 0)) (fun _ hk=>hk.2) (.string (⟨#[]⟩ : ByteArray))) (fun _ hk=>hk.2) (.int .i64 ((rd_T37 l1 x6_1).f0))) (fun _ hk=>hk.2) (.string ((rd_T37 l1 x6_1).f1))) (fun _ hk=>hk.1.2)⟩,⟨by (with_reducible repeat (first|refine blk_drewN ?_ _|refine blk_drew ?_|refine blk_alloc ?_ _));refine blk_far ?_ NB163_167.out _;(with_reducible repeat (first|refine blk_drewN ?_ _|refine blk_drew ?_|refine blk_alloc ?_ _));refine blk_far ?_ NB163_167.out _;(with_reducible repeat (first|refine blk_drewN ?_ _|refine blk_drew ?_|refine blk_alloc ?_ _));refine blk_far ?_ NB163_167.out _;(with_reducible repeat (first|refine blk_drewN ?_ _|refine blk_drew ?_|refine blk_alloc ?_ _));refine blk_far ?_ NB163_167.out _;(with_reducible repeat (first|refine blk_drewN ?_ _|refine blk_drew ?_|refine blk_alloc ?_ _));exact BK163.out⟩,⟨by (with_reducible repeat (first|refine blk_drewN ?_ _|refine blk_drew ?_|refine blk_alloc ?_ _));refine blk_put (cs:=#[.int .i64 ((rd_T37 l1 x6_1).f0),.string (⟨#[]⟩ : ByteArray)]) ?_ 1 _ rfl;(with_reducible repeat (first|refine blk_drewN ?_ _|refine blk_drew ?_|refine blk_alloc ?_ _));refine blk_put (cs:=#[.int .i64 0,.string (⟨#[]⟩ : ByteArray)]) ?_ 0 _ rfl;(with_reducible repeat (first|refine blk_drewN ?_ _|refine blk_drew ?_|refine blk_alloc ?_ _));refine blk_put (cs:=#[.int .i64 0,.string (⟨#[]⟩ : ByteArray)]) ?_ 1 _ rfl;(with_reducible repeat (first|refine blk_drewN ?_ _|refine blk_drew ?_|refine blk_alloc ?_ _));refine blk_put (cs:=#[.int .i64 0,.string (⟨#[]⟩ : ByteArray)]) ?_ 0 _ rfl;(with_reducible repeat (first|refine blk_drewN ?_ _|refine blk_drew ?_|refine blk_alloc ?_ _));exact BK167.out⟩,⟨by repeat (first|(with_reducible first|exact HB.out|apply below_alloc|apply pw_below_drewN|apply below_drew1|refine below_set ?_ GE163.out|refine below_set ?_ GE167.out)|exact HB.out)⟩⟩
      ·rw [if_neg c13] at H
       exact absurd H (by simp)
     ·rw [if_neg c12] at H
      have c12b0 : decide (x6_1 < (l1.length : Int))=false:=decide_eq_false c12
      clear c12
      (first|rw [c12b0]|(simp only [i64_w,i32_w];rw [c12b0])|skip)
      have H':=Aside0.mk H
      clear H
      go_wp2
      go_meet
      case rel=>exact ⟨_,(0),((⟨#[]⟩ : ByteArray)),(by first|exact H'|(subst_vars;exact H')),⟨by have:=HK1.out;first|omega|exact Nat.le_refl _⟩,⟨by (with_reducible repeat (first|apply Kd.R_alloc|apply Kd.R_drewN|apply Kd.R_drew));exact Kd.R_mono (Kd.R_far (p:=⟨gb167,1,none⟩) (Kd.R_far (p:=⟨gb167,0,none⟩) (Kd.R_mono HO_5.out (fun k_ hk=>(⟨hk,hk.2⟩ : _∧k_≠gb167))) (fun _ hk=>hk.2) (.int .i64 0)) (fun _ hk=>hk.2) (.string (⟨#[]⟩ : ByteArray))) (fun _ hk=>hk.1.2)⟩,⟨by (with_reducible repeat (first|refine blk_drewN ?_ _|refine blk_drew ?_|refine blk_alloc ?_ _));refine blk_far ?_ NB163_167.out _;(with_reducible repeat (first|refine blk_drewN ?_ _|refine blk_drew ?_|refine blk_alloc ?_ _));refine blk_far ?_ NB163_167.out _;(with_reducible repeat (first|refine blk_drewN ?_ _|refine blk_drew ?_|refine blk_alloc ?_ _));exact BK163.out⟩,⟨by (with_reducible repeat (first|refine blk_drewN ?_ _|refine blk_drew ?_|refine blk_alloc ?_ _));refine blk_put (cs:=#[.int .i64 0,.string (⟨#[]⟩ : ByteArray)]) ?_ 1 _ rfl;(with_reducible repeat (first|refine blk_drewN ?_ _|refine blk_drew ?_|refine blk_alloc ?_ _));refine blk_put (cs:=#[.int .i64 0,.string (⟨#[]⟩ : ByteArray)]) ?_ 0 _ rfl;(with_reducible repeat (first|refine blk_drewN ?_ _|refine blk_drew ?_|refine blk_alloc ?_ _));exact BK167.out⟩,⟨by repeat (first|(with_reducible first|exact HB.out|apply below_alloc|apply pw_below_drewN|apply below_drew1|refine below_set ?_ GE163.out|refine below_set ?_ GE167.out)|exact HB.out)⟩⟩
    case rest =>
     clear HC7
     try clear c1
     try clear p1
     try clear q1
     try clear hx1
     try clear p2
     try clear c6
     try clear c6b0
     try clear c10
     try clear c12
     try clear c12b0
     try clear c13
     try clear c13b0
     try clear c14
     try clear hcz11_0
     try clear hcz11_1
     try clear hcz15_0
     try clear hcz15_1
     try clear hcz8_0
     try clear hcz8_1
     try clear hcz8_2
     try clear hcz8_3
     try clear hfz11_0
     try clear hfz11_1
     try clear hfz15_0
     try clear hfz15_1
     try clear hfz8_0
     try clear hfz8_1
     try clear hfz8_2
     try clear hfz8_3
     try clear hx168_0
     try clear hx168_1
     try clear p168
     try clear p2
     try clear q168
     obtain ⟨kq,x168000_6,x168001_6,HA,HJ6,HO_5,BK163,BK167,HB⟩:=hcut
     cases kq with
     | zero=>exact absurd HA.out (by simp [thresherref04_Fit.j1])
     | succ kj6 =>
      have H:=HA.out
      clear HA
      simp only [thresherref04_Fit.j1] at H
      by_cases c16 : 0≤x6_1
      ·rw [if_pos c16] at H
       have c16b0 : decide (0≤x6_1)=true:=decide_eq_true c16
       clear c16
       by_cases c17 : x6_1 < (l0_0.length : Int)
       ·rw [if_pos c17] at H
        have c17b0 : decide (x6_1 < (l0_0.length : Int))=true:=decide_eq_true c17
        clear c17
        by_cases c18 : (rd l0_0 x6_1)=3
        ·rw [if_pos c18] at H
         have c18b0 : ((rd l0_0 x6_1) == 3)=true:=beq_iff_eq.mpr c18
         have c18b1 : ((rd l0_0 x6_1) != 3)=false:=bne_eq_false_iff_eq.mpr c18
         clear c18
         by_cases c19 : (x168001_6.size : Int) > 60
         ·rw [if_pos c19] at H
          have c19b0 : decide (60 < (x168001_6.size : Int))=true:=decide_eq_true c19
          have c19b1 : decide (60 < x168001_6.size)=true:=decide_eq_true (by omega)
          clear c19
          by_cases c20 : 0≤60
          ·rw [if_pos c20] at H
           have c20b0:=eq_true c20
           have c20b1 : decide (0≤60)=true:=decide_eq_true c20
           clear c20
           by_cases c21 : 60≤(x168001_6.size : Int)
           ·rw [if_pos c21] at H
            have c21b0:=eq_true c21
            have c21b1 : decide (60≤(x168001_6.size : Int))=true:=decide_eq_true c21
            clear c21
            by_cases c22 : x5_1.length < 5864062014805
            ·rw [if_pos c22] at H
             have LMc22:=Aside0.mk c22
             clear c22
             obtain ⟨y170,hy170⟩ : ∃ y_ : List (S37),y_=(x5_1 ++ [(⟨0,x168001_6.extract 0 60⟩ : S37)]):=⟨_,rfl⟩
             replace H : (thresherref04_Fit.l0 kj6 l1 y170 (wrap64 (x6_1 + 1)) l0_0 a0_1 a0_2 a0_3)=some r:=by first|(rw [hy170];with_reducible exact H)|(have H2_:=(Option.bind_some _ _).symm.trans H;rw [hy170];with_reducible exact H2_)|(have H2_:=(Option.bind_some _ _).symm.trans H;with_reducible exact H2_)|with_reducible exact H|(rw [hy170];exact H)|exact H
             have Ny170:=Aside0.mk hy170
             clear hy170
             have H':=Aside0.mk H
             clear H
             have hnb23:=NB163_167.out
             have hnc23:=NB167_163.out
             have hcz24_0 : wc.cell? ⟨gb163,0,none⟩=some (.slice A0_0 l0_0.length c0_0):=(blk_cell BK163.out 0).trans rfl
             have hcz24_1 : wc.cell? ⟨gb163,1,none⟩=some (.int .i64 a0_1):=(blk_cell BK163.out 1).trans rfl
             have hcz24_2 : wc.cell? ⟨gb163,2,none⟩=some (.int .i64 a0_2):=(blk_cell BK163.out 2).trans rfl
             have hcz24_3 : wc.cell? ⟨gb163,3,none⟩=some (.int .i64 a0_3):=(blk_cell BK163.out 3).trans rfl
             have hfz24_0:=blk_frozen BK163.out 0
             have hfz24_1:=blk_frozen BK163.out 1
             have hfz24_2:=blk_frozen BK163.out 2
             have hfz24_3:=blk_frozen BK163.out 3
             have p169 : 0≤(x6_1 : Int):=of_decide_eq_true (by first|(with_reducible assumption)|assumption)
             have q169 : x6_1 < (l0_0.length : Int):=of_decide_eq_true (by first|(with_reducible assumption)|assumption)
             obtain ⟨ad169,e169,hx169_0⟩:=Kd.at_int HR0_0.out x6_1 p169 q169
             cases e169
             replace hx169_0:=(HB.out.cell (World.block_lt_of_cell? w _ hx169_0)).trans hx169_0
             replace p169:=eq_true p169
             replace q169:=eq_true q169
             have hcz25_0 : wc.cell? ⟨gb167,0,none⟩=some (.int .i64 x168000_6):=(blk_cell BK167.out 0).trans rfl
             have hcz25_1 : wc.cell? ⟨gb167,1,none⟩=some (.string x168001_6):=(blk_cell BK167.out 1).trans rfl
             have hfz25_0:=blk_frozen BK167.out 0
             have hfz25_1:=blk_frozen BK167.out 1
             go_wp2_with (first|((with_reducible refine gate_builtin (b:=.append) (xs:=#[.tmp 39,.tmp 42]) rfl ?_);at_builtin;refine Kd.R_append k37 (w0:=w) w.heap.size rfl (.tmp 39) (.tmp 42) 41 37 (.agg #[(.int .i64 0),(.string ⟨#[]⟩)]) 24 rfl Try.underlying41 info37 rfl (by decide) (by omega) u5 x5_1 (⟨0,x168001_6.extract 0 60⟩ : S37) [.int .i64 0,.string (x168001_6.extract 0 60)] (fun k_=>k_≠gb167) (fun _=>False) rfl rfl ?aP (fun _ hk=>hk.elim) ?aF ?aO ?aB ?aS ?aL ?_;(case aP=>exact k37_mkM _ _ _ (⟨0,x168001_6.extract 0 60⟩ : S37));(case aB=>exact (below_go HB.out));(case aF=>exact (fun k_ hk=>Kd.freshB (blk_up BK167.out) k_ hk));(case aO=>exact (R_up HO_5.out));(case aS=>exact (below_size (below_go HB.out)));(case aL=>have:=LMc22.out;omega);intro v171 w26 ho hb hg hat;rw [← Ny170.out] at ho;have n0_:=Aside0.mk (blk_grown (blk_up BK163.out) hg (Kd.R_ne HO_5.out BK163.out (by decide)));have n1_:=Aside0.mk (blk_grown (blk_up BK167.out) hg (Kd.R_away HO_5.out (fun _ hk=>hk)));have n2_:=Aside0.mk (hb);have n3_:=Aside0.mk (ho);clear BK163;clear BK167;clear HB;clear HO_5;have BK163:=n0_;have BK167:=n1_;have HB:=n2_;have HO172:=n3_;clear n0_ n1_ n2_ n3_;clear ho hb hg hat))
             go_roundg kj6
             case measure=>have:=HK1.out;have:=HJ6.out;omega
             case rel=>exact ⟨(y170),(wrap64 (x6_1 + 1)),(by first|rfl|(simp;done)|(simp [*];done)),(by first|exact H'|(subst_vars;exact H')),⟨by have:=HK1.out;have:=HJ6.out;omega⟩,⟨by (with_reducible repeat (first|apply Kd.R_alloc|apply Kd.R_drewN|apply Kd.R_drew));exact Kd.R_mono HO172.out (fun _ hk=>trivial)⟩,⟨by (with_reducible repeat (first|refine blk_drewN ?_ _|refine blk_drew ?_|refine blk_alloc ?_ _));exact BK163.out⟩,⟨by repeat (first|(with_reducible first|exact HB.out|apply below_alloc|apply pw_below_drewN|apply below_drew1|refine below_set ?_ GE163.out|refine below_set ?_ GE167.out)|exact HB.out)⟩⟩
            ·rw [if_neg c22] at H
             exact absurd H (by simp)
           ·rw [if_neg c21] at H
            exact absurd H (by simp)
          ·rw [if_neg c20] at H
           exact absurd H (by simp)
         ·rw [if_neg c19] at H
          have c19b0 : decide (60 < (x168001_6.size : Int))=false:=decide_eq_false c19
          have c19b1 : decide (60 < x168001_6.size)=false:=decide_eq_false (by omega)
          clear c19
          by_cases c27 : x5_1.length < 5864062014805
          ·rw [if_pos c27] at H
           have LMc27:=Aside0.mk c27
           clear c27
           obtain ⟨y173,hy173⟩ : ∃ y_ : List (S37),y_=(x5_1 ++ [(⟨0,x168001_6⟩ : S37)]):=⟨_,rfl⟩
           replace H : (thresherref04_Fit.l0 kj6 l1 y173 (wrap64 (x6_1 + 1)) l0_0 a0_1 a0_2 a0_3)=some r:=by first|(rw [hy173];with_reducible exact H)|(have H2_:=(Option.bind_some _ _).symm.trans H;rw [hy173];with_reducible exact H2_)|(have H2_:=(Option.bind_some _ _).symm.trans H;with_reducible exact H2_)|with_reducible exact H|(rw [hy173];exact H)|exact H
           have Ny173:=Aside0.mk hy173
           clear hy173
           have H':=Aside0.mk H
           clear H
           have hnb28:=NB163_167.out
           have hnc28:=NB167_163.out
           have hcz29_0 : wc.cell? ⟨gb163,0,none⟩=some (.slice A0_0 l0_0.length c0_0):=(blk_cell BK163.out 0).trans rfl
           have hcz29_1 : wc.cell? ⟨gb163,1,none⟩=some (.int .i64 a0_1):=(blk_cell BK163.out 1).trans rfl
           have hcz29_2 : wc.cell? ⟨gb163,2,none⟩=some (.int .i64 a0_2):=(blk_cell BK163.out 2).trans rfl
           have hcz29_3 : wc.cell? ⟨gb163,3,none⟩=some (.int .i64 a0_3):=(blk_cell BK163.out 3).trans rfl
           have hfz29_0:=blk_frozen BK163.out 0
           have hfz29_1:=blk_frozen BK163.out 1
           have hfz29_2:=blk_frozen BK163.out 2
           have hfz29_3:=blk_frozen BK163.out 3
           have p169 : 0≤(x6_1 : Int):=of_decide_eq_true (by first|(with_reducible assumption)|assumption)
           have q169 : x6_1 < (l0_0.length : Int):=of_decide_eq_true (by first|(with_reducible assumption)|assumption)
           obtain ⟨ad169,e169,hx169_0⟩:=Kd.at_int HR0_0.out x6_1 p169 q169
           cases e169
           replace hx169_0:=(HB.out.cell (World.block_lt_of_cell? w _ hx169_0)).trans hx169_0
           replace p169:=eq_true p169
           replace q169:=eq_true q169
           have hcz30_0 : wc.cell? ⟨gb167,0,none⟩=some (.int .i64 x168000_6):=(blk_cell BK167.out 0).trans rfl
           have hcz30_1 : wc.cell? ⟨gb167,1,none⟩=some (.string x168001_6):=(blk_cell BK167.out 1).trans rfl
           have hfz30_0:=blk_frozen BK167.out 0
           have hfz30_1:=blk_frozen BK167.out 1
           go_wp2_with (first|((with_reducible refine gate_builtin (b:=.append) (xs:=#[.tmp 39,.tmp 42]) rfl ?_);at_builtin;refine Kd.R_append k37 (w0:=w) w.heap.size rfl (.tmp 39) (.tmp 42) 41 37 (.agg #[(.int .i64 0),(.string ⟨#[]⟩)]) 24 rfl Try.underlying41 info37 rfl (by decide) (by omega) u5 x5_1 (⟨0,x168001_6⟩ : S37) [.int .i64 0,.string x168001_6] (fun k_=>k_≠gb167) (fun _=>False) rfl rfl ?aP (fun _ hk=>hk.elim) ?aF ?aO ?aB ?aS ?aL ?_;(case aP=>exact k37_mkM _ _ _ (⟨0,x168001_6⟩ : S37));(case aB=>exact (below_go HB.out));(case aF=>exact (fun k_ hk=>Kd.freshB (blk_up BK167.out) k_ hk));(case aO=>exact (R_up HO_5.out));(case aS=>exact (below_size (below_go HB.out)));(case aL=>have:=LMc27.out;omega);intro v174 w31 ho hb hg hat;rw [← Ny173.out] at ho;have n0_:=Aside0.mk (blk_grown (blk_up BK163.out) hg (Kd.R_ne HO_5.out BK163.out (by decide)));have n1_:=Aside0.mk (blk_grown (blk_up BK167.out) hg (Kd.R_away HO_5.out (fun _ hk=>hk)));have n2_:=Aside0.mk (hb);have n3_:=Aside0.mk (ho);clear BK163;clear BK167;clear HB;clear HO_5;have BK163:=n0_;have BK167:=n1_;have HB:=n2_;have HO175:=n3_;clear n0_ n1_ n2_ n3_;clear ho hb hg hat))
           go_roundg kj6
           case measure=>have:=HK1.out;have:=HJ6.out;omega
           case rel=>exact ⟨(y173),(wrap64 (x6_1 + 1)),(by first|rfl|(simp;done)|(simp [*];done)),(by first|exact H'|(subst_vars;exact H')),⟨by have:=HK1.out;have:=HJ6.out;omega⟩,⟨by (with_reducible repeat (first|apply Kd.R_alloc|apply Kd.R_drewN|apply Kd.R_drew));exact Kd.R_mono HO175.out (fun _ hk=>trivial)⟩,⟨by (with_reducible repeat (first|refine blk_drewN ?_ _|refine blk_drew ?_|refine blk_alloc ?_ _));exact BK163.out⟩,⟨by repeat (first|(with_reducible first|exact HB.out|apply below_alloc|apply pw_below_drewN|apply below_drew1|refine below_set ?_ GE163.out|refine below_set ?_ GE167.out)|exact HB.out)⟩⟩
          ·rw [if_neg c27] at H
           exact absurd H (by simp)
        ·rw [if_neg c18] at H
         have c18b0 : ((rd l0_0 x6_1) == 3)=false:=beq_eq_false_iff_ne.mpr c18
         have c18b1 : ((rd l0_0 x6_1) != 3)=true:=bne_iff_ne.mpr c18
         by_cases c32 : x5_1.length < 5864062014805
         ·rw [if_pos c32] at H
          have LMc32:=Aside0.mk c32
          clear c32
          obtain ⟨y176,hy176⟩ : ∃ y_ : List (S37),y_=(x5_1 ++ [(⟨x168000_6,(⟨#[]⟩ : ByteArray)⟩ : S37)]):=⟨_,rfl⟩
          replace H : (thresherref04_Fit.l0 kj6 l1 y176 (wrap64 (x6_1 + 1)) l0_0 a0_1 a0_2 a0_3)=some r:=by first|(rw [hy176];with_reducible exact H)|(have H2_:=(Option.bind_some _ _).symm.trans H;rw [hy176];with_reducible exact H2_)|(have H2_:=(Option.bind_some _ _).symm.trans H;with_reducible exact H2_)|with_reducible exact H|(rw [hy176];exact H)|exact H
          have Ny176:=Aside0.mk hy176
          clear hy176
          have H':=Aside0.mk H
          clear H
          have hnb33:=NB163_167.out
          have hnc33:=NB167_163.out
          have hcz34_0 : wc.cell? ⟨gb163,0,none⟩=some (.slice A0_0 l0_0.length c0_0):=(blk_cell BK163.out 0).trans rfl
          have hcz34_1 : wc.cell? ⟨gb163,1,none⟩=some (.int .i64 a0_1):=(blk_cell BK163.out 1).trans rfl
          have hcz34_2 : wc.cell? ⟨gb163,2,none⟩=some (.int .i64 a0_2):=(blk_cell BK163.out 2).trans rfl
          have hcz34_3 : wc.cell? ⟨gb163,3,none⟩=some (.int .i64 a0_3):=(blk_cell BK163.out 3).trans rfl
          have hfz34_0:=blk_frozen BK163.out 0
          have hfz34_1:=blk_frozen BK163.out 1
          have hfz34_2:=blk_frozen BK163.out 2
          have hfz34_3:=blk_frozen BK163.out 3
          have p169 : 0≤(x6_1 : Int):=of_decide_eq_true (by first|(with_reducible assumption)|assumption)
          have q169 : x6_1 < (l0_0.length : Int):=of_decide_eq_true (by first|(with_reducible assumption)|assumption)
          obtain ⟨ad169,e169,hx169_0⟩:=Kd.at_int HR0_0.out x6_1 p169 q169
          cases e169
          replace hx169_0:=(HB.out.cell (World.block_lt_of_cell? w _ hx169_0)).trans hx169_0
          replace p169:=eq_true p169
          replace q169:=eq_true q169
          have hcz35_0 : wc.cell? ⟨gb167,0,none⟩=some (.int .i64 x168000_6):=(blk_cell BK167.out 0).trans rfl
          have hcz35_1 : wc.cell? ⟨gb167,1,none⟩=some (.string x168001_6):=(blk_cell BK167.out 1).trans rfl
          have hfz35_0:=blk_frozen BK167.out 0
          have hfz35_1:=blk_frozen BK167.out 1
          go_wp2_with (first|((with_reducible refine gate_builtin (b:=.append) (xs:=#[.tmp 44,.tmp 48]) rfl ?_);at_builtin;refine Kd.R_append k37 (w0:=w) w.heap.size rfl (.tmp 44) (.tmp 48) 41 37 (.agg #[(.int .i64 0),(.string ⟨#[]⟩)]) 24 rfl Try.underlying41 info37 rfl (by decide) (by omega) u5 x5_1 (⟨x168000_6,(⟨#[]⟩ : ByteArray)⟩ : S37) [.int .i64 x168000_6,.string (⟨#[]⟩ : ByteArray)] (fun k_=>k_≠gb167) (fun _=>False) rfl rfl ?aP (fun _ hk=>hk.elim) ?aF ?aO ?aB ?aS ?aL ?_;(case aP=>exact k37_mkM _ _ _ (⟨x168000_6,(⟨#[]⟩ : ByteArray)⟩ : S37));(case aB=>exact (below_go HB.out));(case aF=>exact (fun k_ hk=>Kd.freshB (blk_up BK167.out) k_ hk));(case aO=>exact (R_up HO_5.out));(case aS=>exact (below_size (below_go HB.out)));(case aL=>have:=LMc32.out;omega);intro v177 w36 ho hb hg hat;rw [← Ny176.out] at ho;have n0_:=Aside0.mk (blk_grown (blk_up BK163.out) hg (Kd.R_ne HO_5.out BK163.out (by decide)));have n1_:=Aside0.mk (blk_grown (blk_up BK167.out) hg (Kd.R_away HO_5.out (fun _ hk=>hk)));have n2_:=Aside0.mk (hb);have n3_:=Aside0.mk (ho);clear BK163;clear BK167;clear HB;clear HO_5;have BK163:=n0_;have BK167:=n1_;have HB:=n2_;have HO178:=n3_;clear n0_ n1_ n2_ n3_;clear ho hb hg hat))
          go_roundg kj6
          case measure=>have:=HK1.out;have:=HJ6.out;omega
          case rel=>exact ⟨(y176),(wrap64 (x6_1 + 1)),(by first|rfl|(simp;done)|(simp [*];done)),(by first|exact H'|(subst_vars;exact H')),⟨by have:=HK1.out;have:=HJ6.out;omega⟩,⟨by (with_reducible repeat (first|apply Kd.R_alloc|apply Kd.R_drewN|apply Kd.R_drew));exact Kd.R_mono HO178.out (fun _ hk=>trivial)⟩,⟨by (with_reducible repeat (first|refine blk_drewN ?_ _|refine blk_drew ?_|refine blk_alloc ?_ _));exact BK163.out⟩,⟨by repeat (first|(with_reducible first|exact HB.out|apply below_alloc|apply pw_below_drewN|apply below_drew1|refine below_set ?_ GE163.out|refine below_set ?_ GE167.out)|exact HB.out)⟩⟩
         ·rw [if_neg c32] at H
          exact absurd H (by simp)
       ·rw [if_neg c17] at H
        exact absurd H (by simp)
      ·rw [if_neg c16] at H
       exact absurd H (by simp)
   ·rw [if_neg c6] at H
    have c6b0 : decide (x6_1 < (l0_0.length : Int))=false:=decide_eq_false c6
    clear c6
    obtain rfl:=Option.some.inj H
    have hcz37_0 : wr.cell? ⟨gb163,0,none⟩=some (.slice A0_0 l0_0.length c0_0):=(blk_cell BK163.out 0).trans rfl
    have hcz37_1 : wr.cell? ⟨gb163,1,none⟩=some (.int .i64 a0_1):=(blk_cell BK163.out 1).trans rfl
    have hcz37_2 : wr.cell? ⟨gb163,2,none⟩=some (.int .i64 a0_2):=(blk_cell BK163.out 2).trans rfl
    have hcz37_3 : wr.cell? ⟨gb163,3,none⟩=some (.int .i64 a0_3):=(blk_cell BK163.out 3).trans rfl
    have hfz37_0:=blk_frozen BK163.out 0
    have hfz37_1:=blk_frozen BK163.out 1
    have hfz37_2:=blk_frozen BK163.out 2
    have hfz37_3:=blk_frozen BK163.out 3
    go_wp2
    go_ret
    exact ⟨_,by first|rfl|(simp [errW_none,errW_some] <;> rfl)|(simp [*,errW_none,errW_some] <;> rfl),by (with_reducible repeat (first|apply Kd.R_alloc|apply Kd.R_drewN|apply Kd.R_drew));exact HO_5.out,by repeat (first|(with_reducible first|exact HB.out|apply below_alloc|apply pw_below_drewN|apply below_drew1|refine below_set ?_ GE163.out)|exact HB.out)⟩
def thresherref04_Fits.l0 : Nat→List (List (S37))→Int→List (List (S37))→Int→List Int→Int→Int→Int→Option ((List (List (S37))))
 | 0,_,_,_,_,_,_,_,_=>none
 | k + 1,x1,x2,x7,x8,x180000,x180001,x180002,x180003=>if x8 < (x1.length : Int) then (if x8 < x2 then (if 0≤x8 then ((thresherref04_Fit.f k x180000 x180001 x180002 x180003 (rd_L4 x1 x8)).bind fun t184=>(if x7.length < 5864062014805 then (thresherref04_Fits.l0 k x1 x2 (x7 ++ [t184]) (wrap64 (x8 + 1)) x180000 x180001 x180002 x180003) else (none))) else (none)) else (some x7)) else (some x7)
def thresherref04_Fits.f (k : Nat) (l0_0 : List Int) (a0_1 : Int) (a0_2 : Int) (a0_3 : Int) (l1 : List (List (S37))) (a2 : Int) : Option ((List (List (S37)))):=thresherref04_Fits.l0 k l1 a2 (([] : List (List (S37)))) 0 l0_0 a0_1 a0_2 a0_3
theorem thresherref04_Fits.mono_l : ∀ k,(∀ y0 y1 y2 y3 y4 y5 y6 y7,LeO (thresherref04_Fits.l0 k y0 y1 y2 y3 y4 y5 y6 y7) (thresherref04_Fits.l0 (k + 1) y0 y1 y2 y3 y4 y5 y6 y7))
 | 0=>fun _ _ _ _ _ _ _ _ r h=>by simp [thresherref04_Fits.l0] at h
 | k + 1=>by
  have ih0:=thresherref04_Fits.mono_l k
  ·intro y0 y1 y2 y3 y4 y5 y6 y7
   unfold thresherref04_Fits.l0
   repeat' first
   | (with_reducible exact ih0 _ _ _ _ _ _ _ _)
   | (with_reducible exact thresherref04_Fit.mono _ _ _ _ _ _)
   | (with_reducible exact LeO.refl _)
   | (with_reducible exact LeO.none _)
   | (with_reducible refine LeO.ite ?_ ?_)
   | (with_reducible refine LeO.bind ?_ (fun _=>?_))
   | exact ih0 _ _ _ _ _ _ _ _
   | exact thresherref04_Fit.mono _ _ _ _ _ _
   | exact LeO.none _
   | refine LeO.ite ?_ ?_
   | refine LeO.bind ?_ (fun _=>?_)
theorem thresherref04_Fits.mono : ∀ a0 a1 a2 a3 a4 a5 k,LeO (thresherref04_Fits.f k a0 a1 a2 a3 a4 a5) (thresherref04_Fits.f (k + 1) a0 a1 a2 a3 a4 a5):=by
 intro a0 a1 a2 a3 a4 a5 k
 have ih0:=thresherref04_Fits.mono_l k
 unfold thresherref04_Fits.f
 repeat' first
   | (with_reducible exact ih0 _ _ _ _ _ _ _ _)
   | (with_reducible exact thresherref04_Fit.mono _ _ _ _ _ _)
   | (with_reducible exact LeO.refl _)
   | (with_reducible exact LeO.none _)
   | (with_reducible refine LeO.ite ?_ ?_)
   | (with_reducible refine LeO.bind ?_ (fun _=>?_))
   | exact ih0 _ _ _ _ _ _ _ _
   | exact thresherref04_Fit.mono _ _ _ _ _ _
   | exact LeO.none _
   | refine LeO.ite ?_ ?_
   | refine LeO.bind ?_ (fun _=>?_)
def thresherref04_Fits.T5 : Bool × List (List Nat × List Nat):=(true,[([],[]),([],[]),([],[]),([],[]),([2,3],[2,3]),([4],[4]),([1,5],[1,5]),([6],[6]),([0,7,6],[0,7]),([8,8,0,1,2,3,4,5,6,7,8],[0,8])])
def thresherref04_Fits.B5 : List Nat:=[0,0,0,0,12,28,62,126,255,511]
theorem thresherref04_Fits.tab5 : rtab .any (opsOf Try.f11 5)=thresherref04_Fits.T5:=by kernel_rfl
theorem thresherref04_Fits.bits5 : waitsOk thresherref04_Fits.T5.2 thresherref04_Fits.B5=true:=by kernel_rfl
set_option maxHeartbeats 8000000 in
set_option maxRecDepth 100000 in
theorem thresherref04_Fits.calls (k : Nat) (A0_0 : Option Addr) (c0_0 : Nat) (l0_0 : List Int) (a0_1 : Int) (a0_2 : Int) (a0_3 : Int) (A1 : Option Addr) (c1 : Nat) (l1 : List (List (S37))) (a2 : Int) (r : List (List (S37))) (w : World) (hr0_0 : Kd.C (Kd.int .i64) w A0_0 l0_0.length l0_0) (hc0_0 : l0_0.length≤c0_0) (hr1 : Kd.C (Kd.slice 37 k37) w A1 l1.length l1) (hc1 : l1.length≤c1) (h : thresherref04_Fits.f k l0_0 a0_1 a0_2 a0_3 l1 a2=some r) :
  Calls Try.prog 11 #[.agg #[.slice A0_0 l0_0.length c0_0,.int .i64 a0_1,.int .i64 a0_2,.int .i64 a0_3],.slice A1 l1.length c1,.int .i64 a2] w fun e w'=>∃ v0_ : Value,e=.returned (v0_)∧Kd.S (Kd.slice 37 k37) 41 w' w.heap.size (fun _=>True) v0_ r∧Below w.heap.size w w':=by
 have hu32:=Try.underlying32
 have HR0_0:=Aside0.mk hr0_0
 have HC0_0:=Aside0.mk hc0_0
 clear hr0_0 hc0_0
 have HR1:=Aside0.mk hr1
 have HC1:=Aside0.mk hc1
 clear hr1 hc1
 have HB:=Aside0.mk (Below.refl w.heap.size w)
 have H : (thresherref04_Fits.l0 k l1 a2 (([] : List (List (S37)))) 0 l0_0 a0_1 a0_2 a0_3)=some r:=h
 clear h
 obtain ⟨y180,hy180⟩ : ∃ y_ : List (List (S37)),y_=(([] : List (List (S37)))):=⟨_,rfl⟩
 replace H : (thresherref04_Fits.l0 k l1 a2 y180 0 l0_0 a0_1 a0_2 a0_3)=some r:=by first|(rw [hy180];with_reducible exact H)|(have H2_:=(Option.bind_some _ _).symm.trans H;rw [hy180];with_reducible exact H2_)|(have H2_:=(Option.bind_some _ _).symm.trans H;with_reducible exact H2_)|with_reducible exact H|(rw [hy180];exact H)|exact H
 have Ny180:=Aside0.mk hy180
 clear hy180
 have H':=Aside0.mk H
 clear H
 go_enter Try.func11,Try.ntmps11
 go_wp2_with (first|((with_reducible refine gate_dst (N:=3) rfl ?_);refine box_event ?hg (N:=3) ?hd (cs:=#[.slice A0_0 l0_0.length c0_0,.int .i64 a0_1,.int .i64 a0_2,.int .i64 a0_3]) (t:=32) ?hr ?_;(case hd=>rfl);(case hg=>rfl);(case hr=>first|(go_simp;done)|(go_simp;rfl));intro gb179 hg w4 hbox hb;have n0_:=Aside0.mk (below_step (below_up HB.out) hb);have n1_:=Aside0.mk (hbox);have n2_:=Aside0.mk ((by rw [hg];exact (below_size (below_up HB.out)) : w.heap.size≤gb179));have n3_:=Aside0.mk ((by rw [hg];exact (below_size (below_up HB.out)) : w.heap.size≤gb179));clear HB;have HB:=n0_;have BK179:=n1_;have GW179:=n2_;have GE179:=n3_;clear n0_ n1_ n2_ n3_;clear hb hbox hg)|((with_reducible refine gate_dst (N:=9) rfl ?_);refine Kd.S_lit (Kd.slice 37 k37) _ 41 ?hg (N:=9) ?hd (xs:=([] : List (List (S37)))) (inner:=[]) (ok:=fun _=>True) (okp:=fun _=>True) ?hr ?hp (fun _ hk=>hk) trivial (Below.refl _ _) (Nat.le_refl _) (by simp) ?_;(case hd=>rfl);(case hg=>rfl);(case hr=>first|(go_simp;done)|(go_simp;rfl));(case hp=>exact (Reps.none _ _));intro v181 w5 ho6 hb hg_ hnew_;clear hg_ hnew_;(first|rw [← Ny180.out] at ho6|(simp only [Int.reduceToNat] at ho6;rw [← Ny180.out] at ho6));have n0_:=Aside0.mk (Kd.S_lower ho6 (below_size (below_go HB.out)));have n1_:=Aside0.mk (blk_below (blk_up BK179.out) hb);have n2_:=Aside0.mk (below_step (below_go HB.out) hb);clear BK179;clear HB;have HO182:=n0_;have BK179:=n1_;have HB:=n2_;clear n0_ n1_ n2_;clear hb ho6))
 go_loopg [7,8] k (fun kq v7 v8 w'=>∃ (x7_1 : List (List (S37))) (x8_1 : Int),v8=.int .i64 x8_1∧Aside0 (thresherref04_Fits.l0 kq l1 a2 x7_1 x8_1 l0_0 a0_1 a0_2 a0_3=some r)∧Aside0 (kq≤k)∧Aside0 (Kd.S (Kd.slice 37 k37) 41 w' w.heap.size (fun _=>True) v7 x7_1)∧Aside0 (w'.heap[gb179]?=some (.cells #[(.slice A0_0 l0_0.length c0_0),.int .i64 a0_1,.int .i64 a0_2,.int .i64 a0_3] 32 (0,0)))∧Aside0 (Below w.heap.size w w'))
 case atStart=>exact ⟨(y180),(0),(by first|rfl|(simp;done)|(simp [*];done)),H',⟨Nat.le_refl _⟩,⟨by (with_reducible repeat (first|apply Kd.S_alloc|apply Kd.S_drewN|apply Kd.S_drew));exact HO182.out⟩,⟨by (with_reducible repeat (first|refine blk_drewN ?_ _|refine blk_drew ?_|refine blk_alloc ?_ _));exact BK179.out⟩,⟨by repeat (first|(with_reducible first|exact HB.out|apply below_alloc|apply pw_below_drewN|apply below_drew1|refine below_set ?_ GE179.out)|exact HB.out)⟩⟩
 case round =>
  clear H'
  try clear c1
  try clear p2
  obtain ⟨x7_1,x8_1,rfl,HA,HK1,HO_7,BK179,HB⟩:=hrel
  cases gk with
  | zero=>exact absurd HA.out (by simp [thresherref04_Fits.l0])
  | succ k1 =>
   have H:=HA.out
   clear HA
   simp only [thresherref04_Fits.l0] at H
   by_cases c7 : x8_1 < (l1.length : Int)
   ·rw [if_pos c7] at H
    have c7b0 : decide (x8_1 < (l1.length : Int))=true:=decide_eq_true c7
    clear c7
    by_cases c8 : x8_1 < a2
    ·rw [if_pos c8] at H
     have c8b0 : decide (x8_1 < a2)=true:=decide_eq_true c8
     clear c8
     by_cases c9 : 0≤x8_1
     ·rw [if_pos c9] at H
      have c9b0 : decide (0≤x8_1)=true:=decide_eq_true c9
      clear c9
      replace H:=Option.bind_eq_some_iff.mp H
      obtain ⟨t184,A100,H⟩:=H
      replace H : (if x7_1.length < 5864062014805 then (thresherref04_Fits.l0 k1 l1 a2 (x7_1 ++ [t184]) (wrap64 (x8_1 + 1)) l0_0 a0_1 a0_2 a0_3) else (none))=some r:=H
      have A10:=Aside0.mk A100
      clear A100
      by_cases c11 : x7_1.length < 5864062014805
      ·rw [if_pos c11] at H
       have LMc11:=Aside0.mk c11
       clear c11
       obtain ⟨y187,hy187⟩ : ∃ y_ : List (List (S37)),y_=(x7_1 ++ [t184]):=⟨_,rfl⟩
       replace H : (thresherref04_Fits.l0 k1 l1 a2 y187 (wrap64 (x8_1 + 1)) l0_0 a0_1 a0_2 a0_3)=some r:=by first|(rw [hy187];with_reducible exact H)|(have H2_:=(Option.bind_some _ _).symm.trans H;rw [hy187];with_reducible exact H2_)|(have H2_:=(Option.bind_some _ _).symm.trans H;with_reducible exact H2_)|with_reducible exact H|(rw [hy187];exact H)|exact H
       have Ny187:=Aside0.mk hy187
       clear hy187
       have H':=Aside0.mk H
       clear H
       try go_wp2
       have n0_:=Aside0.mk (Kd.S_drew HO_7.out)
       have n1_:=Aside0.mk (blk_drew BK179.out)
       have n2_:=Aside0.mk (below_drew1 HB.out)
       clear HO_7
       clear BK179
       clear HB
       have HO_7:=n0_
       have BK179:=n1_
       have HB:=n2_
       clear n0_ n1_ n2_
       have p183 : 0≤(x8_1 : Int):=of_decide_eq_true (by first|(with_reducible assumption)|assumption)
       have q183 : x8_1 < (l1.length : Int):=of_decide_eq_true (by first|(with_reducible assumption)|assumption)
       obtain ⟨ad183,A183_0,c183_0,e183,hx183_0,hl183_0,hi183_0⟩:=at_L4 HR1.out x8_1 p183 q183
       have hw183_0:=hx183_0
       cases e183
       replace hx183_0:=(HB.out.cell (World.block_lt_of_cell? w _ hx183_0)).trans hx183_0
       have HR183_0:=Aside0.mk hi183_0
       have HC183_0:=Aside0.mk hl183_0
       clear hi183_0 hl183_0
       replace p183:=eq_true p183
       replace q183:=eq_true q183
       refine start_ (n:=10) (S:=fun w'=>w'.cell? ⟨gb179,0,none⟩=some (.slice A0_0 l0_0.length c0_0)∧w'.cell? ⟨gb179,1,none⟩=some (.int .i64 a0_1)∧w'.cell? ⟨gb179,2,none⟩=some (.int .i64 a0_2)∧w'.cell? ⟨gb179,3,none⟩=some (.int .i64 a0_3)∧w'.cell? (ad183.add (x8_1).toNat)=some (.slice A183_0 (rd_L4 l1 x8_1).length c183_0)) (ds:=[]) #[false,false,false,false,false,false,false,false,false,false] (by kernel_rfl) rfl rfl ⟨(blk_cell BK179.out 0).trans rfl,(blk_cell BK179.out 1).trans rfl,(blk_cell BK179.out 2).trans rfl,(blk_cell BK179.out 3).trans rfl,((HB.out.cell (World.block_lt_of_cell? w _ hw183_0)).trans hw183_0)⟩ (fun hHeld=>?_);refine with_tabW thresherref04_Fits.tab5 thresherref04_Fits.bits5 (fun HT_ HW_=>?_)
       generalize wr.drew=w12 at HO_7 BK179 HB HR183_0 hx183_0 hHeld ⊢
       refine pure_ (i:=0) (N:=some 21) (v:=?_) (a':=?_) #[true,false,false,false,false,false,false,false,false,false] rfl rfl (any_of HT_.out (by kernel_rfl)) (fun _ _ _ h=>h) (Or.inl ⟨by rfl,?_⟩) ?_ ?_
       rotate_left;(intro w';go_simp;with_reducible rfl);rotate_left;(simp only [Act.put,List.setIfInBounds_toArray,List.set_cons_zero,List.set_cons_succ,i64_w,i32_w];rfl)
       refine pure_ (i:=2) (N:=some 23) (v:=?_) (a':=?_) #[true,false,true,false,false,false,false,false,false,false] rfl rfl (any_of HT_.out (by kernel_rfl)) (fun _ _ _ h=>h) (Or.inl ⟨by rfl,?_⟩) ?_ ?_
       rotate_left;(intro w';go_simp;with_reducible rfl);rotate_left;(simp only [Act.put,List.setIfInBounds_toArray,List.set_cons_zero,List.set_cons_succ,i64_w,i32_w];rfl)
       refine pure_ (i:=3) (N:=some 24) (v:=?_) (a':=?_) #[true,false,true,true,false,false,false,false,false,false] rfl rfl (any_of HT_.out (by kernel_rfl)) (fun _ _ _ h=>h) (Or.inl ⟨by rfl,?_⟩) ?_ ?_
       rotate_left;(intro w';go_simp;with_reducible rfl);rotate_left;(simp only [Act.put,List.setIfInBounds_toArray,List.set_cons_zero,List.set_cons_succ,i64_w,i32_w];rfl)
       refine pure_ (i:=4) (N:=some 25) (v:=?_) (a':=?_) #[true,false,true,true,true,false,false,false,false,false] rfl rfl (any_of HT_.out (by kernel_rfl)) (fun _ _ _ h=>h) (Or.inl ⟨by rfl,?_⟩) ?_ ?_
       rotate_left;(intro w';go_simp;with_reducible rfl);rotate_left;(simp only [Act.put,List.setIfInBounds_toArray,List.set_cons_zero,List.set_cons_succ,i64_w,i32_w];rfl)
       refine take_ (i:=1) (N:=some 22) (v:=?_) (a':=?_) #[true,true,true,true,true,false,false,false,false,false] rfl rfl (take_ofW HT_.out HW_.out (by kernel_rfl)) (fun _ _ _ h=>h) (Or.inl ⟨by rfl,?_⟩) hHeld ?_ ?_
       rotate_left;(rintro w' ⟨s0,s1,s2,s3,s4⟩;go_simp;with_reducible rfl);rotate_left;(simp only [Act.put,List.setIfInBounds_toArray,List.set_cons_zero,List.set_cons_succ,i64_w,i32_w];rfl)
       refine take_ (i:=5) (N:=some 26) (v:=?_) (a':=?_) #[true,true,true,true,true,true,false,false,false,false] rfl rfl (take_ofW HT_.out HW_.out (by kernel_rfl)) (fun _ _ _ h=>h) (Or.inl ⟨by rfl,?_⟩) hHeld ?_ ?_
       rotate_left;(rintro w' ⟨s0,s1,s2,s3,s4⟩;go_simp;with_reducible rfl);rotate_left;(simp only [Act.put,List.setIfInBounds_toArray,List.set_cons_zero,List.set_cons_succ,i64_w,i32_w];rfl)
       refine one_ (i:=6) (N:=some 27) #[true,true,true,true,true,true,true,false,false,false] rfl rfl (one_of HT_.out (by kernel_rfl)) (by decide) (fun K hK=>?_)
       refine goes_ Try.func18 (by kernel_rfl) rfl #[.agg #[.slice A0_0 l0_0.length c0_0,.int .i64 a0_1,.int .i64 a0_2,.int .i64 a0_3],.slice A183_0 (rd_L4 l1 x8_1).length c183_0] (by rfl) rfl rfl (by (try simp only [List.map_toArray,List.map_cons,List.map_nil]);first|done|rfl|(simp only [List.length_drop,List.length_take];rfl)) ?_
       with_reducible refine (thresherref04_Fit.calls k1 _ _ l0_0 a0_1 a0_2 a0_3 _ _ (rd_L4 l1 x8_1) t184 _ ?side1 ?side2 ?side3 ?side4 A10.out).mono ?_
       (case side1=>repeat (first|exact (Kd.C_below HR0_0.out HB.out)|(with_reducible refine Kd.C_alloc ?_ _)|(with_reducible refine Kd.C_drewN ?_ _)|(with_reducible refine Kd.C_drew ?_)))
       (case side2=>exact HC0_0.out)
       (case side3=>repeat (first|exact (Kd.C_below HR183_0.out HB.out)|(with_reducible refine Kd.C_alloc ?_ _)|(with_reducible refine Kd.C_drewN ?_ _)|(with_reducible refine Kd.C_drew ?_)))
       (case side4=>exact HC183_0.out)
       rintro e w13 ⟨v185,rfl,ho0,hb⟩
       refine ⟨_,rfl,?_⟩
       have n0_:=Aside0.mk (Kd.S_elder' (S_up HO_7.out) (Kd.R_base ho0) hb)
       have n1_:=Aside0.mk (Kd.R_lower ho0 (below_size (below_go HB.out)))
       have n2_:=Aside0.mk (blk_below (blk_up BK179.out) hb)
       have n3_:=Aside0.mk (below_step (below_go HB.out) hb)
       clear HO_7
       clear BK179
       clear HB
       have HO_7:=n0_
       have HO186:=n1_
       have BK179:=n2_
       have HB:=n3_
       clear n0_ n1_ n2_ n3_
       (try clear hb)
       (try clear hb2)
       (try clear hk)
       (try clear hi)
       (try clear ho0)
       obtain ⟨Ao15,co15,eo15⟩:=Kd.R_slice HO186.out
       (first|subst eo15|(injection eo15 with f1_ f2_ f3_;have f4_:=f1_.symm;have f5_:=f3_.symm;clear f1_ f2_ f3_;subst f4_;subst f5_))
       refine hK.out _ _ ⟨(blk_cell BK179.out 0).trans rfl,(blk_cell BK179.out 1).trans rfl,(blk_cell BK179.out 2).trans rfl,(blk_cell BK179.out 3).trans rfl,((HB.out.cell (World.block_lt_of_cell? w _ hw183_0)).trans hw183_0)⟩ (fun hHeld=>?_)
       clear hK K
       refine norm_ (a':=?_) ?_ ?_
       rotate_left
       ·show Act.put _ (some 27) _=_
        simp only [Act.put,List.setIfInBounds_toArray,List.set_cons_zero,List.set_cons_succ,i64_w,i32_w]
        rfl
       refine one_ (i:=7) (N:=some 28) #[true,true,true,true,true,true,true,true,false,false] rfl rfl (one_of HT_.out (by kernel_rfl)) (by decide) (fun K hK=>?_)
       refine value_ (w1:=?_) (v:=?_) (by rfl) rfl ?_ ?_
       rotate_left 2
       ·go_simp
        constructor
        ·rfl
        ·rfl
       refine hK.out _ _ ⟨(blk_cell (blk_alloc BK179.out _) 0).trans rfl,(blk_cell (blk_alloc BK179.out _) 1).trans rfl,(blk_cell (blk_alloc BK179.out _) 2).trans rfl,(blk_cell (blk_alloc BK179.out _) 3).trans rfl,(World.cell?_alloc_lt _ _ _ (World.block_lt_of_cell? _ _ (((HB.out.cell (World.block_lt_of_cell? w _ hw183_0)).trans hw183_0)))).trans (((HB.out.cell (World.block_lt_of_cell? w _ hw183_0)).trans hw183_0))⟩ (fun hHeld=>?_)
       clear hK K
       refine norm_ (a':=?_) ?_ ?_
       rotate_left
       ·show Act.put _ (some 28) _=_
        simp only [Act.put,List.setIfInBounds_toArray,List.set_cons_zero,List.set_cons_succ,i64_w,i32_w]
        rfl
       refine one_ (i:=8) (N:=some 29) #[true,true,true,true,true,true,true,true,true,false] rfl rfl (one_of HT_.out (by kernel_rfl)) (by decide) (fun K hK=>?_)
       refine Kd.S_append_step (Kd.slice 37 k37) (w0:=w) w.heap.size (by rfl) (.tmp 21) (.tmp 28) 26 41 (.slice none 0 0) 24 rfl Try.underlying26 info41 rfl (by decide) (by omega) u7 x7_1 t184 [.slice Ao15 t184.length co15] (fun _=>True) (fun k_=>some k_=(.slice Ao15 t184.length co15 : Value).ownBlock) rfl rfl ?aP (fun k_ hk_=>((Kd.R_mono (ok':=fun k_=>((fun _=>True)) k_∧some k_≠(u7 : Value).ownBlock) (Kd.R_apart' (HO186.out) (Kd.S_typed HO_7.out) (by decide)) (fun k_ hk=>⟨trivial,hk.2⟩))).1 k_ hk_.symm) ?aF ?aO ?aB ?aS ?aL ?_
       (case aP=>exact Kd.M_row (Kd.R_mono (Kd.R_tight rfl (Kd.R_mono (ok':=fun k_=>((fun _=>True)) k_∧some k_≠(u7 : Value).ownBlock) (Kd.R_apart' (HO186.out) (Kd.S_typed HO_7.out) (by decide)) (fun k_ hk=>⟨trivial,hk.2⟩))) (fun _ h_=>h_)))
       (case aB=>exact (below_go HB.out))
       (case aF=>exact (fun _ _=>trivial))
       (case aO=>exact (by (with_reducible repeat (first|apply Kd.S_alloc|apply Kd.S_drewN|apply Kd.S_drew));exact Kd.S_mono HO_7.out (fun k_ hk=>⟨trivial,fun e_=>hk.2 e_⟩)))
       (case aS=>exact (below_size (below_go HB.out)))
       (case aL=>have:=LMc11.out;omega)
       intro v188 w14 ho hb hg hat
       rw [← Ny187.out] at ho
       have n0_:=Aside0.mk (blk_grown (blk_up BK179.out) hg (Kd.S_ne HO_7.out BK179.out (by decide)))
       have n1_:=Aside0.mk (hb)
       have n2_:=Aside0.mk (ho)
       clear BK179
       clear HB
       clear HO_7
       clear HO186
       have BK179:=n0_
       have HB:=n1_
       have HO189:=n2_
       clear n0_ n1_ n2_
       clear ho hb hg hat
       refine hK.out _ _ ⟨(blk_cell BK179.out 0).trans rfl,(blk_cell BK179.out 1).trans rfl,(blk_cell BK179.out 2).trans rfl,(blk_cell BK179.out 3).trans rfl,((HB.out.cell (World.block_lt_of_cell? w _ hw183_0)).trans hw183_0)⟩ (fun hHeld=>?_)
       clear hK K
       refine norm_ (a':=?_) ?_ ?_
       rotate_left
       ·show Act.put _ (some 29) _=_
        simp only [Act.put,List.setIfInBounds_toArray,List.set_cons_zero,List.set_cons_succ,i64_w,i32_w]
        rfl
       refine pure_ (i:=9) (N:=some 7) (v:=?_) (a':=?_) #[true,true,true,true,true,true,true,true,true,true] rfl rfl (any_of HT_.out (by kernel_rfl)) (fun _ _ _ h=>h) (Or.inl ⟨by rfl,?_⟩) ?_ ?_
       rotate_left;(intro w';go_simp;with_reducible rfl);rotate_left;(simp only [Act.put,List.setIfInBounds_toArray,List.set_cons_zero,List.set_cons_succ,i64_w,i32_w];rfl)
       refine done_ (done_of HT_.out (by kernel_rfl)) ?_
       (try clear hHeld)
       try go_wp2
       go_roundg k1
       case measure=>have:=HK1.out;omega
       case rel=>exact ⟨(y187),(wrap64 (x8_1 + 1)),(by first|rfl|(simp;done)|(simp [*];done)),(by first|exact H'|(subst_vars;exact H')),⟨by have:=HK1.out;omega⟩,⟨by (with_reducible repeat (first|apply Kd.S_alloc|apply Kd.S_drewN|apply Kd.S_drew));exact HO189.out⟩,⟨by (with_reducible repeat (first|refine blk_drewN ?_ _|refine blk_drew ?_|refine blk_alloc ?_ _));exact BK179.out⟩,⟨by repeat (first|(with_reducible first|exact HB.out|apply below_alloc|apply pw_below_drewN|apply below_drew1|refine below_set ?_ GE179.out)|exact HB.out)⟩⟩
      ·rw [if_neg c11] at H
       exact absurd H (by simp)
     ·rw [if_neg c9] at H
      exact absurd H (by simp)
    ·rw [if_neg c8] at H
     have c8b0 : decide (x8_1 < a2)=false:=decide_eq_false c8
     clear c8
     obtain rfl:=Option.some.inj H
     go_wp2
     go_ret
     exact ⟨_,by first|rfl|(simp [errW_none,errW_some] <;> rfl)|(simp [*,errW_none,errW_some] <;> rfl),by (with_reducible repeat (first|apply Kd.S_alloc|apply Kd.S_drewN|apply Kd.S_drew));exact HO_7.out,by repeat (first|(with_reducible first|exact HB.out|apply below_alloc|apply pw_below_drewN|apply below_drew1|refine below_set ?_ GE179.out)|exact HB.out)⟩
   ·rw [if_neg c7] at H
    have c7b0 : decide (x8_1 < (l1.length : Int))=false:=decide_eq_false c7
    clear c7
    obtain rfl:=Option.some.inj H
    go_wp2
    go_ret
    exact ⟨_,by first|rfl|(simp [errW_none,errW_some] <;> rfl)|(simp [*,errW_none,errW_some] <;> rfl),by (with_reducible repeat (first|apply Kd.S_alloc|apply Kd.S_drewN|apply Kd.S_drew));exact HO_7.out,by repeat (first|(with_reducible first|exact HB.out|apply below_alloc|apply pw_below_drewN|apply below_drew1|refine below_set ?_ GE179.out)|exact HB.out)⟩
def thresherref15_Same.l0 : Nat→List Int→List Int→Int→Option (Bool)
 | 0,_,_,_=>none
 | k + 1,x0,x1,x5=>if x5 < (x0.length : Int) then (if 0≤x5 then (if x5 < (x1.length : Int) then (if (rd x0 x5)=(rd x1 x5) then (thresherref15_Same.l0 k x0 x1 (wrap64 (x5 + 1))) else (some false)) else (none)) else (none)) else (some true)
def thresherref15_Same.f (k : Nat) (l0 : List Int) (l1 : List Int) : Option (Bool):=if (l0.length : Int)=(l1.length : Int) then (thresherref15_Same.l0 k l0 l1 0) else (some false)
theorem thresherref15_Same.mono_l : ∀ k,(∀ y0 y1 y2,LeO (thresherref15_Same.l0 k y0 y1 y2) (thresherref15_Same.l0 (k + 1) y0 y1 y2))
 | 0=>fun _ _ _ r h=>by simp [thresherref15_Same.l0] at h
 | k + 1=>by
  have ih0:=thresherref15_Same.mono_l k
  ·intro y0 y1 y2
   unfold thresherref15_Same.l0
   repeat' first
   | (with_reducible exact ih0 _ _ _)
   | (with_reducible exact LeO.refl _)
   | (with_reducible exact LeO.none _)
   | (with_reducible refine LeO.ite ?_ ?_)
   | (with_reducible refine LeO.bind ?_ (fun _=>?_))
   | exact ih0 _ _ _
   | exact LeO.none _
   | refine LeO.ite ?_ ?_
   | refine LeO.bind ?_ (fun _=>?_)
theorem thresherref15_Same.mono : ∀ a0 a1 k,LeO (thresherref15_Same.f k a0 a1) (thresherref15_Same.f (k + 1) a0 a1):=by
 intro a0 a1 k
 have ih0:=thresherref15_Same.mono_l k
 unfold thresherref15_Same.f
 repeat' first
   | (with_reducible exact ih0 _ _ _)
   | (with_reducible exact LeO.refl _)
   | (with_reducible exact LeO.none _)
   | (with_reducible refine LeO.ite ?_ ?_)
   | (with_reducible refine LeO.bind ?_ (fun _=>?_))
   | exact ih0 _ _ _
   | exact LeO.none _
   | refine LeO.ite ?_ ?_
   | refine LeO.bind ?_ (fun _=>?_)
set_option maxHeartbeats 8000000 in
set_option maxRecDepth 100000 in
theorem thresherref15_Same.calls (k : Nat) (A0 : Option Addr) (c0 : Nat) (l0 : List Int) (A1 : Option Addr) (c1 : Nat) (l1 : List Int) (r : Bool) (w : World) (hr0 : Kd.C (Kd.int .i64) w A0 l0.length l0) (hc0 : l0.length≤c0) (hr1 : Kd.C (Kd.int .i64) w A1 l1.length l1) (hc1 : l1.length≤c1) (h : thresherref15_Same.f k l0 l1=some r) :
  Calls Try.prog 12 #[.slice A0 l0.length c0,.slice A1 l1.length c1] w fun e w'=>e=.returned (.bool r)∧Below w.heap.size w w':=by
 have HR0:=Aside0.mk hr0
 have HC0:=Aside0.mk hc0
 clear hr0 hc0
 have HR1:=Aside0.mk hr1
 have HC1:=Aside0.mk hc1
 clear hr1 hc1
 have HB:=Aside0.mk (Below.refl w.heap.size w)
 have H : (if (l0.length : Int)=(l1.length : Int) then (thresherref15_Same.l0 k l0 l1 0) else (some false))=some r:=h
 clear h
 by_cases c3 : (l0.length : Int)=(l1.length : Int)
 ·rw [if_pos c3] at H
  have c3b0 : ((l0.length : Int) == (l1.length : Int))=true:=beq_iff_eq.mpr c3
  have c3b1 : ((l0.length : Int) != (l1.length : Int))=false:=bne_eq_false_iff_eq.mpr c3
  have c3b2 : (l0.length == l1.length)=true:=by first|simpa using c3|(simp at c3 ⊢;omega)
  clear c3
  have H':=Aside0.mk H
  clear H
  go_enter Try.func12,Try.ntmps12
  go_wp2
  repeat (go_quiet (fail);try go_wp2)
  go_loopg [5] k (fun kq v5 w'=>∃ (x5_1 : Int),v5=.int .i64 x5_1∧Aside0 (thresherref15_Same.l0 kq l0 l1 x5_1=some r)∧Aside0 (kq≤k)∧Aside0 (Below w.heap.size w w'))
  case atStart=>exact ⟨(0),(by first|rfl|(simp;done)|(simp [*];done)),H',⟨Nat.le_refl _⟩,⟨by repeat (first|(with_reducible first|exact HB.out|apply below_alloc|apply pw_below_drewN|apply below_drew1)|exact HB.out)⟩⟩
  case round =>
   clear H'
   try clear c1
   try clear p2
   try clear c3
   try clear c3b0
   try clear c3b1
   try clear c3b2
   obtain ⟨x5_1,rfl,HA,HK1,HB⟩:=hrel
   cases gk with
   | zero=>exact absurd HA.out (by simp [thresherref15_Same.l0])
   | succ k1 =>
    have H:=HA.out
    clear HA
    simp only [thresherref15_Same.l0] at H
    by_cases c4 : x5_1 < (l0.length : Int)
    ·rw [if_pos c4] at H
     have c4b0 : decide (x5_1 < (l0.length : Int))=true:=decide_eq_true c4
     clear c4
     by_cases c5 : 0≤x5_1
     ·rw [if_pos c5] at H
      have c5b0 : decide (0≤x5_1)=true:=decide_eq_true c5
      clear c5
      by_cases c6 : x5_1 < (l1.length : Int)
      ·rw [if_pos c6] at H
       have c6b0 : decide (x5_1 < (l1.length : Int))=true:=decide_eq_true c6
       clear c6
       by_cases c7 : (rd l0 x5_1)=(rd l1 x5_1)
       ·rw [if_pos c7] at H
        have c7b0 : ((rd l0 x5_1) == (rd l1 x5_1))=true:=beq_iff_eq.mpr c7
        have c7b1 : ((rd l0 x5_1) != (rd l1 x5_1))=false:=bne_eq_false_iff_eq.mpr c7
        clear c7
        have H':=Aside0.mk H
        clear H
        have p190 : 0≤(x5_1 : Int):=of_decide_eq_true (by first|(with_reducible assumption)|assumption)
        have q190 : x5_1 < (l0.length : Int):=of_decide_eq_true (by first|(with_reducible assumption)|assumption)
        obtain ⟨ad190,e190,hx190_0⟩:=Kd.at_int HR0.out x5_1 p190 q190
        cases e190
        replace hx190_0:=(HB.out.cell (World.block_lt_of_cell? w _ hx190_0)).trans hx190_0
        replace p190:=eq_true p190
        replace q190:=eq_true q190
        have p191 : 0≤(x5_1 : Int):=of_decide_eq_true (by first|(with_reducible assumption)|assumption)
        have q191 : x5_1 < (l1.length : Int):=of_decide_eq_true (by first|(with_reducible assumption)|assumption)
        obtain ⟨ad191,e191,hx191_0⟩:=Kd.at_int HR1.out x5_1 p191 q191
        cases e191
        replace hx191_0:=(HB.out.cell (World.block_lt_of_cell? w _ hx191_0)).trans hx191_0
        replace p191:=eq_true p191
        replace q191:=eq_true q191
        go_wp2
        repeat (go_quiet (fail);try go_wp2)
        go_roundg k1
        case measure=>have:=HK1.out;omega
        case rel=>exact ⟨(wrap64 (x5_1 + 1)),(by first|rfl|(simp;done)|(simp [*];done)),(by first|exact H'|(subst_vars;exact H')),⟨by have:=HK1.out;omega⟩,⟨by repeat (first|(with_reducible first|exact HB.out|apply below_alloc|apply pw_below_drewN|apply below_drew1)|exact HB.out)⟩⟩
       ·rw [if_neg c7] at H
        have c7b0 : ((rd l0 x5_1) == (rd l1 x5_1))=false:=beq_eq_false_iff_ne.mpr c7
        have c7b1 : ((rd l0 x5_1) != (rd l1 x5_1))=true:=bne_iff_ne.mpr c7
        obtain rfl:=Option.some.inj H
        have p190 : 0≤(x5_1 : Int):=of_decide_eq_true (by first|(with_reducible assumption)|assumption)
        have q190 : x5_1 < (l0.length : Int):=of_decide_eq_true (by first|(with_reducible assumption)|assumption)
        obtain ⟨ad190,e190,hx190_0⟩:=Kd.at_int HR0.out x5_1 p190 q190
        cases e190
        replace hx190_0:=(HB.out.cell (World.block_lt_of_cell? w _ hx190_0)).trans hx190_0
        replace p190:=eq_true p190
        replace q190:=eq_true q190
        have p191 : 0≤(x5_1 : Int):=of_decide_eq_true (by first|(with_reducible assumption)|assumption)
        have q191 : x5_1 < (l1.length : Int):=of_decide_eq_true (by first|(with_reducible assumption)|assumption)
        obtain ⟨ad191,e191,hx191_0⟩:=Kd.at_int HR1.out x5_1 p191 q191
        cases e191
        replace hx191_0:=(HB.out.cell (World.block_lt_of_cell? w _ hx191_0)).trans hx191_0
        replace p191:=eq_true p191
        replace q191:=eq_true q191
        go_wp2
        repeat (go_quiet (fail);try go_wp2)
        go_ret
        exact ⟨by first|rfl|(simp [errW_none,errW_some] <;> rfl)|(simp [*,errW_none,errW_some] <;> rfl),by repeat (first|(with_reducible first|exact HB.out|apply below_alloc|apply pw_below_drewN|apply below_drew1)|exact HB.out)⟩
      ·rw [if_neg c6] at H
       exact absurd H (by simp)
     ·rw [if_neg c5] at H
      exact absurd H (by simp)
    ·rw [if_neg c4] at H
     have c4b0 : decide (x5_1 < (l0.length : Int))=false:=decide_eq_false c4
     clear c4
     obtain rfl:=Option.some.inj H
     go_wp2
     repeat (go_quiet (fail);try go_wp2)
     go_ret
     exact ⟨by first|rfl|(simp [errW_none,errW_some] <;> rfl)|(simp [*,errW_none,errW_some] <;> rfl),by repeat (first|(with_reducible first|exact HB.out|apply below_alloc|apply pw_below_drewN|apply below_drew1)|exact HB.out)⟩
 ·rw [if_neg c3] at H
  have c3b0 : ((l0.length : Int) == (l1.length : Int))=false:=beq_eq_false_iff_ne.mpr c3
  have c3b1 : ((l0.length : Int) != (l1.length : Int))=true:=bne_iff_ne.mpr c3
  have c3b2 : (l0.length == l1.length)=false:=by first|simpa using c3|(simp at c3 ⊢;omega)
  obtain rfl:=Option.some.inj H
  go_enter Try.func12,Try.ntmps12
  go_wp2
  repeat (go_quiet (fail);try go_wp2)
  go_ret
  exact ⟨by first|rfl|(simp [errW_none,errW_some] <;> rfl)|(simp [*,errW_none,errW_some] <;> rfl),by repeat (first|(with_reducible first|exact HB.out|apply below_alloc|apply pw_below_drewN|apply below_drew1)|exact HB.out)⟩
end Go.Proofs.Ytbkpifcjgedjaaa.P

