/- Texts of MergeFirst. Merged: Px9. -/
import Derived.Test.YtfiandejapgkoaaQMergeFirstPx0
namespace Go.Proofs.Ytfiandejapgkoaa.P
open Go.RowKit Go.Proofs.YtfiandejapgkoaaW.PrintWords Go.Proofs.YtfiandejapgkoaaW.PrintLast Go.Proofs.YtfiandejapgkoaaW.PrintMore
attribute [local go_sem] max2_int min2_int max_two min_two max_three min_three max_four min_four   -- for this text's walks alone
set_option linter.unusedVariables false
set_option linter.unusedSimpArgs false
mutual
def thresherref04_Fit.l0 : Nat→List (S31)→List (S31)→Int→List Int→Int→Int→Int→Option ((List (S31)))
 | 0,_,_,_,_,_,_,_=>none
 | k + 1,x1,x5,x6,x242000,x242001,x242002,x242003=>if x6 < (x242000.length : Int) then (if x6 < (x1.length : Int) then (if 0≤x6 then (thresherref04_Fit.j1 k x1 x5 x6 x242000 x242001 x242002 x242003 ((rd_T31 x1 x6).f0) ((rd_T31 x1 x6).f1)) else (none)) else (thresherref04_Fit.j1 k x1 x5 x6 x242000 x242001 x242002 x242003 0 (⟨#[]⟩ : ByteArray))) else (some x5)
def thresherref04_Fit.j1 : Nat→List (S31)→List (S31)→Int→List Int→Int→Int→Int→Int→ByteArray→Option ((List (S31)))
 | 0,_,_,_,_,_,_,_,_,_=>none
 | k + 1,x1,x5,x6,x242000,x242001,x242002,x242003,x246000,x246001=>if 0≤x6 then (if x6 < (x242000.length : Int) then (if (rd x242000 x6)=3 then (if (x246001.size : Int) > 60 then (if 0≤60 then (if 60≤(x246001.size : Int) then (if x5.length < 5864062014805 then (thresherref04_Fit.l0 k x1 (x5 ++ [(⟨0,x246001.extract 0 60⟩ : S31)]) (wrap64 (x6 + 1)) x242000 x242001 x242002 x242003) else (none)) else (none)) else (none)) else (if x5.length < 5864062014805 then (thresherref04_Fit.l0 k x1 (x5 ++ [(⟨0,x246001⟩ : S31)]) (wrap64 (x6 + 1)) x242000 x242001 x242002 x242003) else (none))) else (if x5.length < 5864062014805 then (thresherref04_Fit.l0 k x1 (x5 ++ [(⟨x246000,(⟨#[]⟩ : ByteArray)⟩ : S31)]) (wrap64 (x6 + 1)) x242000 x242001 x242002 x242003) else (none))) else (none)) else (none)
end
def thresherref04_Fit.f (k : Nat) (l0_0 : List Int) (a0_1 : Int) (a0_2 : Int) (a0_3 : Int) (l1 : List (S31)) : Option ((List (S31))):=thresherref04_Fit.l0 k l1 (([] : List (S31))) 0 l0_0 a0_1 a0_2 a0_3
theorem thresherref04_Fit.mono_l : ∀ k,(∀ y0 y1 y2 y3 y4 y5 y6,LeO (thresherref04_Fit.l0 k y0 y1 y2 y3 y4 y5 y6) (thresherref04_Fit.l0 (k + 1) y0 y1 y2 y3 y4 y5 y6))∧(∀ y0 y1 y2 y3 y4 y5 y6 y7 y8,LeO (thresherref04_Fit.j1 k y0 y1 y2 y3 y4 y5 y6 y7 y8) (thresherref04_Fit.j1 (k + 1) y0 y1 y2 y3 y4 y5 y6 y7 y8))
 | 0=>⟨fun _ _ _ _ _ _ _ r h=>by simp [thresherref04_Fit.l0] at h,fun _ _ _ _ _ _ _ _ _ r h=>by simp [thresherref04_Fit.j1] at h⟩
 | k + 1=>by
  obtain ⟨ih0,ih1⟩:=thresherref04_Fit.mono_l k
  refine ⟨?_,?_⟩
  ·intro y0 y1 y2 y3 y4 y5 y6
   unfold thresherref04_Fit.l0
   repeat' first
   | (with_reducible exact ih0 _ _ _ _ _ _ _)
   | (with_reducible exact ih1 _ _ _ _ _ _ _ _ _)
   | (with_reducible exact LeO.refl _)
   | (with_reducible exact LeO.none _)
   | (with_reducible refine LeO.ite ?_ ?_)
   | (with_reducible refine LeO.bind ?_ (fun _=>?_))
   | exact ih0 _ _ _ _ _ _ _
   | exact ih1 _ _ _ _ _ _ _ _ _
   | exact LeO.none _
   | refine LeO.ite ?_ ?_
   | refine LeO.bind ?_ (fun _=>?_)
  ·intro y0 y1 y2 y3 y4 y5 y6 y7 y8
   unfold thresherref04_Fit.j1
   repeat' first
   | (with_reducible exact ih0 _ _ _ _ _ _ _)
   | (with_reducible exact ih1 _ _ _ _ _ _ _ _ _)
   | (with_reducible exact LeO.refl _)
   | (with_reducible exact LeO.none _)
   | (with_reducible refine LeO.ite ?_ ?_)
   | (with_reducible refine LeO.bind ?_ (fun _=>?_))
   | exact ih0 _ _ _ _ _ _ _
   | exact ih1 _ _ _ _ _ _ _ _ _
   | exact LeO.none _
   | refine LeO.ite ?_ ?_
   | refine LeO.bind ?_ (fun _=>?_)
theorem thresherref04_Fit.mono : ∀ a0 a1 a2 a3 a4 k,LeO (thresherref04_Fit.f k a0 a1 a2 a3 a4) (thresherref04_Fit.f (k + 1) a0 a1 a2 a3 a4):=by
 intro a0 a1 a2 a3 a4 k
 obtain ⟨ih0,ih1⟩:=thresherref04_Fit.mono_l k
 unfold thresherref04_Fit.f
 repeat' first
   | (with_reducible exact ih0 _ _ _ _ _ _ _)
   | (with_reducible exact ih1 _ _ _ _ _ _ _ _ _)
   | (with_reducible exact LeO.refl _)
   | (with_reducible exact LeO.none _)
   | (with_reducible refine LeO.ite ?_ ?_)
   | (with_reducible refine LeO.bind ?_ (fun _=>?_))
   | exact ih0 _ _ _ _ _ _ _
   | exact ih1 _ _ _ _ _ _ _ _ _
   | exact LeO.none _
   | refine LeO.ite ?_ ?_
   | refine LeO.bind ?_ (fun _=>?_)
set_option maxHeartbeats 8000000 in
set_option maxRecDepth 100000 in
theorem thresherref04_Fit.calls (k : Nat) (A0_0 : Option Addr) (c0_0 : Nat) (l0_0 : List Int) (a0_1 : Int) (a0_2 : Int) (a0_3 : Int) (A1 : Option Addr) (c1 : Nat) (l1 : List (S31)) (r : List (S31)) (w : World) (hr0_0 : Kd.C (Kd.int .i64) w A0_0 l0_0.length l0_0) (hc0_0 : l0_0.length≤c0_0) (hr1 : Kd.C k31 w A1 l1.length l1) (hc1 : l1.length≤c1) (h : thresherref04_Fit.f k l0_0 a0_1 a0_2 a0_3 l1=some r) :
  Calls Try.prog 28 #[.agg #[.slice A0_0 l0_0.length c0_0,.int .i64 a0_1,.int .i64 a0_2,.int .i64 a0_3],.slice A1 l1.length c1] w fun e w'=>∃ v0_ : Value,e=.returned (v0_)∧Kd.R k31 31 w' w.heap.size (fun _=>True) v0_ r∧Below w.heap.size w w':=by
 have hu26:=Try.underlying26
 have hu31:=Try.underlying31
 have HR0_0:=Aside0.mk hr0_0
 have HC0_0:=Aside0.mk hc0_0
 clear hr0_0 hc0_0
 have HR1:=Aside0.mk hr1
 have HC1:=Aside0.mk hc1
 clear hr1 hc1
 have HB:=Aside0.mk (Below.refl w.heap.size w)
 have H : (thresherref04_Fit.l0 k l1 (([] : List (S31))) 0 l0_0 a0_1 a0_2 a0_3)=some r:=h
 clear h
 obtain ⟨y242,hy242⟩ : ∃ y_ : List (S31),y_=(([] : List (S31))):=⟨_,rfl⟩
 replace H : (thresherref04_Fit.l0 k l1 y242 0 l0_0 a0_1 a0_2 a0_3)=some r:=by first|(rw [hy242];with_reducible exact H)|(have H2_:=(Option.bind_some _ _).symm.trans H;rw [hy242];with_reducible exact H2_)|(have H2_:=(Option.bind_some _ _).symm.trans H;with_reducible exact H2_)|with_reducible exact H|(rw [hy242];exact H)|exact H
 have Ny242:=Aside0.mk hy242
 clear hy242
 have H':=Aside0.mk H
 clear H
 go_enter Try.func28,Try.ntmps28
 go_wp2_with (first|((with_reducible refine gate_dst (N:=2) rfl ?_);refine box_event ?hg (N:=2) ?hd (cs:=#[.slice A0_0 l0_0.length c0_0,.int .i64 a0_1,.int .i64 a0_2,.int .i64 a0_3]) (t:=26) ?hr ?_;(case hd=>rfl);(case hg=>rfl);(case hr=>first|(go_simp;done)|(go_simp;rfl));intro gb241 hg w3 hbox hb;have n0_:=Aside0.mk (below_step (below_up HB.out) hb);have n1_:=Aside0.mk (hbox);have n2_:=Aside0.mk ((by rw [hg];exact (below_size (below_up HB.out)) : w.heap.size≤gb241));have n3_:=Aside0.mk ((by rw [hg];exact (below_size (below_up HB.out)) : w.heap.size≤gb241));clear HB;have HB:=n0_;have BK241:=n1_;have GW241:=n2_;have GE241:=n3_;clear n0_ n1_ n2_ n3_;clear hb hbox hg)|((with_reducible refine gate_dst (N:=9) rfl ?_);refine Kd.R_lit k31 _ 31 ?hg (N:=9) ?hd (xs:=([] : List (S31))) (inner:=[]) (ok:=fun _=>True) (okp:=fun _=>True) ?hr ?hp (fun _ hk=>hk) trivial (Below.refl _ _) (Nat.le_refl _) (by simp) ?_;(case hd=>rfl);(case hg=>rfl);(case hr=>first|(go_simp;done)|(go_simp;rfl));(case hp=>exact (Reps.none _ _));intro v243 w4 ho5 hb hg_ hnew_;clear hg_ hnew_;(first|rw [← Ny242.out] at ho5|(simp only [Int.reduceToNat] at ho5;rw [← Ny242.out] at ho5));have n0_:=Aside0.mk (Kd.R_lower ho5 (below_size (below_go HB.out)));have n1_:=Aside0.mk (blk_below (blk_up BK241.out) hb);have n2_:=Aside0.mk (below_step (below_go HB.out) hb);clear BK241;clear HB;have HO244:=n0_;have BK241:=n1_;have HB:=n2_;clear n0_ n1_ n2_;clear hb ho5))
 go_loopg [5,6] k (fun kq v5 v6 w'=>∃ (x5_1 : List (S31)) (x6_1 : Int),v6=.int .i64 x6_1∧Aside0 (thresherref04_Fit.l0 kq l1 x5_1 x6_1 l0_0 a0_1 a0_2 a0_3=some r)∧Aside0 (kq≤k)∧Aside0 (Kd.R k31 31 w' w.heap.size (fun _=>True) v5 x5_1)∧Aside0 (w'.heap[gb241]?=some (.cells #[(.slice A0_0 l0_0.length c0_0),.int .i64 a0_1,.int .i64 a0_2,.int .i64 a0_3] 26 (0,0)))∧Aside0 (Below w.heap.size w w'))
 case atStart=>exact ⟨(y242),(0),(by first|rfl|(simp;done)|(simp [*];done)),H',⟨Nat.le_refl _⟩,⟨by (with_reducible repeat (first|apply Kd.R_alloc|apply Kd.R_drewN|apply Kd.R_drew));exact HO244.out⟩,⟨by (with_reducible repeat (first|refine blk_drewN ?_ _|refine blk_drew ?_|refine blk_alloc ?_ _));exact BK241.out⟩,⟨by repeat (first|(with_reducible first|exact HB.out|apply below_alloc|apply pw_below_drewN|apply below_drew1|refine below_set ?_ GE241.out)|exact HB.out)⟩⟩
 case round =>
  clear H'
  try clear c1
  try clear c2
  try clear p2
  obtain ⟨x5_1,x6_1,rfl,HA,HK1,HO_5,BK241,HB⟩:=hrel
  cases gk with
  | zero=>exact absurd HA.out (by simp [thresherref04_Fit.l0])
  | succ k1 =>
   have H:=HA.out
   clear HA
   simp only [thresherref04_Fit.l0] at H
   by_cases c6 : x6_1 < (l0_0.length : Int)
   ·rw [if_pos c6] at H
    have c6b0 : decide (x6_1 < (l0_0.length : Int))=true:=decide_eq_true c6
    clear c6
    have HC7:=Aside0.mk H
    clear H
    have hcz8_0 : wr.cell? ⟨gb241,0,none⟩=some (.slice A0_0 l0_0.length c0_0):=(blk_cell BK241.out 0).trans rfl
    have hcz8_1 : wr.cell? ⟨gb241,1,none⟩=some (.int .i64 a0_1):=(blk_cell BK241.out 1).trans rfl
    have hcz8_2 : wr.cell? ⟨gb241,2,none⟩=some (.int .i64 a0_2):=(blk_cell BK241.out 2).trans rfl
    have hcz8_3 : wr.cell? ⟨gb241,3,none⟩=some (.int .i64 a0_3):=(blk_cell BK241.out 3).trans rfl
    have hfz8_0:=blk_frozen BK241.out 0
    have hfz8_1:=blk_frozen BK241.out 1
    have hfz8_2:=blk_frozen BK241.out 2
    have hfz8_3:=blk_frozen BK241.out 3
    go_upto_if 21 with (first|((with_reducible refine gate_dst (N:=7) rfl ?_);refine box_event ?hg (N:=7) ?hd (cs:=#[.int .i64 0,.string (⟨#[]⟩ : ByteArray)]) (t:=31) ?hr ?_;(case hd=>rfl);(case hg=>rfl);(case hr=>first|(go_simp;done)|(go_simp;rfl));intro gb245 hg w9 hbox hb;have n0_:=Aside0.mk (Kd.R_below (Kd.R_elderB (R_up HO_5.out) gb245 (Nat.le_of_eq hg.symm)) hb);have n1_:=Aside0.mk (blk_below (blk_up BK241.out) hb);have n2_:=Aside0.mk (below_step (below_go HB.out) hb);have n3_:=Aside0.mk (hbox);have n4_:=Aside0.mk ((by rw [hg];exact (below_size (below_go HB.out)) : w.heap.size≤gb245));have n5_:=Aside0.mk ((by rw [hg];exact (below_size (below_go HB.out)) : w.heap.size≤gb245));have n6_:=Aside0.mk ((by rw [hg];exact Nat.ne_of_lt (blk_lt (blk_up BK241.out)) : gb241≠gb245));have n7_:=Aside0.mk ((by rw [hg];exact Nat.ne_of_gt (blk_lt (blk_up BK241.out)) : gb245≠gb241));clear HO_5;clear BK241;clear HB;have HO_5:=n0_;have BK241:=n1_;have HB:=n2_;have BK245:=n3_;have GW245:=n4_;have GE245:=n5_;have NB241_245:=n6_;have NB245_241:=n7_;clear n0_ n1_ n2_ n3_ n4_ n5_ n6_ n7_;clear hb hbox hg;have hnb10:=NB245_241.out;have hnc10:=NB241_245.out;have hcz11_0 : w9.cell? ⟨gb245,0,none⟩=some (.int .i64 0):=(blk_cell BK245.out 0).trans rfl;have hcz11_1 : w9.cell? ⟨gb245,1,none⟩=some (.string (⟨#[]⟩ : ByteArray)):=(blk_cell BK245.out 1).trans rfl;have hfz11_0:=blk_frozen BK245.out 0;have hfz11_1:=blk_frozen BK245.out 1))
    (try simp only [Act.put,List.setIfInBounds_toArray,List.set_cons_zero,List.set_cons_succ])
    go_cut [] (fun wc=>∃ (kq : Nat) (x246000_6 : Int) (x246001_6 : ByteArray),Aside0 (thresherref04_Fit.j1 kq l1 x5_1 x6_1 l0_0 a0_1 a0_2 a0_3 x246000_6 x246001_6=some r)∧Aside0 (kq≤k1)∧Aside0 (Kd.R k31 31 wc w.heap.size (fun k_=>k_≠gb245) u5 x5_1)∧Aside0 (wc.heap[gb241]?=some (.cells #[(.slice A0_0 l0_0.length c0_0),.int .i64 a0_1,.int .i64 a0_2,.int .i64 a0_3] 26 (0,0)))∧Aside0 (wc.heap[gb245]?=some (.cells #[.int .i64 x246000_6,.string x246001_6] 31 (0,0)))∧Aside0 (Below w.heap.size w wc))
    case first =>
     have H:=HC7.out
     clear HC7
     by_cases c12 : x6_1 < (l1.length : Int)
     ·rw [if_pos c12] at H
      have c12b0 : decide (x6_1 < (l1.length : Int))=true:=decide_eq_true c12
      clear c12
      (first|rw [c12b0]|(simp only [i64_w,i32_w];rw [c12b0])|skip)
      by_cases c13 : 0≤x6_1
      ·rw [if_pos c13] at H
       have c13b0 : decide (0≤x6_1)=true:=decide_eq_true c13
       clear c13
       have H':=Aside0.mk H
       clear H
       have p246 : 0≤(x6_1 : Int):=of_decide_eq_true (by first|(with_reducible assumption)|assumption)
       have q246 : x6_1 < (l1.length : Int):=of_decide_eq_true (by first|(with_reducible assumption)|assumption)
       obtain ⟨ad246,e246,hx246_0,hx246_1⟩:=at_T31 HR1.out x6_1 p246 q246
       cases e246
       have hn246_0 : ad246.block≠gb245:=Nat.ne_of_lt (Nat.lt_of_lt_of_le (by have:=World.block_lt_of_cell? _ _ hx246_0;first|rwa [add_block] at this|exact this) GW245.out)
       have hn246_1 : ad246.block≠gb245:=Nat.ne_of_lt (Nat.lt_of_lt_of_le (by have:=World.block_lt_of_cell? _ _ hx246_0;first|rwa [add_block] at this|exact this) GW245.out)
       replace hx246_0:=(HB.out.cell (World.block_lt_of_cell? w _ hx246_0)).trans hx246_0
       replace hx246_1:=(HB.out.cell (World.block_lt_of_cell? w _ hx246_1)).trans hx246_1
       replace hx246_0:=(cell_far (p:=⟨gb245,0,none⟩) (by first|(rw [add_block];exact hn246_0)|(show (Addr.add _ _).block≠_;rw [add_block];exact hn246_0)|exact hn246_0) (.int .i64 0)).trans hx246_0
       replace hx246_1:=(cell_far (p:=⟨gb245,0,none⟩) (by first|(rw [add_block];exact hn246_0)|(show (Addr.add _ _).block≠_;rw [add_block];exact hn246_0)|exact hn246_0) (.int .i64 0)).trans hx246_1
       replace hx246_0:=(cell_far (p:=⟨gb245,1,none⟩) (by first|(rw [add_block];exact hn246_1)|(show (Addr.add _ _).block≠_;rw [add_block];exact hn246_1)|exact hn246_1) (.string (⟨#[]⟩ : ByteArray))).trans hx246_0
       replace hx246_1:=(cell_far (p:=⟨gb245,1,none⟩) (by first|(rw [add_block];exact hn246_1)|(show (Addr.add _ _).block≠_;rw [add_block];exact hn246_1)|exact hn246_1) (.string (⟨#[]⟩ : ByteArray))).trans hx246_1
       clear hn246_0
       clear hn246_1
       replace p246:=eq_true p246
       replace q246:=eq_true q246
       have hnb14:=NB245_241.out
       have hnc14:=NB241_245.out
       have hcz15_0 : w9.cell? ⟨gb245,0,none⟩=some (.int .i64 0):=(blk_cell BK245.out 0).trans rfl
       have hcz15_1 : w9.cell? ⟨gb245,1,none⟩=some (.string (⟨#[]⟩ : ByteArray)):=(blk_cell BK245.out 1).trans rfl
       have hfz15_0:=blk_frozen BK245.out 0
       have hfz15_1:=blk_frozen BK245.out 1
       go_wp2
       go_meet
       case rel=>exact ⟨_,((rd_T31 l1 x6_1).f0),((rd_T31 l1 x6_1).f1),(by first|exact H'|(subst_vars;exact H')),⟨by have:=HK1.out;first|omega|exact Nat.le_refl _⟩,⟨by (with_reducible repeat (first|apply Kd.R_alloc|apply Kd.R_drewN|apply Kd.R_drew));exact Kd.R_mono (Kd.R_far (p:=⟨gb245,1,none⟩) (Kd.R_far (p:=⟨gb245,0,none⟩) (Kd.R_far (p:=⟨gb245,1,none⟩) (Kd.R_far (p:=⟨gb245,0,none⟩) (Kd.R_mono HO_5.out (fun k_ hk=>(⟨hk,hk.2⟩ : _∧k_≠gb245))) (fun _ hk=>hk.2) (.int .i64 0)) (fun _ hk=>hk.2) (.string (⟨#[]⟩ : ByteArray))) (fun _ hk=>hk.2) (.int .i64 ((rd_T31 l1 x6_1).f0))) (fun _ hk=>hk.2) (.string ((rd_T31 l1 x6_1).f1))) (fun _ hk=>hk.1.2)⟩,⟨by (with_reducible repeat (first|refine blk_drewN ?_ _|refine blk_drew ?_|refine blk_alloc ?_ _));refine blk_far ?_ NB241_245.out _;(with_reducible repeat (first|refine blk_drewN ?_ _|refine blk_drew ?_|refine blk_alloc ?_ _));refine blk_far ?_ NB241_245.out _;(with_reducible repeat (first|refine blk_drewN ?_ _|refine blk_drew ?_|refine blk_alloc ?_ _));refine blk_far ?_ NB241_245.out _;(with_reducible repeat (first|refine blk_drewN ?_ _|refine blk_drew ?_|refine blk_alloc ?_ _));refine blk_far ?_ NB241_245.out _;(with_reducible repeat (first|refine blk_drewN ?_ _|refine blk_drew ?_|refine blk_alloc ?_ _));exact BK241.out⟩,⟨by (with_reducible repeat (first|refine blk_drewN ?_ _|refine blk_drew ?_|refine blk_alloc ?_ _));refine blk_put (cs:=#[.int .i64 ((rd_T31 l1 x6_1).f0),.string (⟨#[]⟩ : ByteArray)]) ?_ 1 _ rfl;(with_reducible repeat (first|refine blk_drewN ?_ _|refine blk_drew ?_|refine blk_alloc ?_ _));refine blk_put (cs:=#[.int .i64 0,.string (⟨#[]⟩ : ByteArray)]) ?_ 0 _ rfl;(with_reducible repeat (first|refine blk_drewN ?_ _|refine blk_drew ?_|refine blk_alloc ?_ _));refine blk_put (cs:=#[.int .i64 0,.string (⟨#[]⟩ : ByteArray)]) ?_ 1 _ rfl;(with_reducible repeat (first|refine blk_drewN ?_ _|refine blk_drew ?_|refine blk_alloc ?_ _));refine blk_put (cs:=#[.int .i64 0,.string (⟨#[]⟩ : ByteArray)]) ?_ 0 _ rfl;(with_reducible repeat (first|refine blk_drewN ?_ _|refine blk_drew ?_|refine blk_alloc ?_ _));exact BK245.out⟩,⟨by repeat (first|(with_reducible first|exact HB.out|apply below_alloc|apply pw_below_drewN|apply below_drew1|refine below_set ?_ GE241.out|refine below_set ?_ GE245.out)|exact HB.out)⟩⟩
      ·rw [if_neg c13] at H
       exact absurd H (by simp)
     ·rw [if_neg c12] at H
      have c12b0 : decide (x6_1 < (l1.length : Int))=false:=decide_eq_false c12
      clear c12
      (first|rw [c12b0]|(simp only [i64_w,i32_w];rw [c12b0])|skip)
      have H':=Aside0.mk H
      clear H
      go_wp2
      go_meet
      case rel=>exact ⟨_,(0),((⟨#[]⟩ : ByteArray)),(by first|exact H'|(subst_vars;exact H')),⟨by have:=HK1.out;first|omega|exact Nat.le_refl _⟩,⟨by (with_reducible repeat (first|apply Kd.R_alloc|apply Kd.R_drewN|apply Kd.R_drew));exact Kd.R_mono (Kd.R_far (p:=⟨gb245,1,none⟩) (Kd.R_far (p:=⟨gb245,0,none⟩) (Kd.R_mono HO_5.out (fun k_ hk=>(⟨hk,hk.2⟩ : _∧k_≠gb245))) (fun _ hk=>hk.2) (.int .i64 0)) (fun _ hk=>hk.2) (.string (⟨#[]⟩ : ByteArray))) (fun _ hk=>hk.1.2)⟩,⟨by (with_reducible repeat (first|refine blk_drewN ?_ _|refine blk_drew ?_|refine blk_alloc ?_ _));refine blk_far ?_ NB241_245.out _;(with_reducible repeat (first|refine blk_drewN ?_ _|refine blk_drew ?_|refine blk_alloc ?_ _));refine blk_far ?_ NB241_245.out _;(with_reducible repeat (first|refine blk_drewN ?_ _|refine blk_drew ?_|refine blk_alloc ?_ _));exact BK241.out⟩,⟨by (with_reducible repeat (first|refine blk_drewN ?_ _|refine blk_drew ?_|refine blk_alloc ?_ _));refine blk_put (cs:=#[.int .i64 0,.string (⟨#[]⟩ : ByteArray)]) ?_ 1 _ rfl;(with_reducible repeat (first|refine blk_drewN ?_ _|refine blk_drew ?_|refine blk_alloc ?_ _));refine blk_put (cs:=#[.int .i64 0,.string (⟨#[]⟩ : ByteArray)]) ?_ 0 _ rfl;(with_reducible repeat (first|refine blk_drewN ?_ _|refine blk_drew ?_|refine blk_alloc ?_ _));exact BK245.out⟩,⟨by repeat (first|(with_reducible first|exact HB.out|apply below_alloc|apply pw_below_drewN|apply below_drew1|refine below_set ?_ GE241.out|refine below_set ?_ GE245.out)|exact HB.out)⟩⟩
    case rest =>
     clear HC7
     try clear c1
     try clear c2
     try clear p2
     try clear q2
     try clear hx2
     try clear c6
     try clear c6b0
     try clear c10
     try clear c12
     try clear c12b0
     try clear c13
     try clear c13b0
     try clear c14
     try clear hcz11_0
     try clear hcz11_1
     try clear hcz15_0
     try clear hcz15_1
     try clear hcz8_0
     try clear hcz8_1
     try clear hcz8_2
     try clear hcz8_3
     try clear hfz11_0
     try clear hfz11_1
     try clear hfz15_0
     try clear hfz15_1
     try clear hfz8_0
     try clear hfz8_1
     try clear hfz8_2
     try clear hfz8_3
     try clear hx246_0
     try clear hx246_1
     try clear p2
     try clear p246
     try clear q246
     obtain ⟨kq,x246000_6,x246001_6,HA,HJ6,HO_5,BK241,BK245,HB⟩:=hcut
     cases kq with
     | zero=>exact absurd HA.out (by simp [thresherref04_Fit.j1])
     | succ kj6 =>
      have H:=HA.out
      clear HA
      simp only [thresherref04_Fit.j1] at H
      by_cases c16 : 0≤x6_1
      ·rw [if_pos c16] at H
       have c16b0 : decide (0≤x6_1)=true:=decide_eq_true c16
       clear c16
       by_cases c17 : x6_1 < (l0_0.length : Int)
       ·rw [if_pos c17] at H
        have c17b0 : decide (x6_1 < (l0_0.length : Int))=true:=decide_eq_true c17
        clear c17
        by_cases c18 : (rd l0_0 x6_1)=3
        ·rw [if_pos c18] at H
         have c18b0 : ((rd l0_0 x6_1) == 3)=true:=beq_iff_eq.mpr c18
         have c18b1 : ((rd l0_0 x6_1) != 3)=false:=bne_eq_false_iff_eq.mpr c18
         clear c18
         by_cases c19 : (x246001_6.size : Int) > 60
         ·rw [if_pos c19] at H
          have c19b0 : decide (60 < (x246001_6.size : Int))=true:=decide_eq_true c19
          have c19b1 : decide (60 < x246001_6.size)=true:=decide_eq_true (by omega)
          clear c19
          by_cases c20 : 0≤60
          ·rw [if_pos c20] at H
           have c20b0:=eq_true c20
           have c20b1 : decide (0≤60)=true:=decide_eq_true c20
           clear c20
           by_cases c21 : 60≤(x246001_6.size : Int)
           ·rw [if_pos c21] at H
            have c21b0:=eq_true c21
            have c21b1 : decide (60≤(x246001_6.size : Int))=true:=decide_eq_true c21
            clear c21
            by_cases c22 : x5_1.length < 5864062014805
            ·rw [if_pos c22] at H
             have LMc22:=Aside0.mk c22
             clear c22
             obtain ⟨y248,hy248⟩ : ∃ y_ : List (S31),y_=(x5_1 ++ [(⟨0,x246001_6.extract 0 60⟩ : S31)]):=⟨_,rfl⟩
             replace H : (thresherref04_Fit.l0 kj6 l1 y248 (wrap64 (x6_1 + 1)) l0_0 a0_1 a0_2 a0_3)=some r:=by first|(rw [hy248];with_reducible exact H)|(have H2_:=(Option.bind_some _ _).symm.trans H;rw [hy248];with_reducible exact H2_)|(have H2_:=(Option.bind_some _ _).symm.trans H;with_reducible exact H2_)|with_reducible exact H|(rw [hy248];exact H)|exact H
             have Ny248:=Aside0.mk hy248
             clear hy248
             have H':=Aside0.mk H
             clear H
             have hnb23:=NB241_245.out
             have hnc23:=NB245_241.out
             have hcz24_0 : wc.cell? ⟨gb241,0,none⟩=some (.slice A0_0 l0_0.length c0_0):=(blk_cell BK241.out 0).trans rfl
             have hcz24_1 : wc.cell? ⟨gb241,1,none⟩=some (.int .i64 a0_1):=(blk_cell BK241.out 1).trans rfl
             have hcz24_2 : wc.cell? ⟨gb241,2,none⟩=some (.int .i64 a0_2):=(blk_cell BK241.out 2).trans rfl
             have hcz24_3 : wc.cell? ⟨gb241,3,none⟩=some (.int .i64 a0_3):=(blk_cell BK241.out 3).trans rfl
             have hfz24_0:=blk_frozen BK241.out 0
             have hfz24_1:=blk_frozen BK241.out 1
             have hfz24_2:=blk_frozen BK241.out 2
             have hfz24_3:=blk_frozen BK241.out 3
             have p247 : 0≤(x6_1 : Int):=of_decide_eq_true (by first|(with_reducible assumption)|assumption)
             have q247 : x6_1 < (l0_0.length : Int):=of_decide_eq_true (by first|(with_reducible assumption)|assumption)
             obtain ⟨ad247,e247,hx247_0⟩:=Kd.at_int HR0_0.out x6_1 p247 q247
             cases e247
             replace hx247_0:=(HB.out.cell (World.block_lt_of_cell? w _ hx247_0)).trans hx247_0
             replace p247:=eq_true p247
             replace q247:=eq_true q247
             have hcz25_0 : wc.cell? ⟨gb245,0,none⟩=some (.int .i64 x246000_6):=(blk_cell BK245.out 0).trans rfl
             have hcz25_1 : wc.cell? ⟨gb245,1,none⟩=some (.string x246001_6):=(blk_cell BK245.out 1).trans rfl
             have hfz25_0:=blk_frozen BK245.out 0
             have hfz25_1:=blk_frozen BK245.out 1
             go_wp2_with (first|((with_reducible refine gate_builtin (b:=.append) (xs:=#[.tmp 39,.tmp 42]) rfl ?_);at_builtin;refine Kd.R_append k31 (w0:=w) w.heap.size rfl (.tmp 39) (.tmp 42) 33 31 (.agg #[(.int .i64 0),(.string ⟨#[]⟩)]) 24 rfl Try.underlying33 info31 rfl (by decide) (by omega) u5 x5_1 (⟨0,x246001_6.extract 0 60⟩ : S31) [.int .i64 0,.string (x246001_6.extract 0 60)] (fun k_=>k_≠gb245) (fun _=>False) rfl rfl ?aP (fun _ hk=>hk.elim) ?aF ?aO ?aB ?aS ?aL ?_;(case aP=>exact k31_mkM _ _ _ (⟨0,x246001_6.extract 0 60⟩ : S31));(case aB=>exact (below_go HB.out));(case aF=>exact (fun k_ hk=>Kd.freshB (blk_up BK245.out) k_ hk));(case aO=>exact (R_up HO_5.out));(case aS=>exact (below_size (below_go HB.out)));(case aL=>have:=LMc22.out;omega);intro v249 w26 ho hb hg hat;rw [← Ny248.out] at ho;have n0_:=Aside0.mk (blk_grown (blk_up BK241.out) hg (Kd.R_ne HO_5.out BK241.out (by decide)));have n1_:=Aside0.mk (blk_grown (blk_up BK245.out) hg (Kd.R_away HO_5.out (fun _ hk=>hk)));have n2_:=Aside0.mk (hb);have n3_:=Aside0.mk (ho);clear BK241;clear BK245;clear HB;clear HO_5;have BK241:=n0_;have BK245:=n1_;have HB:=n2_;have HO250:=n3_;clear n0_ n1_ n2_ n3_;clear ho hb hg hat))
             go_roundg kj6
             case measure=>have:=HK1.out;have:=HJ6.out;omega
             case rel=>exact ⟨(y248),(wrap64 (x6_1 + 1)),(by first|rfl|(simp;done)|(simp [*];done)),(by first|exact H'|(subst_vars;exact H')),⟨by have:=HK1.out;have:=HJ6.out;omega⟩,⟨by (with_reducible repeat (first|apply Kd.R_alloc|apply Kd.R_drewN|apply Kd.R_drew));exact Kd.R_mono HO250.out (fun _ hk=>trivial)⟩,⟨by (with_reducible repeat (first|refine blk_drewN ?_ _|refine blk_drew ?_|refine blk_alloc ?_ _));exact BK241.out⟩,⟨by repeat (first|(with_reducible first|exact HB.out|apply below_alloc|apply pw_below_drewN|apply below_drew1|refine below_set ?_ GE241.out|refine below_set ?_ GE245.out)|exact HB.out)⟩⟩
            ·rw [if_neg c22] at H
             exact absurd H (by simp)
           ·rw [if_neg c21] at H
            exact absurd H (by simp)
          ·rw [if_neg c20] at H
           exact absurd H (by simp)
         ·rw [if_neg c19] at H
          have c19b0 : decide (60 < (x246001_6.size : Int))=false:=decide_eq_false c19
          have c19b1 : decide (60 < x246001_6.size)=false:=decide_eq_false (by omega)
          clear c19
          by_cases c27 : x5_1.length < 5864062014805
          ·rw [if_pos c27] at H
           have LMc27:=Aside0.mk c27
           clear c27
           obtain ⟨y251,hy251⟩ : ∃ y_ : List (S31),y_=(x5_1 ++ [(⟨0,x246001_6⟩ : S31)]):=⟨_,rfl⟩
           replace H : (thresherref04_Fit.l0 kj6 l1 y251 (wrap64 (x6_1 + 1)) l0_0 a0_1 a0_2 a0_3)=some r:=by first|(rw [hy251];with_reducible exact H)|(have H2_:=(Option.bind_some _ _).symm.trans H;rw [hy251];with_reducible exact H2_)|(have H2_:=(Option.bind_some _ _).symm.trans H;with_reducible exact H2_)|with_reducible exact H|(rw [hy251];exact H)|exact H
           have Ny251:=Aside0.mk hy251
           clear hy251
           have H':=Aside0.mk H
           clear H
           have hnb28:=NB241_245.out
           have hnc28:=NB245_241.out
           have hcz29_0 : wc.cell? ⟨gb241,0,none⟩=some (.slice A0_0 l0_0.length c0_0):=(blk_cell BK241.out 0).trans rfl
           have hcz29_1 : wc.cell? ⟨gb241,1,none⟩=some (.int .i64 a0_1):=(blk_cell BK241.out 1).trans rfl
           have hcz29_2 : wc.cell? ⟨gb241,2,none⟩=some (.int .i64 a0_2):=(blk_cell BK241.out 2).trans rfl
           have hcz29_3 : wc.cell? ⟨gb241,3,none⟩=some (.int .i64 a0_3):=(blk_cell BK241.out 3).trans rfl
           have hfz29_0:=blk_frozen BK241.out 0
           have hfz29_1:=blk_frozen BK241.out 1
           have hfz29_2:=blk_frozen BK241.out 2
           have hfz29_3:=blk_frozen BK241.out 3
           have p247 : 0≤(x6_1 : Int):=of_decide_eq_true (by first|(with_reducible assumption)|assumption)
           have q247 : x6_1 < (l0_0.length : Int):=of_decide_eq_true (by first|(with_reducible assumption)|assumption)
           obtain ⟨ad247,e247,hx247_0⟩:=Kd.at_int HR0_0.out x6_1 p247 q247
           cases e247
           replace hx247_0:=(HB.out.cell (World.block_lt_of_cell? w _ hx247_0)).trans hx247_0
           replace p247:=eq_true p247
           replace q247:=eq_true q247
           have hcz30_0 : wc.cell? ⟨gb245,0,none⟩=some (.int .i64 x246000_6):=(blk_cell BK245.out 0).trans rfl
           have hcz30_1 : wc.cell? ⟨gb245,1,none⟩=some (.string x246001_6):=(blk_cell BK245.out 1).trans rfl
           have hfz30_0:=blk_frozen BK245.out 0
           have hfz30_1:=blk_frozen BK245.out 1
           go_wp2_with (first|((with_reducible refine gate_builtin (b:=.append) (xs:=#[.tmp 39,.tmp 42]) rfl ?_);at_builtin;refine Kd.R_append k31 (w0:=w) w.heap.size rfl (.tmp 39) (.tmp 42) 33 31 (.agg #[(.int .i64 0),(.string ⟨#[]⟩)]) 24 rfl Try.underlying33 info31 rfl (by decide) (by omega) u5 x5_1 (⟨0,x246001_6⟩ : S31) [.int .i64 0,.string x246001_6] (fun k_=>k_≠gb245) (fun _=>False) rfl rfl ?aP (fun _ hk=>hk.elim) ?aF ?aO ?aB ?aS ?aL ?_;(case aP=>exact k31_mkM _ _ _ (⟨0,x246001_6⟩ : S31));(case aB=>exact (below_go HB.out));(case aF=>exact (fun k_ hk=>Kd.freshB (blk_up BK245.out) k_ hk));(case aO=>exact (R_up HO_5.out));(case aS=>exact (below_size (below_go HB.out)));(case aL=>have:=LMc27.out;omega);intro v252 w31 ho hb hg hat;rw [← Ny251.out] at ho;have n0_:=Aside0.mk (blk_grown (blk_up BK241.out) hg (Kd.R_ne HO_5.out BK241.out (by decide)));have n1_:=Aside0.mk (blk_grown (blk_up BK245.out) hg (Kd.R_away HO_5.out (fun _ hk=>hk)));have n2_:=Aside0.mk (hb);have n3_:=Aside0.mk (ho);clear BK241;clear BK245;clear HB;clear HO_5;have BK241:=n0_;have BK245:=n1_;have HB:=n2_;have HO253:=n3_;clear n0_ n1_ n2_ n3_;clear ho hb hg hat))
           go_roundg kj6
           case measure=>have:=HK1.out;have:=HJ6.out;omega
           case rel=>exact ⟨(y251),(wrap64 (x6_1 + 1)),(by first|rfl|(simp;done)|(simp [*];done)),(by first|exact H'|(subst_vars;exact H')),⟨by have:=HK1.out;have:=HJ6.out;omega⟩,⟨by (with_reducible repeat (first|apply Kd.R_alloc|apply Kd.R_drewN|apply Kd.R_drew));exact Kd.R_mono HO253.out (fun _ hk=>trivial)⟩,⟨by (with_reducible repeat (first|refine blk_drewN ?_ _|refine blk_drew ?_|refine blk_alloc ?_ _));exact BK241.out⟩,⟨by repeat (first|(with_reducible first|exact HB.out|apply below_alloc|apply pw_below_drewN|apply below_drew1|refine below_set ?_ GE241.out|refine below_set ?_ GE245.out)|exact HB.out)⟩⟩
          ·rw [if_neg c27] at H
           exact absurd H (by simp)
        ·rw [if_neg c18] at H
         have c18b0 : ((rd l0_0 x6_1) == 3)=false:=beq_eq_false_iff_ne.mpr c18
         have c18b1 : ((rd l0_0 x6_1) != 3)=true:=bne_iff_ne.mpr c18
         by_cases c32 : x5_1.length < 5864062014805
         ·rw [if_pos c32] at H
          have LMc32:=Aside0.mk c32
          clear c32
          obtain ⟨y254,hy254⟩ : ∃ y_ : List (S31),y_=(x5_1 ++ [(⟨x246000_6,(⟨#[]⟩ : ByteArray)⟩ : S31)]):=⟨_,rfl⟩
          replace H : (thresherref04_Fit.l0 kj6 l1 y254 (wrap64 (x6_1 + 1)) l0_0 a0_1 a0_2 a0_3)=some r:=by first|(rw [hy254];with_reducible exact H)|(have H2_:=(Option.bind_some _ _).symm.trans H;rw [hy254];with_reducible exact H2_)|(have H2_:=(Option.bind_some _ _).symm.trans H;with_reducible exact H2_)|with_reducible exact H|(rw [hy254];exact H)|exact H
          have Ny254:=Aside0.mk hy254
          clear hy254
          have H':=Aside0.mk H
          clear H
          have hnb33:=NB241_245.out
          have hnc33:=NB245_241.out
          have hcz34_0 : wc.cell? ⟨gb241,0,none⟩=some (.slice A0_0 l0_0.length c0_0):=(blk_cell BK241.out 0).trans rfl
          have hcz34_1 : wc.cell? ⟨gb241,1,none⟩=some (.int .i64 a0_1):=(blk_cell BK241.out 1).trans rfl
          have hcz34_2 : wc.cell? ⟨gb241,2,none⟩=some (.int .i64 a0_2):=(blk_cell BK241.out 2).trans rfl
          have hcz34_3 : wc.cell? ⟨gb241,3,none⟩=some (.int .i64 a0_3):=(blk_cell BK241.out 3).trans rfl
          have hfz34_0:=blk_frozen BK241.out 0
          have hfz34_1:=blk_frozen BK241.out 1
          have hfz34_2:=blk_frozen BK241.out 2
          have hfz34_3:=blk_frozen BK241.out 3
          have p247 : 0≤(x6_1 : Int):=of_decide_eq_true (by first|(with_reducible assumption)|assumption)
          have q247 : x6_1 < (l0_0.length : Int):=of_decide_eq_true (by first|(with_reducible assumption)|assumption)
          obtain ⟨ad247,e247,hx247_0⟩:=Kd.at_int HR0_0.out x6_1 p247 q247
          cases e247
          replace hx247_0:=(HB.out.cell (World.block_lt_of_cell? w _ hx247_0)).trans hx247_0
          replace p247:=eq_true p247
          replace q247:=eq_true q247
          have hcz35_0 : wc.cell? ⟨gb245,0,none⟩=some (.int .i64 x246000_6):=(blk_cell BK245.out 0).trans rfl
          have hcz35_1 : wc.cell? ⟨gb245,1,none⟩=some (.string x246001_6):=(blk_cell BK245.out 1).trans rfl
          have hfz35_0:=blk_frozen BK245.out 0
          have hfz35_1:=blk_frozen BK245.out 1
          go_wp2_with (first|((with_reducible refine gate_builtin (b:=.append) (xs:=#[.tmp 44,.tmp 48]) rfl ?_);at_builtin;refine Kd.R_append k31 (w0:=w) w.heap.size rfl (.tmp 44) (.tmp 48) 33 31 (.agg #[(.int .i64 0),(.string ⟨#[]⟩)]) 24 rfl Try.underlying33 info31 rfl (by decide) (by omega) u5 x5_1 (⟨x246000_6,(⟨#[]⟩ : ByteArray)⟩ : S31) [.int .i64 x246000_6,.string (⟨#[]⟩ : ByteArray)] (fun k_=>k_≠gb245) (fun _=>False) rfl rfl ?aP (fun _ hk=>hk.elim) ?aF ?aO ?aB ?aS ?aL ?_;(case aP=>exact k31_mkM _ _ _ (⟨x246000_6,(⟨#[]⟩ : ByteArray)⟩ : S31));(case aB=>exact (below_go HB.out));(case aF=>exact (fun k_ hk=>Kd.freshB (blk_up BK245.out) k_ hk));(case aO=>exact (R_up HO_5.out));(case aS=>exact (below_size (below_go HB.out)));(case aL=>have:=LMc32.out;omega);intro v255 w36 ho hb hg hat;rw [← Ny254.out] at ho;have n0_:=Aside0.mk (blk_grown (blk_up BK241.out) hg (Kd.R_ne HO_5.out BK241.out (by decide)));have n1_:=Aside0.mk (blk_grown (blk_up BK245.out) hg (Kd.R_away HO_5.out (fun _ hk=>hk)));have n2_:=Aside0.mk (hb);have n3_:=Aside0.mk (ho);clear BK241;clear BK245;clear HB;clear HO_5;have BK241:=n0_;have BK245:=n1_;have HB:=n2_;have HO256:=n3_;clear n0_ n1_ n2_ n3_;clear ho hb hg hat))
          go_roundg kj6
          case measure=>have:=HK1.out;have:=HJ6.out;omega
          case rel=>exact ⟨(y254),(wrap64 (x6_1 + 1)),(by first|rfl|(simp;done)|(simp [*];done)),(by first|exact H'|(subst_vars;exact H')),⟨by have:=HK1.out;have:=HJ6.out;omega⟩,⟨by (with_reducible repeat (first|apply Kd.R_alloc|apply Kd.R_drewN|apply Kd.R_drew));exact Kd.R_mono HO256.out (fun _ hk=>trivial)⟩,⟨by (with_reducible repeat (first|refine blk_drewN ?_ _|refine blk_drew ?_|refine blk_alloc ?_ _));exact BK241.out⟩,⟨by repeat (first|(with_reducible first|exact HB.out|apply below_alloc|apply pw_below_drewN|apply below_drew1|refine below_set ?_ GE241.out|refine below_set ?_ GE245.out)|exact HB.out)⟩⟩
         ·rw [if_neg c32] at H
          exact absurd H (by simp)
       ·rw [if_neg c17] at H
        exact absurd H (by simp)
      ·rw [if_neg c16] at H
       exact absurd H (by simp)
   ·rw [if_neg c6] at H
    have c6b0 : decide (x6_1 < (l0_0.length : Int))=false:=decide_eq_false c6
    clear c6
    obtain rfl:=Option.some.inj H
    have hcz37_0 : wr.cell? ⟨gb241,0,none⟩=some (.slice A0_0 l0_0.length c0_0):=(blk_cell BK241.out 0).trans rfl
    have hcz37_1 : wr.cell? ⟨gb241,1,none⟩=some (.int .i64 a0_1):=(blk_cell BK241.out 1).trans rfl
    have hcz37_2 : wr.cell? ⟨gb241,2,none⟩=some (.int .i64 a0_2):=(blk_cell BK241.out 2).trans rfl
    have hcz37_3 : wr.cell? ⟨gb241,3,none⟩=some (.int .i64 a0_3):=(blk_cell BK241.out 3).trans rfl
    have hfz37_0:=blk_frozen BK241.out 0
    have hfz37_1:=blk_frozen BK241.out 1
    have hfz37_2:=blk_frozen BK241.out 2
    have hfz37_3:=blk_frozen BK241.out 3
    go_wp2
    go_ret
    exact ⟨_,by first|rfl|(simp [errW_none,errW_some] <;> rfl)|(simp [*,errW_none,errW_some] <;> rfl),by (with_reducible repeat (first|apply Kd.R_alloc|apply Kd.R_drewN|apply Kd.R_drew));exact HO_5.out,by repeat (first|(with_reducible first|exact HB.out|apply below_alloc|apply pw_below_drewN|apply below_drew1|refine below_set ?_ GE241.out)|exact HB.out)⟩
def thresherref04_Fits.l0 : Nat→List (List (S31))→Int→List (List (S31))→Int→List Int→Int→Int→Int→Option ((List (List (S31))))
 | 0,_,_,_,_,_,_,_,_=>none
 | k + 1,x1,x2,x7,x8,x258000,x258001,x258002,x258003=>if x8 < (x1.length : Int) then (if x8 < x2 then (if 0≤x8 then ((thresherref04_Fit.f k x258000 x258001 x258002 x258003 (rd_L3 x1 x8)).bind fun t262=>(if x7.length < 5864062014805 then (thresherref04_Fits.l0 k x1 x2 (x7 ++ [t262]) (wrap64 (x8 + 1)) x258000 x258001 x258002 x258003) else (none))) else (none)) else (some x7)) else (some x7)
def thresherref04_Fits.f (k : Nat) (l0_0 : List Int) (a0_1 : Int) (a0_2 : Int) (a0_3 : Int) (l1 : List (List (S31))) (a2 : Int) : Option ((List (List (S31)))):=thresherref04_Fits.l0 k l1 a2 (([] : List (List (S31)))) 0 l0_0 a0_1 a0_2 a0_3
theorem thresherref04_Fits.mono_l : ∀ k,(∀ y0 y1 y2 y3 y4 y5 y6 y7,LeO (thresherref04_Fits.l0 k y0 y1 y2 y3 y4 y5 y6 y7) (thresherref04_Fits.l0 (k + 1) y0 y1 y2 y3 y4 y5 y6 y7))
 | 0=>fun _ _ _ _ _ _ _ _ r h=>by simp [thresherref04_Fits.l0] at h
 | k + 1=>by
  have ih0:=thresherref04_Fits.mono_l k
  ·intro y0 y1 y2 y3 y4 y5 y6 y7
   unfold thresherref04_Fits.l0
   repeat' first
   | (with_reducible exact ih0 _ _ _ _ _ _ _ _)
   | (with_reducible exact thresherref04_Fit.mono _ _ _ _ _ _)
   | (with_reducible exact LeO.refl _)
   | (with_reducible exact LeO.none _)
   | (with_reducible refine LeO.ite ?_ ?_)
   | (with_reducible refine LeO.bind ?_ (fun _=>?_))
   | exact ih0 _ _ _ _ _ _ _ _
   | exact thresherref04_Fit.mono _ _ _ _ _ _
   | exact LeO.none _
   | refine LeO.ite ?_ ?_
   | refine LeO.bind ?_ (fun _=>?_)
theorem thresherref04_Fits.mono : ∀ a0 a1 a2 a3 a4 a5 k,LeO (thresherref04_Fits.f k a0 a1 a2 a3 a4 a5) (thresherref04_Fits.f (k + 1) a0 a1 a2 a3 a4 a5):=by
 intro a0 a1 a2 a3 a4 a5 k
 have ih0:=thresherref04_Fits.mono_l k
 unfold thresherref04_Fits.f
 repeat' first
   | (with_reducible exact ih0 _ _ _ _ _ _ _ _)
   | (with_reducible exact thresherref04_Fit.mono _ _ _ _ _ _)
   | (with_reducible exact LeO.refl _)
   | (with_reducible exact LeO.none _)
   | (with_reducible refine LeO.ite ?_ ?_)
   | (with_reducible refine LeO.bind ?_ (fun _=>?_))
   | exact ih0 _ _ _ _ _ _ _ _
   | exact thresherref04_Fit.mono _ _ _ _ _ _
   | exact LeO.none _
   | refine LeO.ite ?_ ?_
   | refine LeO.bind ?_ (fun _=>?_)
def thresherref04_Fits.T5 : Bool × List (List Nat × List Nat):=(true,[([],[]),([],[]),([],[]),([],[]),([2,3],[2,3]),([4],[4]),([1,5],[1,5]),([6],[6]),([0,7,6],[0,7]),([8,8,0,1,2,3,4,5,6,7,8],[0,8])])
def thresherref04_Fits.B5 : List Nat:=[0,0,0,0,12,28,62,126,255,511]
theorem thresherref04_Fits.tab5 : rtab .any (opsOf Try.f18 5)=thresherref04_Fits.T5:=by kernel_rfl
theorem thresherref04_Fits.bits5 : waitsOk thresherref04_Fits.T5.2 thresherref04_Fits.B5=true:=by kernel_rfl
set_option maxHeartbeats 8000000 in
set_option maxRecDepth 100000 in
theorem thresherref04_Fits.calls (k : Nat) (A0_0 : Option Addr) (c0_0 : Nat) (l0_0 : List Int) (a0_1 : Int) (a0_2 : Int) (a0_3 : Int) (A1 : Option Addr) (c1 : Nat) (l1 : List (List (S31))) (a2 : Int) (r : List (List (S31))) (w : World) (hr0_0 : Kd.C (Kd.int .i64) w A0_0 l0_0.length l0_0) (hc0_0 : l0_0.length≤c0_0) (hr1 : Kd.C (Kd.slice 31 k31) w A1 l1.length l1) (hc1 : l1.length≤c1) (h : thresherref04_Fits.f k l0_0 a0_1 a0_2 a0_3 l1 a2=some r) :
  Calls Try.prog 18 #[.agg #[.slice A0_0 l0_0.length c0_0,.int .i64 a0_1,.int .i64 a0_2,.int .i64 a0_3],.slice A1 l1.length c1,.int .i64 a2] w fun e w'=>∃ v0_ : Value,e=.returned (v0_)∧Kd.S (Kd.slice 31 k31) 33 w' w.heap.size (fun _=>True) v0_ r∧Below w.heap.size w w':=by
 have hu26:=Try.underlying26
 have HR0_0:=Aside0.mk hr0_0
 have HC0_0:=Aside0.mk hc0_0
 clear hr0_0 hc0_0
 have HR1:=Aside0.mk hr1
 have HC1:=Aside0.mk hc1
 clear hr1 hc1
 have HB:=Aside0.mk (Below.refl w.heap.size w)
 have H : (thresherref04_Fits.l0 k l1 a2 (([] : List (List (S31)))) 0 l0_0 a0_1 a0_2 a0_3)=some r:=h
 clear h
 obtain ⟨y258,hy258⟩ : ∃ y_ : List (List (S31)),y_=(([] : List (List (S31)))):=⟨_,rfl⟩
 replace H : (thresherref04_Fits.l0 k l1 a2 y258 0 l0_0 a0_1 a0_2 a0_3)=some r:=by first|(rw [hy258];with_reducible exact H)|(have H2_:=(Option.bind_some _ _).symm.trans H;rw [hy258];with_reducible exact H2_)|(have H2_:=(Option.bind_some _ _).symm.trans H;with_reducible exact H2_)|with_reducible exact H|(rw [hy258];exact H)|exact H
 have Ny258:=Aside0.mk hy258
 clear hy258
 have H':=Aside0.mk H
 clear H
 go_enter Try.func18,Try.ntmps18
 go_wp2_with (first|((with_reducible refine gate_dst (N:=3) rfl ?_);refine box_event ?hg (N:=3) ?hd (cs:=#[.slice A0_0 l0_0.length c0_0,.int .i64 a0_1,.int .i64 a0_2,.int .i64 a0_3]) (t:=26) ?hr ?_;(case hd=>rfl);(case hg=>rfl);(case hr=>first|(go_simp;done)|(go_simp;rfl));intro gb257 hg w4 hbox hb;have n0_:=Aside0.mk (below_step (below_up HB.out) hb);have n1_:=Aside0.mk (hbox);have n2_:=Aside0.mk ((by rw [hg];exact (below_size (below_up HB.out)) : w.heap.size≤gb257));have n3_:=Aside0.mk ((by rw [hg];exact (below_size (below_up HB.out)) : w.heap.size≤gb257));clear HB;have HB:=n0_;have BK257:=n1_;have GW257:=n2_;have GE257:=n3_;clear n0_ n1_ n2_ n3_;clear hb hbox hg)|((with_reducible refine gate_dst (N:=9) rfl ?_);refine Kd.S_lit (Kd.slice 31 k31) _ 33 ?hg (N:=9) ?hd (xs:=([] : List (List (S31)))) (inner:=[]) (ok:=fun _=>True) (okp:=fun _=>True) ?hr ?hp (fun _ hk=>hk) trivial (Below.refl _ _) (Nat.le_refl _) (by simp) ?_;(case hd=>rfl);(case hg=>rfl);(case hr=>first|(go_simp;done)|(go_simp;rfl));(case hp=>exact (Reps.none _ _));intro v259 w5 ho6 hb hg_ hnew_;clear hg_ hnew_;(first|rw [← Ny258.out] at ho6|(simp only [Int.reduceToNat] at ho6;rw [← Ny258.out] at ho6));have n0_:=Aside0.mk (Kd.S_lower ho6 (below_size (below_go HB.out)));have n1_:=Aside0.mk (blk_below (blk_up BK257.out) hb);have n2_:=Aside0.mk (below_step (below_go HB.out) hb);clear BK257;clear HB;have HO260:=n0_;have BK257:=n1_;have HB:=n2_;clear n0_ n1_ n2_;clear hb ho6))
 go_loopg [7,8] k (fun kq v7 v8 w'=>∃ (x7_1 : List (List (S31))) (x8_1 : Int),v8=.int .i64 x8_1∧Aside0 (thresherref04_Fits.l0 kq l1 a2 x7_1 x8_1 l0_0 a0_1 a0_2 a0_3=some r)∧Aside0 (kq≤k)∧Aside0 (Kd.S (Kd.slice 31 k31) 33 w' w.heap.size (fun _=>True) v7 x7_1)∧Aside0 (w'.heap[gb257]?=some (.cells #[(.slice A0_0 l0_0.length c0_0),.int .i64 a0_1,.int .i64 a0_2,.int .i64 a0_3] 26 (0,0)))∧Aside0 (Below w.heap.size w w'))
 case atStart=>exact ⟨(y258),(0),(by first|rfl|(simp;done)|(simp [*];done)),H',⟨Nat.le_refl _⟩,⟨by (with_reducible repeat (first|apply Kd.S_alloc|apply Kd.S_drewN|apply Kd.S_drew));exact HO260.out⟩,⟨by (with_reducible repeat (first|refine blk_drewN ?_ _|refine blk_drew ?_|refine blk_alloc ?_ _));exact BK257.out⟩,⟨by repeat (first|(with_reducible first|exact HB.out|apply below_alloc|apply pw_below_drewN|apply below_drew1|refine below_set ?_ GE257.out)|exact HB.out)⟩⟩
 case round =>
  clear H'
  try clear c1
  try clear p2
  obtain ⟨x7_1,x8_1,rfl,HA,HK1,HO_7,BK257,HB⟩:=hrel
  cases gk with
  | zero=>exact absurd HA.out (by simp [thresherref04_Fits.l0])
  | succ k1 =>
   have H:=HA.out
   clear HA
   simp only [thresherref04_Fits.l0] at H
   by_cases c7 : x8_1 < (l1.length : Int)
   ·rw [if_pos c7] at H
    have c7b0 : decide (x8_1 < (l1.length : Int))=true:=decide_eq_true c7
    clear c7
    by_cases c8 : x8_1 < a2
    ·rw [if_pos c8] at H
     have c8b0 : decide (x8_1 < a2)=true:=decide_eq_true c8
     clear c8
     by_cases c9 : 0≤x8_1
     ·rw [if_pos c9] at H
      have c9b0 : decide (0≤x8_1)=true:=decide_eq_true c9
      clear c9
      replace H:=Option.bind_eq_some_iff.mp H
      obtain ⟨t262,A100,H⟩:=H
      replace H : (if x7_1.length < 5864062014805 then (thresherref04_Fits.l0 k1 l1 a2 (x7_1 ++ [t262]) (wrap64 (x8_1 + 1)) l0_0 a0_1 a0_2 a0_3) else (none))=some r:=H
      have A10:=Aside0.mk A100
      clear A100
      by_cases c11 : x7_1.length < 5864062014805
      ·rw [if_pos c11] at H
       have LMc11:=Aside0.mk c11
       clear c11
       obtain ⟨y265,hy265⟩ : ∃ y_ : List (List (S31)),y_=(x7_1 ++ [t262]):=⟨_,rfl⟩
       replace H : (thresherref04_Fits.l0 k1 l1 a2 y265 (wrap64 (x8_1 + 1)) l0_0 a0_1 a0_2 a0_3)=some r:=by first|(rw [hy265];with_reducible exact H)|(have H2_:=(Option.bind_some _ _).symm.trans H;rw [hy265];with_reducible exact H2_)|(have H2_:=(Option.bind_some _ _).symm.trans H;with_reducible exact H2_)|with_reducible exact H|(rw [hy265];exact H)|exact H
       have Ny265:=Aside0.mk hy265
       clear hy265
       have H':=Aside0.mk H
       clear H
       try go_wp2
       have n0_:=Aside0.mk (Kd.S_drew HO_7.out)
       have n1_:=Aside0.mk (blk_drew BK257.out)
       have n2_:=Aside0.mk (below_drew1 HB.out)
       clear HO_7
       clear BK257
       clear HB
       have HO_7:=n0_
       have BK257:=n1_
       have HB:=n2_
       clear n0_ n1_ n2_
       have p261 : 0≤(x8_1 : Int):=of_decide_eq_true (by first|(with_reducible assumption)|assumption)
       have q261 : x8_1 < (l1.length : Int):=of_decide_eq_true (by first|(with_reducible assumption)|assumption)
       obtain ⟨ad261,A261_0,c261_0,e261,hx261_0,hl261_0,hi261_0⟩:=at_L3 HR1.out x8_1 p261 q261
       have hw261_0:=hx261_0
       cases e261
       replace hx261_0:=(HB.out.cell (World.block_lt_of_cell? w _ hx261_0)).trans hx261_0
       have HR261_0:=Aside0.mk hi261_0
       have HC261_0:=Aside0.mk hl261_0
       clear hi261_0 hl261_0
       replace p261:=eq_true p261
       replace q261:=eq_true q261
       refine start_ (n:=10) (S:=fun w'=>w'.cell? ⟨gb257,0,none⟩=some (.slice A0_0 l0_0.length c0_0)∧w'.cell? ⟨gb257,1,none⟩=some (.int .i64 a0_1)∧w'.cell? ⟨gb257,2,none⟩=some (.int .i64 a0_2)∧w'.cell? ⟨gb257,3,none⟩=some (.int .i64 a0_3)∧w'.cell? (ad261.add (x8_1).toNat)=some (.slice A261_0 (rd_L3 l1 x8_1).length c261_0)) (ds:=[]) #[false,false,false,false,false,false,false,false,false,false] (by kernel_rfl) rfl rfl ⟨(blk_cell BK257.out 0).trans rfl,(blk_cell BK257.out 1).trans rfl,(blk_cell BK257.out 2).trans rfl,(blk_cell BK257.out 3).trans rfl,((HB.out.cell (World.block_lt_of_cell? w _ hw261_0)).trans hw261_0)⟩ (fun hHeld=>?_);refine with_tabW thresherref04_Fits.tab5 thresherref04_Fits.bits5 (fun HT_ HW_=>?_)
       generalize wr.drew=w12 at HO_7 BK257 HB HR261_0 hx261_0 hHeld ⊢
       refine pure_ (i:=0) (N:=some 21) (v:=?_) (a':=?_) #[true,false,false,false,false,false,false,false,false,false] rfl rfl (any_of HT_.out (by kernel_rfl)) (fun _ _ _ h=>h) (Or.inl ⟨by rfl,?_⟩) ?_ ?_
       rotate_left;(intro w';go_simp;with_reducible rfl);rotate_left;(simp only [Act.put,List.setIfInBounds_toArray,List.set_cons_zero,List.set_cons_succ,i64_w,i32_w];rfl)
       refine pure_ (i:=2) (N:=some 23) (v:=?_) (a':=?_) #[true,false,true,false,false,false,false,false,false,false] rfl rfl (any_of HT_.out (by kernel_rfl)) (fun _ _ _ h=>h) (Or.inl ⟨by rfl,?_⟩) ?_ ?_
       rotate_left;(intro w';go_simp;with_reducible rfl);rotate_left;(simp only [Act.put,List.setIfInBounds_toArray,List.set_cons_zero,List.set_cons_succ,i64_w,i32_w];rfl)
       refine pure_ (i:=3) (N:=some 24) (v:=?_) (a':=?_) #[true,false,true,true,false,false,false,false,false,false] rfl rfl (any_of HT_.out (by kernel_rfl)) (fun _ _ _ h=>h) (Or.inl ⟨by rfl,?_⟩) ?_ ?_
       rotate_left;(intro w';go_simp;with_reducible rfl);rotate_left;(simp only [Act.put,List.setIfInBounds_toArray,List.set_cons_zero,List.set_cons_succ,i64_w,i32_w];rfl)
       refine pure_ (i:=4) (N:=some 25) (v:=?_) (a':=?_) #[true,false,true,true,true,false,false,false,false,false] rfl rfl (any_of HT_.out (by kernel_rfl)) (fun _ _ _ h=>h) (Or.inl ⟨by rfl,?_⟩) ?_ ?_
       rotate_left;(intro w';go_simp;with_reducible rfl);rotate_left;(simp only [Act.put,List.setIfInBounds_toArray,List.set_cons_zero,List.set_cons_succ,i64_w,i32_w];rfl)
       refine take_ (i:=1) (N:=some 22) (v:=?_) (a':=?_) #[true,true,true,true,true,false,false,false,false,false] rfl rfl (take_ofW HT_.out HW_.out (by kernel_rfl)) (fun _ _ _ h=>h) (Or.inl ⟨by rfl,?_⟩) hHeld ?_ ?_
       rotate_left;(rintro w' ⟨s0,s1,s2,s3,s4⟩;go_simp;with_reducible rfl);rotate_left;(simp only [Act.put,List.setIfInBounds_toArray,List.set_cons_zero,List.set_cons_succ,i64_w,i32_w];rfl)
       refine take_ (i:=5) (N:=some 26) (v:=?_) (a':=?_) #[true,true,true,true,true,true,false,false,false,false] rfl rfl (take_ofW HT_.out HW_.out (by kernel_rfl)) (fun _ _ _ h=>h) (Or.inl ⟨by rfl,?_⟩) hHeld ?_ ?_
       rotate_left;(rintro w' ⟨s0,s1,s2,s3,s4⟩;go_simp;with_reducible rfl);rotate_left;(simp only [Act.put,List.setIfInBounds_toArray,List.set_cons_zero,List.set_cons_succ,i64_w,i32_w];rfl)
       refine one_ (i:=6) (N:=some 27) #[true,true,true,true,true,true,true,false,false,false] rfl rfl (one_of HT_.out (by kernel_rfl)) (by decide) (fun K hK=>?_)
       refine goes_ Try.func28 (by kernel_rfl) rfl #[.agg #[.slice A0_0 l0_0.length c0_0,.int .i64 a0_1,.int .i64 a0_2,.int .i64 a0_3],.slice A261_0 (rd_L3 l1 x8_1).length c261_0] (by rfl) rfl rfl (by (try simp only [List.map_toArray,List.map_cons,List.map_nil]);first|done|rfl|(simp only [List.length_drop,List.length_take];rfl)) ?_
       with_reducible refine (thresherref04_Fit.calls k1 _ _ l0_0 a0_1 a0_2 a0_3 _ _ (rd_L3 l1 x8_1) t262 _ ?side1 ?side2 ?side3 ?side4 A10.out).mono ?_
       (case side1=>repeat (first|exact (Kd.C_below HR0_0.out HB.out)|(with_reducible refine Kd.C_alloc ?_ _)|(with_reducible refine Kd.C_drewN ?_ _)|(with_reducible refine Kd.C_drew ?_)))
       (case side2=>exact HC0_0.out)
       (case side3=>repeat (first|exact (Kd.C_below HR261_0.out HB.out)|(with_reducible refine Kd.C_alloc ?_ _)|(with_reducible refine Kd.C_drewN ?_ _)|(with_reducible refine Kd.C_drew ?_)))
       (case side4=>exact HC261_0.out)
       rintro e w13 ⟨v263,rfl,ho0,hb⟩
       refine ⟨_,rfl,?_⟩
       have n0_:=Aside0.mk (Kd.S_elder' (S_up HO_7.out) (Kd.R_base ho0) hb)
       have n1_:=Aside0.mk (Kd.R_lower ho0 (below_size (below_go HB.out)))
       have n2_:=Aside0.mk (blk_below (blk_up BK257.out) hb)
       have n3_:=Aside0.mk (below_step (below_go HB.out) hb)
       clear HO_7
       clear BK257
       clear HB
       have HO_7:=n0_
       have HO264:=n1_
       have BK257:=n2_
       have HB:=n3_
       clear n0_ n1_ n2_ n3_
       (try clear hb)
       (try clear hb2)
       (try clear hk)
       (try clear hi)
       (try clear ho0)
       obtain ⟨Ao15,co15,eo15⟩:=Kd.R_slice HO264.out
       (first|subst eo15|(injection eo15 with f1_ f2_ f3_;have f4_:=f1_.symm;have f5_:=f3_.symm;clear f1_ f2_ f3_;subst f4_;subst f5_))
       refine hK.out _ _ ⟨(blk_cell BK257.out 0).trans rfl,(blk_cell BK257.out 1).trans rfl,(blk_cell BK257.out 2).trans rfl,(blk_cell BK257.out 3).trans rfl,((HB.out.cell (World.block_lt_of_cell? w _ hw261_0)).trans hw261_0)⟩ (fun hHeld=>?_)
       clear hK K
       refine norm_ (a':=?_) ?_ ?_
       rotate_left
       ·show Act.put _ (some 27) _=_
        simp only [Act.put,List.setIfInBounds_toArray,List.set_cons_zero,List.set_cons_succ,i64_w,i32_w]
        rfl
       refine one_ (i:=7) (N:=some 28) #[true,true,true,true,true,true,true,true,false,false] rfl rfl (one_of HT_.out (by kernel_rfl)) (by decide) (fun K hK=>?_)
       refine value_ (w1:=?_) (v:=?_) (by rfl) rfl ?_ ?_
       rotate_left 2
       ·go_simp
        constructor
        ·rfl
        ·rfl
       refine hK.out _ _ ⟨(blk_cell (blk_alloc BK257.out _) 0).trans rfl,(blk_cell (blk_alloc BK257.out _) 1).trans rfl,(blk_cell (blk_alloc BK257.out _) 2).trans rfl,(blk_cell (blk_alloc BK257.out _) 3).trans rfl,(World.cell?_alloc_lt _ _ _ (World.block_lt_of_cell? _ _ (((HB.out.cell (World.block_lt_of_cell? w _ hw261_0)).trans hw261_0)))).trans (((HB.out.cell (World.block_lt_of_cell? w _ hw261_0)).trans hw261_0))⟩ (fun hHeld=>?_)
       clear hK K
       refine norm_ (a':=?_) ?_ ?_
       rotate_left
       ·show Act.put _ (some 28) _=_
        simp only [Act.put,List.setIfInBounds_toArray,List.set_cons_zero,List.set_cons_succ,i64_w,i32_w]
        rfl
       refine one_ (i:=8) (N:=some 29) #[true,true,true,true,true,true,true,true,true,false] rfl rfl (one_of HT_.out (by kernel_rfl)) (by decide) (fun K hK=>?_)
       refine Kd.S_append_step (Kd.slice 31 k31) (w0:=w) w.heap.size (by rfl) (.tmp 21) (.tmp 28) 28 33 (.slice none 0 0) 24 rfl Try.underlying28 info33 rfl (by decide) (by omega) u7 x7_1 t262 [.slice Ao15 t262.length co15] (fun _=>True) (fun k_=>some k_=(.slice Ao15 t262.length co15 : Value).ownBlock) rfl rfl ?aP (fun k_ hk_=>((Kd.R_mono (ok':=fun k_=>((fun _=>True)) k_∧some k_≠(u7 : Value).ownBlock) (Kd.R_apart' (HO264.out) (Kd.S_typed HO_7.out) (by decide)) (fun k_ hk=>⟨trivial,hk.2⟩))).1 k_ hk_.symm) ?aF ?aO ?aB ?aS ?aL ?_
       (case aP=>exact Kd.M_row (Kd.R_mono (Kd.R_tight rfl (Kd.R_mono (ok':=fun k_=>((fun _=>True)) k_∧some k_≠(u7 : Value).ownBlock) (Kd.R_apart' (HO264.out) (Kd.S_typed HO_7.out) (by decide)) (fun k_ hk=>⟨trivial,hk.2⟩))) (fun _ h_=>h_)))
       (case aB=>exact (below_go HB.out))
       (case aF=>exact (fun _ _=>trivial))
       (case aO=>exact (by (with_reducible repeat (first|apply Kd.S_alloc|apply Kd.S_drewN|apply Kd.S_drew));exact Kd.S_mono HO_7.out (fun k_ hk=>⟨trivial,fun e_=>hk.2 e_⟩)))
       (case aS=>exact (below_size (below_go HB.out)))
       (case aL=>have:=LMc11.out;omega)
       intro v266 w14 ho hb hg hat
       rw [← Ny265.out] at ho
       have n0_:=Aside0.mk (blk_grown (blk_up BK257.out) hg (Kd.S_ne HO_7.out BK257.out (by decide)))
       have n1_:=Aside0.mk (hb)
       have n2_:=Aside0.mk (ho)
       clear BK257
       clear HB
       clear HO_7
       clear HO264
       have BK257:=n0_
       have HB:=n1_
       have HO267:=n2_
       clear n0_ n1_ n2_
       clear ho hb hg hat
       refine hK.out _ _ ⟨(blk_cell BK257.out 0).trans rfl,(blk_cell BK257.out 1).trans rfl,(blk_cell BK257.out 2).trans rfl,(blk_cell BK257.out 3).trans rfl,((HB.out.cell (World.block_lt_of_cell? w _ hw261_0)).trans hw261_0)⟩ (fun hHeld=>?_)
       clear hK K
       refine norm_ (a':=?_) ?_ ?_
       rotate_left
       ·show Act.put _ (some 29) _=_
        simp only [Act.put,List.setIfInBounds_toArray,List.set_cons_zero,List.set_cons_succ,i64_w,i32_w]
        rfl
       refine pure_ (i:=9) (N:=some 7) (v:=?_) (a':=?_) #[true,true,true,true,true,true,true,true,true,true] rfl rfl (any_of HT_.out (by kernel_rfl)) (fun _ _ _ h=>h) (Or.inl ⟨by rfl,?_⟩) ?_ ?_
       rotate_left;(intro w';go_simp;with_reducible rfl);rotate_left;(simp only [Act.put,List.setIfInBounds_toArray,List.set_cons_zero,List.set_cons_succ,i64_w,i32_w];rfl)
       refine done_ (done_of HT_.out (by kernel_rfl)) ?_
       (try clear hHeld)
       try go_wp2
       go_roundg k1
       case measure=>have:=HK1.out;omega
       case rel=>exact ⟨(y265),(wrap64 (x8_1 + 1)),(by first|rfl|(simp;done)|(simp [*];done)),(by first|exact H'|(subst_vars;exact H')),⟨by have:=HK1.out;omega⟩,⟨by (with_reducible repeat (first|apply Kd.S_alloc|apply Kd.S_drewN|apply Kd.S_drew));exact HO267.out⟩,⟨by (with_reducible repeat (first|refine blk_drewN ?_ _|refine blk_drew ?_|refine blk_alloc ?_ _));exact BK257.out⟩,⟨by repeat (first|(with_reducible first|exact HB.out|apply below_alloc|apply pw_below_drewN|apply below_drew1|refine below_set ?_ GE257.out)|exact HB.out)⟩⟩
      ·rw [if_neg c11] at H
       exact absurd H (by simp)
     ·rw [if_neg c9] at H
      exact absurd H (by simp)
    ·rw [if_neg c8] at H
     have c8b0 : decide (x8_1 < a2)=false:=decide_eq_false c8
     clear c8
     obtain rfl:=Option.some.inj H
     go_wp2
     go_ret
     exact ⟨_,by first|rfl|(simp [errW_none,errW_some] <;> rfl)|(simp [*,errW_none,errW_some] <;> rfl),by (with_reducible repeat (first|apply Kd.S_alloc|apply Kd.S_drewN|apply Kd.S_drew));exact HO_7.out,by repeat (first|(with_reducible first|exact HB.out|apply below_alloc|apply pw_below_drewN|apply below_drew1|refine below_set ?_ GE257.out)|exact HB.out)⟩
   ·rw [if_neg c7] at H
    have c7b0 : decide (x8_1 < (l1.length : Int))=false:=decide_eq_false c7
    clear c7
    obtain rfl:=Option.some.inj H
    go_wp2
    go_ret
    exact ⟨_,by first|rfl|(simp [errW_none,errW_some] <;> rfl)|(simp [*,errW_none,errW_some] <;> rfl),by (with_reducible repeat (first|apply Kd.S_alloc|apply Kd.S_drewN|apply Kd.S_drew));exact HO_7.out,by repeat (first|(with_reducible first|exact HB.out|apply below_alloc|apply pw_below_drewN|apply below_drew1|refine below_set ?_ GE257.out)|exact HB.out)⟩
end Go.Proofs.Ytfiandejapgkoaa.P

