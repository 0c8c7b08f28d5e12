/- Texts of FilterMay. Merged: Px17. -/
import Derived.Test.YtbkpifcjgedjaaaQFilterMayPx0
import Derived.Test.YtbkpifcjgedjaaaQFilterMayPx8
namespace Go.Proofs.Ytbkpifcjgedjaaa.P
open Go.RowKit Go.Proofs.YtbkpifcjgedjaaaW.PrintWords Go.Proofs.YtbkpifcjgedjaaaW.PrintLast Go.Proofs.YtbkpifcjgedjaaaW.PrintMore
attribute [local go_sem] max2_int min2_int max_two min_two max_three min_three max_four min_four   -- for this text's walks alone
set_option linter.unusedVariables false
set_option linter.unusedSimpArgs false
mutual
def thresherref19_May.l0 : Nat→List (S39)→Int→List Int→Int→Int→Int→Option (Bool)
 | 0,_,_,_,_,_,_=>none
 | k + 1,x1,x5,x398000,x398001,x398002,x398003=>if x5 < (x1.length : Int) then (if 0≤x5 then (if ((rd_T39 x1 x5).f0) < 0 then (thresherref19_May.j1 k x1 x5 true x398000 x398001 x398002 x398003 ((rd_T39 x1 x5).f0) ((rd_T39 x1 x5).f1) ((rd_T39 x1 x5).f2.f0) ((rd_T39 x1 x5).f2.f1)) else (if ((rd_T39 x1 x5).f0) ≥ (x398000.length : Int) then (thresherref19_May.j1 k x1 x5 true x398000 x398001 x398002 x398003 ((rd_T39 x1 x5).f0) ((rd_T39 x1 x5).f1) ((rd_T39 x1 x5).f2.f0) ((rd_T39 x1 x5).f2.f1)) else (if ((rd_T39 x1 x5).f1) < 1 then (thresherref19_May.j1 k x1 x5 true x398000 x398001 x398002 x398003 ((rd_T39 x1 x5).f0) ((rd_T39 x1 x5).f1) ((rd_T39 x1 x5).f2.f0) ((rd_T39 x1 x5).f2.f1)) else (thresherref19_May.j1 k x1 x5 (decide (((rd_T39 x1 x5).f1) > 7)) x398000 x398001 x398002 x398003 ((rd_T39 x1 x5).f0) ((rd_T39 x1 x5).f1) ((rd_T39 x1 x5).f2.f0) ((rd_T39 x1 x5).f2.f1))))) else (none)) else (some true)
def thresherref19_May.j1 : Nat→List (S39)→Int→Bool→List Int→Int→Int→Int→Int→Int→Int→ByteArray→Option (Bool)
 | 0,_,_,_,_,_,_,_,_,_,_,_=>none
 | k + 1,x1,x5,x42,x398000,x398001,x398002,x398003,x400000,x400001,x400002,x400003=>if x42=true then (some false) else (if 0≤x400000 then (if x400000 < (x398000.length : Int) then ((thresherref03_Fits.f k (rd x398000 x400000) x400002 x400003).bind fun t401=>(if t401=true then (if x400001=7 then (thresherref19_May.j2 k x1 x5 ((rd x398000 x400000) != 3) x398000 x398001 x398002 x398003) else (thresherref19_May.j2 k x1 x5 false x398000 x398001 x398002 x398003)) else (thresherref19_May.j2 k x1 x5 true x398000 x398001 x398002 x398003))) else (none)) else (none))
def thresherref19_May.j2 : Nat→List (S39)→Int→Bool→List Int→Int→Int→Int→Option (Bool)
 | 0,_,_,_,_,_,_,_=>none
 | k + 1,x1,x5,x63,x398000,x398001,x398002,x398003=>if x63=true then (some false) else (thresherref19_May.l0 k x1 (wrap64 (x5 + 1)) x398000 x398001 x398002 x398003)
end
def thresherref19_May.f (k : Nat) (l0_0 : List Int) (a0_1 : Int) (a0_2 : Int) (a0_3 : Int) (l1 : List (S39)) : Option (Bool):=if (l1.length : Int) > 16 then (some false) else (thresherref19_May.l0 k l1 0 l0_0 a0_1 a0_2 a0_3)
theorem thresherref19_May.mono_l : ∀ k,(∀ y0 y1 y2 y3 y4 y5,LeO (thresherref19_May.l0 k y0 y1 y2 y3 y4 y5) (thresherref19_May.l0 (k + 1) y0 y1 y2 y3 y4 y5))∧(∀ y0 y1 y2 y3 y4 y5 y6 y7 y8 y9 y10,LeO (thresherref19_May.j1 k y0 y1 y2 y3 y4 y5 y6 y7 y8 y9 y10) (thresherref19_May.j1 (k + 1) y0 y1 y2 y3 y4 y5 y6 y7 y8 y9 y10))∧(∀ y0 y1 y2 y3 y4 y5 y6,LeO (thresherref19_May.j2 k y0 y1 y2 y3 y4 y5 y6) (thresherref19_May.j2 (k + 1) y0 y1 y2 y3 y4 y5 y6))
 | 0=>⟨fun _ _ _ _ _ _ r h=>by simp [thresherref19_May.l0] at h,fun _ _ _ _ _ _ _ _ _ _ _ r h=>by simp [thresherref19_May.j1] at h,fun _ _ _ _ _ _ _ r h=>by simp [thresherref19_May.j2] at h⟩
 | k + 1=>by
  obtain ⟨ih0,ih1,ih2⟩:=thresherref19_May.mono_l k
  refine ⟨?_,?_,?_⟩
  ·intro y0 y1 y2 y3 y4 y5
   unfold thresherref19_May.l0
   repeat' first
   | (with_reducible exact ih0 _ _ _ _ _ _)
   | (with_reducible exact ih1 _ _ _ _ _ _ _ _ _ _ _)
   | (with_reducible exact ih2 _ _ _ _ _ _ _)
   | (with_reducible exact thresherref03_Fits.mono _ _ _ _)
   | (with_reducible exact LeO.refl _)
   | (with_reducible exact LeO.none _)
   | (with_reducible refine LeO.ite ?_ ?_)
   | (with_reducible refine LeO.bind ?_ (fun _=>?_))
   | exact ih0 _ _ _ _ _ _
   | exact ih1 _ _ _ _ _ _ _ _ _ _ _
   | exact ih2 _ _ _ _ _ _ _
   | exact thresherref03_Fits.mono _ _ _ _
   | exact LeO.none _
   | refine LeO.ite ?_ ?_
   | refine LeO.bind ?_ (fun _=>?_)
  ·intro y0 y1 y2 y3 y4 y5 y6 y7 y8 y9 y10
   unfold thresherref19_May.j1
   repeat' first
   | (with_reducible exact ih0 _ _ _ _ _ _)
   | (with_reducible exact ih1 _ _ _ _ _ _ _ _ _ _ _)
   | (with_reducible exact ih2 _ _ _ _ _ _ _)
   | (with_reducible exact thresherref03_Fits.mono _ _ _ _)
   | (with_reducible exact LeO.refl _)
   | (with_reducible exact LeO.none _)
   | (with_reducible refine LeO.ite ?_ ?_)
   | (with_reducible refine LeO.bind ?_ (fun _=>?_))
   | exact ih0 _ _ _ _ _ _
   | exact ih1 _ _ _ _ _ _ _ _ _ _ _
   | exact ih2 _ _ _ _ _ _ _
   | exact thresherref03_Fits.mono _ _ _ _
   | exact LeO.none _
   | refine LeO.ite ?_ ?_
   | refine LeO.bind ?_ (fun _=>?_)
  ·intro y0 y1 y2 y3 y4 y5 y6
   unfold thresherref19_May.j2
   repeat' first
   | (with_reducible exact ih0 _ _ _ _ _ _)
   | (with_reducible exact ih1 _ _ _ _ _ _ _ _ _ _ _)
   | (with_reducible exact ih2 _ _ _ _ _ _ _)
   | (with_reducible exact thresherref03_Fits.mono _ _ _ _)
   | (with_reducible exact LeO.refl _)
   | (with_reducible exact LeO.none _)
   | (with_reducible refine LeO.ite ?_ ?_)
   | (with_reducible refine LeO.bind ?_ (fun _=>?_))
   | exact ih0 _ _ _ _ _ _
   | exact ih1 _ _ _ _ _ _ _ _ _ _ _
   | exact ih2 _ _ _ _ _ _ _
   | exact thresherref03_Fits.mono _ _ _ _
   | exact LeO.none _
   | refine LeO.ite ?_ ?_
   | refine LeO.bind ?_ (fun _=>?_)
theorem thresherref19_May.mono : ∀ a0 a1 a2 a3 a4 k,LeO (thresherref19_May.f k a0 a1 a2 a3 a4) (thresherref19_May.f (k + 1) a0 a1 a2 a3 a4):=by
 intro a0 a1 a2 a3 a4 k
 obtain ⟨ih0,ih1,ih2⟩:=thresherref19_May.mono_l k
 unfold thresherref19_May.f
 repeat' first
   | (with_reducible exact ih0 _ _ _ _ _ _)
   | (with_reducible exact ih1 _ _ _ _ _ _ _ _ _ _ _)
   | (with_reducible exact ih2 _ _ _ _ _ _ _)
   | (with_reducible exact thresherref03_Fits.mono _ _ _ _)
   | (with_reducible exact LeO.refl _)
   | (with_reducible exact LeO.none _)
   | (with_reducible refine LeO.ite ?_ ?_)
   | (with_reducible refine LeO.bind ?_ (fun _=>?_))
   | exact ih0 _ _ _ _ _ _
   | exact ih1 _ _ _ _ _ _ _ _ _ _ _
   | exact ih2 _ _ _ _ _ _ _
   | exact thresherref03_Fits.mono _ _ _ _
   | exact LeO.none _
   | refine LeO.ite ?_ ?_
   | refine LeO.bind ?_ (fun _=>?_)
set_option maxHeartbeats 8000000 in
set_option maxRecDepth 100000 in
theorem thresherref19_May.calls (k : Nat) (A0_0 : Option Addr) (c0_0 : Nat) (l0_0 : List Int) (a0_1 : Int) (a0_2 : Int) (a0_3 : Int) (A1 : Option Addr) (c1 : Nat) (l1 : List (S39)) (r : Bool) (w : World) (hr0_0 : Kd.C (Kd.int .i64) w A0_0 l0_0.length l0_0) (hc0_0 : l0_0.length≤c0_0) (hr1 : Kd.C k39 w A1 l1.length l1) (hc1 : l1.length≤c1) (h : thresherref19_May.f k l0_0 a0_1 a0_2 a0_3 l1=some r) :
  Calls Try.prog 22 #[.agg #[.slice A0_0 l0_0.length c0_0,.int .i64 a0_1,.int .i64 a0_2,.int .i64 a0_3],.slice A1 l1.length c1] w fun e w'=>e=.returned (.bool r)∧Below w.heap.size w w':=by
 have hu32:=Try.underlying32
 have hu39:=Try.underlying39
 have hu37:=Try.underlying37
 have HR0_0:=Aside0.mk hr0_0
 have HC0_0:=Aside0.mk hc0_0
 clear hr0_0 hc0_0
 have HR1:=Aside0.mk hr1
 have HC1:=Aside0.mk hc1
 clear hr1 hc1
 have HB:=Aside0.mk (Below.refl w.heap.size w)
 have H : (if (l1.length : Int) > 16 then (some false) else (thresherref19_May.l0 k l1 0 l0_0 a0_1 a0_2 a0_3))=some r:=h
 clear h
 by_cases c3 : (l1.length : Int) > 16
 ·rw [if_pos c3] at H
  have c3b0 : decide (16 < (l1.length : Int))=true:=decide_eq_true c3
  have c3b1 : decide (16 < l1.length)=true:=decide_eq_true (by omega)
  clear c3
  obtain rfl:=Option.some.inj H
  go_enter Try.func22,Try.ntmps22
  go_wp2_with (first|((with_reducible refine gate_dst (N:=2) rfl ?_);(try (refine gate_guard (by rfl) ?_;dsimp only));refine box_event ?hg (N:=2) ?hd (cs:=#[.slice A0_0 l0_0.length c0_0,.int .i64 a0_1,.int .i64 a0_2,.int .i64 a0_3]) (t:=32) ?hr ?_;(case hd=>rfl);(case hg=>rfl);(case hr=>first|(go_simp;done)|(go_simp;rfl));intro gb397 hg w4 hbox hb;have n0_:=Aside0.mk (below_step (below_up HB.out) hb);have n1_:=Aside0.mk (hbox);have n2_:=Aside0.mk ((by rw [hg];exact (below_size (below_up HB.out)) : w.heap.size≤gb397));have n3_:=Aside0.mk ((by rw [hg];exact (below_size (below_up HB.out)) : w.heap.size≤gb397));clear HB;have HB:=n0_;have BK397:=n1_;have GW397:=n2_;have GE397:=n3_;clear n0_ n1_ n2_ n3_;clear hb hbox hg))
  go_ret
  exact ⟨by first|rfl|(simp [errW_none,errW_some] <;> rfl)|(simp [*,errW_none,errW_some] <;> rfl),by repeat (first|(with_reducible first|exact HB.out|apply below_alloc|apply pw_below_drewN|apply below_drew1|refine below_set ?_ GE397.out)|exact HB.out)⟩
 ·rw [if_neg c3] at H
  have c3b0 : decide (16 < (l1.length : Int))=false:=decide_eq_false c3
  have c3b1 : decide (16 < l1.length)=false:=decide_eq_false (by omega)
  clear c3
  have H':=Aside0.mk H
  clear H
  go_enter Try.func22,Try.ntmps22
  go_wp2_with (first|((with_reducible refine gate_dst (N:=2) rfl ?_);(try (refine gate_guard (by rfl) ?_;dsimp only));refine box_event ?hg (N:=2) ?hd (cs:=#[.slice A0_0 l0_0.length c0_0,.int .i64 a0_1,.int .i64 a0_2,.int .i64 a0_3]) (t:=32) ?hr ?_;(case hd=>rfl);(case hg=>rfl);(case hr=>first|(go_simp;done)|(go_simp;rfl));intro gb397 hg w5 hbox hb;have n0_:=Aside0.mk (below_step (below_up HB.out) hb);have n1_:=Aside0.mk (hbox);have n2_:=Aside0.mk ((by rw [hg];exact (below_size (below_up HB.out)) : w.heap.size≤gb397));have n3_:=Aside0.mk ((by rw [hg];exact (below_size (below_up HB.out)) : w.heap.size≤gb397));clear HB;have HB:=n0_;have BK397:=n1_;have GW397:=n2_;have GE397:=n3_;clear n0_ n1_ n2_ n3_;clear hb hbox hg))
  go_loopg [5] k (fun kq v5 w'=>∃ (x5_1 : Int),v5=.int .i64 x5_1∧Aside0 (thresherref19_May.l0 kq l1 x5_1 l0_0 a0_1 a0_2 a0_3=some r)∧Aside0 (kq≤k)∧Aside0 (w'.heap[gb397]?=some (.cells #[(.slice A0_0 l0_0.length c0_0),.int .i64 a0_1,.int .i64 a0_2,.int .i64 a0_3] 32 (0,0)))∧Aside0 (Below w.heap.size w w'))
  case atStart=>exact ⟨(0),(by first|rfl|(simp;done)|(simp [*];done)),H',⟨Nat.le_refl _⟩,⟨by (with_reducible repeat (first|refine blk_drewN ?_ _|refine blk_drew ?_|refine blk_alloc ?_ _));exact BK397.out⟩,⟨by repeat (first|(with_reducible first|exact HB.out|apply below_alloc|apply pw_below_drewN|apply below_drew1|refine below_set ?_ GE397.out)|exact HB.out)⟩⟩
  case round =>
   clear H'
   try clear c1
   try clear c2
   try clear p2
   try clear c3
   try clear c3b0
   try clear c3b1
   obtain ⟨x5_1,rfl,HA,HK1,BK397,HB⟩:=hrel
   cases gk with
   | zero=>exact absurd HA.out (by simp [thresherref19_May.l0])
   | succ k1 =>
    have H:=HA.out
    clear HA
    simp only [thresherref19_May.l0] at H
    by_cases c6 : x5_1 < (l1.length : Int)
    ·rw [if_pos c6] at H
     have c6b0 : decide (x5_1 < (l1.length : Int))=true:=decide_eq_true c6
     clear c6
     by_cases c7 : 0≤x5_1
     ·rw [if_pos c7] at H
      have c7b0 : decide (0≤x5_1)=true:=decide_eq_true c7
      clear c7
      have HC8:=Aside0.mk H
      clear H
      have p398 : 0≤(x5_1 : Int):=of_decide_eq_true (by first|(with_reducible assumption)|assumption)
      have q398 : x5_1 < (l1.length : Int):=of_decide_eq_true (by first|(with_reducible assumption)|assumption)
      obtain ⟨ad398,e398,hx398_0,hx398_1,hx398_2,hx398_3⟩:=at_T39 HR1.out x5_1 p398 q398
      cases e398
      replace hx398_0:=(HB.out.cell (World.block_lt_of_cell? w _ hx398_0)).trans hx398_0
      replace hx398_1:=(HB.out.cell (World.block_lt_of_cell? w _ hx398_1)).trans hx398_1
      replace hx398_2:=(HB.out.cell (World.block_lt_of_cell? w _ hx398_2)).trans hx398_2
      replace hx398_3:=(HB.out.cell (World.block_lt_of_cell? w _ hx398_3)).trans hx398_3
      replace p398:=eq_true p398
      replace q398:=eq_true q398
      go_upto_region 7 with (first|((with_reducible refine gate_dst (N:=6) rfl ?_);(try (refine gate_guard (by rfl) ?_;dsimp only));refine box_event ?hg (N:=6) ?hd (cs:=#[.int .i64 0,.int .i64 0,.int .i64 0,.string (⟨#[]⟩ : ByteArray)]) (t:=39) ?hr ?_;(case hd=>rfl);(case hg=>rfl);(case hr=>first|(go_simp;done)|(go_simp;rfl));intro gb399 hg w9 hbox hb;have n0_:=Aside0.mk (blk_below (blk_up BK397.out) hb);have n1_:=Aside0.mk (below_step (below_go HB.out) hb);have n2_:=Aside0.mk (hbox);have n3_:=Aside0.mk ((by rw [hg];exact (below_size (below_go HB.out)) : w.heap.size≤gb399));have n4_:=Aside0.mk ((by rw [hg];exact (below_size (below_go HB.out)) : w.heap.size≤gb399));have n5_:=Aside0.mk ((by rw [hg];exact Nat.ne_of_lt (blk_lt (blk_up BK397.out)) : gb397≠gb399));have n6_:=Aside0.mk ((by rw [hg];exact Nat.ne_of_gt (blk_lt (blk_up BK397.out)) : gb399≠gb397));clear BK397;clear HB;have BK397:=n0_;have HB:=n1_;have BK399:=n2_;have GW399:=n3_;have GE399:=n4_;have NB397_399:=n5_;have NB399_397:=n6_;clear n0_ n1_ n2_ n3_ n4_ n5_ n6_;clear hb hbox hg;have hnb10:=NB399_397.out;have hnc10:=NB397_399.out;have hcz11_0 : w9.cell? ⟨gb399,0,none⟩=some (.int .i64 0):=(blk_cell BK399.out 0).trans rfl;have hcz11_1 : w9.cell? ⟨gb399,1,none⟩=some (.int .i64 0):=(blk_cell BK399.out 1).trans rfl;have hcz11_2 : w9.cell? ⟨gb399,2,none⟩=some (.int .i64 0):=(blk_cell BK399.out 2).trans rfl;have hcz11_3 : w9.cell? ⟨gb399,3,none⟩=some (.string (⟨#[]⟩ : ByteArray)):=(blk_cell BK399.out 3).trans rfl;have hfz11_0:=blk_frozen BK399.out 0;have hfz11_1:=blk_frozen BK399.out 1;have hfz11_2:=blk_frozen BK399.out 2;have hfz11_3:=blk_frozen BK399.out 3))
      (try simp only [Act.put,List.setIfInBounds_toArray,List.set_cons_zero,List.set_cons_succ])
      go_cut [42] (fun v42 wc=>∃ (kq : Nat) (x42_7 : Bool),v42=.bool x42_7∧Aside0 (thresherref19_May.j1 kq l1 x5_1 x42_7 l0_0 a0_1 a0_2 a0_3 ((rd_T39 l1 x5_1).f0) ((rd_T39 l1 x5_1).f1) ((rd_T39 l1 x5_1).f2.f0) ((rd_T39 l1 x5_1).f2.f1)=some r)∧Aside0 (kq≤k1)∧Aside0 (wc.heap[gb397]?=some (.cells #[(.slice A0_0 l0_0.length c0_0),.int .i64 a0_1,.int .i64 a0_2,.int .i64 a0_3] 32 (0,0)))∧Aside0 (wc.heap[gb399]?=some (.cells #[.int .i64 ((rd_T39 l1 x5_1).f0),.int .i64 ((rd_T39 l1 x5_1).f1),.int .i64 ((rd_T39 l1 x5_1).f2.f0),.string ((rd_T39 l1 x5_1).f2.f1)] 39 (0,0)))∧Aside0 (Below w.heap.size w wc))
      case first =>
       have H:=HC8.out
       clear HC8
       by_cases c12 : ((rd_T39 l1 x5_1).f0) < 0
       ·rw [if_pos c12] at H
        have c12b0 : decide (((rd_T39 l1 x5_1).f0) < 0)=true:=decide_eq_true c12
        clear c12
        (first|rw [c12b0]|(simp only [i64_w,i32_w];rw [c12b0])|skip)
        have H':=Aside0.mk H
        clear H
        have hnb13:=NB399_397.out
        have hnc13:=NB397_399.out
        have hcz14_0 : w9.cell? ⟨gb399,0,none⟩=some (.int .i64 0):=(blk_cell BK399.out 0).trans rfl
        have hcz14_1 : w9.cell? ⟨gb399,1,none⟩=some (.int .i64 0):=(blk_cell BK399.out 1).trans rfl
        have hcz14_2 : w9.cell? ⟨gb399,2,none⟩=some (.int .i64 0):=(blk_cell BK399.out 2).trans rfl
        have hcz14_3 : w9.cell? ⟨gb399,3,none⟩=some (.string (⟨#[]⟩ : ByteArray)):=(blk_cell BK399.out 3).trans rfl
        have hfz14_0:=blk_frozen BK399.out 0
        have hfz14_1:=blk_frozen BK399.out 1
        have hfz14_2:=blk_frozen BK399.out 2
        have hfz14_3:=blk_frozen BK399.out 3
        go_wp2
        go_meet
        case rel=>exact ⟨_,(true),(by first|rfl|(simp;done)|(simp [*];done)),(by first|exact H'|(subst_vars;exact H')),⟨by have:=HK1.out;first|omega|exact Nat.le_refl _⟩,⟨by (with_reducible repeat (first|refine blk_drewN ?_ _|refine blk_drew ?_|refine blk_alloc ?_ _));refine blk_far ?_ NB397_399.out _;(with_reducible repeat (first|refine blk_drewN ?_ _|refine blk_drew ?_|refine blk_alloc ?_ _));refine blk_far ?_ NB397_399.out _;(with_reducible repeat (first|refine blk_drewN ?_ _|refine blk_drew ?_|refine blk_alloc ?_ _));refine blk_far ?_ NB397_399.out _;(with_reducible repeat (first|refine blk_drewN ?_ _|refine blk_drew ?_|refine blk_alloc ?_ _));refine blk_far ?_ NB397_399.out _;(with_reducible repeat (first|refine blk_drewN ?_ _|refine blk_drew ?_|refine blk_alloc ?_ _));exact BK397.out⟩,⟨by (with_reducible repeat (first|refine blk_drewN ?_ _|refine blk_drew ?_|refine blk_alloc ?_ _));refine blk_put (cs:=#[.int .i64 ((rd_T39 l1 x5_1).f0),.int .i64 ((rd_T39 l1 x5_1).f1),.int .i64 ((rd_T39 l1 x5_1).f2.f0),.string (⟨#[]⟩ : ByteArray)]) ?_ 3 _ rfl;(with_reducible repeat (first|refine blk_drewN ?_ _|refine blk_drew ?_|refine blk_alloc ?_ _));refine blk_put (cs:=#[.int .i64 ((rd_T39 l1 x5_1).f0),.int .i64 ((rd_T39 l1 x5_1).f1),.int .i64 0,.string (⟨#[]⟩ : ByteArray)]) ?_ 2 _ rfl;(with_reducible repeat (first|refine blk_drewN ?_ _|refine blk_drew ?_|refine blk_alloc ?_ _));refine blk_put (cs:=#[.int .i64 ((rd_T39 l1 x5_1).f0),.int .i64 0,.int .i64 0,.string (⟨#[]⟩ : ByteArray)]) ?_ 1 _ rfl;(with_reducible repeat (first|refine blk_drewN ?_ _|refine blk_drew ?_|refine blk_alloc ?_ _));refine blk_put (cs:=#[.int .i64 0,.int .i64 0,.int .i64 0,.string (⟨#[]⟩ : ByteArray)]) ?_ 0 _ rfl;(with_reducible repeat (first|refine blk_drewN ?_ _|refine blk_drew ?_|refine blk_alloc ?_ _));exact BK399.out⟩,⟨by repeat (first|(with_reducible first|exact HB.out|apply below_alloc|apply pw_below_drewN|apply below_drew1|refine below_set ?_ GE397.out|refine below_set ?_ GE399.out)|exact HB.out)⟩⟩
       ·rw [if_neg c12] at H
        have c12b0 : decide (((rd_T39 l1 x5_1).f0) < 0)=false:=decide_eq_false c12
        clear c12
        (first|rw [c12b0]|(simp only [i64_w,i32_w];rw [c12b0])|skip)
        by_cases c15 : ((rd_T39 l1 x5_1).f0) ≥ (l0_0.length : Int)
        ·rw [if_pos c15] at H
         have c15b0 : decide ((l0_0.length : Int)≤((rd_T39 l1 x5_1).f0))=true:=decide_eq_true c15
         clear c15
         have H':=Aside0.mk H
         clear H
         have hnb16:=NB399_397.out
         have hnc16:=NB397_399.out
         have hcz17_0 : w9.cell? ⟨gb399,0,none⟩=some (.int .i64 0):=(blk_cell BK399.out 0).trans rfl
         have hcz17_1 : w9.cell? ⟨gb399,1,none⟩=some (.int .i64 0):=(blk_cell BK399.out 1).trans rfl
         have hcz17_2 : w9.cell? ⟨gb399,2,none⟩=some (.int .i64 0):=(blk_cell BK399.out 2).trans rfl
         have hcz17_3 : w9.cell? ⟨gb399,3,none⟩=some (.string (⟨#[]⟩ : ByteArray)):=(blk_cell BK399.out 3).trans rfl
         have hfz17_0:=blk_frozen BK399.out 0
         have hfz17_1:=blk_frozen BK399.out 1
         have hfz17_2:=blk_frozen BK399.out 2
         have hfz17_3:=blk_frozen BK399.out 3
         have hcz18_0 : w9.cell? ⟨gb397,0,none⟩=some (.slice A0_0 l0_0.length c0_0):=(blk_cell BK397.out 0).trans rfl
         have hcz18_1 : w9.cell? ⟨gb397,1,none⟩=some (.int .i64 a0_1):=(blk_cell BK397.out 1).trans rfl
         have hcz18_2 : w9.cell? ⟨gb397,2,none⟩=some (.int .i64 a0_2):=(blk_cell BK397.out 2).trans rfl
         have hcz18_3 : w9.cell? ⟨gb397,3,none⟩=some (.int .i64 a0_3):=(blk_cell BK397.out 3).trans rfl
         have hfz18_0:=blk_frozen BK397.out 0
         have hfz18_1:=blk_frozen BK397.out 1
         have hfz18_2:=blk_frozen BK397.out 2
         have hfz18_3:=blk_frozen BK397.out 3
         go_wp2
         go_meet
         case rel=>exact ⟨_,(true),(by first|rfl|(simp;done)|(simp [*];done)),(by first|exact H'|(subst_vars;exact H')),⟨by have:=HK1.out;first|omega|exact Nat.le_refl _⟩,⟨by (with_reducible repeat (first|refine blk_drewN ?_ _|refine blk_drew ?_|refine blk_alloc ?_ _));refine blk_far ?_ NB397_399.out _;(with_reducible repeat (first|refine blk_drewN ?_ _|refine blk_drew ?_|refine blk_alloc ?_ _));refine blk_far ?_ NB397_399.out _;(with_reducible repeat (first|refine blk_drewN ?_ _|refine blk_drew ?_|refine blk_alloc ?_ _));refine blk_far ?_ NB397_399.out _;(with_reducible repeat (first|refine blk_drewN ?_ _|refine blk_drew ?_|refine blk_alloc ?_ _));refine blk_far ?_ NB397_399.out _;(with_reducible repeat (first|refine blk_drewN ?_ _|refine blk_drew ?_|refine blk_alloc ?_ _));exact BK397.out⟩,⟨by (with_reducible repeat (first|refine blk_drewN ?_ _|refine blk_drew ?_|refine blk_alloc ?_ _));refine blk_put (cs:=#[.int .i64 ((rd_T39 l1 x5_1).f0),.int .i64 ((rd_T39 l1 x5_1).f1),.int .i64 ((rd_T39 l1 x5_1).f2.f0),.string (⟨#[]⟩ : ByteArray)]) ?_ 3 _ rfl;(with_reducible repeat (first|refine blk_drewN ?_ _|refine blk_drew ?_|refine blk_alloc ?_ _));refine blk_put (cs:=#[.int .i64 ((rd_T39 l1 x5_1).f0),.int .i64 ((rd_T39 l1 x5_1).f1),.int .i64 0,.string (⟨#[]⟩ : ByteArray)]) ?_ 2 _ rfl;(with_reducible repeat (first|refine blk_drewN ?_ _|refine blk_drew ?_|refine blk_alloc ?_ _));refine blk_put (cs:=#[.int .i64 ((rd_T39 l1 x5_1).f0),.int .i64 0,.int .i64 0,.string (⟨#[]⟩ : ByteArray)]) ?_ 1 _ rfl;(with_reducible repeat (first|refine blk_drewN ?_ _|refine blk_drew ?_|refine blk_alloc ?_ _));refine blk_put (cs:=#[.int .i64 0,.int .i64 0,.int .i64 0,.string (⟨#[]⟩ : ByteArray)]) ?_ 0 _ rfl;(with_reducible repeat (first|refine blk_drewN ?_ _|refine blk_drew ?_|refine blk_alloc ?_ _));exact BK399.out⟩,⟨by repeat (first|(with_reducible first|exact HB.out|apply below_alloc|apply pw_below_drewN|apply below_drew1|refine below_set ?_ GE397.out|refine below_set ?_ GE399.out)|exact HB.out)⟩⟩
        ·rw [if_neg c15] at H
         have c15b0 : decide ((l0_0.length : Int)≤((rd_T39 l1 x5_1).f0))=false:=decide_eq_false c15
         clear c15
         by_cases c19 : ((rd_T39 l1 x5_1).f1) < 1
         ·rw [if_pos c19] at H
          have c19b0 : decide (((rd_T39 l1 x5_1).f1) < 1)=true:=decide_eq_true c19
          clear c19
          have H':=Aside0.mk H
          clear H
          have hnb20:=NB399_397.out
          have hnc20:=NB397_399.out
          have hcz21_0 : w9.cell? ⟨gb399,0,none⟩=some (.int .i64 0):=(blk_cell BK399.out 0).trans rfl
          have hcz21_1 : w9.cell? ⟨gb399,1,none⟩=some (.int .i64 0):=(blk_cell BK399.out 1).trans rfl
          have hcz21_2 : w9.cell? ⟨gb399,2,none⟩=some (.int .i64 0):=(blk_cell BK399.out 2).trans rfl
          have hcz21_3 : w9.cell? ⟨gb399,3,none⟩=some (.string (⟨#[]⟩ : ByteArray)):=(blk_cell BK399.out 3).trans rfl
          have hfz21_0:=blk_frozen BK399.out 0
          have hfz21_1:=blk_frozen BK399.out 1
          have hfz21_2:=blk_frozen BK399.out 2
          have hfz21_3:=blk_frozen BK399.out 3
          have hcz22_0 : w9.cell? ⟨gb397,0,none⟩=some (.slice A0_0 l0_0.length c0_0):=(blk_cell BK397.out 0).trans rfl
          have hcz22_1 : w9.cell? ⟨gb397,1,none⟩=some (.int .i64 a0_1):=(blk_cell BK397.out 1).trans rfl
          have hcz22_2 : w9.cell? ⟨gb397,2,none⟩=some (.int .i64 a0_2):=(blk_cell BK397.out 2).trans rfl
          have hcz22_3 : w9.cell? ⟨gb397,3,none⟩=some (.int .i64 a0_3):=(blk_cell BK397.out 3).trans rfl
          have hfz22_0:=blk_frozen BK397.out 0
          have hfz22_1:=blk_frozen BK397.out 1
          have hfz22_2:=blk_frozen BK397.out 2
          have hfz22_3:=blk_frozen BK397.out 3
          go_wp2
          go_meet
          case rel=>exact ⟨_,(true),(by first|rfl|(simp;done)|(simp [*];done)),(by first|exact H'|(subst_vars;exact H')),⟨by have:=HK1.out;first|omega|exact Nat.le_refl _⟩,⟨by (with_reducible repeat (first|refine blk_drewN ?_ _|refine blk_drew ?_|refine blk_alloc ?_ _));refine blk_far ?_ NB397_399.out _;(with_reducible repeat (first|refine blk_drewN ?_ _|refine blk_drew ?_|refine blk_alloc ?_ _));refine blk_far ?_ NB397_399.out _;(with_reducible repeat (first|refine blk_drewN ?_ _|refine blk_drew ?_|refine blk_alloc ?_ _));refine blk_far ?_ NB397_399.out _;(with_reducible repeat (first|refine blk_drewN ?_ _|refine blk_drew ?_|refine blk_alloc ?_ _));refine blk_far ?_ NB397_399.out _;(with_reducible repeat (first|refine blk_drewN ?_ _|refine blk_drew ?_|refine blk_alloc ?_ _));exact BK397.out⟩,⟨by (with_reducible repeat (first|refine blk_drewN ?_ _|refine blk_drew ?_|refine blk_alloc ?_ _));refine blk_put (cs:=#[.int .i64 ((rd_T39 l1 x5_1).f0),.int .i64 ((rd_T39 l1 x5_1).f1),.int .i64 ((rd_T39 l1 x5_1).f2.f0),.string (⟨#[]⟩ : ByteArray)]) ?_ 3 _ rfl;(with_reducible repeat (first|refine blk_drewN ?_ _|refine blk_drew ?_|refine blk_alloc ?_ _));refine blk_put (cs:=#[.int .i64 ((rd_T39 l1 x5_1).f0),.int .i64 ((rd_T39 l1 x5_1).f1),.int .i64 0,.string (⟨#[]⟩ : ByteArray)]) ?_ 2 _ rfl;(with_reducible repeat (first|refine blk_drewN ?_ _|refine blk_drew ?_|refine blk_alloc ?_ _));refine blk_put (cs:=#[.int .i64 ((rd_T39 l1 x5_1).f0),.int .i64 0,.int .i64 0,.string (⟨#[]⟩ : ByteArray)]) ?_ 1 _ rfl;(with_reducible repeat (first|refine blk_drewN ?_ _|refine blk_drew ?_|refine blk_alloc ?_ _));refine blk_put (cs:=#[.int .i64 0,.int .i64 0,.int .i64 0,.string (⟨#[]⟩ : ByteArray)]) ?_ 0 _ rfl;(with_reducible repeat (first|refine blk_drewN ?_ _|refine blk_drew ?_|refine blk_alloc ?_ _));exact BK399.out⟩,⟨by repeat (first|(with_reducible first|exact HB.out|apply below_alloc|apply pw_below_drewN|apply below_drew1|refine below_set ?_ GE397.out|refine below_set ?_ GE399.out)|exact HB.out)⟩⟩
         ·rw [if_neg c19] at H
          have c19b0 : decide (((rd_T39 l1 x5_1).f1) < 1)=false:=decide_eq_false c19
          clear c19
          have H':=Aside0.mk H
          clear H
          have hnb23:=NB399_397.out
          have hnc23:=NB397_399.out
          have hcz24_0 : w9.cell? ⟨gb399,0,none⟩=some (.int .i64 0):=(blk_cell BK399.out 0).trans rfl
          have hcz24_1 : w9.cell? ⟨gb399,1,none⟩=some (.int .i64 0):=(blk_cell BK399.out 1).trans rfl
          have hcz24_2 : w9.cell? ⟨gb399,2,none⟩=some (.int .i64 0):=(blk_cell BK399.out 2).trans rfl
          have hcz24_3 : w9.cell? ⟨gb399,3,none⟩=some (.string (⟨#[]⟩ : ByteArray)):=(blk_cell BK399.out 3).trans rfl
          have hfz24_0:=blk_frozen BK399.out 0
          have hfz24_1:=blk_frozen BK399.out 1
          have hfz24_2:=blk_frozen BK399.out 2
          have hfz24_3:=blk_frozen BK399.out 3
          have hcz25_0 : w9.cell? ⟨gb397,0,none⟩=some (.slice A0_0 l0_0.length c0_0):=(blk_cell BK397.out 0).trans rfl
          have hcz25_1 : w9.cell? ⟨gb397,1,none⟩=some (.int .i64 a0_1):=(blk_cell BK397.out 1).trans rfl
          have hcz25_2 : w9.cell? ⟨gb397,2,none⟩=some (.int .i64 a0_2):=(blk_cell BK397.out 2).trans rfl
          have hcz25_3 : w9.cell? ⟨gb397,3,none⟩=some (.int .i64 a0_3):=(blk_cell BK397.out 3).trans rfl
          have hfz25_0:=blk_frozen BK397.out 0
          have hfz25_1:=blk_frozen BK397.out 1
          have hfz25_2:=blk_frozen BK397.out 2
          have hfz25_3:=blk_frozen BK397.out 3
          go_wp2
          go_meet
          case rel=>exact ⟨_,(decide (((rd_T39 l1 x5_1).f1) > 7)),(by first|rfl|(simp;done)|(simp [*];done)),(by first|exact H'|(subst_vars;exact H')),⟨by have:=HK1.out;first|omega|exact Nat.le_refl _⟩,⟨by (with_reducible repeat (first|refine blk_drewN ?_ _|refine blk_drew ?_|refine blk_alloc ?_ _));refine blk_far ?_ NB397_399.out _;(with_reducible repeat (first|refine blk_drewN ?_ _|refine blk_drew ?_|refine blk_alloc ?_ _));refine blk_far ?_ NB397_399.out _;(with_reducible repeat (first|refine blk_drewN ?_ _|refine blk_drew ?_|refine blk_alloc ?_ _));refine blk_far ?_ NB397_399.out _;(with_reducible repeat (first|refine blk_drewN ?_ _|refine blk_drew ?_|refine blk_alloc ?_ _));refine blk_far ?_ NB397_399.out _;(with_reducible repeat (first|refine blk_drewN ?_ _|refine blk_drew ?_|refine blk_alloc ?_ _));exact BK397.out⟩,⟨by (with_reducible repeat (first|refine blk_drewN ?_ _|refine blk_drew ?_|refine blk_alloc ?_ _));refine blk_put (cs:=#[.int .i64 ((rd_T39 l1 x5_1).f0),.int .i64 ((rd_T39 l1 x5_1).f1),.int .i64 ((rd_T39 l1 x5_1).f2.f0),.string (⟨#[]⟩ : ByteArray)]) ?_ 3 _ rfl;(with_reducible repeat (first|refine blk_drewN ?_ _|refine blk_drew ?_|refine blk_alloc ?_ _));refine blk_put (cs:=#[.int .i64 ((rd_T39 l1 x5_1).f0),.int .i64 ((rd_T39 l1 x5_1).f1),.int .i64 0,.string (⟨#[]⟩ : ByteArray)]) ?_ 2 _ rfl;(with_reducible repeat (first|refine blk_drewN ?_ _|refine blk_drew ?_|refine blk_alloc ?_ _));refine blk_put (cs:=#[.int .i64 ((rd_T39 l1 x5_1).f0),.int .i64 0,.int .i64 0,.string (⟨#[]⟩ : ByteArray)]) ?_ 1 _ rfl;(with_reducible repeat (first|refine blk_drewN ?_ _|refine blk_drew ?_|refine blk_alloc ?_ _));refine blk_put (cs:=#[.int .i64 0,.int .i64 0,.int .i64 0,.string (⟨#[]⟩ : ByteArray)]) ?_ 0 _ rfl;(with_reducible repeat (first|refine blk_drewN ?_ _|refine blk_drew ?_|refine blk_alloc ?_ _));exact BK399.out⟩,⟨by repeat (first|(with_reducible first|exact HB.out|apply below_alloc|apply pw_below_drewN|apply below_drew1|refine below_set ?_ GE397.out|refine below_set ?_ GE399.out)|exact HB.out)⟩⟩
      case rest =>
       clear HC8
       try clear c1
       try clear c2
       try clear p2
       try clear c3
       try clear c3b0
       try clear c3b1
       try clear p3
       try clear q3
       try clear hx3
       try clear c6
       try clear c6b0
       try clear c7
       try clear c7b0
       try clear c10
       try clear c12
       try clear c12b0
       try clear c13
       try clear c15
       try clear c15b0
       try clear c16
       try clear c19
       try clear c19b0
       try clear c20
       try clear c22
       try clear c23
       try clear hcz11_0
       try clear hcz11_1
       try clear hcz11_2
       try clear hcz11_3
       try clear hcz14_0
       try clear hcz14_1
       try clear hcz14_2
       try clear hcz14_3
       try clear hcz17_0
       try clear hcz17_1
       try clear hcz17_2
       try clear hcz17_3
       try clear hcz18_0
       try clear hcz18_1
       try clear hcz18_2
       try clear hcz18_3
       try clear hcz21_0
       try clear hcz21_1
       try clear hcz21_2
       try clear hcz21_3
       try clear hcz22_0
       try clear hcz22_1
       try clear hcz22_2
       try clear hcz22_3
       try clear hcz24_0
       try clear hcz24_1
       try clear hcz24_2
       try clear hcz24_3
       try clear hcz25_0
       try clear hcz25_1
       try clear hcz25_2
       try clear hcz25_3
       try clear hfz11_0
       try clear hfz11_1
       try clear hfz11_2
       try clear hfz11_3
       try clear hfz14_0
       try clear hfz14_1
       try clear hfz14_2
       try clear hfz14_3
       try clear hfz17_0
       try clear hfz17_1
       try clear hfz17_2
       try clear hfz17_3
       try clear hfz18_0
       try clear hfz18_1
       try clear hfz18_2
       try clear hfz18_3
       try clear hfz21_0
       try clear hfz21_1
       try clear hfz21_2
       try clear hfz21_3
       try clear hfz22_0
       try clear hfz22_1
       try clear hfz22_2
       try clear hfz22_3
       try clear hfz24_0
       try clear hfz24_1
       try clear hfz24_2
       try clear hfz24_3
       try clear hfz25_0
       try clear hfz25_1
       try clear hfz25_2
       try clear hfz25_3
       try clear hx398_0
       try clear hx398_1
       try clear hx398_2
       try clear hx398_3
       try clear p2
       try clear p398
       try clear q398
       obtain ⟨kq,x42_7,rfl,HA,HJ7,BK397,BK399,HB⟩:=hcut
       cases kq with
       | zero=>exact absurd HA.out (by simp [thresherref19_May.j1])
       | succ kj7 =>
        have H:=HA.out
        clear HA
        simp only [thresherref19_May.j1] at H
        by_cases c26 : x42_7=true
        ·subst c26
         have H1 : (some false)=some r:=by rw [if_pos rfl] at H;exact H
         clear H
         have H:=H1
         clear H1
         obtain rfl:=Option.some.inj H
         go_wp2
         go_ret
         exact ⟨by first|rfl|(simp [errW_none,errW_some] <;> rfl)|(simp [*,errW_none,errW_some] <;> rfl),by repeat (first|(with_reducible first|exact HB.out|apply below_alloc|apply pw_below_drewN|apply below_drew1|refine below_set ?_ GE397.out|refine below_set ?_ GE399.out)|exact HB.out)⟩
        ·replace c26:=Bool.eq_false_iff.mpr c26
         subst c26
         have H1 : (if 0≤((rd_T39 l1 x5_1).f0) then (if ((rd_T39 l1 x5_1).f0) < (l0_0.length : Int) then ((thresherref03_Fits.f kj7 (rd l0_0 ((rd_T39 l1 x5_1).f0)) ((rd_T39 l1 x5_1).f2.f0) ((rd_T39 l1 x5_1).f2.f1)).bind fun t401=>(if t401=true then (if ((rd_T39 l1 x5_1).f1)=7 then (thresherref19_May.j2 kj7 l1 x5_1 ((rd l0_0 ((rd_T39 l1 x5_1).f0)) != 3) l0_0 a0_1 a0_2 a0_3) else (thresherref19_May.j2 kj7 l1 x5_1 false l0_0 a0_1 a0_2 a0_3)) else (thresherref19_May.j2 kj7 l1 x5_1 true l0_0 a0_1 a0_2 a0_3))) else (none)) else (none))=some r:=by rw [if_neg (show ¬ (false=true) by decide)] at H;exact H
         clear H
         have H:=H1
         clear H1
         by_cases c27 : 0≤((rd_T39 l1 x5_1).f0)
         ·rw [if_pos c27] at H
          have c27b0 : decide (0≤((rd_T39 l1 x5_1).f0))=true:=decide_eq_true c27
          clear c27
          by_cases c28 : ((rd_T39 l1 x5_1).f0) < (l0_0.length : Int)
          ·rw [if_pos c28] at H
           have c28b0 : decide (((rd_T39 l1 x5_1).f0) < (l0_0.length : Int))=true:=decide_eq_true c28
           clear c28
           replace H:=Option.bind_eq_some_iff.mp H
           obtain ⟨t401,A290,H⟩:=H
           replace H : (if t401=true then (if ((rd_T39 l1 x5_1).f1)=7 then (thresherref19_May.j2 kj7 l1 x5_1 ((rd l0_0 ((rd_T39 l1 x5_1).f0)) != 3) l0_0 a0_1 a0_2 a0_3) else (thresherref19_May.j2 kj7 l1 x5_1 false l0_0 a0_1 a0_2 a0_3)) else (thresherref19_May.j2 kj7 l1 x5_1 true l0_0 a0_1 a0_2 a0_3))=some r:=H
           have A29:=Aside0.mk A290
           clear A290
           have HC30:=Aside0.mk H
           clear H
           have hnb31:=NB397_399.out
           have hnc31:=NB399_397.out
           have hcz32_0 : wc.cell? ⟨gb397,0,none⟩=some (.slice A0_0 l0_0.length c0_0):=(blk_cell BK397.out 0).trans rfl
           have hcz32_1 : wc.cell? ⟨gb397,1,none⟩=some (.int .i64 a0_1):=(blk_cell BK397.out 1).trans rfl
           have hcz32_2 : wc.cell? ⟨gb397,2,none⟩=some (.int .i64 a0_2):=(blk_cell BK397.out 2).trans rfl
           have hcz32_3 : wc.cell? ⟨gb397,3,none⟩=some (.int .i64 a0_3):=(blk_cell BK397.out 3).trans rfl
           have hfz32_0:=blk_frozen BK397.out 0
           have hfz32_1:=blk_frozen BK397.out 1
           have hfz32_2:=blk_frozen BK397.out 2
           have hfz32_3:=blk_frozen BK397.out 3
           have hcz33_0 : wc.cell? ⟨gb399,0,none⟩=some (.int .i64 ((rd_T39 l1 x5_1).f0)):=(blk_cell BK399.out 0).trans rfl
           have hcz33_1 : wc.cell? ⟨gb399,1,none⟩=some (.int .i64 ((rd_T39 l1 x5_1).f1)):=(blk_cell BK399.out 1).trans rfl
           have hcz33_2 : wc.cell? ⟨gb399,2,none⟩=some (.int .i64 ((rd_T39 l1 x5_1).f2.f0)):=(blk_cell BK399.out 2).trans rfl
           have hcz33_3 : wc.cell? ⟨gb399,3,none⟩=some (.string ((rd_T39 l1 x5_1).f2.f1)):=(blk_cell BK399.out 3).trans rfl
           have hfz33_0:=blk_frozen BK399.out 0
           have hfz33_1:=blk_frozen BK399.out 1
           have hfz33_2:=blk_frozen BK399.out 2
           have hfz33_3:=blk_frozen BK399.out 3
           have p400 : 0≤(((rd_T39 l1 x5_1).f0) : Int):=of_decide_eq_true (by first|(with_reducible assumption)|assumption)
           have q400 : ((rd_T39 l1 x5_1).f0) < (l0_0.length : Int):=of_decide_eq_true (by first|(with_reducible assumption)|assumption)
           obtain ⟨ad400,e400,hx400_0⟩:=Kd.at_int HR0_0.out ((rd_T39 l1 x5_1).f0) p400 q400
           cases e400
           replace hx400_0:=(HB.out.cell (World.block_lt_of_cell? w _ hx400_0)).trans hx400_0
           replace p400:=eq_true p400
           replace q400:=eq_true q400
           go_upto_region 11 with (first|((with_reducible refine gate_callee (f:=28) rfl ?_);refine goesL_ (some 52) rfl rfl Try.func28 (by kernel_rfl) rfl #[.int .i64 (rd l0_0 ((rd_T39 l1 x5_1).f0)),.agg #[.int .i64 ((rd_T39 l1 x5_1).f2.f0),.string ((rd_T39 l1 x5_1).f2.f1)]] rfl (by (try simp only [List.map_toArray,List.map_cons,List.map_nil]);first|done|rfl|(simp only [List.length_drop,List.length_take];rfl)) ?_;(with_reducible refine (thresherref03_Fits.calls kj7 (rd l0_0 ((rd_T39 l1 x5_1).f0)) ((rd_T39 l1 x5_1).f2.f0) ((rd_T39 l1 x5_1).f2.f1) t401 _ A29.out).mono ?_);rintro e w34 ⟨rfl,hb⟩;refine ⟨_,rfl,?_⟩;have n0_:=Aside0.mk (blk_below (blk_up BK397.out) hb);have n1_:=Aside0.mk (blk_below (blk_up BK399.out) hb);have n2_:=Aside0.mk (below_step (below_go HB.out) hb);clear BK397;clear BK399;clear HB;have BK397:=n0_;have BK399:=n1_;have HB:=n2_;clear n0_ n1_ n2_;(try clear hb);(try clear hb2);(try clear hk);(try clear hi)))
           (try simp only [Act.put,List.setIfInBounds_toArray,List.set_cons_zero,List.set_cons_succ])
           go_cut [63] (fun v63 wc=>∃ (kq : Nat) (x63_29 : Bool),v63=.bool x63_29∧Aside0 (thresherref19_May.j2 kq l1 x5_1 x63_29 l0_0 a0_1 a0_2 a0_3=some r)∧Aside0 (kq≤kj7)∧Aside0 (wc.heap[gb397]?=some (.cells #[(.slice (some ad400) l0_0.length c0_0),.int .i64 a0_1,.int .i64 a0_2,.int .i64 a0_3] 32 (0,0)))∧Aside0 (wc.heap[gb399]?=some (.cells #[.int .i64 ((rd_T39 l1 x5_1).f0),.int .i64 ((rd_T39 l1 x5_1).f1),.int .i64 ((rd_T39 l1 x5_1).f2.f0),.string ((rd_T39 l1 x5_1).f2.f1)] 39 (0,0)))∧Aside0 (Below w.heap.size w wc))
           case first =>
            have H:=HC30.out
            clear HC30
            by_cases c35 : t401=true
            ·subst c35
             have H1 : (if ((rd_T39 l1 x5_1).f1)=7 then (thresherref19_May.j2 kj7 l1 x5_1 ((rd l0_0 ((rd_T39 l1 x5_1).f0)) != 3) l0_0 a0_1 a0_2 a0_3) else (thresherref19_May.j2 kj7 l1 x5_1 false l0_0 a0_1 a0_2 a0_3))=some r:=by rw [if_pos rfl] at H;exact H
             clear H
             have H:=H1
             clear H1
             by_cases c36 : ((rd_T39 l1 x5_1).f1)=7
             ·rw [if_pos c36] at H
              have c36b0 : (((rd_T39 l1 x5_1).f1) == 7)=true:=beq_iff_eq.mpr c36
              have c36b1 : (((rd_T39 l1 x5_1).f1) != 7)=false:=bne_eq_false_iff_eq.mpr c36
              clear c36
              (first|rw [c36b0]|(simp only [i64_w,i32_w];rw [c36b0])|skip)
              have H':=Aside0.mk H
              clear H
              have hnb37:=NB399_397.out
              have hnc37:=NB397_399.out
              have hcz38_0 : w34.cell? ⟨gb399,0,none⟩=some (.int .i64 ((rd_T39 l1 x5_1).f0)):=(blk_cell BK399.out 0).trans rfl
              have hcz38_1 : w34.cell? ⟨gb399,1,none⟩=some (.int .i64 ((rd_T39 l1 x5_1).f1)):=(blk_cell BK399.out 1).trans rfl
              have hcz38_2 : w34.cell? ⟨gb399,2,none⟩=some (.int .i64 ((rd_T39 l1 x5_1).f2.f0)):=(blk_cell BK399.out 2).trans rfl
              have hcz38_3 : w34.cell? ⟨gb399,3,none⟩=some (.string ((rd_T39 l1 x5_1).f2.f1)):=(blk_cell BK399.out 3).trans rfl
              have hfz38_0:=blk_frozen BK399.out 0
              have hfz38_1:=blk_frozen BK399.out 1
              have hfz38_2:=blk_frozen BK399.out 2
              have hfz38_3:=blk_frozen BK399.out 3
              go_wp2
              go_meet
              case rel=>exact ⟨_,(((rd l0_0 ((rd_T39 l1 x5_1).f0)) != 3)),(by first|rfl|(simp;done)|(simp [*];done)),(by first|exact H'|(subst_vars;exact H')),⟨by have:=HK1.out;have:=HJ7.out;first|omega|exact Nat.le_refl _⟩,⟨by (with_reducible repeat (first|refine blk_drewN ?_ _|refine blk_drew ?_|refine blk_alloc ?_ _));exact BK397.out⟩,⟨by (with_reducible repeat (first|refine blk_drewN ?_ _|refine blk_drew ?_|refine blk_alloc ?_ _));exact BK399.out⟩,⟨by repeat (first|(with_reducible first|exact HB.out|apply below_alloc|apply pw_below_drewN|apply below_drew1|refine below_set ?_ GE397.out|refine below_set ?_ GE399.out)|exact HB.out)⟩⟩
             ·rw [if_neg c36] at H
              have c36b0 : (((rd_T39 l1 x5_1).f1) == 7)=false:=beq_eq_false_iff_ne.mpr c36
              have c36b1 : (((rd_T39 l1 x5_1).f1) != 7)=true:=bne_iff_ne.mpr c36
              (first|rw [c36b0]|(simp only [i64_w,i32_w];rw [c36b0])|skip)
              have H':=Aside0.mk H
              clear H
              have hnb39:=NB399_397.out
              have hnc39:=NB397_399.out
              have hcz40_0 : w34.cell? ⟨gb399,0,none⟩=some (.int .i64 ((rd_T39 l1 x5_1).f0)):=(blk_cell BK399.out 0).trans rfl
              have hcz40_1 : w34.cell? ⟨gb399,1,none⟩=some (.int .i64 ((rd_T39 l1 x5_1).f1)):=(blk_cell BK399.out 1).trans rfl
              have hcz40_2 : w34.cell? ⟨gb399,2,none⟩=some (.int .i64 ((rd_T39 l1 x5_1).f2.f0)):=(blk_cell BK399.out 2).trans rfl
              have hcz40_3 : w34.cell? ⟨gb399,3,none⟩=some (.string ((rd_T39 l1 x5_1).f2.f1)):=(blk_cell BK399.out 3).trans rfl
              have hfz40_0:=blk_frozen BK399.out 0
              have hfz40_1:=blk_frozen BK399.out 1
              have hfz40_2:=blk_frozen BK399.out 2
              have hfz40_3:=blk_frozen BK399.out 3
              go_wp2
              go_meet
              case rel=>exact ⟨_,(false),(by first|rfl|(simp;done)|(simp [*];done)),(by first|exact H'|(subst_vars;exact H')),⟨by have:=HK1.out;have:=HJ7.out;first|omega|exact Nat.le_refl _⟩,⟨by (with_reducible repeat (first|refine blk_drewN ?_ _|refine blk_drew ?_|refine blk_alloc ?_ _));exact BK397.out⟩,⟨by (with_reducible repeat (first|refine blk_drewN ?_ _|refine blk_drew ?_|refine blk_alloc ?_ _));exact BK399.out⟩,⟨by repeat (first|(with_reducible first|exact HB.out|apply below_alloc|apply pw_below_drewN|apply below_drew1|refine below_set ?_ GE397.out|refine below_set ?_ GE399.out)|exact HB.out)⟩⟩
            ·replace c35:=Bool.eq_false_iff.mpr c35
             subst c35
             have H1 : (thresherref19_May.j2 kj7 l1 x5_1 true l0_0 a0_1 a0_2 a0_3)=some r:=by rw [if_neg (show ¬ (false=true) by decide)] at H;exact H
             clear H
             have H:=H1
             clear H1
             have H':=Aside0.mk H
             clear H
             go_wp2
             go_meet
             case rel=>exact ⟨_,(true),(by first|rfl|(simp;done)|(simp [*];done)),(by first|exact H'|(subst_vars;exact H')),⟨by have:=HK1.out;have:=HJ7.out;first|omega|exact Nat.le_refl _⟩,⟨by (with_reducible repeat (first|refine blk_drewN ?_ _|refine blk_drew ?_|refine blk_alloc ?_ _));exact BK397.out⟩,⟨by (with_reducible repeat (first|refine blk_drewN ?_ _|refine blk_drew ?_|refine blk_alloc ?_ _));exact BK399.out⟩,⟨by repeat (first|(with_reducible first|exact HB.out|apply below_alloc|apply pw_below_drewN|apply below_drew1|refine below_set ?_ GE397.out|refine below_set ?_ GE399.out)|exact HB.out)⟩⟩
           case rest =>
            clear HC30
            try clear c1
            try clear c2
            try clear p2
            try clear c3
            try clear c3b0
            try clear c3b1
            try clear p3
            try clear q3
            try clear hx3
            try clear p4
            try clear q4
            try clear hx4
            try clear c6
            try clear c6b0
            try clear c7
            try clear c7b0
            try clear c10
            try clear c12
            try clear c12b0
            try clear c13
            try clear c15
            try clear c15b0
            try clear c16
            try clear c19
            try clear c19b0
            try clear c20
            try clear c22
            try clear c23
            try clear c26
            try clear c27
            try clear c27b0
            try clear c28
            try clear c28b0
            try clear c31
            try clear c35
            try clear c36
            try clear c36b0
            try clear c36b1
            try clear c37
            try clear c39
            try clear p39
            try clear q39
            try clear hx39
            try clear p40
            try clear q40
            try clear hx40
            try clear hcz11_0
            try clear hcz11_1
            try clear hcz11_2
            try clear hcz11_3
            try clear hcz14_0
            try clear hcz14_1
            try clear hcz14_2
            try clear hcz14_3
            try clear hcz17_0
            try clear hcz17_1
            try clear hcz17_2
            try clear hcz17_3
            try clear hcz18_0
            try clear hcz18_1
            try clear hcz18_2
            try clear hcz18_3
            try clear hcz21_0
            try clear hcz21_1
            try clear hcz21_2
            try clear hcz21_3
            try clear hcz22_0
            try clear hcz22_1
            try clear hcz22_2
            try clear hcz22_3
            try clear hcz24_0
            try clear hcz24_1
            try clear hcz24_2
            try clear hcz24_3
            try clear hcz25_0
            try clear hcz25_1
            try clear hcz25_2
            try clear hcz25_3
            try clear hcz32_0
            try clear hcz32_1
            try clear hcz32_2
            try clear hcz32_3
            try clear hcz33_0
            try clear hcz33_1
            try clear hcz33_2
            try clear hcz33_3
            try clear hcz38_0
            try clear hcz38_1
            try clear hcz38_2
            try clear hcz38_3
            try clear hcz40_0
            try clear hcz40_1
            try clear hcz40_2
            try clear hcz40_3
            try clear hfz11_0
            try clear hfz11_1
            try clear hfz11_2
            try clear hfz11_3
            try clear hfz14_0
            try clear hfz14_1
            try clear hfz14_2
            try clear hfz14_3
            try clear hfz17_0
            try clear hfz17_1
            try clear hfz17_2
            try clear hfz17_3
            try clear hfz18_0
            try clear hfz18_1
            try clear hfz18_2
            try clear hfz18_3
            try clear hfz21_0
            try clear hfz21_1
            try clear hfz21_2
            try clear hfz21_3
            try clear hfz22_0
            try clear hfz22_1
            try clear hfz22_2
            try clear hfz22_3
            try clear hfz24_0
            try clear hfz24_1
            try clear hfz24_2
            try clear hfz24_3
            try clear hfz25_0
            try clear hfz25_1
            try clear hfz25_2
            try clear hfz25_3
            try clear hfz32_0
            try clear hfz32_1
            try clear hfz32_2
            try clear hfz32_3
            try clear hfz33_0
            try clear hfz33_1
            try clear hfz33_2
            try clear hfz33_3
            try clear hfz38_0
            try clear hfz38_1
            try clear hfz38_2
            try clear hfz38_3
            try clear hfz40_0
            try clear hfz40_1
            try clear hfz40_2
            try clear hfz40_3
            try clear hx398_0
            try clear hx398_1
            try clear hx398_2
            try clear hx398_3
            try clear hx400_0
            try clear p2
            try clear p3
            try clear p398
            try clear p400
            try clear q3
            try clear q398
            try clear q400
            obtain ⟨kq,x63_29,rfl,HA,HJ29,BK397,BK399,HB⟩:=hcut
            cases kq with
            | zero=>exact absurd HA.out (by simp [thresherref19_May.j2])
            | succ kj29 =>
             have H:=HA.out
             clear HA
             simp only [thresherref19_May.j2] at H
             by_cases c41 : x63_29=true
             ·subst c41
              have H1 : (some false)=some r:=by rw [if_pos rfl] at H;exact H
              clear H
              have H:=H1
              clear H1
              obtain rfl:=Option.some.inj H
              go_wp2
              go_ret
              exact ⟨by first|rfl|(simp [errW_none,errW_some] <;> rfl)|(simp [*,errW_none,errW_some] <;> rfl),by repeat (first|(with_reducible first|exact HB.out|apply below_alloc|apply pw_below_drewN|apply below_drew1|refine below_set ?_ GE397.out|refine below_set ?_ GE399.out)|exact HB.out)⟩
             ·replace c41:=Bool.eq_false_iff.mpr c41
              subst c41
              have H1 : (thresherref19_May.l0 kj29 l1 (wrap64 (x5_1 + 1)) l0_0 a0_1 a0_2 a0_3)=some r:=by rw [if_neg (show ¬ (false=true) by decide)] at H;exact H
              clear H
              have H:=H1
              clear H1
              have H':=Aside0.mk H
              clear H
              go_wp2
              go_roundg kj29
              case measure=>have:=HK1.out;have:=HJ7.out;have:=HJ29.out;omega
              case rel=>exact ⟨(wrap64 (x5_1 + 1)),(by first|rfl|(simp;done)|(simp [*];done)),(by first|exact H'|(subst_vars;exact H')),⟨by have:=HK1.out;have:=HJ7.out;have:=HJ29.out;omega⟩,⟨by (with_reducible repeat (first|refine blk_drewN ?_ _|refine blk_drew ?_|refine blk_alloc ?_ _));exact BK397.out⟩,⟨by repeat (first|(with_reducible first|exact HB.out|apply below_alloc|apply pw_below_drewN|apply below_drew1|refine below_set ?_ GE397.out|refine below_set ?_ GE399.out)|exact HB.out)⟩⟩
          ·rw [if_neg c28] at H
           exact absurd H (by simp)
         ·rw [if_neg c27] at H
          exact absurd H (by simp)
     ·rw [if_neg c7] at H
      exact absurd H (by simp)
    ·rw [if_neg c6] at H
     have c6b0 : decide (x5_1 < (l1.length : Int))=false:=decide_eq_false c6
     clear c6
     obtain rfl:=Option.some.inj H
     go_wp2
     go_ret
     exact ⟨by first|rfl|(simp [errW_none,errW_some] <;> rfl)|(simp [*,errW_none,errW_some] <;> rfl),by repeat (first|(with_reducible first|exact HB.out|apply below_alloc|apply pw_below_drewN|apply below_drew1|refine below_set ?_ GE397.out)|exact HB.out)⟩
end Go.Proofs.Ytbkpifcjgedjaaa.P

