/- Texts of AggAll. Merged: Px16. -/
import Derived.Test.YtapaldcdoahfeaaQAggAllPx0
import Derived.Test.YtapaldcdoahfeaaQAggAllPx6
-- Written by wip/tools/myprint.py over the kit's print (a program's print; Lean checks it).
namespace Go.Proofs.Ytapaldcdoahfeaa.P
open Go.RowKit Go.Proofs.YtapaldcdoahfeaaW.PrintWords Go.Proofs.YtapaldcdoahfeaaW.PrintLast Go.Proofs.YtapaldcdoahfeaaW.PrintMore
attribute [local go_sem] max2_int min2_int max_two min_two max_three min_three max_four min_four   -- for this text's walks alone
set_option linter.unusedVariables false
set_option linter.unusedSimpArgs false

/-! ### thresherref20_May: function 17 -/
mutual
def thresherref20_May.l0 : Nat→List (S33)→Int→List Int→Int→Int→Int→Option (Bool)
 | 0,_,_,_,_,_,_=>none
 | k + 1,x1,x5,x381000,x381001,x381002,x381003=>if x5 < (x1.length : Int) then (if 0≤x5 then (if ((rd_T33 x1 x5).f0) < 1 then (thresherref20_May.j1 k x1 x5 true x381000 x381001 x381002 x381003 ((rd_T33 x1 x5).f0) ((rd_T33 x1 x5).f1)) else (if ((rd_T33 x1 x5).f0) > 4 then (thresherref20_May.j1 k x1 x5 true x381000 x381001 x381002 x381003 ((rd_T33 x1 x5).f0) ((rd_T33 x1 x5).f1)) else (if ((rd_T33 x1 x5).f1) < 0 then (thresherref20_May.j1 k x1 x5 true x381000 x381001 x381002 x381003 ((rd_T33 x1 x5).f0) ((rd_T33 x1 x5).f1)) else (thresherref20_May.j1 k x1 x5 (decide (((rd_T33 x1 x5).f1) ≥ (x381000.length : Int))) x381000 x381001 x381002 x381003 ((rd_T33 x1 x5).f0) ((rd_T33 x1 x5).f1))))) else (none)) else (some true)
def thresherref20_May.j1 : Nat→List (S33)→Int→Bool→List Int→Int→Int→Int→Int→Int→Option (Bool)
 | 0,_,_,_,_,_,_,_,_,_=>none
 | k + 1,x1,x5,x40,x381000,x381001,x381002,x381003,x383000,x383001=>if x40=true then (some false) else (if x383000=1 then (if x383001=0 then (if x383000=2 then (if 0≤x383001 then (if x383001 < (x381000.length : Int) then (thresherref20_May.j2 k x1 x5 ((rd x381000 x383001) == 3) x381000 x381001 x381002 x381003) else (none)) else (none)) else (thresherref20_May.j2 k x1 x5 false x381000 x381001 x381002 x381003)) else (thresherref20_May.j2 k x1 x5 true x381000 x381001 x381002 x381003)) else (if x383000=2 then (if 0≤x383001 then (if x383001 < (x381000.length : Int) then (thresherref20_May.j2 k x1 x5 ((rd x381000 x383001) == 3) x381000 x381001 x381002 x381003) else (none)) else (none)) else (thresherref20_May.j2 k x1 x5 false x381000 x381001 x381002 x381003)))
def thresherref20_May.j2 : Nat→List (S33)→Int→Bool→List Int→Int→Int→Int→Option (Bool)
 | 0,_,_,_,_,_,_,_=>none
 | k + 1,x1,x5,x62,x381000,x381001,x381002,x381003=>if x62=true then (some false) else (thresherref20_May.l0 k x1 (wrap64 (x5 + 1)) x381000 x381001 x381002 x381003)
end
def thresherref20_May.f (k : Nat) (l0_0 : List Int) (a0_1 : Int) (a0_2 : Int) (a0_3 : Int) (l1 : List (S33)) : Option (Bool):=if (l1.length : Int) > 16 then (some false) else (thresherref20_May.l0 k l1 0 l0_0 a0_1 a0_2 a0_3)
theorem thresherref20_May.mono_l : ∀ k,(∀ y0 y1 y2 y3 y4 y5,LeO (thresherref20_May.l0 k y0 y1 y2 y3 y4 y5) (thresherref20_May.l0 (k + 1) y0 y1 y2 y3 y4 y5))∧(∀ y0 y1 y2 y3 y4 y5 y6 y7 y8,LeO (thresherref20_May.j1 k y0 y1 y2 y3 y4 y5 y6 y7 y8) (thresherref20_May.j1 (k + 1) y0 y1 y2 y3 y4 y5 y6 y7 y8))∧(∀ y0 y1 y2 y3 y4 y5 y6,LeO (thresherref20_May.j2 k y0 y1 y2 y3 y4 y5 y6) (thresherref20_May.j2 (k + 1) y0 y1 y2 y3 y4 y5 y6))
 | 0=>⟨fun _ _ _ _ _ _ r h=>by simp [thresherref20_May.l0] at h,fun _ _ _ _ _ _ _ _ _ r h=>by simp [thresherref20_May.j1] at h,fun _ _ _ _ _ _ _ r h=>by simp [thresherref20_May.j2] at h⟩
 | k + 1=>by
  obtain ⟨ih0,ih1,ih2⟩:=thresherref20_May.mono_l k
  refine ⟨?_,?_,?_⟩
  ·intro y0 y1 y2 y3 y4 y5
   unfold thresherref20_May.l0
   repeat' first
   | (with_reducible exact ih0 _ _ _ _ _ _)
   | (with_reducible exact ih1 _ _ _ _ _ _ _ _ _)
   | (with_reducible exact ih2 _ _ _ _ _ _ _)
   | (with_reducible exact LeO.refl _)
   | (with_reducible exact LeO.none _)
   | (with_reducible refine LeO.ite ?_ ?_)
   | (with_reducible refine LeO.bind ?_ (fun _=>?_))
   | exact ih0 _ _ _ _ _ _
   | exact ih1 _ _ _ _ _ _ _ _ _
   | exact ih2 _ _ _ _ _ _ _
   | exact LeO.none _
   | refine LeO.ite ?_ ?_
   | refine LeO.bind ?_ (fun _=>?_)
  ·intro y0 y1 y2 y3 y4 y5 y6 y7 y8
   unfold thresherref20_May.j1
   repeat' first
   | (with_reducible exact ih0 _ _ _ _ _ _)
   | (with_reducible exact ih1 _ _ _ _ _ _ _ _ _)
   | (with_reducible exact ih2 _ _ _ _ _ _ _)
   | (with_reducible exact LeO.refl _)
   | (with_reducible exact LeO.none _)
   | (with_reducible refine LeO.ite ?_ ?_)
   | (with_reducible refine LeO.bind ?_ (fun _=>?_))
   | exact ih0 _ _ _ _ _ _
   | exact ih1 _ _ _ _ _ _ _ _ _
   | exact ih2 _ _ _ _ _ _ _
   | exact LeO.none _
   | refine LeO.ite ?_ ?_
   | refine LeO.bind ?_ (fun _=>?_)
  ·intro y0 y1 y2 y3 y4 y5 y6
   unfold thresherref20_May.j2
   repeat' first
   | (with_reducible exact ih0 _ _ _ _ _ _)
   | (with_reducible exact ih1 _ _ _ _ _ _ _ _ _)
   | (with_reducible exact ih2 _ _ _ _ _ _ _)
   | (with_reducible exact LeO.refl _)
   | (with_reducible exact LeO.none _)
   | (with_reducible refine LeO.ite ?_ ?_)
   | (with_reducible refine LeO.bind ?_ (fun _=>?_))
   | exact ih0 _ _ _ _ _ _
   | exact ih1 _ _ _ _ _ _ _ _ _
   | exact ih2 _ _ _ _ _ _ _
   | exact LeO.none _
   | refine LeO.ite ?_ ?_
   | refine LeO.bind ?_ (fun _=>?_)
theorem thresherref20_May.mono : ∀ a0 a1 a2 a3 a4 k,LeO (thresherref20_May.f k a0 a1 a2 a3 a4) (thresherref20_May.f (k + 1) a0 a1 a2 a3 a4):=by
 intro a0 a1 a2 a3 a4 k
 obtain ⟨ih0,ih1,ih2⟩:=thresherref20_May.mono_l k
 unfold thresherref20_May.f
 repeat' first
   | (with_reducible exact ih0 _ _ _ _ _ _)
   | (with_reducible exact ih1 _ _ _ _ _ _ _ _ _)
   | (with_reducible exact ih2 _ _ _ _ _ _ _)
   | (with_reducible exact LeO.refl _)
   | (with_reducible exact LeO.none _)
   | (with_reducible refine LeO.ite ?_ ?_)
   | (with_reducible refine LeO.bind ?_ (fun _=>?_))
   | exact ih0 _ _ _ _ _ _
   | exact ih1 _ _ _ _ _ _ _ _ _
   | exact ih2 _ _ _ _ _ _ _
   | exact LeO.none _
   | refine LeO.ite ?_ ?_
   | refine LeO.bind ?_ (fun _=>?_)
set_option maxHeartbeats 8000000 in
set_option maxRecDepth 100000 in
theorem thresherref20_May.calls (k : Nat) (A0_0 : Option Addr) (c0_0 : Nat) (l0_0 : List Int) (a0_1 : Int) (a0_2 : Int) (a0_3 : Int) (A1 : Option Addr) (c1 : Nat) (l1 : List (S33)) (r : Bool) (w : World) (hr0_0 : Kd.C (Kd.int .i64) w A0_0 l0_0.length l0_0) (hc0_0 : l0_0.length≤c0_0) (hr1 : Kd.C k33 w A1 l1.length l1) (hc1 : l1.length≤c1) (h : thresherref20_May.f k l0_0 a0_1 a0_2 a0_3 l1=some r) :
  Calls Try.prog 17 #[.agg #[.slice A0_0 l0_0.length c0_0,.int .i64 a0_1,.int .i64 a0_2,.int .i64 a0_3],.slice A1 l1.length c1] w fun e w'=>e=.returned (.bool r)∧Below w.heap.size w w':=by
 have hu29:=Try.underlying29
 have hu33:=Try.underlying33
 have HR0_0:=Aside0.mk hr0_0
 have HC0_0:=Aside0.mk hc0_0
 clear hr0_0 hc0_0
 have HR1:=Aside0.mk hr1
 have HC1:=Aside0.mk hc1
 clear hr1 hc1
 have HB:=Aside0.mk (Below.refl w.heap.size w)
 have H : (if (l1.length : Int) > 16 then (some false) else (thresherref20_May.l0 k l1 0 l0_0 a0_1 a0_2 a0_3))=some r:=h
 clear h
 by_cases c3 : (l1.length : Int) > 16
 ·rw [if_pos c3] at H
  have c3b0 : decide (16 < (l1.length : Int))=true:=decide_eq_true c3
  have c3b1 : decide (16 < l1.length)=true:=decide_eq_true (by omega)
  clear c3
  obtain rfl:=Option.some.inj H
  go_enter Try.func17,Try.ntmps17
  go_wp2_with (first|((with_reducible refine gate_dst (N:=2) rfl ?_);(try (refine gate_guard (by rfl) ?_;dsimp only));refine box_event ?hg (N:=2) ?hd (cs:=#[.slice A0_0 l0_0.length c0_0,.int .i64 a0_1,.int .i64 a0_2,.int .i64 a0_3]) (t:=29) ?hr ?_;(case hd=>rfl);(case hg=>rfl);(case hr=>first|(go_simp;done)|(go_simp;rfl));intro gb380 hg w4 hbox hb;have n0_:=Aside0.mk (below_step (by repeat (first|(with_reducible first|exact HB.out|apply below_alloc|apply pw_below_drewN|apply below_drew1)|exact HB.out)) hb);have n1_:=Aside0.mk (hbox);have n2_:=Aside0.mk ((by rw [hg];exact (below_size (by repeat (first|(with_reducible first|exact HB.out|apply below_alloc|apply pw_below_drewN|apply below_drew1)|exact HB.out))) : w.heap.size≤gb380));have n3_:=Aside0.mk ((by rw [hg];exact (below_size (by repeat (first|(with_reducible first|exact HB.out|apply below_alloc|apply pw_below_drewN|apply below_drew1)|exact HB.out))) : w.heap.size≤gb380));clear HB;have HB:=n0_;have BK380:=n1_;have GW380:=n2_;have GE380:=n3_;clear n0_ n1_ n2_ n3_;clear hb hbox hg))
  go_ret
  exact ⟨by first|rfl|(simp [errW_none,errW_some] <;> rfl)|(simp [*,errW_none,errW_some] <;> rfl),by repeat (first|(with_reducible first|exact HB.out|apply below_alloc|apply pw_below_drewN|apply below_drew1|refine below_set ?_ GE380.out)|exact HB.out)⟩
 ·rw [if_neg c3] at H
  have c3b0 : decide (16 < (l1.length : Int))=false:=decide_eq_false c3
  have c3b1 : decide (16 < l1.length)=false:=decide_eq_false (by omega)
  clear c3
  have H':=Aside0.mk H
  clear H
  go_enter Try.func17,Try.ntmps17
  go_wp2_with (first|((with_reducible refine gate_dst (N:=2) rfl ?_);(try (refine gate_guard (by rfl) ?_;dsimp only));refine box_event ?hg (N:=2) ?hd (cs:=#[.slice A0_0 l0_0.length c0_0,.int .i64 a0_1,.int .i64 a0_2,.int .i64 a0_3]) (t:=29) ?hr ?_;(case hd=>rfl);(case hg=>rfl);(case hr=>first|(go_simp;done)|(go_simp;rfl));intro gb380 hg w5 hbox hb;have n0_:=Aside0.mk (below_step (by repeat (first|(with_reducible first|exact HB.out|apply below_alloc|apply pw_below_drewN|apply below_drew1)|exact HB.out)) hb);have n1_:=Aside0.mk (hbox);have n2_:=Aside0.mk ((by rw [hg];exact (below_size (by repeat (first|(with_reducible first|exact HB.out|apply below_alloc|apply pw_below_drewN|apply below_drew1)|exact HB.out))) : w.heap.size≤gb380));have n3_:=Aside0.mk ((by rw [hg];exact (below_size (by repeat (first|(with_reducible first|exact HB.out|apply below_alloc|apply pw_below_drewN|apply below_drew1)|exact HB.out))) : w.heap.size≤gb380));clear HB;have HB:=n0_;have BK380:=n1_;have GW380:=n2_;have GE380:=n3_;clear n0_ n1_ n2_ n3_;clear hb hbox hg))
  go_loopg [5] k (fun kq v5 w'=>∃ (x5_1 : Int),v5=.int .i64 x5_1∧Aside0 (thresherref20_May.l0 kq l1 x5_1 l0_0 a0_1 a0_2 a0_3=some r)∧Aside0 (kq≤k)∧Aside0 (w'.heap[gb380]?=some (.cells #[(.slice A0_0 l0_0.length c0_0),.int .i64 a0_1,.int .i64 a0_2,.int .i64 a0_3] 29 (0,0)))∧Aside0 (Below w.heap.size w w'))
  case atStart=>exact ⟨(0),(by first|rfl|(simp;done)|(simp [*];done)),H',⟨Nat.le_refl _⟩,⟨by (with_reducible repeat (first|refine blk_drewN ?_ _|refine blk_drew ?_|refine blk_alloc ?_ _));exact BK380.out⟩,⟨by repeat (first|(with_reducible first|exact HB.out|apply below_alloc|apply pw_below_drewN|apply below_drew1|refine below_set ?_ GE380.out)|exact HB.out)⟩⟩
  case round =>
   clear H'
   try clear c1
   try clear p2
   try clear c3
   try clear c3b0
   try clear c3b1
   obtain ⟨x5_1,rfl,HA,HK1,BK380,HB⟩:=hrel
   cases gk with
   | zero=>exact absurd HA.out (by simp [thresherref20_May.l0])
   | succ k1 =>
    have H:=HA.out
    clear HA
    simp only [thresherref20_May.l0] at H
    by_cases c6 : x5_1 < (l1.length : Int)
    ·rw [if_pos c6] at H
     have c6b0 : decide (x5_1 < (l1.length : Int))=true:=decide_eq_true c6
     clear c6
     by_cases c7 : 0≤x5_1
     ·rw [if_pos c7] at H
      have c7b0 : decide (0≤x5_1)=true:=decide_eq_true c7
      clear c7
      have HC8:=Aside0.mk H
      clear H
      have p381 : 0≤(x5_1 : Int):=of_decide_eq_true (by first|(with_reducible assumption)|assumption)
      have q381 : x5_1 < (l1.length : Int):=of_decide_eq_true (by first|(with_reducible assumption)|assumption)
      obtain ⟨ad381,e381,hx381_0,hx381_1⟩:=at_T33 HR1.out x5_1 p381 q381
      cases e381
      replace hx381_0:=(HB.out.cell (World.block_lt_of_cell? w _ hx381_0)).trans hx381_0
      replace hx381_1:=(HB.out.cell (World.block_lt_of_cell? w _ hx381_1)).trans hx381_1
      replace p381:=eq_true p381
      replace q381:=eq_true q381
      go_upto_region 7 with (first|((with_reducible refine gate_dst (N:=6) rfl ?_);(try (refine gate_guard (by rfl) ?_;dsimp only));refine box_event ?hg (N:=6) ?hd (cs:=#[.int .i64 0,.int .i64 0]) (t:=33) ?hr ?_;(case hd=>rfl);(case hg=>rfl);(case hr=>first|(go_simp;done)|(go_simp;rfl));intro gb382 hg w9 hbox hb;have n0_:=Aside0.mk (blk_below (g:=gb380) (o:=.cells #[.slice A0_0 l0_0.length c0_0,.int .i64 a0_1,.int .i64 a0_2,.int .i64 a0_3] 29 (0,0)) (by (with_reducible repeat (first|refine blk_drewN ?_ _|refine blk_drew ?_|refine blk_alloc ?_ _));exact BK380.out) hb);have n1_:=Aside0.mk (below_step (by repeat (first|(with_reducible first|exact HB.out|apply below_alloc|apply pw_below_drewN|apply below_drew1|refine below_set ?_ GE380.out)|exact HB.out)) hb);have n2_:=Aside0.mk (hbox);have n3_:=Aside0.mk ((by rw [hg];exact (below_size (by repeat (first|(with_reducible first|exact HB.out|apply below_alloc|apply pw_below_drewN|apply below_drew1|refine below_set ?_ GE380.out)|exact HB.out))) : w.heap.size≤gb382));have n4_:=Aside0.mk ((by rw [hg];exact (below_size (by repeat (first|(with_reducible first|exact HB.out|apply below_alloc|apply pw_below_drewN|apply below_drew1|refine below_set ?_ GE380.out)|exact HB.out))) : w.heap.size≤gb382));have n5_:=Aside0.mk ((by rw [hg];exact Nat.ne_of_lt (blk_lt (g:=gb380) (o:=.cells #[.slice A0_0 l0_0.length c0_0,.int .i64 a0_1,.int .i64 a0_2,.int .i64 a0_3] 29 (0,0)) (by (with_reducible repeat (first|refine blk_drewN ?_ _|refine blk_drew ?_|refine blk_alloc ?_ _));exact BK380.out)) : gb380≠gb382));have n6_:=Aside0.mk ((by rw [hg];exact Nat.ne_of_gt (blk_lt (g:=gb380) (o:=.cells #[.slice A0_0 l0_0.length c0_0,.int .i64 a0_1,.int .i64 a0_2,.int .i64 a0_3] 29 (0,0)) (by (with_reducible repeat (first|refine blk_drewN ?_ _|refine blk_drew ?_|refine blk_alloc ?_ _));exact BK380.out)) : gb382≠gb380));clear BK380;clear HB;have BK380:=n0_;have HB:=n1_;have BK382:=n2_;have GW382:=n3_;have GE382:=n4_;have NB380_382:=n5_;have NB382_380:=n6_;clear n0_ n1_ n2_ n3_ n4_ n5_ n6_;clear hb hbox hg;have hnb10:=NB382_380.out;have hnc10:=NB380_382.out;have hcz11_0 : w9.cell? ⟨gb382,0,none⟩=some (.int .i64 0):=(blk_cell BK382.out 0).trans rfl;have hcz11_1 : w9.cell? ⟨gb382,1,none⟩=some (.int .i64 0):=(blk_cell BK382.out 1).trans rfl;have hfz11_0:=blk_frozen BK382.out 0;have hfz11_1:=blk_frozen BK382.out 1))
      (try simp only [Act.put,List.setIfInBounds_toArray,List.set_cons_zero,List.set_cons_succ])
      go_cut [40] (fun v40 wc=>∃ (kq : Nat) (x40_7 : Bool),v40=.bool x40_7∧Aside0 (thresherref20_May.j1 kq l1 x5_1 x40_7 l0_0 a0_1 a0_2 a0_3 ((rd_T33 l1 x5_1).f0) ((rd_T33 l1 x5_1).f1)=some r)∧Aside0 (kq≤k1)∧Aside0 (wc.heap[gb380]?=some (.cells #[(.slice A0_0 l0_0.length c0_0),.int .i64 a0_1,.int .i64 a0_2,.int .i64 a0_3] 29 (0,0)))∧Aside0 (wc.heap[gb382]?=some (.cells #[.int .i64 ((rd_T33 l1 x5_1).f0),.int .i64 ((rd_T33 l1 x5_1).f1)] 33 (0,0)))∧Aside0 (Below w.heap.size w wc))
      case first =>
       have H:=HC8.out
       clear HC8
       by_cases c12 : ((rd_T33 l1 x5_1).f0) < 1
       ·rw [if_pos c12] at H
        have c12b0 : decide (((rd_T33 l1 x5_1).f0) < 1)=true:=decide_eq_true c12
        clear c12
        (first|rw [c12b0]|(simp only [i64_w,i32_w];rw [c12b0])|skip)
        have H':=Aside0.mk H
        clear H
        have hnb13:=NB382_380.out
        have hnc13:=NB380_382.out
        have hcz14_0 : w9.cell? ⟨gb382,0,none⟩=some (.int .i64 0):=(blk_cell BK382.out 0).trans rfl
        have hcz14_1 : w9.cell? ⟨gb382,1,none⟩=some (.int .i64 0):=(blk_cell BK382.out 1).trans rfl
        have hfz14_0:=blk_frozen BK382.out 0
        have hfz14_1:=blk_frozen BK382.out 1
        go_wp2
        go_meet
        case rel=>exact ⟨_,(true),(by first|rfl|(simp;done)|(simp [*];done)),(by first|exact H'|(subst_vars;exact H')),⟨by have:=HK1.out;first|omega|exact Nat.le_refl _⟩,⟨by (with_reducible repeat (first|refine blk_drewN ?_ _|refine blk_drew ?_|refine blk_alloc ?_ _));refine blk_far ?_ NB380_382.out _;(with_reducible repeat (first|refine blk_drewN ?_ _|refine blk_drew ?_|refine blk_alloc ?_ _));refine blk_far ?_ NB380_382.out _;(with_reducible repeat (first|refine blk_drewN ?_ _|refine blk_drew ?_|refine blk_alloc ?_ _));exact BK380.out⟩,⟨by (with_reducible repeat (first|refine blk_drewN ?_ _|refine blk_drew ?_|refine blk_alloc ?_ _));refine blk_put (cs:=#[.int .i64 ((rd_T33 l1 x5_1).f0),.int .i64 0]) ?_ 1 _ rfl;(with_reducible repeat (first|refine blk_drewN ?_ _|refine blk_drew ?_|refine blk_alloc ?_ _));refine blk_put (cs:=#[.int .i64 0,.int .i64 0]) ?_ 0 _ rfl;(with_reducible repeat (first|refine blk_drewN ?_ _|refine blk_drew ?_|refine blk_alloc ?_ _));exact BK382.out⟩,⟨by repeat (first|(with_reducible first|exact HB.out|apply below_alloc|apply pw_below_drewN|apply below_drew1|refine below_set ?_ GE380.out|refine below_set ?_ GE382.out)|exact HB.out)⟩⟩
       ·rw [if_neg c12] at H
        have c12b0 : decide (((rd_T33 l1 x5_1).f0) < 1)=false:=decide_eq_false c12
        clear c12
        (first|rw [c12b0]|(simp only [i64_w,i32_w];rw [c12b0])|skip)
        by_cases c15 : ((rd_T33 l1 x5_1).f0) > 4
        ·rw [if_pos c15] at H
         have c15b0 : decide (4 < ((rd_T33 l1 x5_1).f0))=true:=decide_eq_true c15
         clear c15
         have H':=Aside0.mk H
         clear H
         have hnb16:=NB382_380.out
         have hnc16:=NB380_382.out
         have hcz17_0 : w9.cell? ⟨gb382,0,none⟩=some (.int .i64 0):=(blk_cell BK382.out 0).trans rfl
         have hcz17_1 : w9.cell? ⟨gb382,1,none⟩=some (.int .i64 0):=(blk_cell BK382.out 1).trans rfl
         have hfz17_0:=blk_frozen BK382.out 0
         have hfz17_1:=blk_frozen BK382.out 1
         go_wp2
         go_meet
         case rel=>exact ⟨_,(true),(by first|rfl|(simp;done)|(simp [*];done)),(by first|exact H'|(subst_vars;exact H')),⟨by have:=HK1.out;first|omega|exact Nat.le_refl _⟩,⟨by (with_reducible repeat (first|refine blk_drewN ?_ _|refine blk_drew ?_|refine blk_alloc ?_ _));refine blk_far ?_ NB380_382.out _;(with_reducible repeat (first|refine blk_drewN ?_ _|refine blk_drew ?_|refine blk_alloc ?_ _));refine blk_far ?_ NB380_382.out _;(with_reducible repeat (first|refine blk_drewN ?_ _|refine blk_drew ?_|refine blk_alloc ?_ _));exact BK380.out⟩,⟨by (with_reducible repeat (first|refine blk_drewN ?_ _|refine blk_drew ?_|refine blk_alloc ?_ _));refine blk_put (cs:=#[.int .i64 ((rd_T33 l1 x5_1).f0),.int .i64 0]) ?_ 1 _ rfl;(with_reducible repeat (first|refine blk_drewN ?_ _|refine blk_drew ?_|refine blk_alloc ?_ _));refine blk_put (cs:=#[.int .i64 0,.int .i64 0]) ?_ 0 _ rfl;(with_reducible repeat (first|refine blk_drewN ?_ _|refine blk_drew ?_|refine blk_alloc ?_ _));exact BK382.out⟩,⟨by repeat (first|(with_reducible first|exact HB.out|apply below_alloc|apply pw_below_drewN|apply below_drew1|refine below_set ?_ GE380.out|refine below_set ?_ GE382.out)|exact HB.out)⟩⟩
        ·rw [if_neg c15] at H
         have c15b0 : decide (4 < ((rd_T33 l1 x5_1).f0))=false:=decide_eq_false c15
         clear c15
         by_cases c18 : ((rd_T33 l1 x5_1).f1) < 0
         ·rw [if_pos c18] at H
          have c18b0 : decide (((rd_T33 l1 x5_1).f1) < 0)=true:=decide_eq_true c18
          clear c18
          have H':=Aside0.mk H
          clear H
          have hnb19:=NB382_380.out
          have hnc19:=NB380_382.out
          have hcz20_0 : w9.cell? ⟨gb382,0,none⟩=some (.int .i64 0):=(blk_cell BK382.out 0).trans rfl
          have hcz20_1 : w9.cell? ⟨gb382,1,none⟩=some (.int .i64 0):=(blk_cell BK382.out 1).trans rfl
          have hfz20_0:=blk_frozen BK382.out 0
          have hfz20_1:=blk_frozen BK382.out 1
          go_wp2
          go_meet
          case rel=>exact ⟨_,(true),(by first|rfl|(simp;done)|(simp [*];done)),(by first|exact H'|(subst_vars;exact H')),⟨by have:=HK1.out;first|omega|exact Nat.le_refl _⟩,⟨by (with_reducible repeat (first|refine blk_drewN ?_ _|refine blk_drew ?_|refine blk_alloc ?_ _));refine blk_far ?_ NB380_382.out _;(with_reducible repeat (first|refine blk_drewN ?_ _|refine blk_drew ?_|refine blk_alloc ?_ _));refine blk_far ?_ NB380_382.out _;(with_reducible repeat (first|refine blk_drewN ?_ _|refine blk_drew ?_|refine blk_alloc ?_ _));exact BK380.out⟩,⟨by (with_reducible repeat (first|refine blk_drewN ?_ _|refine blk_drew ?_|refine blk_alloc ?_ _));refine blk_put (cs:=#[.int .i64 ((rd_T33 l1 x5_1).f0),.int .i64 0]) ?_ 1 _ rfl;(with_reducible repeat (first|refine blk_drewN ?_ _|refine blk_drew ?_|refine blk_alloc ?_ _));refine blk_put (cs:=#[.int .i64 0,.int .i64 0]) ?_ 0 _ rfl;(with_reducible repeat (first|refine blk_drewN ?_ _|refine blk_drew ?_|refine blk_alloc ?_ _));exact BK382.out⟩,⟨by repeat (first|(with_reducible first|exact HB.out|apply below_alloc|apply pw_below_drewN|apply below_drew1|refine below_set ?_ GE380.out|refine below_set ?_ GE382.out)|exact HB.out)⟩⟩
         ·rw [if_neg c18] at H
          have c18b0 : decide (((rd_T33 l1 x5_1).f1) < 0)=false:=decide_eq_false c18
          clear c18
          have H':=Aside0.mk H
          clear H
          have hnb21:=NB382_380.out
          have hnc21:=NB380_382.out
          have hcz22_0 : w9.cell? ⟨gb382,0,none⟩=some (.int .i64 0):=(blk_cell BK382.out 0).trans rfl
          have hcz22_1 : w9.cell? ⟨gb382,1,none⟩=some (.int .i64 0):=(blk_cell BK382.out 1).trans rfl
          have hfz22_0:=blk_frozen BK382.out 0
          have hfz22_1:=blk_frozen BK382.out 1
          have hcz23_0 : w9.cell? ⟨gb380,0,none⟩=some (.slice A0_0 l0_0.length c0_0):=(blk_cell BK380.out 0).trans rfl
          have hcz23_1 : w9.cell? ⟨gb380,1,none⟩=some (.int .i64 a0_1):=(blk_cell BK380.out 1).trans rfl
          have hcz23_2 : w9.cell? ⟨gb380,2,none⟩=some (.int .i64 a0_2):=(blk_cell BK380.out 2).trans rfl
          have hcz23_3 : w9.cell? ⟨gb380,3,none⟩=some (.int .i64 a0_3):=(blk_cell BK380.out 3).trans rfl
          have hfz23_0:=blk_frozen BK380.out 0
          have hfz23_1:=blk_frozen BK380.out 1
          have hfz23_2:=blk_frozen BK380.out 2
          have hfz23_3:=blk_frozen BK380.out 3
          go_wp2
          go_meet
          case rel=>exact ⟨_,(decide (((rd_T33 l1 x5_1).f1) ≥ (l0_0.length : Int))),(by first|rfl|(simp;done)|(simp [*];done)),(by first|exact H'|(subst_vars;exact H')),⟨by have:=HK1.out;first|omega|exact Nat.le_refl _⟩,⟨by (with_reducible repeat (first|refine blk_drewN ?_ _|refine blk_drew ?_|refine blk_alloc ?_ _));refine blk_far ?_ NB380_382.out _;(with_reducible repeat (first|refine blk_drewN ?_ _|refine blk_drew ?_|refine blk_alloc ?_ _));refine blk_far ?_ NB380_382.out _;(with_reducible repeat (first|refine blk_drewN ?_ _|refine blk_drew ?_|refine blk_alloc ?_ _));exact BK380.out⟩,⟨by (with_reducible repeat (first|refine blk_drewN ?_ _|refine blk_drew ?_|refine blk_alloc ?_ _));refine blk_put (cs:=#[.int .i64 ((rd_T33 l1 x5_1).f0),.int .i64 0]) ?_ 1 _ rfl;(with_reducible repeat (first|refine blk_drewN ?_ _|refine blk_drew ?_|refine blk_alloc ?_ _));refine blk_put (cs:=#[.int .i64 0,.int .i64 0]) ?_ 0 _ rfl;(with_reducible repeat (first|refine blk_drewN ?_ _|refine blk_drew ?_|refine blk_alloc ?_ _));exact BK382.out⟩,⟨by repeat (first|(with_reducible first|exact HB.out|apply below_alloc|apply pw_below_drewN|apply below_drew1|refine below_set ?_ GE380.out|refine below_set ?_ GE382.out)|exact HB.out)⟩⟩
      case rest =>
       clear HC8
       try clear c1
       try clear c2
       try clear p2
       try clear c3
       try clear c3b0
       try clear c3b1
       try clear p3
       try clear q3
       try clear hx3
       try clear c6
       try clear c6b0
       try clear c7
       try clear c7b0
       try clear c10
       try clear c12
       try clear c12b0
       try clear c13
       try clear c15
       try clear c15b0
       try clear c16
       try clear c17
       try clear c18
       try clear c18b0
       try clear c19
       try clear c21
       try clear hcz11_0
       try clear hcz11_1
       try clear hcz14_0
       try clear hcz14_1
       try clear hcz17_0
       try clear hcz17_1
       try clear hcz20_0
       try clear hcz20_1
       try clear hcz22_0
       try clear hcz22_1
       try clear hcz23_0
       try clear hcz23_1
       try clear hcz23_2
       try clear hcz23_3
       try clear hfz11_0
       try clear hfz11_1
       try clear hfz14_0
       try clear hfz14_1
       try clear hfz17_0
       try clear hfz17_1
       try clear hfz20_0
       try clear hfz20_1
       try clear hfz22_0
       try clear hfz22_1
       try clear hfz23_0
       try clear hfz23_1
       try clear hfz23_2
       try clear hfz23_3
       try clear hx381_0
       try clear hx381_1
       try clear p2
       try clear p381
       try clear q381
       obtain ⟨kq,x40_7,rfl,HA,HJ7,BK380,BK382,HB⟩:=hcut
       cases kq with
       | zero=>exact absurd HA.out (by simp [thresherref20_May.j1])
       | succ kj7 =>
        have H:=HA.out
        clear HA
        simp only [thresherref20_May.j1] at H
        by_cases c24 : x40_7=true
        ·subst c24
         have H1 : (some false)=some r:=by rw [if_pos rfl] at H;exact H
         clear H
         have H:=H1
         clear H1
         obtain rfl:=Option.some.inj H
         go_wp2
         go_ret
         exact ⟨by first|rfl|(simp [errW_none,errW_some] <;> rfl)|(simp [*,errW_none,errW_some] <;> rfl),by repeat (first|(with_reducible first|exact HB.out|apply below_alloc|apply pw_below_drewN|apply below_drew1|refine below_set ?_ GE380.out|refine below_set ?_ GE382.out)|exact HB.out)⟩
        ·replace c24:=Bool.eq_false_iff.mpr c24
         subst c24
         have H1 : (if ((rd_T33 l1 x5_1).f0)=1 then (if ((rd_T33 l1 x5_1).f1)=0 then (if ((rd_T33 l1 x5_1).f0)=2 then (if 0≤((rd_T33 l1 x5_1).f1) then (if ((rd_T33 l1 x5_1).f1) < (l0_0.length : Int) then (thresherref20_May.j2 kj7 l1 x5_1 ((rd l0_0 ((rd_T33 l1 x5_1).f1)) == 3) l0_0 a0_1 a0_2 a0_3) else (none)) else (none)) else (thresherref20_May.j2 kj7 l1 x5_1 false l0_0 a0_1 a0_2 a0_3)) else (thresherref20_May.j2 kj7 l1 x5_1 true l0_0 a0_1 a0_2 a0_3)) else (if ((rd_T33 l1 x5_1).f0)=2 then (if 0≤((rd_T33 l1 x5_1).f1) then (if ((rd_T33 l1 x5_1).f1) < (l0_0.length : Int) then (thresherref20_May.j2 kj7 l1 x5_1 ((rd l0_0 ((rd_T33 l1 x5_1).f1)) == 3) l0_0 a0_1 a0_2 a0_3) else (none)) else (none)) else (thresherref20_May.j2 kj7 l1 x5_1 false l0_0 a0_1 a0_2 a0_3)))=some r:=by rw [if_neg (show ¬ (false=true) by decide)] at H;exact H
         clear H
         have H:=H1
         clear H1
         have HC25:=Aside0.mk H
         clear H
         go_upto_region 9 with (fail)
         go_cut [62] (fun v62 wc=>∃ (kq : Nat) (x62_24 : Bool),v62=.bool x62_24∧Aside0 (thresherref20_May.j2 kq l1 x5_1 x62_24 l0_0 a0_1 a0_2 a0_3=some r)∧Aside0 (kq≤kj7)∧Aside0 (wc.heap[gb380]?=some (.cells #[(.slice A0_0 l0_0.length c0_0),.int .i64 a0_1,.int .i64 a0_2,.int .i64 a0_3] 29 (0,0)))∧Aside0 (wc.heap[gb382]?=some (.cells #[.int .i64 ((rd_T33 l1 x5_1).f0),.int .i64 ((rd_T33 l1 x5_1).f1)] 33 (0,0)))∧Aside0 (Below w.heap.size w wc))
         case first =>
          have H:=HC25.out
          clear HC25
          by_cases c26 : ((rd_T33 l1 x5_1).f0)=1
          ·rw [if_pos c26] at H
           have c26b0 : (((rd_T33 l1 x5_1).f0) == 1)=true:=beq_iff_eq.mpr c26
           have c26b1 : (((rd_T33 l1 x5_1).f0) != 1)=false:=bne_eq_false_iff_eq.mpr c26
           clear c26
           (first|rw [c26b0]|(simp only [i64_w,i32_w];rw [c26b0])|skip)
           by_cases c27 : ((rd_T33 l1 x5_1).f1)=0
           ·rw [if_pos c27] at H
            have c27b0 : (((rd_T33 l1 x5_1).f1) == 0)=true:=beq_iff_eq.mpr c27
            have c27b1 : (((rd_T33 l1 x5_1).f1) != 0)=false:=bne_eq_false_iff_eq.mpr c27
            clear c27
            by_cases c28 : ((rd_T33 l1 x5_1).f0)=2
            ·rw [if_pos c28] at H
             have c28b0 : (((rd_T33 l1 x5_1).f0) == 2)=true:=beq_iff_eq.mpr c28
             have c28b1 : (((rd_T33 l1 x5_1).f0) != 2)=false:=bne_eq_false_iff_eq.mpr c28
             clear c28
             by_cases c29 : 0≤((rd_T33 l1 x5_1).f1)
             ·rw [if_pos c29] at H
              have c29b0 : decide (0≤((rd_T33 l1 x5_1).f1))=true:=decide_eq_true c29
              clear c29
              by_cases c30 : ((rd_T33 l1 x5_1).f1) < (l0_0.length : Int)
              ·rw [if_pos c30] at H
               have c30b0 : decide (((rd_T33 l1 x5_1).f1) < (l0_0.length : Int))=true:=decide_eq_true c30
               clear c30
               have H':=Aside0.mk H
               clear H
               have hnb31:=NB382_380.out
               have hnc31:=NB380_382.out
               have hcz32_0 : wc.cell? ⟨gb382,0,none⟩=some (.int .i64 ((rd_T33 l1 x5_1).f0)):=(blk_cell BK382.out 0).trans rfl
               have hcz32_1 : wc.cell? ⟨gb382,1,none⟩=some (.int .i64 ((rd_T33 l1 x5_1).f1)):=(blk_cell BK382.out 1).trans rfl
               have hfz32_0:=blk_frozen BK382.out 0
               have hfz32_1:=blk_frozen BK382.out 1
               have hcz33_0 : wc.cell? ⟨gb380,0,none⟩=some (.slice A0_0 l0_0.length c0_0):=(blk_cell BK380.out 0).trans rfl
               have hcz33_1 : wc.cell? ⟨gb380,1,none⟩=some (.int .i64 a0_1):=(blk_cell BK380.out 1).trans rfl
               have hcz33_2 : wc.cell? ⟨gb380,2,none⟩=some (.int .i64 a0_2):=(blk_cell BK380.out 2).trans rfl
               have hcz33_3 : wc.cell? ⟨gb380,3,none⟩=some (.int .i64 a0_3):=(blk_cell BK380.out 3).trans rfl
               have hfz33_0:=blk_frozen BK380.out 0
               have hfz33_1:=blk_frozen BK380.out 1
               have hfz33_2:=blk_frozen BK380.out 2
               have hfz33_3:=blk_frozen BK380.out 3
               have p383 : 0≤(((rd_T33 l1 x5_1).f1) : Int):=of_decide_eq_true (by first|(with_reducible assumption)|assumption)
               have q383 : ((rd_T33 l1 x5_1).f1) < (l0_0.length : Int):=of_decide_eq_true (by first|(with_reducible assumption)|assumption)
               obtain ⟨ad383,e383,hx383_0⟩:=Kd.at_int HR0_0.out ((rd_T33 l1 x5_1).f1) p383 q383
               cases e383
               replace hx383_0:=(HB.out.cell (World.block_lt_of_cell? w _ hx383_0)).trans hx383_0
               replace p383:=eq_true p383
               replace q383:=eq_true q383
               go_wp2
               go_meet
               case rel=>exact ⟨_,(((rd l0_0 ((rd_T33 l1 x5_1).f1)) == 3)),(by first|rfl|(simp;done)|(simp [*];done)),(by first|exact H'|(subst_vars;exact H')),⟨by have:=HK1.out;have:=HJ7.out;first|omega|exact Nat.le_refl _⟩,⟨by (with_reducible repeat (first|refine blk_drewN ?_ _|refine blk_drew ?_|refine blk_alloc ?_ _));exact BK380.out⟩,⟨by (with_reducible repeat (first|refine blk_drewN ?_ _|refine blk_drew ?_|refine blk_alloc ?_ _));exact BK382.out⟩,⟨by repeat (first|(with_reducible first|exact HB.out|apply below_alloc|apply pw_below_drewN|apply below_drew1|refine below_set ?_ GE380.out|refine below_set ?_ GE382.out)|exact HB.out)⟩⟩
              ·rw [if_neg c30] at H
               exact absurd H (by simp)
             ·rw [if_neg c29] at H
              exact absurd H (by simp)
            ·rw [if_neg c28] at H
             have c28b0 : (((rd_T33 l1 x5_1).f0) == 2)=false:=beq_eq_false_iff_ne.mpr c28
             have c28b1 : (((rd_T33 l1 x5_1).f0) != 2)=true:=bne_iff_ne.mpr c28
             have H':=Aside0.mk H
             clear H
             have hnb34:=NB382_380.out
             have hnc34:=NB380_382.out
             have hcz35_0 : wc.cell? ⟨gb382,0,none⟩=some (.int .i64 ((rd_T33 l1 x5_1).f0)):=(blk_cell BK382.out 0).trans rfl
             have hcz35_1 : wc.cell? ⟨gb382,1,none⟩=some (.int .i64 ((rd_T33 l1 x5_1).f1)):=(blk_cell BK382.out 1).trans rfl
             have hfz35_0:=blk_frozen BK382.out 0
             have hfz35_1:=blk_frozen BK382.out 1
             go_wp2
             go_meet
             case rel=>exact ⟨_,(false),(by first|rfl|(simp;done)|(simp [*];done)),(by first|exact H'|(subst_vars;exact H')),⟨by have:=HK1.out;have:=HJ7.out;first|omega|exact Nat.le_refl _⟩,⟨by (with_reducible repeat (first|refine blk_drewN ?_ _|refine blk_drew ?_|refine blk_alloc ?_ _));exact BK380.out⟩,⟨by (with_reducible repeat (first|refine blk_drewN ?_ _|refine blk_drew ?_|refine blk_alloc ?_ _));exact BK382.out⟩,⟨by repeat (first|(with_reducible first|exact HB.out|apply below_alloc|apply pw_below_drewN|apply below_drew1|refine below_set ?_ GE380.out|refine below_set ?_ GE382.out)|exact HB.out)⟩⟩
           ·rw [if_neg c27] at H
            have c27b0 : (((rd_T33 l1 x5_1).f1) == 0)=false:=beq_eq_false_iff_ne.mpr c27
            have c27b1 : (((rd_T33 l1 x5_1).f1) != 0)=true:=bne_iff_ne.mpr c27
            have H':=Aside0.mk H
            clear H
            have hnb36:=NB382_380.out
            have hnc36:=NB380_382.out
            have hcz37_0 : wc.cell? ⟨gb382,0,none⟩=some (.int .i64 ((rd_T33 l1 x5_1).f0)):=(blk_cell BK382.out 0).trans rfl
            have hcz37_1 : wc.cell? ⟨gb382,1,none⟩=some (.int .i64 ((rd_T33 l1 x5_1).f1)):=(blk_cell BK382.out 1).trans rfl
            have hfz37_0:=blk_frozen BK382.out 0
            have hfz37_1:=blk_frozen BK382.out 1
            go_wp2
            go_meet
            case rel=>exact ⟨_,(true),(by first|rfl|(simp;done)|(simp [*];done)),(by first|exact H'|(subst_vars;exact H')),⟨by have:=HK1.out;have:=HJ7.out;first|omega|exact Nat.le_refl _⟩,⟨by (with_reducible repeat (first|refine blk_drewN ?_ _|refine blk_drew ?_|refine blk_alloc ?_ _));exact BK380.out⟩,⟨by (with_reducible repeat (first|refine blk_drewN ?_ _|refine blk_drew ?_|refine blk_alloc ?_ _));exact BK382.out⟩,⟨by repeat (first|(with_reducible first|exact HB.out|apply below_alloc|apply pw_below_drewN|apply below_drew1|refine below_set ?_ GE380.out|refine below_set ?_ GE382.out)|exact HB.out)⟩⟩
          ·rw [if_neg c26] at H
           have c26b0 : (((rd_T33 l1 x5_1).f0) == 1)=false:=beq_eq_false_iff_ne.mpr c26
           have c26b1 : (((rd_T33 l1 x5_1).f0) != 1)=true:=bne_iff_ne.mpr c26
           (first|rw [c26b0]|(simp only [i64_w,i32_w];rw [c26b0])|skip)
           by_cases c38 : ((rd_T33 l1 x5_1).f0)=2
           ·rw [if_pos c38] at H
            have c38b0 : (((rd_T33 l1 x5_1).f0) == 2)=true:=beq_iff_eq.mpr c38
            have c38b1 : (((rd_T33 l1 x5_1).f0) != 2)=false:=bne_eq_false_iff_eq.mpr c38
            clear c38
            by_cases c39 : 0≤((rd_T33 l1 x5_1).f1)
            ·rw [if_pos c39] at H
             have c39b0 : decide (0≤((rd_T33 l1 x5_1).f1))=true:=decide_eq_true c39
             clear c39
             by_cases c40 : ((rd_T33 l1 x5_1).f1) < (l0_0.length : Int)
             ·rw [if_pos c40] at H
              have c40b0 : decide (((rd_T33 l1 x5_1).f1) < (l0_0.length : Int))=true:=decide_eq_true c40
              clear c40
              have H':=Aside0.mk H
              clear H
              have hnb41:=NB382_380.out
              have hnc41:=NB380_382.out
              have hcz42_0 : wc.cell? ⟨gb382,0,none⟩=some (.int .i64 ((rd_T33 l1 x5_1).f0)):=(blk_cell BK382.out 0).trans rfl
              have hcz42_1 : wc.cell? ⟨gb382,1,none⟩=some (.int .i64 ((rd_T33 l1 x5_1).f1)):=(blk_cell BK382.out 1).trans rfl
              have hfz42_0:=blk_frozen BK382.out 0
              have hfz42_1:=blk_frozen BK382.out 1
              have hcz43_0 : wc.cell? ⟨gb380,0,none⟩=some (.slice A0_0 l0_0.length c0_0):=(blk_cell BK380.out 0).trans rfl
              have hcz43_1 : wc.cell? ⟨gb380,1,none⟩=some (.int .i64 a0_1):=(blk_cell BK380.out 1).trans rfl
              have hcz43_2 : wc.cell? ⟨gb380,2,none⟩=some (.int .i64 a0_2):=(blk_cell BK380.out 2).trans rfl
              have hcz43_3 : wc.cell? ⟨gb380,3,none⟩=some (.int .i64 a0_3):=(blk_cell BK380.out 3).trans rfl
              have hfz43_0:=blk_frozen BK380.out 0
              have hfz43_1:=blk_frozen BK380.out 1
              have hfz43_2:=blk_frozen BK380.out 2
              have hfz43_3:=blk_frozen BK380.out 3
              have p384 : 0≤(((rd_T33 l1 x5_1).f1) : Int):=of_decide_eq_true (by first|(with_reducible assumption)|assumption)
              have q384 : ((rd_T33 l1 x5_1).f1) < (l0_0.length : Int):=of_decide_eq_true (by first|(with_reducible assumption)|assumption)
              obtain ⟨ad384,e384,hx384_0⟩:=Kd.at_int HR0_0.out ((rd_T33 l1 x5_1).f1) p384 q384
              cases e384
              replace hx384_0:=(HB.out.cell (World.block_lt_of_cell? w _ hx384_0)).trans hx384_0
              replace p384:=eq_true p384
              replace q384:=eq_true q384
              go_wp2
              go_meet
              case rel=>exact ⟨_,(((rd l0_0 ((rd_T33 l1 x5_1).f1)) == 3)),(by first|rfl|(simp;done)|(simp [*];done)),(by first|exact H'|(subst_vars;exact H')),⟨by have:=HK1.out;have:=HJ7.out;first|omega|exact Nat.le_refl _⟩,⟨by (with_reducible repeat (first|refine blk_drewN ?_ _|refine blk_drew ?_|refine blk_alloc ?_ _));exact BK380.out⟩,⟨by (with_reducible repeat (first|refine blk_drewN ?_ _|refine blk_drew ?_|refine blk_alloc ?_ _));exact BK382.out⟩,⟨by repeat (first|(with_reducible first|exact HB.out|apply below_alloc|apply pw_below_drewN|apply below_drew1|refine below_set ?_ GE380.out|refine below_set ?_ GE382.out)|exact HB.out)⟩⟩
             ·rw [if_neg c40] at H
              exact absurd H (by simp)
            ·rw [if_neg c39] at H
             exact absurd H (by simp)
           ·rw [if_neg c38] at H
            have c38b0 : (((rd_T33 l1 x5_1).f0) == 2)=false:=beq_eq_false_iff_ne.mpr c38
            have c38b1 : (((rd_T33 l1 x5_1).f0) != 2)=true:=bne_iff_ne.mpr c38
            have H':=Aside0.mk H
            clear H
            have hnb44:=NB382_380.out
            have hnc44:=NB380_382.out
            have hcz45_0 : wc.cell? ⟨gb382,0,none⟩=some (.int .i64 ((rd_T33 l1 x5_1).f0)):=(blk_cell BK382.out 0).trans rfl
            have hcz45_1 : wc.cell? ⟨gb382,1,none⟩=some (.int .i64 ((rd_T33 l1 x5_1).f1)):=(blk_cell BK382.out 1).trans rfl
            have hfz45_0:=blk_frozen BK382.out 0
            have hfz45_1:=blk_frozen BK382.out 1
            go_wp2
            go_meet
            case rel=>exact ⟨_,(false),(by first|rfl|(simp;done)|(simp [*];done)),(by first|exact H'|(subst_vars;exact H')),⟨by have:=HK1.out;have:=HJ7.out;first|omega|exact Nat.le_refl _⟩,⟨by (with_reducible repeat (first|refine blk_drewN ?_ _|refine blk_drew ?_|refine blk_alloc ?_ _));exact BK380.out⟩,⟨by (with_reducible repeat (first|refine blk_drewN ?_ _|refine blk_drew ?_|refine blk_alloc ?_ _));exact BK382.out⟩,⟨by repeat (first|(with_reducible first|exact HB.out|apply below_alloc|apply pw_below_drewN|apply below_drew1|refine below_set ?_ GE380.out|refine below_set ?_ GE382.out)|exact HB.out)⟩⟩
         case rest =>
          clear HC25
          try clear c1
          try clear c2
          try clear p2
          try clear c3
          try clear c3b0
          try clear c3b1
          try clear p3
          try clear q3
          try clear hx3
          try clear c4
          try clear c6
          try clear c6b0
          try clear c7
          try clear c7b0
          try clear c10
          try clear c12
          try clear c12b0
          try clear c13
          try clear c15
          try clear c15b0
          try clear c16
          try clear c17
          try clear c18
          try clear c18b0
          try clear c19
          try clear c21
          try clear c24
          try clear c26
          try clear c26b0
          try clear c26b1
          try clear c27
          try clear c27b0
          try clear c27b1
          try clear c28
          try clear c28b0
          try clear c28b1
          try clear c29
          try clear c29b0
          try clear c30
          try clear c30b0
          try clear c31
          try clear c34
          try clear c36
          try clear c38
          try clear c38b0
          try clear c38b1
          try clear p38
          try clear q38
          try clear hx38
          try clear c39
          try clear c39b0
          try clear c40
          try clear c40b0
          try clear c41
          try clear c44
          try clear hcz11_0
          try clear hcz11_1
          try clear hcz14_0
          try clear hcz14_1
          try clear hcz17_0
          try clear hcz17_1
          try clear hcz20_0
          try clear hcz20_1
          try clear hcz22_0
          try clear hcz22_1
          try clear hcz23_0
          try clear hcz23_1
          try clear hcz23_2
          try clear hcz23_3
          try clear hcz32_0
          try clear hcz32_1
          try clear hcz33_0
          try clear hcz33_1
          try clear hcz33_2
          try clear hcz33_3
          try clear hcz35_0
          try clear hcz35_1
          try clear hcz37_0
          try clear hcz37_1
          try clear hcz42_0
          try clear hcz42_1
          try clear hcz43_0
          try clear hcz43_1
          try clear hcz43_2
          try clear hcz43_3
          try clear hcz45_0
          try clear hcz45_1
          try clear hfz11_0
          try clear hfz11_1
          try clear hfz14_0
          try clear hfz14_1
          try clear hfz17_0
          try clear hfz17_1
          try clear hfz20_0
          try clear hfz20_1
          try clear hfz22_0
          try clear hfz22_1
          try clear hfz23_0
          try clear hfz23_1
          try clear hfz23_2
          try clear hfz23_3
          try clear hfz32_0
          try clear hfz32_1
          try clear hfz33_0
          try clear hfz33_1
          try clear hfz33_2
          try clear hfz33_3
          try clear hfz35_0
          try clear hfz35_1
          try clear hfz37_0
          try clear hfz37_1
          try clear hfz42_0
          try clear hfz42_1
          try clear hfz43_0
          try clear hfz43_1
          try clear hfz43_2
          try clear hfz43_3
          try clear hfz45_0
          try clear hfz45_1
          try clear hx381_0
          try clear hx381_1
          try clear hx383_0
          try clear hx384_0
          try clear p2
          try clear p3
          try clear p381
          try clear p383
          try clear p384
          try clear q3
          try clear q381
          try clear q383
          try clear q384
          obtain ⟨kq,x62_24,rfl,HA,HJ24,BK380,BK382,HB⟩:=hcut
          cases kq with
          | zero=>exact absurd HA.out (by simp [thresherref20_May.j2])
          | succ kj24 =>
           have H:=HA.out
           clear HA
           simp only [thresherref20_May.j2] at H
           by_cases c46 : x62_24=true
           ·subst c46
            have H1 : (some false)=some r:=by rw [if_pos rfl] at H;exact H
            clear H
            have H:=H1
            clear H1
            obtain rfl:=Option.some.inj H
            go_wp2
            go_ret
            exact ⟨by first|rfl|(simp [errW_none,errW_some] <;> rfl)|(simp [*,errW_none,errW_some] <;> rfl),by repeat (first|(with_reducible first|exact HB.out|apply below_alloc|apply pw_below_drewN|apply below_drew1|refine below_set ?_ GE380.out|refine below_set ?_ GE382.out)|exact HB.out)⟩
           ·replace c46:=Bool.eq_false_iff.mpr c46
            subst c46
            have H1 : (thresherref20_May.l0 kj24 l1 (wrap64 (x5_1 + 1)) l0_0 a0_1 a0_2 a0_3)=some r:=by rw [if_neg (show ¬ (false=true) by decide)] at H;exact H
            clear H
            have H:=H1
            clear H1
            have H':=Aside0.mk H
            clear H
            go_wp2
            go_roundg kj24
            case measure=>have:=HK1.out;have:=HJ7.out;have:=HJ24.out;omega
            case rel=>exact ⟨(wrap64 (x5_1 + 1)),(by first|rfl|(simp;done)|(simp [*];done)),(by first|exact H'|(subst_vars;exact H')),⟨by have:=HK1.out;have:=HJ7.out;have:=HJ24.out;omega⟩,⟨by (with_reducible repeat (first|refine blk_drewN ?_ _|refine blk_drew ?_|refine blk_alloc ?_ _));exact BK380.out⟩,⟨by repeat (first|(with_reducible first|exact HB.out|apply below_alloc|apply pw_below_drewN|apply below_drew1|refine below_set ?_ GE380.out|refine below_set ?_ GE382.out)|exact HB.out)⟩⟩
     ·rw [if_neg c7] at H
      exact absurd H (by simp)
    ·rw [if_neg c6] at H
     have c6b0 : decide (x5_1 < (l1.length : Int))=false:=decide_eq_false c6
     clear c6
     obtain rfl:=Option.some.inj H
     go_wp2
     go_ret
     exact ⟨by first|rfl|(simp [errW_none,errW_some] <;> rfl)|(simp [*,errW_none,errW_some] <;> rfl),by repeat (first|(with_reducible first|exact HB.out|apply below_alloc|apply pw_below_drewN|apply below_drew1|refine below_set ?_ GE380.out)|exact HB.out)⟩

/-! ### thresherref03_Add: function 31 -/
def thresherref03_Add.f (k : Nat) (a0 : Int) (a1_0 : Int) (a1_1 : ByteArray) (a2_0 : Int) (a2_1 : ByteArray) : Option (Int × ByteArray):=(thresherref03_both.f k a0 a1_0 a1_1 a2_0 a2_1).bind fun t388=>(if t388=true then (if a0=3 then (some (a2_0,a2_1)) else (some (wrap64 (a1_0 + a2_0),(⟨#[]⟩ : ByteArray)))) else (some (0,(⟨#[]⟩ : ByteArray))))
theorem thresherref03_Add.mono : ∀ a0 a1 a2 a3 a4 k,LeO (thresherref03_Add.f k a0 a1 a2 a3 a4) (thresherref03_Add.f (k + 1) a0 a1 a2 a3 a4):=by
 intro a0 a1 a2 a3 a4 k
 unfold thresherref03_Add.f
 repeat' first
   | (with_reducible exact thresherref03_both.mono _ _ _ _ _ _)
   | (with_reducible exact LeO.refl _)
   | (with_reducible exact LeO.none _)
   | (with_reducible refine LeO.ite ?_ ?_)
   | (with_reducible refine LeO.bind ?_ (fun _=>?_))
   | exact thresherref03_both.mono _ _ _ _ _ _
   | exact LeO.none _
   | refine LeO.ite ?_ ?_
   | refine LeO.bind ?_ (fun _=>?_)
set_option maxHeartbeats 8000000 in
set_option maxRecDepth 100000 in
theorem thresherref03_Add.calls (k : Nat) (a0 : Int) (a1_0 : Int) (a1_1 : ByteArray) (a2_0 : Int) (a2_1 : ByteArray) (r1 : Int) (r2 : ByteArray) (w : World) (h : thresherref03_Add.f k a0 a1_0 a1_1 a2_0 a2_1=some (r1,r2)) :
  Calls Try.prog 31 #[.int .i64 a0,.agg #[.int .i64 a1_0,.string a1_1],.agg #[.int .i64 a2_0,.string a2_1]] w fun e w'=>e=.returned (.agg #[.int .i64 r1,.string r2])∧Below w.heap.size w w':=by
 have hu40:=Try.underlying40
 have HB:=Aside0.mk (Below.refl w.heap.size w)
 have H : ((thresherref03_both.f k a0 a1_0 a1_1 a2_0 a2_1).bind fun t388=>(if t388=true then (if a0=3 then (some (a2_0,a2_1)) else (some (wrap64 (a1_0 + a2_0),(⟨#[]⟩ : ByteArray)))) else (some (0,(⟨#[]⟩ : ByteArray)))))=some (r1,r2):=h
 clear h
 replace H:=Option.bind_eq_some_iff.mp H
 obtain ⟨t388,A40,H⟩:=H
 replace H : (if t388=true then (if a0=3 then (some (a2_0,a2_1)) else (some (wrap64 (a1_0 + a2_0),(⟨#[]⟩ : ByteArray)))) else (some (0,(⟨#[]⟩ : ByteArray))))=some (r1,r2):=H
 have A4:=Aside0.mk A40
 clear A40
 by_cases c5 : t388=true
 ·subst c5
  have H1 : (if a0=3 then (some (a2_0,a2_1)) else (some (wrap64 (a1_0 + a2_0),(⟨#[]⟩ : ByteArray))))=some (r1,r2):=by rw [if_pos rfl] at H;exact H
  clear H
  have H:=H1
  clear H1
  by_cases c6 : a0=3
  ·rw [if_pos c6] at H
   have c6b0 : (a0 == 3)=true:=beq_iff_eq.mpr c6
   have c6b1 : (a0 != 3)=false:=bne_eq_false_iff_eq.mpr c6
   clear c6
   simp only [Option.some.injEq,Prod.mk.injEq] at H
   obtain ⟨rfl,rfl⟩:=H
   go_enter Try.func31,Try.ntmps31
   go_wp2_with (first|((with_reducible refine gate_dst (N:=4) rfl ?_);refine box_event ?hg (N:=4) ?hd (cs:=#[.int .i64 a1_0,.string a1_1]) (t:=40) ?hr ?_;(case hd=>rfl);(case hg=>rfl);(case hr=>first|(go_simp;done)|(go_simp;rfl));intro gb385 hg w7 hbox hb;have n0_:=Aside0.mk (below_step (by repeat (first|(with_reducible first|exact HB.out|apply below_alloc|apply pw_below_drewN|apply below_drew1)|exact HB.out)) hb);have n1_:=Aside0.mk (hbox);have n2_:=Aside0.mk ((by rw [hg];exact (below_size (by repeat (first|(with_reducible first|exact HB.out|apply below_alloc|apply pw_below_drewN|apply below_drew1)|exact HB.out))) : w.heap.size≤gb385));have n3_:=Aside0.mk ((by rw [hg];exact (below_size (by repeat (first|(with_reducible first|exact HB.out|apply below_alloc|apply pw_below_drewN|apply below_drew1)|exact HB.out))) : w.heap.size≤gb385));clear HB;have HB:=n0_;have BK385:=n1_;have GW385:=n2_;have GE385:=n3_;clear n0_ n1_ n2_ n3_;clear hb hbox hg)|((with_reducible refine gate_dst (N:=5) rfl ?_);refine box_event ?hg (N:=5) ?hd (cs:=#[.int .i64 a2_0,.string a2_1]) (t:=40) ?hr ?_;(case hd=>rfl);(case hg=>rfl);(case hr=>first|(go_simp;done)|(go_simp;rfl));intro gb386 hg w8 hbox hb;have n0_:=Aside0.mk (blk_below (g:=gb385) (o:=.cells #[.int .i64 a1_0,.string a1_1] 40 (0,0)) (by (with_reducible repeat (first|refine blk_drewN ?_ _|refine blk_drew ?_|refine blk_alloc ?_ _));exact BK385.out) hb);have n1_:=Aside0.mk (below_step (by repeat (first|(with_reducible first|exact HB.out|apply below_alloc|apply pw_below_drewN|apply below_drew1|refine below_set ?_ GE385.out)|exact HB.out)) hb);have n2_:=Aside0.mk (hbox);have n3_:=Aside0.mk ((by rw [hg];exact (below_size (by repeat (first|(with_reducible first|exact HB.out|apply below_alloc|apply pw_below_drewN|apply below_drew1|refine below_set ?_ GE385.out)|exact HB.out))) : w.heap.size≤gb386));have n4_:=Aside0.mk ((by rw [hg];exact (below_size (by repeat (first|(with_reducible first|exact HB.out|apply below_alloc|apply pw_below_drewN|apply below_drew1|refine below_set ?_ GE385.out)|exact HB.out))) : w.heap.size≤gb386));have n5_:=Aside0.mk ((by rw [hg];exact Nat.ne_of_lt (blk_lt (g:=gb385) (o:=.cells #[.int .i64 a1_0,.string a1_1] 40 (0,0)) (by (with_reducible repeat (first|refine blk_drewN ?_ _|refine blk_drew ?_|refine blk_alloc ?_ _));exact BK385.out)) : gb385≠gb386));have n6_:=Aside0.mk ((by rw [hg];exact Nat.ne_of_gt (blk_lt (g:=gb385) (o:=.cells #[.int .i64 a1_0,.string a1_1] 40 (0,0)) (by (with_reducible repeat (first|refine blk_drewN ?_ _|refine blk_drew ?_|refine blk_alloc ?_ _));exact BK385.out)) : gb386≠gb385));clear BK385;clear HB;have BK385:=n0_;have HB:=n1_;have BK386:=n2_;have GW386:=n3_;have GE386:=n4_;have NB385_386:=n5_;have NB386_385:=n6_;clear n0_ n1_ n2_ n3_ n4_ n5_ n6_;clear hb hbox hg)|((with_reducible refine gate_dst (N:=6) rfl ?_);refine box_event ?hg (N:=6) ?hd (cs:=#[.int .i64 0,.string (⟨#[]⟩ : ByteArray)]) (t:=40) ?hr ?_;(case hd=>rfl);(case hg=>rfl);(case hr=>first|(go_simp;done)|(go_simp;rfl));intro gb387 hg w9 hbox hb;have n0_:=Aside0.mk (blk_below (g:=gb385) (o:=.cells #[.int .i64 a1_0,.string a1_1] 40 (0,0)) (by (with_reducible repeat (first|refine blk_drewN ?_ _|refine blk_drew ?_|refine blk_alloc ?_ _));exact BK385.out) hb);have n1_:=Aside0.mk (blk_below (g:=gb386) (o:=.cells #[.int .i64 a2_0,.string a2_1] 40 (0,0)) (by (with_reducible repeat (first|refine blk_drewN ?_ _|refine blk_drew ?_|refine blk_alloc ?_ _));exact BK386.out) hb);have n2_:=Aside0.mk (below_step (by repeat (first|(with_reducible first|exact HB.out|apply below_alloc|apply pw_below_drewN|apply below_drew1|refine below_set ?_ GE385.out|refine below_set ?_ GE386.out)|exact HB.out)) hb);have n3_:=Aside0.mk (hbox);have n4_:=Aside0.mk ((by rw [hg];exact (below_size (by repeat (first|(with_reducible first|exact HB.out|apply below_alloc|apply pw_below_drewN|apply below_drew1|refine below_set ?_ GE385.out|refine below_set ?_ GE386.out)|exact HB.out))) : w.heap.size≤gb387));have n5_:=Aside0.mk ((by rw [hg];exact (below_size (by repeat (first|(with_reducible first|exact HB.out|apply below_alloc|apply pw_below_drewN|apply below_drew1|refine below_set ?_ GE385.out|refine below_set ?_ GE386.out)|exact HB.out))) : w.heap.size≤gb387));have n6_:=Aside0.mk ((by rw [hg];exact Nat.ne_of_lt (blk_lt (g:=gb385) (o:=.cells #[.int .i64 a1_0,.string a1_1] 40 (0,0)) (by (with_reducible repeat (first|refine blk_drewN ?_ _|refine blk_drew ?_|refine blk_alloc ?_ _));exact BK385.out)) : gb385≠gb387));have n7_:=Aside0.mk ((by rw [hg];exact Nat.ne_of_gt (blk_lt (g:=gb385) (o:=.cells #[.int .i64 a1_0,.string a1_1] 40 (0,0)) (by (with_reducible repeat (first|refine blk_drewN ?_ _|refine blk_drew ?_|refine blk_alloc ?_ _));exact BK385.out)) : gb387≠gb385));have n8_:=Aside0.mk ((by rw [hg];exact Nat.ne_of_lt (blk_lt (g:=gb386) (o:=.cells #[.int .i64 a2_0,.string a2_1] 40 (0,0)) (by (with_reducible repeat (first|refine blk_drewN ?_ _|refine blk_drew ?_|refine blk_alloc ?_ _));exact BK386.out)) : gb386≠gb387));have n9_:=Aside0.mk ((by rw [hg];exact Nat.ne_of_gt (blk_lt (g:=gb386) (o:=.cells #[.int .i64 a2_0,.string a2_1] 40 (0,0)) (by (with_reducible repeat (first|refine blk_drewN ?_ _|refine blk_drew ?_|refine blk_alloc ?_ _));exact BK386.out)) : gb387≠gb386));clear BK385;clear BK386;clear HB;have BK385:=n0_;have BK386:=n1_;have HB:=n2_;have BK387:=n3_;have GW387:=n4_;have GE387:=n5_;have NB385_387:=n6_;have NB387_385:=n7_;have NB386_387:=n8_;have NB387_386:=n9_;clear n0_ n1_ n2_ n3_ n4_ n5_ n6_ n7_ n8_ n9_;clear hb hbox hg;have hnb10:=NB385_386.out;have hnc10:=NB386_385.out;have hnb11:=NB385_387.out;have hnc11:=NB387_385.out;have hcz12_0 : w9.cell? ⟨gb385,0,none⟩=some (.int .i64 a1_0):=(blk_cell BK385.out 0).trans rfl;have hcz12_1 : w9.cell? ⟨gb385,1,none⟩=some (.string a1_1):=(blk_cell BK385.out 1).trans rfl;have hfz12_0:=blk_frozen BK385.out 0;have hfz12_1:=blk_frozen BK385.out 1;have hnb13:=NB386_387.out;have hnc13:=NB387_386.out;have hcz14_0 : w9.cell? ⟨gb386,0,none⟩=some (.int .i64 a2_0):=(blk_cell BK386.out 0).trans rfl;have hcz14_1 : w9.cell? ⟨gb386,1,none⟩=some (.string a2_1):=(blk_cell BK386.out 1).trans rfl;have hfz14_0:=blk_frozen BK386.out 0;have hfz14_1:=blk_frozen BK386.out 1)|((with_reducible refine gate_callee (f:=33) rfl ?_);refine goesL_ (some 11) rfl rfl Try.func33 (by kernel_rfl) rfl #[.int .i64 a0,.agg #[.int .i64 a1_0,.string a1_1],.agg #[.int .i64 a2_0,.string a2_1]] rfl (by (try simp only [List.map_toArray,List.map_cons,List.map_nil]);first|done|rfl|(simp only [List.length_drop,List.length_take];rfl)) ?_;(with_reducible refine (thresherref03_both.calls k a0 a1_0 a1_1 a2_0 a2_1 true _ A4.out).mono ?_);rintro e w15 ⟨rfl,hb⟩;refine ⟨_,rfl,?_⟩;have n0_:=Aside0.mk (blk_below (g:=gb385) (o:=.cells #[.int .i64 a1_0,.string a1_1] 40 (0,0)) (by (with_reducible repeat (first|refine blk_drewN ?_ _|refine blk_drew ?_|refine blk_alloc ?_ _));exact BK385.out) hb);have n1_:=Aside0.mk (blk_below (g:=gb386) (o:=.cells #[.int .i64 a2_0,.string a2_1] 40 (0,0)) (by (with_reducible repeat (first|refine blk_drewN ?_ _|refine blk_drew ?_|refine blk_alloc ?_ _));exact BK386.out) hb);have n2_:=Aside0.mk (blk_below (g:=gb387) (o:=.cells #[.int .i64 0,.string (⟨#[]⟩ : ByteArray)] 40 (0,0)) (by (with_reducible repeat (first|refine blk_drewN ?_ _|refine blk_drew ?_|refine blk_alloc ?_ _));exact BK387.out) hb);have n3_:=Aside0.mk (below_step (by repeat (first|(with_reducible first|exact HB.out|apply below_alloc|apply pw_below_drewN|apply below_drew1|refine below_set ?_ GE385.out|refine below_set ?_ GE386.out|refine below_set ?_ GE387.out)|exact HB.out)) hb);clear BK385;clear BK386;clear BK387;clear HB;have BK385:=n0_;have BK386:=n1_;have BK387:=n2_;have HB:=n3_;clear n0_ n1_ n2_ n3_;(try clear hb);(try clear hb2);(try clear hk);(try clear hi);have hcz16_0 : w15.cell? ⟨gb386,0,none⟩=some (.int .i64 a2_0):=(blk_cell BK386.out 0).trans rfl;have hcz16_1 : w15.cell? ⟨gb386,1,none⟩=some (.string a2_1):=(blk_cell BK386.out 1).trans rfl;have hfz16_0:=blk_frozen BK386.out 0;have hfz16_1:=blk_frozen BK386.out 1;have hcz17_0 : w15.cell? ⟨gb387,0,none⟩=some (.int .i64 0):=(blk_cell BK387.out 0).trans rfl;have hcz17_1 : w15.cell? ⟨gb387,1,none⟩=some (.string (⟨#[]⟩ : ByteArray)):=(blk_cell BK387.out 1).trans rfl;have hfz17_0:=blk_frozen BK387.out 0;have hfz17_1:=blk_frozen BK387.out 1))
   refine bodyPost_ret (results_cell_row rfl _ _ gb387 40 #[.int .i64 a2_0,.string a2_1] (0,0) _ rfl (by (with_reducible repeat (first|refine blk_drewN ?_ _|refine blk_drew ?_|refine blk_alloc ?_ _));refine blk_put (cs:=#[.int .i64 a2_0,.string (⟨#[]⟩ : ByteArray)]) ?_ 1 _ rfl;(with_reducible repeat (first|refine blk_drewN ?_ _|refine blk_drew ?_|refine blk_alloc ?_ _));refine blk_put (cs:=#[.int .i64 0,.string (⟨#[]⟩ : ByteArray)]) ?_ 0 _ rfl;(with_reducible repeat (first|refine blk_drewN ?_ _|refine blk_drew ?_|refine blk_alloc ?_ _));exact BK387.out) Try.underlying40 rfl (by kernel_rfl)) rfl ?_
   exact ⟨by first|rfl|(simp [errW_none,errW_some] <;> rfl)|(simp [*,errW_none,errW_some] <;> rfl),by repeat (first|(with_reducible first|exact HB.out|apply below_alloc|apply pw_below_drewN|apply below_drew1|refine below_set ?_ GE385.out|refine below_set ?_ GE386.out|refine below_set ?_ GE387.out)|exact HB.out)⟩
  ·rw [if_neg c6] at H
   have c6b0 : (a0 == 3)=false:=beq_eq_false_iff_ne.mpr c6
   have c6b1 : (a0 != 3)=true:=bne_iff_ne.mpr c6
   simp only [Option.some.injEq,Prod.mk.injEq] at H
   obtain ⟨rfl,rfl⟩:=H
   go_enter Try.func31,Try.ntmps31
   go_wp2_with (first|((with_reducible refine gate_dst (N:=4) rfl ?_);refine box_event ?hg (N:=4) ?hd (cs:=#[.int .i64 a1_0,.string a1_1]) (t:=40) ?hr ?_;(case hd=>rfl);(case hg=>rfl);(case hr=>first|(go_simp;done)|(go_simp;rfl));intro gb385 hg w18 hbox hb;have n0_:=Aside0.mk (below_step (by repeat (first|(with_reducible first|exact HB.out|apply below_alloc|apply pw_below_drewN|apply below_drew1)|exact HB.out)) hb);have n1_:=Aside0.mk (hbox);have n2_:=Aside0.mk ((by rw [hg];exact (below_size (by repeat (first|(with_reducible first|exact HB.out|apply below_alloc|apply pw_below_drewN|apply below_drew1)|exact HB.out))) : w.heap.size≤gb385));have n3_:=Aside0.mk ((by rw [hg];exact (below_size (by repeat (first|(with_reducible first|exact HB.out|apply below_alloc|apply pw_below_drewN|apply below_drew1)|exact HB.out))) : w.heap.size≤gb385));clear HB;have HB:=n0_;have BK385:=n1_;have GW385:=n2_;have GE385:=n3_;clear n0_ n1_ n2_ n3_;clear hb hbox hg)|((with_reducible refine gate_dst (N:=5) rfl ?_);refine box_event ?hg (N:=5) ?hd (cs:=#[.int .i64 a2_0,.string a2_1]) (t:=40) ?hr ?_;(case hd=>rfl);(case hg=>rfl);(case hr=>first|(go_simp;done)|(go_simp;rfl));intro gb386 hg w19 hbox hb;have n0_:=Aside0.mk (blk_below (g:=gb385) (o:=.cells #[.int .i64 a1_0,.string a1_1] 40 (0,0)) (by (with_reducible repeat (first|refine blk_drewN ?_ _|refine blk_drew ?_|refine blk_alloc ?_ _));exact BK385.out) hb);have n1_:=Aside0.mk (below_step (by repeat (first|(with_reducible first|exact HB.out|apply below_alloc|apply pw_below_drewN|apply below_drew1|refine below_set ?_ GE385.out)|exact HB.out)) hb);have n2_:=Aside0.mk (hbox);have n3_:=Aside0.mk ((by rw [hg];exact (below_size (by repeat (first|(with_reducible first|exact HB.out|apply below_alloc|apply pw_below_drewN|apply below_drew1|refine below_set ?_ GE385.out)|exact HB.out))) : w.heap.size≤gb386));have n4_:=Aside0.mk ((by rw [hg];exact (below_size (by repeat (first|(with_reducible first|exact HB.out|apply below_alloc|apply pw_below_drewN|apply below_drew1|refine below_set ?_ GE385.out)|exact HB.out))) : w.heap.size≤gb386));have n5_:=Aside0.mk ((by rw [hg];exact Nat.ne_of_lt (blk_lt (g:=gb385) (o:=.cells #[.int .i64 a1_0,.string a1_1] 40 (0,0)) (by (with_reducible repeat (first|refine blk_drewN ?_ _|refine blk_drew ?_|refine blk_alloc ?_ _));exact BK385.out)) : gb385≠gb386));have n6_:=Aside0.mk ((by rw [hg];exact Nat.ne_of_gt (blk_lt (g:=gb385) (o:=.cells #[.int .i64 a1_0,.string a1_1] 40 (0,0)) (by (with_reducible repeat (first|refine blk_drewN ?_ _|refine blk_drew ?_|refine blk_alloc ?_ _));exact BK385.out)) : gb386≠gb385));clear BK385;clear HB;have BK385:=n0_;have HB:=n1_;have BK386:=n2_;have GW386:=n3_;have GE386:=n4_;have NB385_386:=n5_;have NB386_385:=n6_;clear n0_ n1_ n2_ n3_ n4_ n5_ n6_;clear hb hbox hg)|((with_reducible refine gate_dst (N:=6) rfl ?_);refine box_event ?hg (N:=6) ?hd (cs:=#[.int .i64 0,.string (⟨#[]⟩ : ByteArray)]) (t:=40) ?hr ?_;(case hd=>rfl);(case hg=>rfl);(case hr=>first|(go_simp;done)|(go_simp;rfl));intro gb387 hg w20 hbox hb;have n0_:=Aside0.mk (blk_below (g:=gb385) (o:=.cells #[.int .i64 a1_0,.string a1_1] 40 (0,0)) (by (with_reducible repeat (first|refine blk_drewN ?_ _|refine blk_drew ?_|refine blk_alloc ?_ _));exact BK385.out) hb);have n1_:=Aside0.mk (blk_below (g:=gb386) (o:=.cells #[.int .i64 a2_0,.string a2_1] 40 (0,0)) (by (with_reducible repeat (first|refine blk_drewN ?_ _|refine blk_drew ?_|refine blk_alloc ?_ _));exact BK386.out) hb);have n2_:=Aside0.mk (below_step (by repeat (first|(with_reducible first|exact HB.out|apply below_alloc|apply pw_below_drewN|apply below_drew1|refine below_set ?_ GE385.out|refine below_set ?_ GE386.out)|exact HB.out)) hb);have n3_:=Aside0.mk (hbox);have n4_:=Aside0.mk ((by rw [hg];exact (below_size (by repeat (first|(with_reducible first|exact HB.out|apply below_alloc|apply pw_below_drewN|apply below_drew1|refine below_set ?_ GE385.out|refine below_set ?_ GE386.out)|exact HB.out))) : w.heap.size≤gb387));have n5_:=Aside0.mk ((by rw [hg];exact (below_size (by repeat (first|(with_reducible first|exact HB.out|apply below_alloc|apply pw_below_drewN|apply below_drew1|refine below_set ?_ GE385.out|refine below_set ?_ GE386.out)|exact HB.out))) : w.heap.size≤gb387));have n6_:=Aside0.mk ((by rw [hg];exact Nat.ne_of_lt (blk_lt (g:=gb385) (o:=.cells #[.int .i64 a1_0,.string a1_1] 40 (0,0)) (by (with_reducible repeat (first|refine blk_drewN ?_ _|refine blk_drew ?_|refine blk_alloc ?_ _));exact BK385.out)) : gb385≠gb387));have n7_:=Aside0.mk ((by rw [hg];exact Nat.ne_of_gt (blk_lt (g:=gb385) (o:=.cells #[.int .i64 a1_0,.string a1_1] 40 (0,0)) (by (with_reducible repeat (first|refine blk_drewN ?_ _|refine blk_drew ?_|refine blk_alloc ?_ _));exact BK385.out)) : gb387≠gb385));have n8_:=Aside0.mk ((by rw [hg];exact Nat.ne_of_lt (blk_lt (g:=gb386) (o:=.cells #[.int .i64 a2_0,.string a2_1] 40 (0,0)) (by (with_reducible repeat (first|refine blk_drewN ?_ _|refine blk_drew ?_|refine blk_alloc ?_ _));exact BK386.out)) : gb386≠gb387));have n9_:=Aside0.mk ((by rw [hg];exact Nat.ne_of_gt (blk_lt (g:=gb386) (o:=.cells #[.int .i64 a2_0,.string a2_1] 40 (0,0)) (by (with_reducible repeat (first|refine blk_drewN ?_ _|refine blk_drew ?_|refine blk_alloc ?_ _));exact BK386.out)) : gb387≠gb386));clear BK385;clear BK386;clear HB;have BK385:=n0_;have BK386:=n1_;have HB:=n2_;have BK387:=n3_;have GW387:=n4_;have GE387:=n5_;have NB385_387:=n6_;have NB387_385:=n7_;have NB386_387:=n8_;have NB387_386:=n9_;clear n0_ n1_ n2_ n3_ n4_ n5_ n6_ n7_ n8_ n9_;clear hb hbox hg;have hnb21:=NB385_386.out;have hnc21:=NB386_385.out;have hnb22:=NB385_387.out;have hnc22:=NB387_385.out;have hcz23_0 : w20.cell? ⟨gb385,0,none⟩=some (.int .i64 a1_0):=(blk_cell BK385.out 0).trans rfl;have hcz23_1 : w20.cell? ⟨gb385,1,none⟩=some (.string a1_1):=(blk_cell BK385.out 1).trans rfl;have hfz23_0:=blk_frozen BK385.out 0;have hfz23_1:=blk_frozen BK385.out 1;have hnb24:=NB386_387.out;have hnc24:=NB387_386.out;have hcz25_0 : w20.cell? ⟨gb386,0,none⟩=some (.int .i64 a2_0):=(blk_cell BK386.out 0).trans rfl;have hcz25_1 : w20.cell? ⟨gb386,1,none⟩=some (.string a2_1):=(blk_cell BK386.out 1).trans rfl;have hfz25_0:=blk_frozen BK386.out 0;have hfz25_1:=blk_frozen BK386.out 1)|((with_reducible refine gate_callee (f:=33) rfl ?_);refine goesL_ (some 11) rfl rfl Try.func33 (by kernel_rfl) rfl #[.int .i64 a0,.agg #[.int .i64 a1_0,.string a1_1],.agg #[.int .i64 a2_0,.string a2_1]] rfl (by (try simp only [List.map_toArray,List.map_cons,List.map_nil]);first|done|rfl|(simp only [List.length_drop,List.length_take];rfl)) ?_;(with_reducible refine (thresherref03_both.calls k a0 a1_0 a1_1 a2_0 a2_1 true _ A4.out).mono ?_);rintro e w26 ⟨rfl,hb⟩;refine ⟨_,rfl,?_⟩;have n0_:=Aside0.mk (blk_below (g:=gb385) (o:=.cells #[.int .i64 a1_0,.string a1_1] 40 (0,0)) (by (with_reducible repeat (first|refine blk_drewN ?_ _|refine blk_drew ?_|refine blk_alloc ?_ _));exact BK385.out) hb);have n1_:=Aside0.mk (blk_below (g:=gb386) (o:=.cells #[.int .i64 a2_0,.string a2_1] 40 (0,0)) (by (with_reducible repeat (first|refine blk_drewN ?_ _|refine blk_drew ?_|refine blk_alloc ?_ _));exact BK386.out) hb);have n2_:=Aside0.mk (blk_below (g:=gb387) (o:=.cells #[.int .i64 0,.string (⟨#[]⟩ : ByteArray)] 40 (0,0)) (by (with_reducible repeat (first|refine blk_drewN ?_ _|refine blk_drew ?_|refine blk_alloc ?_ _));exact BK387.out) hb);have n3_:=Aside0.mk (below_step (by repeat (first|(with_reducible first|exact HB.out|apply below_alloc|apply pw_below_drewN|apply below_drew1|refine below_set ?_ GE385.out|refine below_set ?_ GE386.out|refine below_set ?_ GE387.out)|exact HB.out)) hb);clear BK385;clear BK386;clear BK387;clear HB;have BK385:=n0_;have BK386:=n1_;have BK387:=n2_;have HB:=n3_;clear n0_ n1_ n2_ n3_;(try clear hb);(try clear hb2);(try clear hk);(try clear hi);have hcz27_0 : w26.cell? ⟨gb385,0,none⟩=some (.int .i64 a1_0):=(blk_cell BK385.out 0).trans rfl;have hcz27_1 : w26.cell? ⟨gb385,1,none⟩=some (.string a1_1):=(blk_cell BK385.out 1).trans rfl;have hfz27_0:=blk_frozen BK385.out 0;have hfz27_1:=blk_frozen BK385.out 1;have hcz28_0 : w26.cell? ⟨gb386,0,none⟩=some (.int .i64 a2_0):=(blk_cell BK386.out 0).trans rfl;have hcz28_1 : w26.cell? ⟨gb386,1,none⟩=some (.string a2_1):=(blk_cell BK386.out 1).trans rfl;have hfz28_0:=blk_frozen BK386.out 0;have hfz28_1:=blk_frozen BK386.out 1;have hcz29_0 : w26.cell? ⟨gb387,0,none⟩=some (.int .i64 0):=(blk_cell BK387.out 0).trans rfl;have hcz29_1 : w26.cell? ⟨gb387,1,none⟩=some (.string (⟨#[]⟩ : ByteArray)):=(blk_cell BK387.out 1).trans rfl;have hfz29_0:=blk_frozen BK387.out 0;have hfz29_1:=blk_frozen BK387.out 1))
   refine bodyPost_ret (results_cell_row rfl _ _ gb387 40 #[.int .i64 (wrap64 (a1_0 + a2_0)),.string (⟨#[]⟩ : ByteArray)] (0,0) _ rfl (by (with_reducible repeat (first|refine blk_drewN ?_ _|refine blk_drew ?_|refine blk_alloc ?_ _));refine blk_put (cs:=#[.int .i64 (wrap64 (a1_0 + a2_0)),.string (⟨#[]⟩ : ByteArray)]) ?_ 1 _ rfl;(with_reducible repeat (first|refine blk_drewN ?_ _|refine blk_drew ?_|refine blk_alloc ?_ _));refine blk_put (cs:=#[.int .i64 0,.string (⟨#[]⟩ : ByteArray)]) ?_ 0 _ rfl;(with_reducible repeat (first|refine blk_drewN ?_ _|refine blk_drew ?_|refine blk_alloc ?_ _));exact BK387.out) Try.underlying40 rfl (by kernel_rfl)) rfl ?_
   exact ⟨by first|rfl|(simp [errW_none,errW_some] <;> rfl)|(simp [*,errW_none,errW_some] <;> rfl),by repeat (first|(with_reducible first|exact HB.out|apply below_alloc|apply pw_below_drewN|apply below_drew1|refine below_set ?_ GE385.out|refine below_set ?_ GE386.out|refine below_set ?_ GE387.out)|exact HB.out)⟩
 ·replace c5:=Bool.eq_false_iff.mpr c5
  subst c5
  have H1 : (some (0,(⟨#[]⟩ : ByteArray)))=some (r1,r2):=by rw [if_neg (show ¬ (false=true) by decide)] at H;exact H
  clear H
  have H:=H1
  clear H1
  simp only [Option.some.injEq,Prod.mk.injEq] at H
  obtain ⟨rfl,rfl⟩:=H
  go_enter Try.func31,Try.ntmps31
  go_wp2_with (first|((with_reducible refine gate_dst (N:=4) rfl ?_);refine box_event ?hg (N:=4) ?hd (cs:=#[.int .i64 a1_0,.string a1_1]) (t:=40) ?hr ?_;(case hd=>rfl);(case hg=>rfl);(case hr=>first|(go_simp;done)|(go_simp;rfl));intro gb385 hg w30 hbox hb;have n0_:=Aside0.mk (below_step (by repeat (first|(with_reducible first|exact HB.out|apply below_alloc|apply pw_below_drewN|apply below_drew1)|exact HB.out)) hb);have n1_:=Aside0.mk (hbox);have n2_:=Aside0.mk ((by rw [hg];exact (below_size (by repeat (first|(with_reducible first|exact HB.out|apply below_alloc|apply pw_below_drewN|apply below_drew1)|exact HB.out))) : w.heap.size≤gb385));have n3_:=Aside0.mk ((by rw [hg];exact (below_size (by repeat (first|(with_reducible first|exact HB.out|apply below_alloc|apply pw_below_drewN|apply below_drew1)|exact HB.out))) : w.heap.size≤gb385));clear HB;have HB:=n0_;have BK385:=n1_;have GW385:=n2_;have GE385:=n3_;clear n0_ n1_ n2_ n3_;clear hb hbox hg)|((with_reducible refine gate_dst (N:=5) rfl ?_);refine box_event ?hg (N:=5) ?hd (cs:=#[.int .i64 a2_0,.string a2_1]) (t:=40) ?hr ?_;(case hd=>rfl);(case hg=>rfl);(case hr=>first|(go_simp;done)|(go_simp;rfl));intro gb386 hg w31 hbox hb;have n0_:=Aside0.mk (blk_below (g:=gb385) (o:=.cells #[.int .i64 a1_0,.string a1_1] 40 (0,0)) (by (with_reducible repeat (first|refine blk_drewN ?_ _|refine blk_drew ?_|refine blk_alloc ?_ _));exact BK385.out) hb);have n1_:=Aside0.mk (below_step (by repeat (first|(with_reducible first|exact HB.out|apply below_alloc|apply pw_below_drewN|apply below_drew1|refine below_set ?_ GE385.out)|exact HB.out)) hb);have n2_:=Aside0.mk (hbox);have n3_:=Aside0.mk ((by rw [hg];exact (below_size (by repeat (first|(with_reducible first|exact HB.out|apply below_alloc|apply pw_below_drewN|apply below_drew1|refine below_set ?_ GE385.out)|exact HB.out))) : w.heap.size≤gb386));have n4_:=Aside0.mk ((by rw [hg];exact (below_size (by repeat (first|(with_reducible first|exact HB.out|apply below_alloc|apply pw_below_drewN|apply below_drew1|refine below_set ?_ GE385.out)|exact HB.out))) : w.heap.size≤gb386));have n5_:=Aside0.mk ((by rw [hg];exact Nat.ne_of_lt (blk_lt (g:=gb385) (o:=.cells #[.int .i64 a1_0,.string a1_1] 40 (0,0)) (by (with_reducible repeat (first|refine blk_drewN ?_ _|refine blk_drew ?_|refine blk_alloc ?_ _));exact BK385.out)) : gb385≠gb386));have n6_:=Aside0.mk ((by rw [hg];exact Nat.ne_of_gt (blk_lt (g:=gb385) (o:=.cells #[.int .i64 a1_0,.string a1_1] 40 (0,0)) (by (with_reducible repeat (first|refine blk_drewN ?_ _|refine blk_drew ?_|refine blk_alloc ?_ _));exact BK385.out)) : gb386≠gb385));clear BK385;clear HB;have BK385:=n0_;have HB:=n1_;have BK386:=n2_;have GW386:=n3_;have GE386:=n4_;have NB385_386:=n5_;have NB386_385:=n6_;clear n0_ n1_ n2_ n3_ n4_ n5_ n6_;clear hb hbox hg)|((with_reducible refine gate_dst (N:=6) rfl ?_);refine box_event ?hg (N:=6) ?hd (cs:=#[.int .i64 0,.string (⟨#[]⟩ : ByteArray)]) (t:=40) ?hr ?_;(case hd=>rfl);(case hg=>rfl);(case hr=>first|(go_simp;done)|(go_simp;rfl));intro gb387 hg w32 hbox hb;have n0_:=Aside0.mk (blk_below (g:=gb385) (o:=.cells #[.int .i64 a1_0,.string a1_1] 40 (0,0)) (by (with_reducible repeat (first|refine blk_drewN ?_ _|refine blk_drew ?_|refine blk_alloc ?_ _));exact BK385.out) hb);have n1_:=Aside0.mk (blk_below (g:=gb386) (o:=.cells #[.int .i64 a2_0,.string a2_1] 40 (0,0)) (by (with_reducible repeat (first|refine blk_drewN ?_ _|refine blk_drew ?_|refine blk_alloc ?_ _));exact BK386.out) hb);have n2_:=Aside0.mk (below_step (by repeat (first|(with_reducible first|exact HB.out|apply below_alloc|apply pw_below_drewN|apply below_drew1|refine below_set ?_ GE385.out|refine below_set ?_ GE386.out)|exact HB.out)) hb);have n3_:=Aside0.mk (hbox);have n4_:=Aside0.mk ((by rw [hg];exact (below_size (by repeat (first|(with_reducible first|exact HB.out|apply below_alloc|apply pw_below_drewN|apply below_drew1|refine below_set ?_ GE385.out|refine below_set ?_ GE386.out)|exact HB.out))) : w.heap.size≤gb387));have n5_:=Aside0.mk ((by rw [hg];exact (below_size (by repeat (first|(with_reducible first|exact HB.out|apply below_alloc|apply pw_below_drewN|apply below_drew1|refine below_set ?_ GE385.out|refine below_set ?_ GE386.out)|exact HB.out))) : w.heap.size≤gb387));have n6_:=Aside0.mk ((by rw [hg];exact Nat.ne_of_lt (blk_lt (g:=gb385) (o:=.cells #[.int .i64 a1_0,.string a1_1] 40 (0,0)) (by (with_reducible repeat (first|refine blk_drewN ?_ _|refine blk_drew ?_|refine blk_alloc ?_ _));exact BK385.out)) : gb385≠gb387));have n7_:=Aside0.mk ((by rw [hg];exact Nat.ne_of_gt (blk_lt (g:=gb385) (o:=.cells #[.int .i64 a1_0,.string a1_1] 40 (0,0)) (by (with_reducible repeat (first|refine blk_drewN ?_ _|refine blk_drew ?_|refine blk_alloc ?_ _));exact BK385.out)) : gb387≠gb385));have n8_:=Aside0.mk ((by rw [hg];exact Nat.ne_of_lt (blk_lt (g:=gb386) (o:=.cells #[.int .i64 a2_0,.string a2_1] 40 (0,0)) (by (with_reducible repeat (first|refine blk_drewN ?_ _|refine blk_drew ?_|refine blk_alloc ?_ _));exact BK386.out)) : gb386≠gb387));have n9_:=Aside0.mk ((by rw [hg];exact Nat.ne_of_gt (blk_lt (g:=gb386) (o:=.cells #[.int .i64 a2_0,.string a2_1] 40 (0,0)) (by (with_reducible repeat (first|refine blk_drewN ?_ _|refine blk_drew ?_|refine blk_alloc ?_ _));exact BK386.out)) : gb387≠gb386));clear BK385;clear BK386;clear HB;have BK385:=n0_;have BK386:=n1_;have HB:=n2_;have BK387:=n3_;have GW387:=n4_;have GE387:=n5_;have NB385_387:=n6_;have NB387_385:=n7_;have NB386_387:=n8_;have NB387_386:=n9_;clear n0_ n1_ n2_ n3_ n4_ n5_ n6_ n7_ n8_ n9_;clear hb hbox hg;have hnb33:=NB385_386.out;have hnc33:=NB386_385.out;have hnb34:=NB385_387.out;have hnc34:=NB387_385.out;have hcz35_0 : w32.cell? ⟨gb385,0,none⟩=some (.int .i64 a1_0):=(blk_cell BK385.out 0).trans rfl;have hcz35_1 : w32.cell? ⟨gb385,1,none⟩=some (.string a1_1):=(blk_cell BK385.out 1).trans rfl;have hfz35_0:=blk_frozen BK385.out 0;have hfz35_1:=blk_frozen BK385.out 1;have hnb36:=NB386_387.out;have hnc36:=NB387_386.out;have hcz37_0 : w32.cell? ⟨gb386,0,none⟩=some (.int .i64 a2_0):=(blk_cell BK386.out 0).trans rfl;have hcz37_1 : w32.cell? ⟨gb386,1,none⟩=some (.string a2_1):=(blk_cell BK386.out 1).trans rfl;have hfz37_0:=blk_frozen BK386.out 0;have hfz37_1:=blk_frozen BK386.out 1)|((with_reducible refine gate_callee (f:=33) rfl ?_);refine goesL_ (some 11) rfl rfl Try.func33 (by kernel_rfl) rfl #[.int .i64 a0,.agg #[.int .i64 a1_0,.string a1_1],.agg #[.int .i64 a2_0,.string a2_1]] rfl (by (try simp only [List.map_toArray,List.map_cons,List.map_nil]);first|done|rfl|(simp only [List.length_drop,List.length_take];rfl)) ?_;(with_reducible refine (thresherref03_both.calls k a0 a1_0 a1_1 a2_0 a2_1 false _ A4.out).mono ?_);rintro e w38 ⟨rfl,hb⟩;refine ⟨_,rfl,?_⟩;have n0_:=Aside0.mk (blk_below (g:=gb385) (o:=.cells #[.int .i64 a1_0,.string a1_1] 40 (0,0)) (by (with_reducible repeat (first|refine blk_drewN ?_ _|refine blk_drew ?_|refine blk_alloc ?_ _));exact BK385.out) hb);have n1_:=Aside0.mk (blk_below (g:=gb386) (o:=.cells #[.int .i64 a2_0,.string a2_1] 40 (0,0)) (by (with_reducible repeat (first|refine blk_drewN ?_ _|refine blk_drew ?_|refine blk_alloc ?_ _));exact BK386.out) hb);have n2_:=Aside0.mk (blk_below (g:=gb387) (o:=.cells #[.int .i64 0,.string (⟨#[]⟩ : ByteArray)] 40 (0,0)) (by (with_reducible repeat (first|refine blk_drewN ?_ _|refine blk_drew ?_|refine blk_alloc ?_ _));exact BK387.out) hb);have n3_:=Aside0.mk (below_step (by repeat (first|(with_reducible first|exact HB.out|apply below_alloc|apply pw_below_drewN|apply below_drew1|refine below_set ?_ GE385.out|refine below_set ?_ GE386.out|refine below_set ?_ GE387.out)|exact HB.out)) hb);clear BK385;clear BK386;clear BK387;clear HB;have BK385:=n0_;have BK386:=n1_;have BK387:=n2_;have HB:=n3_;clear n0_ n1_ n2_ n3_;(try clear hb);(try clear hb2);(try clear hk);(try clear hi);have hcz39_0 : w38.cell? ⟨gb387,0,none⟩=some (.int .i64 0):=(blk_cell BK387.out 0).trans rfl;have hcz39_1 : w38.cell? ⟨gb387,1,none⟩=some (.string (⟨#[]⟩ : ByteArray)):=(blk_cell BK387.out 1).trans rfl;have hfz39_0:=blk_frozen BK387.out 0;have hfz39_1:=blk_frozen BK387.out 1))
  refine bodyPost_ret (results_cell_row rfl _ _ gb387 40 #[.int .i64 0,.string (⟨#[]⟩ : ByteArray)] (0,0) _ rfl (by (with_reducible repeat (first|refine blk_drewN ?_ _|refine blk_drew ?_|refine blk_alloc ?_ _));refine blk_put (cs:=#[.int .i64 0,.string (⟨#[]⟩ : ByteArray)]) ?_ 1 _ rfl;(with_reducible repeat (first|refine blk_drewN ?_ _|refine blk_drew ?_|refine blk_alloc ?_ _));refine blk_put (cs:=#[.int .i64 0,.string (⟨#[]⟩ : ByteArray)]) ?_ 0 _ rfl;(with_reducible repeat (first|refine blk_drewN ?_ _|refine blk_drew ?_|refine blk_alloc ?_ _));exact BK387.out) Try.underlying40 rfl (by kernel_rfl)) rfl ?_
  exact ⟨by first|rfl|(simp [errW_none,errW_some] <;> rfl)|(simp [*,errW_none,errW_some] <;> rfl),by repeat (first|(with_reducible first|exact HB.out|apply below_alloc|apply pw_below_drewN|apply below_drew1|refine below_set ?_ GE385.out|refine below_set ?_ GE386.out|refine below_set ?_ GE387.out)|exact HB.out)⟩

end Go.Proofs.Ytapaldcdoahfeaa.P

