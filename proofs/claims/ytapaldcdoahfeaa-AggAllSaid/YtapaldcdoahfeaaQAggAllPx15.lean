/- Texts of AggAll. Merged: Px15. -/
import Derived.Test.YtapaldcdoahfeaaQAggAllPx0
-- Written by wip/tools/myprint.py over the kit's print (a program's print; Lean checks it).
namespace Go.Proofs.Ytapaldcdoahfeaa.P
open Go.RowKit Go.Proofs.YtapaldcdoahfeaaW.PrintWords Go.Proofs.YtapaldcdoahfeaaW.PrintLast Go.Proofs.YtapaldcdoahfeaaW.PrintMore
attribute [local go_sem] max2_int min2_int max_two min_two max_three min_three max_four min_four   -- for this text's walks alone
set_option linter.unusedVariables false
set_option linter.unusedSimpArgs false

/-! ### agg_May: function 16 -/
mutual
def agg_May.l0 : Nat→List (S33)→List (S33)→Int→Int→List Int→Int→Int→Int→Option (Bool)
 | 0,_,_,_,_,_,_,_,_=>none
 | k + 1,x1,x7,x8,x9,x377000,x377001,x377002,x377003=>if x9 < x8 then (if 0≤x9 then (if x9 < (x7.length : Int) then (if ((rd_T33 x7 x9).f0) < 1 then (agg_May.j1 k x1 x7 x8 x9 true x377000 x377001 x377002 x377003 ((rd_T33 x7 x9).f0) ((rd_T33 x7 x9).f1)) else (if ((rd_T33 x7 x9).f0) > 4 then (agg_May.j1 k x1 x7 x8 x9 true x377000 x377001 x377002 x377003 ((rd_T33 x7 x9).f0) ((rd_T33 x7 x9).f1)) else (if ((rd_T33 x7 x9).f1) < 0 then (agg_May.j1 k x1 x7 x8 x9 true x377000 x377001 x377002 x377003 ((rd_T33 x7 x9).f0) ((rd_T33 x7 x9).f1)) else (agg_May.j1 k x1 x7 x8 x9 (decide (((rd_T33 x7 x9).f1) ≥ (x377000.length : Int))) x377000 x377001 x377002 x377003 ((rd_T33 x7 x9).f0) ((rd_T33 x7 x9).f1))))) else (none)) else (none)) else (some (decide ((x1.length : Int)≤16)))
def agg_May.j1 : Nat→List (S33)→List (S33)→Int→Int→Bool→List Int→Int→Int→Int→Int→Int→Option (Bool)
 | 0,_,_,_,_,_,_,_,_,_,_,_=>none
 | k + 1,x1,x7,x8,x9,x13,x377000,x377001,x377002,x377003,x379000,x379001=>if x13=true then (some false) else (if x379000=1 then (agg_May.j2 k x1 x7 x8 x9 (decide (x379001 > 0)) x377000 x377001 x377002 x377003 x379000 x379001) else (agg_May.j2 k x1 x7 x8 x9 false x377000 x377001 x377002 x377003 x379000 x379001))
def agg_May.j2 : Nat→List (S33)→List (S33)→Int→Int→Bool→List Int→Int→Int→Int→Int→Int→Option (Bool)
 | 0,_,_,_,_,_,_,_,_,_,_,_=>none
 | k + 1,x1,x7,x8,x9,x35,x377000,x377001,x377002,x377003,x379000,x379001=>if x35=true then (agg_May.j3 k x1 x7 x8 x9 x35 x377000 x377001 x377002 x377003) else (if x379000=2 then (if 0≤x379001 then (if x379001 < (x377000.length : Int) then (agg_May.j3 k x1 x7 x8 x9 ((rd x377000 x379001) == 3) x377000 x377001 x377002 x377003) else (none)) else (none)) else (agg_May.j3 k x1 x7 x8 x9 false x377000 x377001 x377002 x377003))
def agg_May.j3 : Nat→List (S33)→List (S33)→Int→Int→Bool→List Int→Int→Int→Int→Option (Bool)
 | 0,_,_,_,_,_,_,_,_,_=>none
 | k + 1,x1,x7,x8,x9,x35,x377000,x377001,x377002,x377003=>if x35=true then (some false) else (agg_May.l0 k x1 x7 x8 (wrap64 (x9 + 1)) x377000 x377001 x377002 x377003)
end
def agg_May.f (k : Nat) (l0_0 : List Int) (a0_1 : Int) (a0_2 : Int) (a0_3 : Int) (l1 : List (S33)) : Option (Bool):=agg_May.l0 k l1 l1 (l1.length : Int) 0 l0_0 a0_1 a0_2 a0_3
theorem agg_May.mono_l : ∀ k,(∀ y0 y1 y2 y3 y4 y5 y6 y7,LeO (agg_May.l0 k y0 y1 y2 y3 y4 y5 y6 y7) (agg_May.l0 (k + 1) y0 y1 y2 y3 y4 y5 y6 y7))∧(∀ y0 y1 y2 y3 y4 y5 y6 y7 y8 y9 y10,LeO (agg_May.j1 k y0 y1 y2 y3 y4 y5 y6 y7 y8 y9 y10) (agg_May.j1 (k + 1) y0 y1 y2 y3 y4 y5 y6 y7 y8 y9 y10))∧(∀ y0 y1 y2 y3 y4 y5 y6 y7 y8 y9 y10,LeO (agg_May.j2 k y0 y1 y2 y3 y4 y5 y6 y7 y8 y9 y10) (agg_May.j2 (k + 1) y0 y1 y2 y3 y4 y5 y6 y7 y8 y9 y10))∧(∀ y0 y1 y2 y3 y4 y5 y6 y7 y8,LeO (agg_May.j3 k y0 y1 y2 y3 y4 y5 y6 y7 y8) (agg_May.j3 (k + 1) y0 y1 y2 y3 y4 y5 y6 y7 y8))
 | 0=>⟨fun _ _ _ _ _ _ _ _ r h=>by simp [agg_May.l0] at h,fun _ _ _ _ _ _ _ _ _ _ _ r h=>by simp [agg_May.j1] at h,fun _ _ _ _ _ _ _ _ _ _ _ r h=>by simp [agg_May.j2] at h,fun _ _ _ _ _ _ _ _ _ r h=>by simp [agg_May.j3] at h⟩
 | k + 1=>by
  obtain ⟨ih0,ih1,ih2,ih3⟩:=agg_May.mono_l k
  refine ⟨?_,?_,?_,?_⟩
  ·intro y0 y1 y2 y3 y4 y5 y6 y7
   unfold agg_May.l0
   repeat' first
   | (with_reducible exact ih0 _ _ _ _ _ _ _ _)
   | (with_reducible exact ih1 _ _ _ _ _ _ _ _ _ _ _)
   | (with_reducible exact ih2 _ _ _ _ _ _ _ _ _ _ _)
   | (with_reducible exact ih3 _ _ _ _ _ _ _ _ _)
   | (with_reducible exact LeO.refl _)
   | (with_reducible exact LeO.none _)
   | (with_reducible refine LeO.ite ?_ ?_)
   | (with_reducible refine LeO.bind ?_ (fun _=>?_))
   | exact ih0 _ _ _ _ _ _ _ _
   | exact ih1 _ _ _ _ _ _ _ _ _ _ _
   | exact ih2 _ _ _ _ _ _ _ _ _ _ _
   | exact ih3 _ _ _ _ _ _ _ _ _
   | exact LeO.none _
   | refine LeO.ite ?_ ?_
   | refine LeO.bind ?_ (fun _=>?_)
  ·intro y0 y1 y2 y3 y4 y5 y6 y7 y8 y9 y10
   unfold agg_May.j1
   repeat' first
   | (with_reducible exact ih0 _ _ _ _ _ _ _ _)
   | (with_reducible exact ih1 _ _ _ _ _ _ _ _ _ _ _)
   | (with_reducible exact ih2 _ _ _ _ _ _ _ _ _ _ _)
   | (with_reducible exact ih3 _ _ _ _ _ _ _ _ _)
   | (with_reducible exact LeO.refl _)
   | (with_reducible exact LeO.none _)
   | (with_reducible refine LeO.ite ?_ ?_)
   | (with_reducible refine LeO.bind ?_ (fun _=>?_))
   | exact ih0 _ _ _ _ _ _ _ _
   | exact ih1 _ _ _ _ _ _ _ _ _ _ _
   | exact ih2 _ _ _ _ _ _ _ _ _ _ _
   | exact ih3 _ _ _ _ _ _ _ _ _
   | exact LeO.none _
   | refine LeO.ite ?_ ?_
   | refine LeO.bind ?_ (fun _=>?_)
  ·intro y0 y1 y2 y3 y4 y5 y6 y7 y8 y9 y10
   unfold agg_May.j2
   repeat' first
   | (with_reducible exact ih0 _ _ _ _ _ _ _ _)
   | (with_reducible exact ih1 _ _ _ _ _ _ _ _ _ _ _)
   | (with_reducible exact ih2 _ _ _ _ _ _ _ _ _ _ _)
   | (with_reducible exact ih3 _ _ _ _ _ _ _ _ _)
   | (with_reducible exact LeO.refl _)
   | (with_reducible exact LeO.none _)
   | (with_reducible refine LeO.ite ?_ ?_)
   | (with_reducible refine LeO.bind ?_ (fun _=>?_))
   | exact ih0 _ _ _ _ _ _ _ _
   | exact ih1 _ _ _ _ _ _ _ _ _ _ _
   | exact ih2 _ _ _ _ _ _ _ _ _ _ _
   | exact ih3 _ _ _ _ _ _ _ _ _
   | exact LeO.none _
   | refine LeO.ite ?_ ?_
   | refine LeO.bind ?_ (fun _=>?_)
  ·intro y0 y1 y2 y3 y4 y5 y6 y7 y8
   unfold agg_May.j3
   repeat' first
   | (with_reducible exact ih0 _ _ _ _ _ _ _ _)
   | (with_reducible exact ih1 _ _ _ _ _ _ _ _ _ _ _)
   | (with_reducible exact ih2 _ _ _ _ _ _ _ _ _ _ _)
   | (with_reducible exact ih3 _ _ _ _ _ _ _ _ _)
   | (with_reducible exact LeO.refl _)
   | (with_reducible exact LeO.none _)
   | (with_reducible refine LeO.ite ?_ ?_)
   | (with_reducible refine LeO.bind ?_ (fun _=>?_))
   | exact ih0 _ _ _ _ _ _ _ _
   | exact ih1 _ _ _ _ _ _ _ _ _ _ _
   | exact ih2 _ _ _ _ _ _ _ _ _ _ _
   | exact ih3 _ _ _ _ _ _ _ _ _
   | exact LeO.none _
   | refine LeO.ite ?_ ?_
   | refine LeO.bind ?_ (fun _=>?_)
theorem agg_May.mono : ∀ a0 a1 a2 a3 a4 k,LeO (agg_May.f k a0 a1 a2 a3 a4) (agg_May.f (k + 1) a0 a1 a2 a3 a4):=by
 intro a0 a1 a2 a3 a4 k
 obtain ⟨ih0,ih1,ih2,ih3⟩:=agg_May.mono_l k
 unfold agg_May.f
 repeat' first
   | (with_reducible exact ih0 _ _ _ _ _ _ _ _)
   | (with_reducible exact ih1 _ _ _ _ _ _ _ _ _ _ _)
   | (with_reducible exact ih2 _ _ _ _ _ _ _ _ _ _ _)
   | (with_reducible exact ih3 _ _ _ _ _ _ _ _ _)
   | (with_reducible exact LeO.refl _)
   | (with_reducible exact LeO.none _)
   | (with_reducible refine LeO.ite ?_ ?_)
   | (with_reducible refine LeO.bind ?_ (fun _=>?_))
   | exact ih0 _ _ _ _ _ _ _ _
   | exact ih1 _ _ _ _ _ _ _ _ _ _ _
   | exact ih2 _ _ _ _ _ _ _ _ _ _ _
   | exact ih3 _ _ _ _ _ _ _ _ _
   | exact LeO.none _
   | refine LeO.ite ?_ ?_
   | refine LeO.bind ?_ (fun _=>?_)
set_option maxHeartbeats 8000000 in
set_option maxRecDepth 100000 in
theorem agg_May.calls (k : Nat) (A0_0 : Option Addr) (c0_0 : Nat) (l0_0 : List Int) (a0_1 : Int) (a0_2 : Int) (a0_3 : Int) (A1 : Option Addr) (c1 : Nat) (l1 : List (S33)) (r : Bool) (w : World) (hr0_0 : Kd.C (Kd.int .i64) w A0_0 l0_0.length l0_0) (hc0_0 : l0_0.length≤c0_0) (hr1 : Kd.C k33 w A1 l1.length l1) (hc1 : l1.length≤c1) (h : agg_May.f k l0_0 a0_1 a0_2 a0_3 l1=some r) :
  Calls Try.prog 16 #[.agg #[.slice A0_0 l0_0.length c0_0,.int .i64 a0_1,.int .i64 a0_2,.int .i64 a0_3],.slice A1 l1.length c1] w fun e w'=>e=.returned (.bool r)∧Below w.heap.size w w':=by
 have hu29:=Try.underlying29
 have hu33:=Try.underlying33
 have HR0_0:=Aside0.mk hr0_0
 have HC0_0:=Aside0.mk hc0_0
 clear hr0_0 hc0_0
 have HR1:=Aside0.mk hr1
 have HC1:=Aside0.mk hc1
 clear hr1 hc1
 have HB:=Aside0.mk (Below.refl w.heap.size w)
 have H : (agg_May.l0 k l1 l1 (l1.length : Int) 0 l0_0 a0_1 a0_2 a0_3)=some r:=h
 clear h
 have H':=Aside0.mk H
 clear H
 go_enter Try.func16,Try.ntmps16
 go_wp2_with (first|((with_reducible refine gate_dst (N:=2) rfl ?_);(try (refine gate_guard (by rfl) ?_;dsimp only));refine box_event ?hg (N:=2) ?hd (cs:=#[.slice A0_0 l0_0.length c0_0,.int .i64 a0_1,.int .i64 a0_2,.int .i64 a0_3]) (t:=29) ?hr ?_;(case hd=>rfl);(case hg=>rfl);(case hr=>first|(go_simp;done)|(go_simp;rfl));intro gb376 hg w3 hbox hb;have n0_:=Aside0.mk (below_step (by repeat (first|(with_reducible first|exact HB.out|apply below_alloc|apply pw_below_drewN|apply below_drew1)|exact HB.out)) hb);have n1_:=Aside0.mk (hbox);have n2_:=Aside0.mk ((by rw [hg];exact (below_size (by repeat (first|(with_reducible first|exact HB.out|apply below_alloc|apply pw_below_drewN|apply below_drew1)|exact HB.out))) : w.heap.size≤gb376));have n3_:=Aside0.mk ((by rw [hg];exact (below_size (by repeat (first|(with_reducible first|exact HB.out|apply below_alloc|apply pw_below_drewN|apply below_drew1)|exact HB.out))) : w.heap.size≤gb376));clear HB;have HB:=n0_;have BK376:=n1_;have GW376:=n2_;have GE376:=n3_;clear n0_ n1_ n2_ n3_;clear hb hbox hg))
 go_loopg [9] k (fun kq v9 w'=>∃ (x9_1 : Int),v9=.int .i64 x9_1∧Aside0 (agg_May.l0 kq l1 l1 (l1.length : Int) x9_1 l0_0 a0_1 a0_2 a0_3=some r)∧Aside0 (kq≤k)∧Aside0 (w'.heap[gb376]?=some (.cells #[(.slice A0_0 l0_0.length c0_0),.int .i64 a0_1,.int .i64 a0_2,.int .i64 a0_3] 29 (0,0)))∧Aside0 (Below w.heap.size w w'))
 case atStart=>exact ⟨(0),(by first|rfl|(simp;done)|(simp [*];done)),H',⟨Nat.le_refl _⟩,⟨by (with_reducible repeat (first|refine blk_drewN ?_ _|refine blk_drew ?_|refine blk_alloc ?_ _));exact BK376.out⟩,⟨by repeat (first|(with_reducible first|exact HB.out|apply below_alloc|apply pw_below_drewN|apply below_drew1|refine below_set ?_ GE376.out)|exact HB.out)⟩⟩
 case round =>
  clear H'
  try clear c1
  try clear p2
  obtain ⟨x9_1,rfl,HA,HK1,BK376,HB⟩:=hrel
  cases gk with
  | zero=>exact absurd HA.out (by simp [agg_May.l0])
  | succ k1 =>
   have H:=HA.out
   clear HA
   simp only [agg_May.l0] at H
   by_cases c4 : x9_1 < (l1.length : Int)
   ·rw [if_pos c4] at H
    have c4b0 : decide (x9_1 < (l1.length : Int))=true:=decide_eq_true c4
    clear c4
    by_cases c5 : 0≤x9_1
    ·rw [if_pos c5] at H
     have c5b0 : decide (0≤x9_1)=true:=decide_eq_true c5
     clear c5
     by_cases c6 : x9_1 < (l1.length : Int)
     ·rw [if_pos c6] at H
      have c6b0 : decide (x9_1 < (l1.length : Int))=true:=decide_eq_true c6
      clear c6
      have HC7:=Aside0.mk H
      clear H
      have p377 : 0≤(x9_1 : Int):=of_decide_eq_true (by first|(with_reducible assumption)|assumption)
      have q377 : x9_1 < (l1.length : Int):=of_decide_eq_true (by first|(with_reducible assumption)|assumption)
      obtain ⟨ad377,e377,hx377_0,hx377_1⟩:=at_T33 HR1.out x9_1 p377 q377
      cases e377
      replace hx377_0:=(HB.out.cell (World.block_lt_of_cell? w _ hx377_0)).trans hx377_0
      replace hx377_1:=(HB.out.cell (World.block_lt_of_cell? w _ hx377_1)).trans hx377_1
      replace p377:=eq_true p377
      replace q377:=eq_true q377
      go_upto_region 4 with (first|((with_reducible refine gate_dst (N:=6) rfl ?_);(try (refine gate_guard (by rfl) ?_;dsimp only));refine box_event ?hg (N:=6) ?hd (cs:=#[.int .i64 0,.int .i64 0]) (t:=33) ?hr ?_;(case hd=>rfl);(case hg=>rfl);(case hr=>first|(go_simp;done)|(go_simp;rfl));intro gb378 hg w8 hbox hb;have n0_:=Aside0.mk (blk_below (g:=gb376) (o:=.cells #[.slice A0_0 l0_0.length c0_0,.int .i64 a0_1,.int .i64 a0_2,.int .i64 a0_3] 29 (0,0)) (by (with_reducible repeat (first|refine blk_drewN ?_ _|refine blk_drew ?_|refine blk_alloc ?_ _));exact BK376.out) hb);have n1_:=Aside0.mk (below_step (by repeat (first|(with_reducible first|exact HB.out|apply below_alloc|apply pw_below_drewN|apply below_drew1|refine below_set ?_ GE376.out)|exact HB.out)) hb);have n2_:=Aside0.mk (hbox);have n3_:=Aside0.mk ((by rw [hg];exact (below_size (by repeat (first|(with_reducible first|exact HB.out|apply below_alloc|apply pw_below_drewN|apply below_drew1|refine below_set ?_ GE376.out)|exact HB.out))) : w.heap.size≤gb378));have n4_:=Aside0.mk ((by rw [hg];exact (below_size (by repeat (first|(with_reducible first|exact HB.out|apply below_alloc|apply pw_below_drewN|apply below_drew1|refine below_set ?_ GE376.out)|exact HB.out))) : w.heap.size≤gb378));have n5_:=Aside0.mk ((by rw [hg];exact Nat.ne_of_lt (blk_lt (g:=gb376) (o:=.cells #[.slice A0_0 l0_0.length c0_0,.int .i64 a0_1,.int .i64 a0_2,.int .i64 a0_3] 29 (0,0)) (by (with_reducible repeat (first|refine blk_drewN ?_ _|refine blk_drew ?_|refine blk_alloc ?_ _));exact BK376.out)) : gb376≠gb378));have n6_:=Aside0.mk ((by rw [hg];exact Nat.ne_of_gt (blk_lt (g:=gb376) (o:=.cells #[.slice A0_0 l0_0.length c0_0,.int .i64 a0_1,.int .i64 a0_2,.int .i64 a0_3] 29 (0,0)) (by (with_reducible repeat (first|refine blk_drewN ?_ _|refine blk_drew ?_|refine blk_alloc ?_ _));exact BK376.out)) : gb378≠gb376));clear BK376;clear HB;have BK376:=n0_;have HB:=n1_;have BK378:=n2_;have GW378:=n3_;have GE378:=n4_;have NB376_378:=n5_;have NB378_376:=n6_;clear n0_ n1_ n2_ n3_ n4_ n5_ n6_;clear hb hbox hg;have hnb9:=NB378_376.out;have hnc9:=NB376_378.out;have hcz10_0 : w8.cell? ⟨gb378,0,none⟩=some (.int .i64 0):=(blk_cell BK378.out 0).trans rfl;have hcz10_1 : w8.cell? ⟨gb378,1,none⟩=some (.int .i64 0):=(blk_cell BK378.out 1).trans rfl;have hfz10_0:=blk_frozen BK378.out 0;have hfz10_1:=blk_frozen BK378.out 1))
      (try simp only [Act.put,List.setIfInBounds_toArray,List.set_cons_zero,List.set_cons_succ])
      go_cut [13] (fun v13 wc=>∃ (kq : Nat) (x13_6 : Bool),v13=.bool x13_6∧Aside0 (agg_May.j1 kq l1 l1 (l1.length : Int) x9_1 x13_6 l0_0 a0_1 a0_2 a0_3 ((rd_T33 l1 x9_1).f0) ((rd_T33 l1 x9_1).f1)=some r)∧Aside0 (kq≤k1)∧Aside0 (wc.heap[gb376]?=some (.cells #[(.slice A0_0 l0_0.length c0_0),.int .i64 a0_1,.int .i64 a0_2,.int .i64 a0_3] 29 (0,0)))∧Aside0 (wc.heap[gb378]?=some (.cells #[.int .i64 ((rd_T33 l1 x9_1).f0),.int .i64 ((rd_T33 l1 x9_1).f1)] 33 (0,0)))∧Aside0 (Below w.heap.size w wc))
      case first =>
       have H:=HC7.out
       clear HC7
       by_cases c11 : ((rd_T33 l1 x9_1).f0) < 1
       ·rw [if_pos c11] at H
        have c11b0 : decide (((rd_T33 l1 x9_1).f0) < 1)=true:=decide_eq_true c11
        clear c11
        (first|rw [c11b0]|(simp only [i64_w,i32_w];rw [c11b0])|skip)
        have H':=Aside0.mk H
        clear H
        have hnb12:=NB378_376.out
        have hnc12:=NB376_378.out
        have hcz13_0 : w8.cell? ⟨gb378,0,none⟩=some (.int .i64 0):=(blk_cell BK378.out 0).trans rfl
        have hcz13_1 : w8.cell? ⟨gb378,1,none⟩=some (.int .i64 0):=(blk_cell BK378.out 1).trans rfl
        have hfz13_0:=blk_frozen BK378.out 0
        have hfz13_1:=blk_frozen BK378.out 1
        go_wp2
        go_meet
        case rel=>exact ⟨_,(true),(by first|rfl|(simp;done)|(simp [*];done)),(by first|exact H'|(subst_vars;exact H')),⟨by have:=HK1.out;first|omega|exact Nat.le_refl _⟩,⟨by (with_reducible repeat (first|refine blk_drewN ?_ _|refine blk_drew ?_|refine blk_alloc ?_ _));refine blk_far ?_ NB376_378.out _;(with_reducible repeat (first|refine blk_drewN ?_ _|refine blk_drew ?_|refine blk_alloc ?_ _));refine blk_far ?_ NB376_378.out _;(with_reducible repeat (first|refine blk_drewN ?_ _|refine blk_drew ?_|refine blk_alloc ?_ _));exact BK376.out⟩,⟨by (with_reducible repeat (first|refine blk_drewN ?_ _|refine blk_drew ?_|refine blk_alloc ?_ _));refine blk_put (cs:=#[.int .i64 ((rd_T33 l1 x9_1).f0),.int .i64 0]) ?_ 1 _ rfl;(with_reducible repeat (first|refine blk_drewN ?_ _|refine blk_drew ?_|refine blk_alloc ?_ _));refine blk_put (cs:=#[.int .i64 0,.int .i64 0]) ?_ 0 _ rfl;(with_reducible repeat (first|refine blk_drewN ?_ _|refine blk_drew ?_|refine blk_alloc ?_ _));exact BK378.out⟩,⟨by repeat (first|(with_reducible first|exact HB.out|apply below_alloc|apply pw_below_drewN|apply below_drew1|refine below_set ?_ GE376.out|refine below_set ?_ GE378.out)|exact HB.out)⟩⟩
       ·rw [if_neg c11] at H
        have c11b0 : decide (((rd_T33 l1 x9_1).f0) < 1)=false:=decide_eq_false c11
        clear c11
        (first|rw [c11b0]|(simp only [i64_w,i32_w];rw [c11b0])|skip)
        by_cases c14 : ((rd_T33 l1 x9_1).f0) > 4
        ·rw [if_pos c14] at H
         have c14b0 : decide (4 < ((rd_T33 l1 x9_1).f0))=true:=decide_eq_true c14
         clear c14
         have H':=Aside0.mk H
         clear H
         have hnb15:=NB378_376.out
         have hnc15:=NB376_378.out
         have hcz16_0 : w8.cell? ⟨gb378,0,none⟩=some (.int .i64 0):=(blk_cell BK378.out 0).trans rfl
         have hcz16_1 : w8.cell? ⟨gb378,1,none⟩=some (.int .i64 0):=(blk_cell BK378.out 1).trans rfl
         have hfz16_0:=blk_frozen BK378.out 0
         have hfz16_1:=blk_frozen BK378.out 1
         go_wp2
         go_meet
         case rel=>exact ⟨_,(true),(by first|rfl|(simp;done)|(simp [*];done)),(by first|exact H'|(subst_vars;exact H')),⟨by have:=HK1.out;first|omega|exact Nat.le_refl _⟩,⟨by (with_reducible repeat (first|refine blk_drewN ?_ _|refine blk_drew ?_|refine blk_alloc ?_ _));refine blk_far ?_ NB376_378.out _;(with_reducible repeat (first|refine blk_drewN ?_ _|refine blk_drew ?_|refine blk_alloc ?_ _));refine blk_far ?_ NB376_378.out _;(with_reducible repeat (first|refine blk_drewN ?_ _|refine blk_drew ?_|refine blk_alloc ?_ _));exact BK376.out⟩,⟨by (with_reducible repeat (first|refine blk_drewN ?_ _|refine blk_drew ?_|refine blk_alloc ?_ _));refine blk_put (cs:=#[.int .i64 ((rd_T33 l1 x9_1).f0),.int .i64 0]) ?_ 1 _ rfl;(with_reducible repeat (first|refine blk_drewN ?_ _|refine blk_drew ?_|refine blk_alloc ?_ _));refine blk_put (cs:=#[.int .i64 0,.int .i64 0]) ?_ 0 _ rfl;(with_reducible repeat (first|refine blk_drewN ?_ _|refine blk_drew ?_|refine blk_alloc ?_ _));exact BK378.out⟩,⟨by repeat (first|(with_reducible first|exact HB.out|apply below_alloc|apply pw_below_drewN|apply below_drew1|refine below_set ?_ GE376.out|refine below_set ?_ GE378.out)|exact HB.out)⟩⟩
        ·rw [if_neg c14] at H
         have c14b0 : decide (4 < ((rd_T33 l1 x9_1).f0))=false:=decide_eq_false c14
         clear c14
         by_cases c17 : ((rd_T33 l1 x9_1).f1) < 0
         ·rw [if_pos c17] at H
          have c17b0 : decide (((rd_T33 l1 x9_1).f1) < 0)=true:=decide_eq_true c17
          clear c17
          have H':=Aside0.mk H
          clear H
          have hnb18:=NB378_376.out
          have hnc18:=NB376_378.out
          have hcz19_0 : w8.cell? ⟨gb378,0,none⟩=some (.int .i64 0):=(blk_cell BK378.out 0).trans rfl
          have hcz19_1 : w8.cell? ⟨gb378,1,none⟩=some (.int .i64 0):=(blk_cell BK378.out 1).trans rfl
          have hfz19_0:=blk_frozen BK378.out 0
          have hfz19_1:=blk_frozen BK378.out 1
          go_wp2
          go_meet
          case rel=>exact ⟨_,(true),(by first|rfl|(simp;done)|(simp [*];done)),(by first|exact H'|(subst_vars;exact H')),⟨by have:=HK1.out;first|omega|exact Nat.le_refl _⟩,⟨by (with_reducible repeat (first|refine blk_drewN ?_ _|refine blk_drew ?_|refine blk_alloc ?_ _));refine blk_far ?_ NB376_378.out _;(with_reducible repeat (first|refine blk_drewN ?_ _|refine blk_drew ?_|refine blk_alloc ?_ _));refine blk_far ?_ NB376_378.out _;(with_reducible repeat (first|refine blk_drewN ?_ _|refine blk_drew ?_|refine blk_alloc ?_ _));exact BK376.out⟩,⟨by (with_reducible repeat (first|refine blk_drewN ?_ _|refine blk_drew ?_|refine blk_alloc ?_ _));refine blk_put (cs:=#[.int .i64 ((rd_T33 l1 x9_1).f0),.int .i64 0]) ?_ 1 _ rfl;(with_reducible repeat (first|refine blk_drewN ?_ _|refine blk_drew ?_|refine blk_alloc ?_ _));refine blk_put (cs:=#[.int .i64 0,.int .i64 0]) ?_ 0 _ rfl;(with_reducible repeat (first|refine blk_drewN ?_ _|refine blk_drew ?_|refine blk_alloc ?_ _));exact BK378.out⟩,⟨by repeat (first|(with_reducible first|exact HB.out|apply below_alloc|apply pw_below_drewN|apply below_drew1|refine below_set ?_ GE376.out|refine below_set ?_ GE378.out)|exact HB.out)⟩⟩
         ·rw [if_neg c17] at H
          have c17b0 : decide (((rd_T33 l1 x9_1).f1) < 0)=false:=decide_eq_false c17
          clear c17
          have H':=Aside0.mk H
          clear H
          have hnb20:=NB378_376.out
          have hnc20:=NB376_378.out
          have hcz21_0 : w8.cell? ⟨gb378,0,none⟩=some (.int .i64 0):=(blk_cell BK378.out 0).trans rfl
          have hcz21_1 : w8.cell? ⟨gb378,1,none⟩=some (.int .i64 0):=(blk_cell BK378.out 1).trans rfl
          have hfz21_0:=blk_frozen BK378.out 0
          have hfz21_1:=blk_frozen BK378.out 1
          have hcz22_0 : w8.cell? ⟨gb376,0,none⟩=some (.slice A0_0 l0_0.length c0_0):=(blk_cell BK376.out 0).trans rfl
          have hcz22_1 : w8.cell? ⟨gb376,1,none⟩=some (.int .i64 a0_1):=(blk_cell BK376.out 1).trans rfl
          have hcz22_2 : w8.cell? ⟨gb376,2,none⟩=some (.int .i64 a0_2):=(blk_cell BK376.out 2).trans rfl
          have hcz22_3 : w8.cell? ⟨gb376,3,none⟩=some (.int .i64 a0_3):=(blk_cell BK376.out 3).trans rfl
          have hfz22_0:=blk_frozen BK376.out 0
          have hfz22_1:=blk_frozen BK376.out 1
          have hfz22_2:=blk_frozen BK376.out 2
          have hfz22_3:=blk_frozen BK376.out 3
          go_wp2
          go_meet
          case rel=>exact ⟨_,(decide (((rd_T33 l1 x9_1).f1) ≥ (l0_0.length : Int))),(by first|rfl|(simp;done)|(simp [*];done)),(by first|exact H'|(subst_vars;exact H')),⟨by have:=HK1.out;first|omega|exact Nat.le_refl _⟩,⟨by (with_reducible repeat (first|refine blk_drewN ?_ _|refine blk_drew ?_|refine blk_alloc ?_ _));refine blk_far ?_ NB376_378.out _;(with_reducible repeat (first|refine blk_drewN ?_ _|refine blk_drew ?_|refine blk_alloc ?_ _));refine blk_far ?_ NB376_378.out _;(with_reducible repeat (first|refine blk_drewN ?_ _|refine blk_drew ?_|refine blk_alloc ?_ _));exact BK376.out⟩,⟨by (with_reducible repeat (first|refine blk_drewN ?_ _|refine blk_drew ?_|refine blk_alloc ?_ _));refine blk_put (cs:=#[.int .i64 ((rd_T33 l1 x9_1).f0),.int .i64 0]) ?_ 1 _ rfl;(with_reducible repeat (first|refine blk_drewN ?_ _|refine blk_drew ?_|refine blk_alloc ?_ _));refine blk_put (cs:=#[.int .i64 0,.int .i64 0]) ?_ 0 _ rfl;(with_reducible repeat (first|refine blk_drewN ?_ _|refine blk_drew ?_|refine blk_alloc ?_ _));exact BK378.out⟩,⟨by repeat (first|(with_reducible first|exact HB.out|apply below_alloc|apply pw_below_drewN|apply below_drew1|refine below_set ?_ GE376.out|refine below_set ?_ GE378.out)|exact HB.out)⟩⟩
      case rest =>
       clear HC7
       try clear c1
       try clear c2
       try clear p2
       try clear p3
       try clear q3
       try clear hx3
       try clear c4
       try clear c4b0
       try clear c5
       try clear c5b0
       try clear c6
       try clear c6b0
       try clear c9
       try clear c11
       try clear c11b0
       try clear c12
       try clear c14
       try clear c14b0
       try clear c15
       try clear c16
       try clear c17
       try clear c17b0
       try clear c18
       try clear c20
       try clear hcz10_0
       try clear hcz10_1
       try clear hcz13_0
       try clear hcz13_1
       try clear hcz16_0
       try clear hcz16_1
       try clear hcz19_0
       try clear hcz19_1
       try clear hcz21_0
       try clear hcz21_1
       try clear hcz22_0
       try clear hcz22_1
       try clear hcz22_2
       try clear hcz22_3
       try clear hfz10_0
       try clear hfz10_1
       try clear hfz13_0
       try clear hfz13_1
       try clear hfz16_0
       try clear hfz16_1
       try clear hfz19_0
       try clear hfz19_1
       try clear hfz21_0
       try clear hfz21_1
       try clear hfz22_0
       try clear hfz22_1
       try clear hfz22_2
       try clear hfz22_3
       try clear hx377_0
       try clear hx377_1
       try clear p2
       try clear p377
       try clear q377
       obtain ⟨kq,x13_6,rfl,HA,HJ6,BK376,BK378,HB⟩:=hcut
       cases kq with
       | zero=>exact absurd HA.out (by simp [agg_May.j1])
       | succ kj6 =>
        have H:=HA.out
        clear HA
        simp only [agg_May.j1] at H
        by_cases c23 : x13_6=true
        ·subst c23
         have H1 : (some false)=some r:=by rw [if_pos rfl] at H;exact H
         clear H
         have H:=H1
         clear H1
         obtain rfl:=Option.some.inj H
         go_wp2
         go_ret
         exact ⟨by first|rfl|(simp [errW_none,errW_some] <;> rfl)|(simp [*,errW_none,errW_some] <;> rfl),by repeat (first|(with_reducible first|exact HB.out|apply below_alloc|apply pw_below_drewN|apply below_drew1|refine below_set ?_ GE376.out|refine below_set ?_ GE378.out)|exact HB.out)⟩
        ·replace c23:=Bool.eq_false_iff.mpr c23
         subst c23
         have H1 : (if ((rd_T33 l1 x9_1).f0)=1 then (agg_May.j2 kj6 l1 l1 (l1.length : Int) x9_1 (decide (((rd_T33 l1 x9_1).f1) > 0)) l0_0 a0_1 a0_2 a0_3 ((rd_T33 l1 x9_1).f0) ((rd_T33 l1 x9_1).f1)) else (agg_May.j2 kj6 l1 l1 (l1.length : Int) x9_1 false l0_0 a0_1 a0_2 a0_3 ((rd_T33 l1 x9_1).f0) ((rd_T33 l1 x9_1).f1)))=some r:=by rw [if_neg (show ¬ (false=true) by decide)] at H;exact H
         clear H
         have H:=H1
         clear H1
         have HC24:=Aside0.mk H
         clear H
         go_upto_region 6 with (fail)
         go_cut [35] (fun v35 wc=>∃ (kq : Nat) (x35_23 : Bool),v35=.bool x35_23∧Aside0 (agg_May.j2 kq l1 l1 (l1.length : Int) x9_1 x35_23 l0_0 a0_1 a0_2 a0_3 ((rd_T33 l1 x9_1).f0) ((rd_T33 l1 x9_1).f1)=some r)∧Aside0 (kq≤kj6)∧Aside0 (wc.heap[gb376]?=some (.cells #[(.slice A0_0 l0_0.length c0_0),.int .i64 a0_1,.int .i64 a0_2,.int .i64 a0_3] 29 (0,0)))∧Aside0 (wc.heap[gb378]?=some (.cells #[.int .i64 ((rd_T33 l1 x9_1).f0),.int .i64 ((rd_T33 l1 x9_1).f1)] 33 (0,0)))∧Aside0 (Below w.heap.size w wc))
         case first =>
          have H:=HC24.out
          clear HC24
          by_cases c25 : ((rd_T33 l1 x9_1).f0)=1
          ·rw [if_pos c25] at H
           have c25b0 : (((rd_T33 l1 x9_1).f0) == 1)=true:=beq_iff_eq.mpr c25
           have c25b1 : (((rd_T33 l1 x9_1).f0) != 1)=false:=bne_eq_false_iff_eq.mpr c25
           clear c25
           (first|rw [c25b0]|(simp only [i64_w,i32_w];rw [c25b0])|skip)
           have H':=Aside0.mk H
           clear H
           have hnb26:=NB378_376.out
           have hnc26:=NB376_378.out
           have hcz27_0 : wc.cell? ⟨gb378,0,none⟩=some (.int .i64 ((rd_T33 l1 x9_1).f0)):=(blk_cell BK378.out 0).trans rfl
           have hcz27_1 : wc.cell? ⟨gb378,1,none⟩=some (.int .i64 ((rd_T33 l1 x9_1).f1)):=(blk_cell BK378.out 1).trans rfl
           have hfz27_0:=blk_frozen BK378.out 0
           have hfz27_1:=blk_frozen BK378.out 1
           go_wp2
           go_meet
           case rel=>exact ⟨_,(decide (((rd_T33 l1 x9_1).f1) > 0)),(by first|rfl|(simp;done)|(simp [*];done)),(by first|exact H'|(subst_vars;exact H')),⟨by have:=HK1.out;have:=HJ6.out;first|omega|exact Nat.le_refl _⟩,⟨by (with_reducible repeat (first|refine blk_drewN ?_ _|refine blk_drew ?_|refine blk_alloc ?_ _));exact BK376.out⟩,⟨by (with_reducible repeat (first|refine blk_drewN ?_ _|refine blk_drew ?_|refine blk_alloc ?_ _));exact BK378.out⟩,⟨by repeat (first|(with_reducible first|exact HB.out|apply below_alloc|apply pw_below_drewN|apply below_drew1|refine below_set ?_ GE376.out|refine below_set ?_ GE378.out)|exact HB.out)⟩⟩
          ·rw [if_neg c25] at H
           have c25b0 : (((rd_T33 l1 x9_1).f0) == 1)=false:=beq_eq_false_iff_ne.mpr c25
           have c25b1 : (((rd_T33 l1 x9_1).f0) != 1)=true:=bne_iff_ne.mpr c25
           (first|rw [c25b0]|(simp only [i64_w,i32_w];rw [c25b0])|skip)
           have H':=Aside0.mk H
           clear H
           have hnb28:=NB378_376.out
           have hnc28:=NB376_378.out
           have hcz29_0 : wc.cell? ⟨gb378,0,none⟩=some (.int .i64 ((rd_T33 l1 x9_1).f0)):=(blk_cell BK378.out 0).trans rfl
           have hcz29_1 : wc.cell? ⟨gb378,1,none⟩=some (.int .i64 ((rd_T33 l1 x9_1).f1)):=(blk_cell BK378.out 1).trans rfl
           have hfz29_0:=blk_frozen BK378.out 0
           have hfz29_1:=blk_frozen BK378.out 1
           go_wp2
           go_meet
           case rel=>exact ⟨_,(false),(by first|rfl|(simp;done)|(simp [*];done)),(by first|exact H'|(subst_vars;exact H')),⟨by have:=HK1.out;have:=HJ6.out;first|omega|exact Nat.le_refl _⟩,⟨by (with_reducible repeat (first|refine blk_drewN ?_ _|refine blk_drew ?_|refine blk_alloc ?_ _));exact BK376.out⟩,⟨by (with_reducible repeat (first|refine blk_drewN ?_ _|refine blk_drew ?_|refine blk_alloc ?_ _));exact BK378.out⟩,⟨by repeat (first|(with_reducible first|exact HB.out|apply below_alloc|apply pw_below_drewN|apply below_drew1|refine below_set ?_ GE376.out|refine below_set ?_ GE378.out)|exact HB.out)⟩⟩
         case rest =>
          clear HC24
          try clear c1
          try clear c2
          try clear p2
          try clear p3
          try clear q3
          try clear hx3
          try clear c4
          try clear c4b0
          try clear c5
          try clear c5b0
          try clear c6
          try clear c6b0
          try clear c9
          try clear c11
          try clear c11b0
          try clear c12
          try clear c14
          try clear c14b0
          try clear c15
          try clear c16
          try clear c17
          try clear c17b0
          try clear c18
          try clear c20
          try clear c23
          try clear c25
          try clear c25b0
          try clear c25b1
          try clear c26
          try clear c28
          try clear hcz10_0
          try clear hcz10_1
          try clear hcz13_0
          try clear hcz13_1
          try clear hcz16_0
          try clear hcz16_1
          try clear hcz19_0
          try clear hcz19_1
          try clear hcz21_0
          try clear hcz21_1
          try clear hcz22_0
          try clear hcz22_1
          try clear hcz22_2
          try clear hcz22_3
          try clear hcz27_0
          try clear hcz27_1
          try clear hcz29_0
          try clear hcz29_1
          try clear hfz10_0
          try clear hfz10_1
          try clear hfz13_0
          try clear hfz13_1
          try clear hfz16_0
          try clear hfz16_1
          try clear hfz19_0
          try clear hfz19_1
          try clear hfz21_0
          try clear hfz21_1
          try clear hfz22_0
          try clear hfz22_1
          try clear hfz22_2
          try clear hfz22_3
          try clear hfz27_0
          try clear hfz27_1
          try clear hfz29_0
          try clear hfz29_1
          try clear hx377_0
          try clear hx377_1
          try clear p2
          try clear p3
          try clear p377
          try clear q3
          try clear q377
          obtain ⟨kq,x35_23,rfl,HA,HJ23,BK376,BK378,HB⟩:=hcut
          cases kq with
          | zero=>exact absurd HA.out (by simp [agg_May.j2])
          | succ kj23 =>
           have H:=HA.out
           clear HA
           simp only [agg_May.j2] at H
           have HC30:=Aside0.mk H
           clear H
           go_upto_if 35 with (fail)
           go_cut [35] (fun v35 wc=>∃ (kq : Nat) (x35_29 : Bool),v35=.bool x35_29∧Aside0 (agg_May.j3 kq l1 l1 (l1.length : Int) x9_1 x35_29 l0_0 a0_1 a0_2 a0_3=some r)∧Aside0 (kq≤kj23)∧Aside0 (wc.heap[gb376]?=some (.cells #[(.slice A0_0 l0_0.length c0_0),.int .i64 a0_1,.int .i64 a0_2,.int .i64 a0_3] 29 (0,0)))∧Aside0 (wc.heap[gb378]?=some (.cells #[.int .i64 ((rd_T33 l1 x9_1).f0),.int .i64 ((rd_T33 l1 x9_1).f1)] 33 (0,0)))∧Aside0 (Below w.heap.size w wc))
           case first =>
            have H:=HC30.out
            clear HC30
            by_cases c31 : x35_23=true
            ·subst c31
             have H1 : (agg_May.j3 kj23 l1 l1 (l1.length : Int) x9_1 true l0_0 a0_1 a0_2 a0_3)=some r:=by rw [if_pos rfl] at H;exact H
             clear H
             have H:=H1
             clear H1
             have H':=Aside0.mk H
             clear H
             go_wp2
             go_meet
             case rel=>exact ⟨_,(true),(by first|rfl|(simp;done)|(simp [*];done)),(by first|exact H'|(subst_vars;exact H')),⟨by have:=HK1.out;have:=HJ6.out;have:=HJ23.out;first|omega|exact Nat.le_refl _⟩,⟨by (with_reducible repeat (first|refine blk_drewN ?_ _|refine blk_drew ?_|refine blk_alloc ?_ _));exact BK376.out⟩,⟨by (with_reducible repeat (first|refine blk_drewN ?_ _|refine blk_drew ?_|refine blk_alloc ?_ _));exact BK378.out⟩,⟨by repeat (first|(with_reducible first|exact HB.out|apply below_alloc|apply pw_below_drewN|apply below_drew1|refine below_set ?_ GE376.out|refine below_set ?_ GE378.out)|exact HB.out)⟩⟩
            ·replace c31:=Bool.eq_false_iff.mpr c31
             subst c31
             have H1 : (if ((rd_T33 l1 x9_1).f0)=2 then (if 0≤((rd_T33 l1 x9_1).f1) then (if ((rd_T33 l1 x9_1).f1) < (l0_0.length : Int) then (agg_May.j3 kj23 l1 l1 (l1.length : Int) x9_1 ((rd l0_0 ((rd_T33 l1 x9_1).f1)) == 3) l0_0 a0_1 a0_2 a0_3) else (none)) else (none)) else (agg_May.j3 kj23 l1 l1 (l1.length : Int) x9_1 false l0_0 a0_1 a0_2 a0_3))=some r:=by rw [if_neg (show ¬ (false=true) by decide)] at H;exact H
             clear H
             have H:=H1
             clear H1
             by_cases c32 : ((rd_T33 l1 x9_1).f0)=2
             ·rw [if_pos c32] at H
              have c32b0 : (((rd_T33 l1 x9_1).f0) == 2)=true:=beq_iff_eq.mpr c32
              have c32b1 : (((rd_T33 l1 x9_1).f0) != 2)=false:=bne_eq_false_iff_eq.mpr c32
              clear c32
              (first|rw [c32b0]|(simp only [i64_w,i32_w];rw [c32b0])|skip)
              by_cases c33 : 0≤((rd_T33 l1 x9_1).f1)
              ·rw [if_pos c33] at H
               have c33b0 : decide (0≤((rd_T33 l1 x9_1).f1))=true:=decide_eq_true c33
               clear c33
               by_cases c34 : ((rd_T33 l1 x9_1).f1) < (l0_0.length : Int)
               ·rw [if_pos c34] at H
                have c34b0 : decide (((rd_T33 l1 x9_1).f1) < (l0_0.length : Int))=true:=decide_eq_true c34
                clear c34
                have H':=Aside0.mk H
                clear H
                have hnb35:=NB378_376.out
                have hnc35:=NB376_378.out
                have hcz36_0 : wc.cell? ⟨gb378,0,none⟩=some (.int .i64 ((rd_T33 l1 x9_1).f0)):=(blk_cell BK378.out 0).trans rfl
                have hcz36_1 : wc.cell? ⟨gb378,1,none⟩=some (.int .i64 ((rd_T33 l1 x9_1).f1)):=(blk_cell BK378.out 1).trans rfl
                have hfz36_0:=blk_frozen BK378.out 0
                have hfz36_1:=blk_frozen BK378.out 1
                have hcz37_0 : wc.cell? ⟨gb376,0,none⟩=some (.slice A0_0 l0_0.length c0_0):=(blk_cell BK376.out 0).trans rfl
                have hcz37_1 : wc.cell? ⟨gb376,1,none⟩=some (.int .i64 a0_1):=(blk_cell BK376.out 1).trans rfl
                have hcz37_2 : wc.cell? ⟨gb376,2,none⟩=some (.int .i64 a0_2):=(blk_cell BK376.out 2).trans rfl
                have hcz37_3 : wc.cell? ⟨gb376,3,none⟩=some (.int .i64 a0_3):=(blk_cell BK376.out 3).trans rfl
                have hfz37_0:=blk_frozen BK376.out 0
                have hfz37_1:=blk_frozen BK376.out 1
                have hfz37_2:=blk_frozen BK376.out 2
                have hfz37_3:=blk_frozen BK376.out 3
                have p379 : 0≤(((rd_T33 l1 x9_1).f1) : Int):=of_decide_eq_true (by first|(with_reducible assumption)|assumption)
                have q379 : ((rd_T33 l1 x9_1).f1) < (l0_0.length : Int):=of_decide_eq_true (by first|(with_reducible assumption)|assumption)
                obtain ⟨ad379,e379,hx379_0⟩:=Kd.at_int HR0_0.out ((rd_T33 l1 x9_1).f1) p379 q379
                cases e379
                replace hx379_0:=(HB.out.cell (World.block_lt_of_cell? w _ hx379_0)).trans hx379_0
                replace p379:=eq_true p379
                replace q379:=eq_true q379
                go_wp2
                go_meet
                case rel=>exact ⟨_,(((rd l0_0 ((rd_T33 l1 x9_1).f1)) == 3)),(by first|rfl|(simp;done)|(simp [*];done)),(by first|exact H'|(subst_vars;exact H')),⟨by have:=HK1.out;have:=HJ6.out;have:=HJ23.out;first|omega|exact Nat.le_refl _⟩,⟨by (with_reducible repeat (first|refine blk_drewN ?_ _|refine blk_drew ?_|refine blk_alloc ?_ _));exact BK376.out⟩,⟨by (with_reducible repeat (first|refine blk_drewN ?_ _|refine blk_drew ?_|refine blk_alloc ?_ _));exact BK378.out⟩,⟨by repeat (first|(with_reducible first|exact HB.out|apply below_alloc|apply pw_below_drewN|apply below_drew1|refine below_set ?_ GE376.out|refine below_set ?_ GE378.out)|exact HB.out)⟩⟩
               ·rw [if_neg c34] at H
                exact absurd H (by simp)
              ·rw [if_neg c33] at H
               exact absurd H (by simp)
             ·rw [if_neg c32] at H
              have c32b0 : (((rd_T33 l1 x9_1).f0) == 2)=false:=beq_eq_false_iff_ne.mpr c32
              have c32b1 : (((rd_T33 l1 x9_1).f0) != 2)=true:=bne_iff_ne.mpr c32
              (first|rw [c32b0]|(simp only [i64_w,i32_w];rw [c32b0])|skip)
              have H':=Aside0.mk H
              clear H
              have hnb38:=NB378_376.out
              have hnc38:=NB376_378.out
              have hcz39_0 : wc.cell? ⟨gb378,0,none⟩=some (.int .i64 ((rd_T33 l1 x9_1).f0)):=(blk_cell BK378.out 0).trans rfl
              have hcz39_1 : wc.cell? ⟨gb378,1,none⟩=some (.int .i64 ((rd_T33 l1 x9_1).f1)):=(blk_cell BK378.out 1).trans rfl
              have hfz39_0:=blk_frozen BK378.out 0
              have hfz39_1:=blk_frozen BK378.out 1
              go_wp2
              go_meet
              case rel=>exact ⟨_,(false),(by first|rfl|(simp;done)|(simp [*];done)),(by first|exact H'|(subst_vars;exact H')),⟨by have:=HK1.out;have:=HJ6.out;have:=HJ23.out;first|omega|exact Nat.le_refl _⟩,⟨by (with_reducible repeat (first|refine blk_drewN ?_ _|refine blk_drew ?_|refine blk_alloc ?_ _));exact BK376.out⟩,⟨by (with_reducible repeat (first|refine blk_drewN ?_ _|refine blk_drew ?_|refine blk_alloc ?_ _));exact BK378.out⟩,⟨by repeat (first|(with_reducible first|exact HB.out|apply below_alloc|apply pw_below_drewN|apply below_drew1|refine below_set ?_ GE376.out|refine below_set ?_ GE378.out)|exact HB.out)⟩⟩
           case rest =>
            clear HC30
            try clear c1
            try clear c2
            try clear p2
            try clear c3
            try clear p3
            try clear q3
            try clear hx3
            try clear c4
            try clear c4b0
            try clear c5
            try clear c5b0
            try clear c6
            try clear c6b0
            try clear c9
            try clear c11
            try clear c11b0
            try clear c12
            try clear c14
            try clear c14b0
            try clear c15
            try clear c16
            try clear c17
            try clear c17b0
            try clear c18
            try clear c20
            try clear c23
            try clear c25
            try clear c25b0
            try clear c25b1
            try clear c26
            try clear c28
            try clear c31
            try clear c32
            try clear c32b0
            try clear c32b1
            try clear c33
            try clear c33b0
            try clear c34
            try clear c34b0
            try clear c35
            try clear p37
            try clear q37
            try clear hx37
            try clear c38
            try clear hcz10_0
            try clear hcz10_1
            try clear hcz13_0
            try clear hcz13_1
            try clear hcz16_0
            try clear hcz16_1
            try clear hcz19_0
            try clear hcz19_1
            try clear hcz21_0
            try clear hcz21_1
            try clear hcz22_0
            try clear hcz22_1
            try clear hcz22_2
            try clear hcz22_3
            try clear hcz27_0
            try clear hcz27_1
            try clear hcz29_0
            try clear hcz29_1
            try clear hcz36_0
            try clear hcz36_1
            try clear hcz37_0
            try clear hcz37_1
            try clear hcz37_2
            try clear hcz37_3
            try clear hcz39_0
            try clear hcz39_1
            try clear hfz10_0
            try clear hfz10_1
            try clear hfz13_0
            try clear hfz13_1
            try clear hfz16_0
            try clear hfz16_1
            try clear hfz19_0
            try clear hfz19_1
            try clear hfz21_0
            try clear hfz21_1
            try clear hfz22_0
            try clear hfz22_1
            try clear hfz22_2
            try clear hfz22_3
            try clear hfz27_0
            try clear hfz27_1
            try clear hfz29_0
            try clear hfz29_1
            try clear hfz36_0
            try clear hfz36_1
            try clear hfz37_0
            try clear hfz37_1
            try clear hfz37_2
            try clear hfz37_3
            try clear hfz39_0
            try clear hfz39_1
            try clear hx377_0
            try clear hx377_1
            try clear hx379_0
            try clear p2
            try clear p3
            try clear p377
            try clear p379
            try clear q3
            try clear q377
            try clear q379
            obtain ⟨kq,x35_29,rfl,HA,HJ29,BK376,BK378,HB⟩:=hcut
            cases kq with
            | zero=>exact absurd HA.out (by simp [agg_May.j3])
            | succ kj29 =>
             have H:=HA.out
             clear HA
             simp only [agg_May.j3] at H
             by_cases c40 : x35_29=true
             ·subst c40
              have H1 : (some false)=some r:=by rw [if_pos rfl] at H;exact H
              clear H
              have H:=H1
              clear H1
              obtain rfl:=Option.some.inj H
              go_wp2
              go_ret
              exact ⟨by first|rfl|(simp [errW_none,errW_some] <;> rfl)|(simp [*,errW_none,errW_some] <;> rfl),by repeat (first|(with_reducible first|exact HB.out|apply below_alloc|apply pw_below_drewN|apply below_drew1|refine below_set ?_ GE376.out|refine below_set ?_ GE378.out)|exact HB.out)⟩
             ·replace c40:=Bool.eq_false_iff.mpr c40
              subst c40
              have H1 : (agg_May.l0 kj29 l1 l1 (l1.length : Int) (wrap64 (x9_1 + 1)) l0_0 a0_1 a0_2 a0_3)=some r:=by rw [if_neg (show ¬ (false=true) by decide)] at H;exact H
              clear H
              have H:=H1
              clear H1
              have H':=Aside0.mk H
              clear H
              go_wp2
              go_roundg kj29
              case measure=>have:=HK1.out;have:=HJ6.out;have:=HJ23.out;have:=HJ29.out;omega
              case rel=>exact ⟨(wrap64 (x9_1 + 1)),(by first|rfl|(simp;done)|(simp [*];done)),(by first|exact H'|(subst_vars;exact H')),⟨by have:=HK1.out;have:=HJ6.out;have:=HJ23.out;have:=HJ29.out;omega⟩,⟨by (with_reducible repeat (first|refine blk_drewN ?_ _|refine blk_drew ?_|refine blk_alloc ?_ _));exact BK376.out⟩,⟨by repeat (first|(with_reducible first|exact HB.out|apply below_alloc|apply pw_below_drewN|apply below_drew1|refine below_set ?_ GE376.out|refine below_set ?_ GE378.out)|exact HB.out)⟩⟩
     ·rw [if_neg c6] at H
      exact absurd H (by simp)
    ·rw [if_neg c5] at H
     exact absurd H (by simp)
   ·rw [if_neg c4] at H
    have c4b0 : decide (x9_1 < (l1.length : Int))=false:=decide_eq_false c4
    clear c4
    obtain rfl:=Option.some.inj H
    go_wp2
    go_ret
    exact ⟨by first|rfl|(simp [errW_none,errW_some] <;> rfl)|(simp [*,errW_none,errW_some] <;> rfl),by repeat (first|(with_reducible first|exact HB.out|apply below_alloc|apply pw_below_drewN|apply below_drew1|refine below_set ?_ GE376.out)|exact HB.out)⟩

end Go.Proofs.Ytapaldcdoahfeaa.P

