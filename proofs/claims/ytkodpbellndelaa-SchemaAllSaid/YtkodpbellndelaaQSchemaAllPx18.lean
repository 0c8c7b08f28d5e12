/- Texts of SchemaAll. Merged: Px18. -/
import Derived.Test.YtkodpbellndelaaQSchemaAllPx0
namespace Go.Proofs.Ytkodpbellndelaa.P
open Go.RowKit Go.Proofs.YtkodpbellndelaaW.PrintWords Go.Proofs.YtkodpbellndelaaW.PrintLast Go.Proofs.YtkodpbellndelaaW.PrintMore
attribute [local go_sem] max2_int min2_int max_two min_two max_three min_three max_four min_four   -- for this text's walks alone
set_option linter.unusedVariables false
set_option linter.unusedSimpArgs false
mutual
def thresherref04_Check.j0 : Nat→Int→Bool→List Int→Int→Int→Int→Option (Int)
 | 0,_,_,_,_,_,_=>none
 | k + 1,x3,x44,x463000,x463001,x463002,x463003=>if x44=true then (some 20) else (thresherref04_Check.l0 k x3 0 x463000 x463001 x463002 x463003)
def thresherref04_Check.l0 : Nat→Int→Int→List Int→Int→Int→Int→Option (Int)
 | 0,_,_,_,_,_,_=>none
 | k + 1,x3,x4,x463000,x463001,x463002,x463003=>if x4 < x3 then (if 0≤x4 then (if x4 < (x463000.length : Int) then (if (rd x463000 x4) < 1 then (some 20) else (if (rd x463000 x4) > 3 then (some 20) else (thresherref04_Check.l0 k x3 (wrap64 (x4 + 1)) x463000 x463001 x463002 x463003))) else (none)) else (none)) else (some 0)
end
def thresherref04_Check.f (k : Nat) (l0_0 : List Int) (a0_1 : Int) (a0_2 : Int) (a0_3 : Int) : Option (Int):=if (l0_0.length : Int) < 1 then (thresherref04_Check.j0 k (l0_0.length : Int) true l0_0 a0_1 a0_2 a0_3) else (if (l0_0.length : Int) > 64 then (thresherref04_Check.j0 k (l0_0.length : Int) true l0_0 a0_1 a0_2 a0_3) else (if a0_1 < 1 then (thresherref04_Check.j0 k (l0_0.length : Int) true l0_0 a0_1 a0_2 a0_3) else (if a0_1 > (l0_0.length : Int) then (thresherref04_Check.j0 k (l0_0.length : Int) true l0_0 a0_1 a0_2 a0_3) else (if a0_2 < 1 then (thresherref04_Check.j0 k (l0_0.length : Int) true l0_0 a0_1 a0_2 a0_3) else (if a0_2 > 3 then (thresherref04_Check.j0 k (l0_0.length : Int) true l0_0 a0_1 a0_2 a0_3) else (if a0_3 < 1 then (thresherref04_Check.j0 k (l0_0.length : Int) true l0_0 a0_1 a0_2 a0_3) else (thresherref04_Check.j0 k (l0_0.length : Int) (decide (a0_3 > 64)) l0_0 a0_1 a0_2 a0_3)))))))
theorem thresherref04_Check.mono_l : ∀ k,(∀ y0 y1 y2 y3 y4 y5,LeO (thresherref04_Check.j0 k y0 y1 y2 y3 y4 y5) (thresherref04_Check.j0 (k + 1) y0 y1 y2 y3 y4 y5))∧(∀ y0 y1 y2 y3 y4 y5,LeO (thresherref04_Check.l0 k y0 y1 y2 y3 y4 y5) (thresherref04_Check.l0 (k + 1) y0 y1 y2 y3 y4 y5))
 | 0=>⟨fun _ _ _ _ _ _ r h=>by simp [thresherref04_Check.j0] at h,fun _ _ _ _ _ _ r h=>by simp [thresherref04_Check.l0] at h⟩
 | k + 1=>by
  obtain ⟨ih0,ih1⟩:=thresherref04_Check.mono_l k
  refine ⟨?_,?_⟩
  ·intro y0 y1 y2 y3 y4 y5
   unfold thresherref04_Check.j0
   repeat' first
   | (with_reducible exact ih0 _ _ _ _ _ _)
   | (with_reducible exact ih1 _ _ _ _ _ _)
   | (with_reducible exact LeO.refl _)
   | (with_reducible exact LeO.none _)
   | (with_reducible refine LeO.ite ?_ ?_)
   | (with_reducible refine LeO.bind ?_ (fun _=>?_))
   | exact ih0 _ _ _ _ _ _
   | exact ih1 _ _ _ _ _ _
   | exact LeO.none _
   | refine LeO.ite ?_ ?_
   | refine LeO.bind ?_ (fun _=>?_)
  ·intro y0 y1 y2 y3 y4 y5
   unfold thresherref04_Check.l0
   repeat' first
   | (with_reducible exact ih0 _ _ _ _ _ _)
   | (with_reducible exact ih1 _ _ _ _ _ _)
   | (with_reducible exact LeO.refl _)
   | (with_reducible exact LeO.none _)
   | (with_reducible refine LeO.ite ?_ ?_)
   | (with_reducible refine LeO.bind ?_ (fun _=>?_))
   | exact ih0 _ _ _ _ _ _
   | exact ih1 _ _ _ _ _ _
   | exact LeO.none _
   | refine LeO.ite ?_ ?_
   | refine LeO.bind ?_ (fun _=>?_)
theorem thresherref04_Check.mono : ∀ a0 a1 a2 a3 k,LeO (thresherref04_Check.f k a0 a1 a2 a3) (thresherref04_Check.f (k + 1) a0 a1 a2 a3):=by
 intro a0 a1 a2 a3 k
 obtain ⟨ih0,ih1⟩:=thresherref04_Check.mono_l k
 unfold thresherref04_Check.f
 repeat' first
   | (with_reducible exact ih0 _ _ _ _ _ _)
   | (with_reducible exact ih1 _ _ _ _ _ _)
   | (with_reducible exact LeO.refl _)
   | (with_reducible exact LeO.none _)
   | (with_reducible refine LeO.ite ?_ ?_)
   | (with_reducible refine LeO.bind ?_ (fun _=>?_))
   | exact ih0 _ _ _ _ _ _
   | exact ih1 _ _ _ _ _ _
   | exact LeO.none _
   | refine LeO.ite ?_ ?_
   | refine LeO.bind ?_ (fun _=>?_)
set_option maxHeartbeats 8000000 in
set_option maxRecDepth 100000 in
theorem thresherref04_Check.calls (k : Nat) (A0_0 : Option Addr) (c0_0 : Nat) (l0_0 : List Int) (a0_1 : Int) (a0_2 : Int) (a0_3 : Int) (r : Int) (w : World) (hr0_0 : Kd.C (Kd.int .i64) w A0_0 l0_0.length l0_0) (hc0_0 : l0_0.length≤c0_0) (h : thresherref04_Check.f k l0_0 a0_1 a0_2 a0_3=some r) :
  Calls Try.prog 24 #[.agg #[.slice A0_0 l0_0.length c0_0,.int .i64 a0_1,.int .i64 a0_2,.int .i64 a0_3]] w fun e w'=>e=.returned (.int .i64 r)∧Below w.heap.size w w':=by
 have hu30:=Try.underlying30
 have HR0_0:=Aside0.mk hr0_0
 have HC0_0:=Aside0.mk hc0_0
 clear hr0_0 hc0_0
 have HB:=Aside0.mk (Below.refl w.heap.size w)
 have H : (if (l0_0.length : Int) < 1 then (thresherref04_Check.j0 k (l0_0.length : Int) true l0_0 a0_1 a0_2 a0_3) else (if (l0_0.length : Int) > 64 then (thresherref04_Check.j0 k (l0_0.length : Int) true l0_0 a0_1 a0_2 a0_3) else (if a0_1 < 1 then (thresherref04_Check.j0 k (l0_0.length : Int) true l0_0 a0_1 a0_2 a0_3) else (if a0_1 > (l0_0.length : Int) then (thresherref04_Check.j0 k (l0_0.length : Int) true l0_0 a0_1 a0_2 a0_3) else (if a0_2 < 1 then (thresherref04_Check.j0 k (l0_0.length : Int) true l0_0 a0_1 a0_2 a0_3) else (if a0_2 > 3 then (thresherref04_Check.j0 k (l0_0.length : Int) true l0_0 a0_1 a0_2 a0_3) else (if a0_3 < 1 then (thresherref04_Check.j0 k (l0_0.length : Int) true l0_0 a0_1 a0_2 a0_3) else (thresherref04_Check.j0 k (l0_0.length : Int) (decide (a0_3 > 64)) l0_0 a0_1 a0_2 a0_3))))))))=some r:=h
 clear h
 have HC2:=Aside0.mk H
 clear H
 go_enter Try.func24,Try.ntmps24
 go_upto_region 2 with (first|((with_reducible refine gate_dst (N:=1) rfl ?_);refine box_event ?hg (N:=1) ?hd (cs:=#[.slice A0_0 l0_0.length c0_0,.int .i64 a0_1,.int .i64 a0_2,.int .i64 a0_3]) (t:=30) ?hr ?_;(case hd=>rfl);(case hg=>rfl);(case hr=>first|(go_simp;done)|(go_simp;rfl));intro gb462 hg w3 hbox hb;have n0_:=Aside0.mk (below_step (below_up HB.out) hb);have n1_:=Aside0.mk (hbox);have n2_:=Aside0.mk ((by rw [hg];exact (below_size (below_up HB.out)) : w.heap.size≤gb462));have n3_:=Aside0.mk ((by rw [hg];exact (below_size (below_up HB.out)) : w.heap.size≤gb462));clear HB;have HB:=n0_;have BK462:=n1_;have GW462:=n2_;have GE462:=n3_;clear n0_ n1_ n2_ n3_;clear hb hbox hg;have hcz4_0 : w3.cell? ⟨gb462,0,none⟩=some (.slice A0_0 l0_0.length c0_0):=(blk_cell BK462.out 0).trans rfl;have hcz4_1 : w3.cell? ⟨gb462,1,none⟩=some (.int .i64 a0_1):=(blk_cell BK462.out 1).trans rfl;have hcz4_2 : w3.cell? ⟨gb462,2,none⟩=some (.int .i64 a0_2):=(blk_cell BK462.out 2).trans rfl;have hcz4_3 : w3.cell? ⟨gb462,3,none⟩=some (.int .i64 a0_3):=(blk_cell BK462.out 3).trans rfl;have hfz4_0:=blk_frozen BK462.out 0;have hfz4_1:=blk_frozen BK462.out 1;have hfz4_2:=blk_frozen BK462.out 2;have hfz4_3:=blk_frozen BK462.out 3))
 (try simp only [Act.put,List.setIfInBounds_toArray,List.set_cons_zero,List.set_cons_succ])
 go_cut [44] (fun v44 wc=>∃ (kq : Nat) (x44_1 : Bool),v44=.bool x44_1∧Aside0 (thresherref04_Check.j0 kq (l0_0.length : Int) x44_1 l0_0 a0_1 a0_2 a0_3=some r)∧Aside0 (kq≤k)∧Aside0 (wc.heap[gb462]?=some (.cells #[(.slice A0_0 l0_0.length c0_0),.int .i64 a0_1,.int .i64 a0_2,.int .i64 a0_3] 30 (0,0)))∧Aside0 (Below w.heap.size w wc))
 case first =>
  have H:=HC2.out
  clear HC2
  by_cases c5 : (l0_0.length : Int) < 1
  ·rw [if_pos c5] at H
   have c5b0 : decide ((l0_0.length : Int) < 1)=true:=decide_eq_true c5
   have c5b1 : decide (l0_0.length < 1)=true:=decide_eq_true (by omega)
   clear c5
   (first|rw [c5b0]|(simp only [i64_w,i32_w];rw [c5b0])|skip)
   have H':=Aside0.mk H
   clear H
   go_wp2
   go_meet
   case rel=>exact ⟨_,(true),(by first|rfl|(simp;done)|(simp [*];done)),(by first|exact H'|(subst_vars;exact H')),⟨by first|omega|exact Nat.le_refl _⟩,⟨by (with_reducible repeat (first|refine blk_drewN ?_ _|refine blk_drew ?_|refine blk_alloc ?_ _));exact BK462.out⟩,⟨by repeat (first|(with_reducible first|exact HB.out|apply below_alloc|apply pw_below_drewN|apply below_drew1|refine below_set ?_ GE462.out)|exact HB.out)⟩⟩
  ·rw [if_neg c5] at H
   have c5b0 : decide ((l0_0.length : Int) < 1)=false:=decide_eq_false c5
   have c5b1 : decide (l0_0.length < 1)=false:=decide_eq_false (by omega)
   clear c5
   (first|rw [c5b0]|(simp only [i64_w,i32_w];rw [c5b0])|skip)
   by_cases c6 : (l0_0.length : Int) > 64
   ·rw [if_pos c6] at H
    have c6b0 : decide (64 < (l0_0.length : Int))=true:=decide_eq_true c6
    have c6b1 : decide (64 < l0_0.length)=true:=decide_eq_true (by omega)
    clear c6
    have H':=Aside0.mk H
    clear H
    go_wp2
    go_meet
    case rel=>exact ⟨_,(true),(by first|rfl|(simp;done)|(simp [*];done)),(by first|exact H'|(subst_vars;exact H')),⟨by first|omega|exact Nat.le_refl _⟩,⟨by (with_reducible repeat (first|refine blk_drewN ?_ _|refine blk_drew ?_|refine blk_alloc ?_ _));exact BK462.out⟩,⟨by repeat (first|(with_reducible first|exact HB.out|apply below_alloc|apply pw_below_drewN|apply below_drew1|refine below_set ?_ GE462.out)|exact HB.out)⟩⟩
   ·rw [if_neg c6] at H
    have c6b0 : decide (64 < (l0_0.length : Int))=false:=decide_eq_false c6
    have c6b1 : decide (64 < l0_0.length)=false:=decide_eq_false (by omega)
    clear c6
    by_cases c7 : a0_1 < 1
    ·rw [if_pos c7] at H
     have c7b0 : decide (a0_1 < 1)=true:=decide_eq_true c7
     clear c7
     have H':=Aside0.mk H
     clear H
     have hcz8_0 : w3.cell? ⟨gb462,0,none⟩=some (.slice A0_0 l0_0.length c0_0):=(blk_cell BK462.out 0).trans rfl
     have hcz8_1 : w3.cell? ⟨gb462,1,none⟩=some (.int .i64 a0_1):=(blk_cell BK462.out 1).trans rfl
     have hcz8_2 : w3.cell? ⟨gb462,2,none⟩=some (.int .i64 a0_2):=(blk_cell BK462.out 2).trans rfl
     have hcz8_3 : w3.cell? ⟨gb462,3,none⟩=some (.int .i64 a0_3):=(blk_cell BK462.out 3).trans rfl
     have hfz8_0:=blk_frozen BK462.out 0
     have hfz8_1:=blk_frozen BK462.out 1
     have hfz8_2:=blk_frozen BK462.out 2
     have hfz8_3:=blk_frozen BK462.out 3
     go_wp2
     go_meet
     case rel=>exact ⟨_,(true),(by first|rfl|(simp;done)|(simp [*];done)),(by first|exact H'|(subst_vars;exact H')),⟨by first|omega|exact Nat.le_refl _⟩,⟨by (with_reducible repeat (first|refine blk_drewN ?_ _|refine blk_drew ?_|refine blk_alloc ?_ _));exact BK462.out⟩,⟨by repeat (first|(with_reducible first|exact HB.out|apply below_alloc|apply pw_below_drewN|apply below_drew1|refine below_set ?_ GE462.out)|exact HB.out)⟩⟩
    ·rw [if_neg c7] at H
     have c7b0 : decide (a0_1 < 1)=false:=decide_eq_false c7
     clear c7
     by_cases c9 : a0_1 > (l0_0.length : Int)
     ·rw [if_pos c9] at H
      have c9b0 : decide ((l0_0.length : Int) < a0_1)=true:=decide_eq_true c9
      clear c9
      have H':=Aside0.mk H
      clear H
      have hcz10_0 : w3.cell? ⟨gb462,0,none⟩=some (.slice A0_0 l0_0.length c0_0):=(blk_cell BK462.out 0).trans rfl
      have hcz10_1 : w3.cell? ⟨gb462,1,none⟩=some (.int .i64 a0_1):=(blk_cell BK462.out 1).trans rfl
      have hcz10_2 : w3.cell? ⟨gb462,2,none⟩=some (.int .i64 a0_2):=(blk_cell BK462.out 2).trans rfl
      have hcz10_3 : w3.cell? ⟨gb462,3,none⟩=some (.int .i64 a0_3):=(blk_cell BK462.out 3).trans rfl
      have hfz10_0:=blk_frozen BK462.out 0
      have hfz10_1:=blk_frozen BK462.out 1
      have hfz10_2:=blk_frozen BK462.out 2
      have hfz10_3:=blk_frozen BK462.out 3
      go_wp2
      go_meet
      case rel=>exact ⟨_,(true),(by first|rfl|(simp;done)|(simp [*];done)),(by first|exact H'|(subst_vars;exact H')),⟨by first|omega|exact Nat.le_refl _⟩,⟨by (with_reducible repeat (first|refine blk_drewN ?_ _|refine blk_drew ?_|refine blk_alloc ?_ _));exact BK462.out⟩,⟨by repeat (first|(with_reducible first|exact HB.out|apply below_alloc|apply pw_below_drewN|apply below_drew1|refine below_set ?_ GE462.out)|exact HB.out)⟩⟩
     ·rw [if_neg c9] at H
      have c9b0 : decide ((l0_0.length : Int) < a0_1)=false:=decide_eq_false c9
      clear c9
      by_cases c11 : a0_2 < 1
      ·rw [if_pos c11] at H
       have c11b0 : decide (a0_2 < 1)=true:=decide_eq_true c11
       clear c11
       have H':=Aside0.mk H
       clear H
       have hcz12_0 : w3.cell? ⟨gb462,0,none⟩=some (.slice A0_0 l0_0.length c0_0):=(blk_cell BK462.out 0).trans rfl
       have hcz12_1 : w3.cell? ⟨gb462,1,none⟩=some (.int .i64 a0_1):=(blk_cell BK462.out 1).trans rfl
       have hcz12_2 : w3.cell? ⟨gb462,2,none⟩=some (.int .i64 a0_2):=(blk_cell BK462.out 2).trans rfl
       have hcz12_3 : w3.cell? ⟨gb462,3,none⟩=some (.int .i64 a0_3):=(blk_cell BK462.out 3).trans rfl
       have hfz12_0:=blk_frozen BK462.out 0
       have hfz12_1:=blk_frozen BK462.out 1
       have hfz12_2:=blk_frozen BK462.out 2
       have hfz12_3:=blk_frozen BK462.out 3
       go_wp2
       go_meet
       case rel=>exact ⟨_,(true),(by first|rfl|(simp;done)|(simp [*];done)),(by first|exact H'|(subst_vars;exact H')),⟨by first|omega|exact Nat.le_refl _⟩,⟨by (with_reducible repeat (first|refine blk_drewN ?_ _|refine blk_drew ?_|refine blk_alloc ?_ _));exact BK462.out⟩,⟨by repeat (first|(with_reducible first|exact HB.out|apply below_alloc|apply pw_below_drewN|apply below_drew1|refine below_set ?_ GE462.out)|exact HB.out)⟩⟩
      ·rw [if_neg c11] at H
       have c11b0 : decide (a0_2 < 1)=false:=decide_eq_false c11
       clear c11
       by_cases c13 : a0_2 > 3
       ·rw [if_pos c13] at H
        have c13b0 : decide (3 < a0_2)=true:=decide_eq_true c13
        clear c13
        have H':=Aside0.mk H
        clear H
        have hcz14_0 : w3.cell? ⟨gb462,0,none⟩=some (.slice A0_0 l0_0.length c0_0):=(blk_cell BK462.out 0).trans rfl
        have hcz14_1 : w3.cell? ⟨gb462,1,none⟩=some (.int .i64 a0_1):=(blk_cell BK462.out 1).trans rfl
        have hcz14_2 : w3.cell? ⟨gb462,2,none⟩=some (.int .i64 a0_2):=(blk_cell BK462.out 2).trans rfl
        have hcz14_3 : w3.cell? ⟨gb462,3,none⟩=some (.int .i64 a0_3):=(blk_cell BK462.out 3).trans rfl
        have hfz14_0:=blk_frozen BK462.out 0
        have hfz14_1:=blk_frozen BK462.out 1
        have hfz14_2:=blk_frozen BK462.out 2
        have hfz14_3:=blk_frozen BK462.out 3
        go_wp2
        go_meet
        case rel=>exact ⟨_,(true),(by first|rfl|(simp;done)|(simp [*];done)),(by first|exact H'|(subst_vars;exact H')),⟨by first|omega|exact Nat.le_refl _⟩,⟨by (with_reducible repeat (first|refine blk_drewN ?_ _|refine blk_drew ?_|refine blk_alloc ?_ _));exact BK462.out⟩,⟨by repeat (first|(with_reducible first|exact HB.out|apply below_alloc|apply pw_below_drewN|apply below_drew1|refine below_set ?_ GE462.out)|exact HB.out)⟩⟩
       ·rw [if_neg c13] at H
        have c13b0 : decide (3 < a0_2)=false:=decide_eq_false c13
        clear c13
        by_cases c15 : a0_3 < 1
        ·rw [if_pos c15] at H
         have c15b0 : decide (a0_3 < 1)=true:=decide_eq_true c15
         clear c15
         have H':=Aside0.mk H
         clear H
         have hcz16_0 : w3.cell? ⟨gb462,0,none⟩=some (.slice A0_0 l0_0.length c0_0):=(blk_cell BK462.out 0).trans rfl
         have hcz16_1 : w3.cell? ⟨gb462,1,none⟩=some (.int .i64 a0_1):=(blk_cell BK462.out 1).trans rfl
         have hcz16_2 : w3.cell? ⟨gb462,2,none⟩=some (.int .i64 a0_2):=(blk_cell BK462.out 2).trans rfl
         have hcz16_3 : w3.cell? ⟨gb462,3,none⟩=some (.int .i64 a0_3):=(blk_cell BK462.out 3).trans rfl
         have hfz16_0:=blk_frozen BK462.out 0
         have hfz16_1:=blk_frozen BK462.out 1
         have hfz16_2:=blk_frozen BK462.out 2
         have hfz16_3:=blk_frozen BK462.out 3
         go_wp2
         go_meet
         case rel=>exact ⟨_,(true),(by first|rfl|(simp;done)|(simp [*];done)),(by first|exact H'|(subst_vars;exact H')),⟨by first|omega|exact Nat.le_refl _⟩,⟨by (with_reducible repeat (first|refine blk_drewN ?_ _|refine blk_drew ?_|refine blk_alloc ?_ _));exact BK462.out⟩,⟨by repeat (first|(with_reducible first|exact HB.out|apply below_alloc|apply pw_below_drewN|apply below_drew1|refine below_set ?_ GE462.out)|exact HB.out)⟩⟩
        ·rw [if_neg c15] at H
         have c15b0 : decide (a0_3 < 1)=false:=decide_eq_false c15
         clear c15
         have H':=Aside0.mk H
         clear H
         have hcz17_0 : w3.cell? ⟨gb462,0,none⟩=some (.slice A0_0 l0_0.length c0_0):=(blk_cell BK462.out 0).trans rfl
         have hcz17_1 : w3.cell? ⟨gb462,1,none⟩=some (.int .i64 a0_1):=(blk_cell BK462.out 1).trans rfl
         have hcz17_2 : w3.cell? ⟨gb462,2,none⟩=some (.int .i64 a0_2):=(blk_cell BK462.out 2).trans rfl
         have hcz17_3 : w3.cell? ⟨gb462,3,none⟩=some (.int .i64 a0_3):=(blk_cell BK462.out 3).trans rfl
         have hfz17_0:=blk_frozen BK462.out 0
         have hfz17_1:=blk_frozen BK462.out 1
         have hfz17_2:=blk_frozen BK462.out 2
         have hfz17_3:=blk_frozen BK462.out 3
         go_wp2
         go_meet
         case rel=>exact ⟨_,(decide (a0_3 > 64)),(by first|rfl|(simp;done)|(simp [*];done)),(by first|exact H'|(subst_vars;exact H')),⟨by first|omega|exact Nat.le_refl _⟩,⟨by (with_reducible repeat (first|refine blk_drewN ?_ _|refine blk_drew ?_|refine blk_alloc ?_ _));exact BK462.out⟩,⟨by repeat (first|(with_reducible first|exact HB.out|apply below_alloc|apply pw_below_drewN|apply below_drew1|refine below_set ?_ GE462.out)|exact HB.out)⟩⟩
 case rest =>
  clear HC2
  try clear c1
  try clear c2
  try clear p2
  try clear c5
  try clear c5b0
  try clear c5b1
  try clear c6
  try clear c6b0
  try clear c6b1
  try clear c7
  try clear c7b0
  try clear c9
  try clear c9b0
  try clear c11
  try clear c11b0
  try clear c13
  try clear c13b0
  try clear c15
  try clear c15b0
  try clear hcz10_0
  try clear hcz10_1
  try clear hcz10_2
  try clear hcz10_3
  try clear hcz12_0
  try clear hcz12_1
  try clear hcz12_2
  try clear hcz12_3
  try clear hcz14_0
  try clear hcz14_1
  try clear hcz14_2
  try clear hcz14_3
  try clear hcz16_0
  try clear hcz16_1
  try clear hcz16_2
  try clear hcz16_3
  try clear hcz17_0
  try clear hcz17_1
  try clear hcz17_2
  try clear hcz17_3
  try clear hcz4_0
  try clear hcz4_1
  try clear hcz4_2
  try clear hcz4_3
  try clear hcz8_0
  try clear hcz8_1
  try clear hcz8_2
  try clear hcz8_3
  try clear hfz10_0
  try clear hfz10_1
  try clear hfz10_2
  try clear hfz10_3
  try clear hfz12_0
  try clear hfz12_1
  try clear hfz12_2
  try clear hfz12_3
  try clear hfz14_0
  try clear hfz14_1
  try clear hfz14_2
  try clear hfz14_3
  try clear hfz16_0
  try clear hfz16_1
  try clear hfz16_2
  try clear hfz16_3
  try clear hfz17_0
  try clear hfz17_1
  try clear hfz17_2
  try clear hfz17_3
  try clear hfz4_0
  try clear hfz4_1
  try clear hfz4_2
  try clear hfz4_3
  try clear hfz8_0
  try clear hfz8_1
  try clear hfz8_2
  try clear hfz8_3
  obtain ⟨kq,x44_1,rfl,HA,HJ1,BK462,HB⟩:=hcut
  cases kq with
  | zero=>exact absurd HA.out (by simp [thresherref04_Check.j0])
  | succ kj1 =>
   have H:=HA.out
   clear HA
   simp only [thresherref04_Check.j0] at H
   by_cases c18 : x44_1=true
   ·subst c18
    have H1 : (some 20)=some r:=by rw [if_pos rfl] at H;exact H
    clear H
    have H:=H1
    clear H1
    obtain rfl:=Option.some.inj H
    go_wp2
    go_ret
    exact ⟨by first|rfl|(simp [errW_none,errW_some] <;> rfl)|(simp [*,errW_none,errW_some] <;> rfl),by repeat (first|(with_reducible first|exact HB.out|apply below_alloc|apply pw_below_drewN|apply below_drew1|refine below_set ?_ GE462.out)|exact HB.out)⟩
   ·replace c18:=Bool.eq_false_iff.mpr c18
    subst c18
    have H1 : (thresherref04_Check.l0 kj1 (l0_0.length : Int) 0 l0_0 a0_1 a0_2 a0_3)=some r:=by rw [if_neg (show ¬ (false=true) by decide)] at H;exact H
    clear H
    have H:=H1
    clear H1
    have H':=Aside0.mk H
    clear H
    go_wp2
    go_loopg [4] kj1 (fun kq v4 w'=>∃ (x4_2 : Int),v4=.int .i64 x4_2∧Aside0 (thresherref04_Check.l0 kq (l0_0.length : Int) x4_2 l0_0 a0_1 a0_2 a0_3=some r)∧Aside0 (kq≤kj1)∧Aside0 (w'.heap[gb462]?=some (.cells #[(.slice A0_0 l0_0.length c0_0),.int .i64 a0_1,.int .i64 a0_2,.int .i64 a0_3] 30 (0,0)))∧Aside0 (Below w.heap.size w w'))
    case atStart=>exact ⟨(0),(by first|rfl|(simp;done)|(simp [*];done)),H',⟨Nat.le_refl _⟩,⟨by (with_reducible repeat (first|refine blk_drewN ?_ _|refine blk_drew ?_|refine blk_alloc ?_ _));exact BK462.out⟩,⟨by repeat (first|(with_reducible first|exact HB.out|apply below_alloc|apply pw_below_drewN|apply below_drew1|refine below_set ?_ GE462.out)|exact HB.out)⟩⟩
    case round =>
     clear H'
     try clear c1
     try clear c2
     try clear p2
     try clear c5
     try clear c5b0
     try clear c5b1
     try clear c6
     try clear c6b0
     try clear c6b1
     try clear c7
     try clear c7b0
     try clear c9
     try clear c9b0
     try clear c11
     try clear c11b0
     try clear c13
     try clear c13b0
     try clear c15
     try clear c15b0
     try clear c18
     try clear hcz10_0
     try clear hcz10_1
     try clear hcz10_2
     try clear hcz10_3
     try clear hcz12_0
     try clear hcz12_1
     try clear hcz12_2
     try clear hcz12_3
     try clear hcz14_0
     try clear hcz14_1
     try clear hcz14_2
     try clear hcz14_3
     try clear hcz16_0
     try clear hcz16_1
     try clear hcz16_2
     try clear hcz16_3
     try clear hcz17_0
     try clear hcz17_1
     try clear hcz17_2
     try clear hcz17_3
     try clear hcz4_0
     try clear hcz4_1
     try clear hcz4_2
     try clear hcz4_3
     try clear hcz8_0
     try clear hcz8_1
     try clear hcz8_2
     try clear hcz8_3
     try clear hfz10_0
     try clear hfz10_1
     try clear hfz10_2
     try clear hfz10_3
     try clear hfz12_0
     try clear hfz12_1
     try clear hfz12_2
     try clear hfz12_3
     try clear hfz14_0
     try clear hfz14_1
     try clear hfz14_2
     try clear hfz14_3
     try clear hfz16_0
     try clear hfz16_1
     try clear hfz16_2
     try clear hfz16_3
     try clear hfz17_0
     try clear hfz17_1
     try clear hfz17_2
     try clear hfz17_3
     try clear hfz4_0
     try clear hfz4_1
     try clear hfz4_2
     try clear hfz4_3
     try clear hfz8_0
     try clear hfz8_1
     try clear hfz8_2
     try clear hfz8_3
     try clear p2
     obtain ⟨x4_2,rfl,HA,HK2,BK462,HB⟩:=hrel
     cases gk with
     | zero=>exact absurd HA.out (by simp [thresherref04_Check.l0])
     | succ k2 =>
      have H:=HA.out
      clear HA
      simp only [thresherref04_Check.l0] at H
      by_cases c19 : x4_2 < (l0_0.length : Int)
      ·rw [if_pos c19] at H
       have c19b0 : decide (x4_2 < (l0_0.length : Int))=true:=decide_eq_true c19
       clear c19
       by_cases c20 : 0≤x4_2
       ·rw [if_pos c20] at H
        have c20b0 : decide (0≤x4_2)=true:=decide_eq_true c20
        clear c20
        by_cases c21 : x4_2 < (l0_0.length : Int)
        ·rw [if_pos c21] at H
         have c21b0 : decide (x4_2 < (l0_0.length : Int))=true:=decide_eq_true c21
         clear c21
         by_cases c22 : (rd l0_0 x4_2) < 1
         ·rw [if_pos c22] at H
          have c22b0 : decide ((rd l0_0 x4_2) < 1)=true:=decide_eq_true c22
          clear c22
          obtain rfl:=Option.some.inj H
          have hcz23_0 : wr.cell? ⟨gb462,0,none⟩=some (.slice A0_0 l0_0.length c0_0):=(blk_cell BK462.out 0).trans rfl
          have hcz23_1 : wr.cell? ⟨gb462,1,none⟩=some (.int .i64 a0_1):=(blk_cell BK462.out 1).trans rfl
          have hcz23_2 : wr.cell? ⟨gb462,2,none⟩=some (.int .i64 a0_2):=(blk_cell BK462.out 2).trans rfl
          have hcz23_3 : wr.cell? ⟨gb462,3,none⟩=some (.int .i64 a0_3):=(blk_cell BK462.out 3).trans rfl
          have hfz23_0:=blk_frozen BK462.out 0
          have hfz23_1:=blk_frozen BK462.out 1
          have hfz23_2:=blk_frozen BK462.out 2
          have hfz23_3:=blk_frozen BK462.out 3
          have p463 : 0≤(x4_2 : Int):=of_decide_eq_true (by first|(with_reducible assumption)|assumption)
          have q463 : x4_2 < (l0_0.length : Int):=of_decide_eq_true (by first|(with_reducible assumption)|assumption)
          obtain ⟨ad463,e463,hx463_0⟩:=Kd.at_int HR0_0.out x4_2 p463 q463
          cases e463
          replace hx463_0:=(HB.out.cell (World.block_lt_of_cell? w _ hx463_0)).trans hx463_0
          replace p463:=eq_true p463
          replace q463:=eq_true q463
          go_wp2
          go_ret
          exact ⟨by first|rfl|(simp [errW_none,errW_some] <;> rfl)|(simp [*,errW_none,errW_some] <;> rfl),by repeat (first|(with_reducible first|exact HB.out|apply below_alloc|apply pw_below_drewN|apply below_drew1|refine below_set ?_ GE462.out)|exact HB.out)⟩
         ·rw [if_neg c22] at H
          have c22b0 : decide ((rd l0_0 x4_2) < 1)=false:=decide_eq_false c22
          clear c22
          by_cases c24 : (rd l0_0 x4_2) > 3
          ·rw [if_pos c24] at H
           have c24b0 : decide (3 < (rd l0_0 x4_2))=true:=decide_eq_true c24
           clear c24
           obtain rfl:=Option.some.inj H
           have hcz25_0 : wr.cell? ⟨gb462,0,none⟩=some (.slice A0_0 l0_0.length c0_0):=(blk_cell BK462.out 0).trans rfl
           have hcz25_1 : wr.cell? ⟨gb462,1,none⟩=some (.int .i64 a0_1):=(blk_cell BK462.out 1).trans rfl
           have hcz25_2 : wr.cell? ⟨gb462,2,none⟩=some (.int .i64 a0_2):=(blk_cell BK462.out 2).trans rfl
           have hcz25_3 : wr.cell? ⟨gb462,3,none⟩=some (.int .i64 a0_3):=(blk_cell BK462.out 3).trans rfl
           have hfz25_0:=blk_frozen BK462.out 0
           have hfz25_1:=blk_frozen BK462.out 1
           have hfz25_2:=blk_frozen BK462.out 2
           have hfz25_3:=blk_frozen BK462.out 3
           have p463 : 0≤(x4_2 : Int):=of_decide_eq_true (by first|(with_reducible assumption)|assumption)
           have q463 : x4_2 < (l0_0.length : Int):=of_decide_eq_true (by first|(with_reducible assumption)|assumption)
           obtain ⟨ad463,e463,hx463_0⟩:=Kd.at_int HR0_0.out x4_2 p463 q463
           cases e463
           replace hx463_0:=(HB.out.cell (World.block_lt_of_cell? w _ hx463_0)).trans hx463_0
           replace p463:=eq_true p463
           replace q463:=eq_true q463
           have p464 : 0≤(x4_2 : Int):=of_decide_eq_true (by first|(with_reducible assumption)|assumption)
           have q464 : x4_2 < (l0_0.length : Int):=of_decide_eq_true (by first|(with_reducible assumption)|assumption)
           obtain ⟨ad464,e464,hx464_0⟩:=Kd.at_int HR0_0.out x4_2 p464 q464
           obtain rfl : ad463=ad464:=(by injection e464)
           replace hx464_0:=(HB.out.cell (World.block_lt_of_cell? w _ hx464_0)).trans hx464_0
           replace p464:=eq_true p464
           replace q464:=eq_true q464
           go_wp2
           go_ret
           exact ⟨by first|rfl|(simp [errW_none,errW_some] <;> rfl)|(simp [*,errW_none,errW_some] <;> rfl),by repeat (first|(with_reducible first|exact HB.out|apply below_alloc|apply pw_below_drewN|apply below_drew1|refine below_set ?_ GE462.out)|exact HB.out)⟩
          ·rw [if_neg c24] at H
           have c24b0 : decide (3 < (rd l0_0 x4_2))=false:=decide_eq_false c24
           clear c24
           have H':=Aside0.mk H
           clear H
           have hcz26_0 : wr.cell? ⟨gb462,0,none⟩=some (.slice A0_0 l0_0.length c0_0):=(blk_cell BK462.out 0).trans rfl
           have hcz26_1 : wr.cell? ⟨gb462,1,none⟩=some (.int .i64 a0_1):=(blk_cell BK462.out 1).trans rfl
           have hcz26_2 : wr.cell? ⟨gb462,2,none⟩=some (.int .i64 a0_2):=(blk_cell BK462.out 2).trans rfl
           have hcz26_3 : wr.cell? ⟨gb462,3,none⟩=some (.int .i64 a0_3):=(blk_cell BK462.out 3).trans rfl
           have hfz26_0:=blk_frozen BK462.out 0
           have hfz26_1:=blk_frozen BK462.out 1
           have hfz26_2:=blk_frozen BK462.out 2
           have hfz26_3:=blk_frozen BK462.out 3
           have p463 : 0≤(x4_2 : Int):=of_decide_eq_true (by first|(with_reducible assumption)|assumption)
           have q463 : x4_2 < (l0_0.length : Int):=of_decide_eq_true (by first|(with_reducible assumption)|assumption)
           obtain ⟨ad463,e463,hx463_0⟩:=Kd.at_int HR0_0.out x4_2 p463 q463
           cases e463
           replace hx463_0:=(HB.out.cell (World.block_lt_of_cell? w _ hx463_0)).trans hx463_0
           replace p463:=eq_true p463
           replace q463:=eq_true q463
           have p464 : 0≤(x4_2 : Int):=of_decide_eq_true (by first|(with_reducible assumption)|assumption)
           have q464 : x4_2 < (l0_0.length : Int):=of_decide_eq_true (by first|(with_reducible assumption)|assumption)
           obtain ⟨ad464,e464,hx464_0⟩:=Kd.at_int HR0_0.out x4_2 p464 q464
           obtain rfl : ad463=ad464:=(by injection e464)
           replace hx464_0:=(HB.out.cell (World.block_lt_of_cell? w _ hx464_0)).trans hx464_0
           replace p464:=eq_true p464
           replace q464:=eq_true q464
           go_wp2
           go_roundg k2
           case measure=>have:=HJ1.out;have:=HK2.out;omega
           case rel=>exact ⟨(wrap64 (x4_2 + 1)),(by first|rfl|(simp;done)|(simp [*];done)),(by first|exact H'|(subst_vars;exact H')),⟨by have:=HJ1.out;have:=HK2.out;omega⟩,⟨by (with_reducible repeat (first|refine blk_drewN ?_ _|refine blk_drew ?_|refine blk_alloc ?_ _));exact BK462.out⟩,⟨by repeat (first|(with_reducible first|exact HB.out|apply below_alloc|apply pw_below_drewN|apply below_drew1|refine below_set ?_ GE462.out)|exact HB.out)⟩⟩
        ·rw [if_neg c21] at H
         exact absurd H (by simp)
       ·rw [if_neg c20] at H
        exact absurd H (by simp)
      ·rw [if_neg c19] at H
       have c19b0 : decide (x4_2 < (l0_0.length : Int))=false:=decide_eq_false c19
       clear c19
       obtain rfl:=Option.some.inj H
       go_wp2
       go_ret
       exact ⟨by first|rfl|(simp [errW_none,errW_some] <;> rfl)|(simp [*,errW_none,errW_some] <;> rfl),by repeat (first|(with_reducible first|exact HB.out|apply below_alloc|apply pw_below_drewN|apply below_drew1|refine below_set ?_ GE462.out)|exact HB.out)⟩
def thresherref01_PutVar.l0 : Nat→Int→List Int→Option (List Int)
 | 0,_,_=>none
 | k + 1,x0,x3=>if x0 ≥ 128 then (if x3.length < 140737488355328 then (thresherref01_PutVar.l0 k (IntKind.u64.wrap (Int.tdiv x0 128)) (x3 ++ [((Int.tmod x0 128) + 128) % 256])) else (none)) else (if x3.length < 140737488355328 then (some (x3 ++ [(x0) % 256])) else (none))
def thresherref01_PutVar.f (k : Nat) (a0 : Int) : Option (List Int):=thresherref01_PutVar.l0 k a0 (([] : List Int))
theorem thresherref01_PutVar.mono_l : ∀ k,(∀ y0 y1,LeO (thresherref01_PutVar.l0 k y0 y1) (thresherref01_PutVar.l0 (k + 1) y0 y1))
 | 0=>fun _ _ r h=>by simp [thresherref01_PutVar.l0] at h
 | k + 1=>by
  have ih0:=thresherref01_PutVar.mono_l k
  ·intro y0 y1
   unfold thresherref01_PutVar.l0
   repeat' first
   | (with_reducible exact ih0 _ _)
   | (with_reducible exact LeO.refl _)
   | (with_reducible exact LeO.none _)
   | (with_reducible refine LeO.ite ?_ ?_)
   | (with_reducible refine LeO.bind ?_ (fun _=>?_))
   | exact ih0 _ _
   | exact LeO.none _
   | refine LeO.ite ?_ ?_
   | refine LeO.bind ?_ (fun _=>?_)
theorem thresherref01_PutVar.mono : ∀ a0 k,LeO (thresherref01_PutVar.f k a0) (thresherref01_PutVar.f (k + 1) a0):=by
 intro a0 k
 have ih0:=thresherref01_PutVar.mono_l k
 unfold thresherref01_PutVar.f
 repeat' first
   | (with_reducible exact ih0 _ _)
   | (with_reducible exact LeO.refl _)
   | (with_reducible exact LeO.none _)
   | (with_reducible refine LeO.ite ?_ ?_)
   | (with_reducible refine LeO.bind ?_ (fun _=>?_))
   | exact ih0 _ _
   | exact LeO.none _
   | refine LeO.ite ?_ ?_
   | refine LeO.bind ?_ (fun _=>?_)
set_option maxHeartbeats 8000000 in
set_option maxRecDepth 100000 in
theorem thresherref01_PutVar.calls (k : Nat) (a0 : Int) (r : List Int) (w : World) (h : thresherref01_PutVar.f k a0=some r) :
  Calls Try.prog 42 #[.int .u64 a0] w fun e w'=>∃ v0_ : Value,e=.returned (v0_)∧Kd.R (Kd.int .u8) 5 w' w.heap.size (fun _=>True) v0_ r∧Below w.heap.size w w':=by
 have HB:=Aside0.mk (Below.refl w.heap.size w)
 have H : (thresherref01_PutVar.l0 k a0 (([] : List Int)))=some r:=h
 clear h
 obtain ⟨y465,hy465⟩ : ∃ y_ : List Int,y_=(([] : List Int)):=⟨_,rfl⟩
 replace H : (thresherref01_PutVar.l0 k a0 y465)=some r:=by first|(rw [hy465];with_reducible exact H)|(have H2_:=(Option.bind_some _ _).symm.trans H;rw [hy465];with_reducible exact H2_)|(have H2_:=(Option.bind_some _ _).symm.trans H;with_reducible exact H2_)|with_reducible exact H|(rw [hy465];exact H)|exact H
 have Ny465:=Aside0.mk hy465
 clear hy465
 have H':=Aside0.mk H
 clear H
 go_enter Try.func42,Try.ntmps42
 go_wp2_with (first|((with_reducible refine gate_dst (N:=4) rfl ?_);refine Kd.R_lit (Kd.int .u8) _ 5 ?hg (N:=4) ?hd (xs:=([] : List Int)) (inner:=[]) (ok:=fun _=>True) (okp:=fun _=>True) ?hr ?hp (fun _ hk=>hk) trivial (Below.refl _ _) (Nat.le_refl _) (by simp) ?_;(case hd=>rfl);(case hg=>rfl);(case hr=>first|(go_simp;done)|(go_simp;rfl));(case hp=>exact (Reps.none _ _));intro v466 w2 ho3 hb hg_ hnew_;clear hg_ hnew_;(first|rw [← Ny465.out] at ho3|(simp only [Int.reduceToNat] at ho3;rw [← Ny465.out] at ho3));have n0_:=Aside0.mk (Kd.R_lower ho3 (below_size (below_up HB.out)));have n1_:=Aside0.mk (below_step (below_up HB.out) hb);clear HB;have HO467:=n0_;have HB:=n1_;clear n0_ n1_;clear hb ho3))
 go_loopg [0,3] k (fun kq v0 v3 w'=>∃ (x0_1 : Int) (x3_1 : List Int),v0=.int .u64 x0_1∧Aside0 (thresherref01_PutVar.l0 kq x0_1 x3_1=some r)∧Aside0 (kq≤k)∧Aside0 (Kd.R (Kd.int .u8) 5 w' w.heap.size (fun _=>True) v3 x3_1)∧Aside0 (Below w.heap.size w w'))
 case atStart=>exact ⟨(a0),(y465),(by first|rfl|(simp;done)|(simp [*];done)),H',⟨Nat.le_refl _⟩,⟨by (with_reducible repeat (first|apply Kd.R_alloc|apply Kd.R_drewN|apply Kd.R_drew));exact HO467.out⟩,⟨by repeat (first|(with_reducible first|exact HB.out|apply below_alloc|apply pw_below_drewN|apply below_drew1)|exact HB.out)⟩⟩
 case round =>
  clear H'
  try clear p2
  obtain ⟨x0_1,x3_1,rfl,HA,HK1,HO_3,HB⟩:=hrel
  cases gk with
  | zero=>exact absurd HA.out (by simp [thresherref01_PutVar.l0])
  | succ k1 =>
   have H:=HA.out
   clear HA
   simp only [thresherref01_PutVar.l0] at H
   by_cases c4 : x0_1 ≥ 128
   ·rw [if_pos c4] at H
    have c4b0 : decide (128≤x0_1)=true:=decide_eq_true c4
    clear c4
    by_cases c5 : x3_1.length < 140737488355328
    ·rw [if_pos c5] at H
     have LMc5:=Aside0.mk c5
     clear c5
     obtain ⟨y468,hy468⟩ : ∃ y_ : List Int,y_=(x3_1 ++ [((Int.tmod x0_1 128) + 128) % 256]):=⟨_,rfl⟩
     replace H : (thresherref01_PutVar.l0 k1 (IntKind.u64.wrap (Int.tdiv x0_1 128)) y468)=some r:=by first|(rw [hy468];with_reducible exact H)|(have H2_:=(Option.bind_some _ _).symm.trans H;rw [hy468];with_reducible exact H2_)|(have H2_:=(Option.bind_some _ _).symm.trans H;with_reducible exact H2_)|with_reducible exact H|(rw [hy468];exact H)|exact H
     have Ny468:=Aside0.mk hy468
     clear hy468
     have H':=Aside0.mk H
     clear H
     go_wp2_with (first|((with_reducible refine gate_builtin (b:=.append) (xs:=#[.tmp 7,.tmp 12]) rfl ?_);at_builtin;refine Kd.R_append (Kd.int .u8) (w0:=w) w.heap.size rfl (.tmp 7) (.tmp 12) 41 5 (.int .u8 0) 1 rfl Try.underlying41 info5 rfl (by decide) (by omega) u3 x3_1 (((Int.tmod x0_1 128) + 128) % 256) [.int .u8 (((Int.tmod x0_1 128) + 128) % 256)] (fun _=>True) (fun _=>False) rfl rfl ?aP (fun _ hk=>hk.elim) ?aF ?aO ?aB ?aS ?aL ?_;(case aP=>exact rfl);(case aB=>exact (below_up HB.out));(case aF=>exact (fun _ _=>trivial));(case aO=>exact (R_up HO_3.out));(case aS=>exact (below_size (below_up HB.out)));(case aL=>have:=LMc5.out;omega);intro v469 w6 ho hb hg hat;rw [← Ny468.out] at ho;have n0_:=Aside0.mk (hb);have n1_:=Aside0.mk (ho);clear HB;clear HO_3;have HB:=n0_;have HO470:=n1_;clear n0_ n1_;clear ho hb hg hat))
     go_roundg k1
     case measure=>have:=HK1.out;omega
     case rel=>exact ⟨(IntKind.u64.wrap (Int.tdiv x0_1 128)),(y468),(by first|rfl|(simp;done)|(simp [*];done)),(by first|exact H'|(subst_vars;exact H')),⟨by have:=HK1.out;omega⟩,⟨by (with_reducible repeat (first|apply Kd.R_alloc|apply Kd.R_drewN|apply Kd.R_drew));exact HO470.out⟩,⟨by repeat (first|(with_reducible first|exact HB.out|apply below_alloc|apply pw_below_drewN|apply below_drew1)|exact HB.out)⟩⟩
    ·rw [if_neg c5] at H
     exact absurd H (by simp)
   ·rw [if_neg c4] at H
    have c4b0 : decide (128≤x0_1)=false:=decide_eq_false c4
    clear c4
    by_cases c7 : x3_1.length < 140737488355328
    ·rw [if_pos c7] at H
     have LMc7:=Aside0.mk c7
     clear c7
     obtain ⟨y471,hy471⟩ : ∃ y_ : List Int,y_=(x3_1 ++ [(x0_1) % 256]):=⟨_,rfl⟩
     replace H : (some y471)=some r:=by first|(rw [hy471];with_reducible exact H)|(have H2_:=(Option.bind_some _ _).symm.trans H;rw [hy471];with_reducible exact H2_)|(have H2_:=(Option.bind_some _ _).symm.trans H;with_reducible exact H2_)|with_reducible exact H|(rw [hy471];exact H)|exact H
     have Ny471:=Aside0.mk hy471
     clear hy471
     obtain rfl:=Option.some.inj H
     go_wp2_with (first|((with_reducible refine gate_builtin (b:=.append) (xs:=#[.tmp 16,.tmp 19]) rfl ?_);at_builtin;refine Kd.R_append (Kd.int .u8) (w0:=w) w.heap.size rfl (.tmp 16) (.tmp 19) 41 5 (.int .u8 0) 1 rfl Try.underlying41 info5 rfl (by decide) (by omega) u3 x3_1 ((x0_1) % 256) [.int .u8 ((x0_1) % 256)] (fun _=>True) (fun _=>False) rfl rfl ?aP (fun _ hk=>hk.elim) ?aF ?aO ?aB ?aS ?aL ?_;(case aP=>exact rfl);(case aB=>exact (below_up HB.out));(case aF=>exact (fun _ _=>trivial));(case aO=>exact (R_up HO_3.out));(case aS=>exact (below_size (below_up HB.out)));(case aL=>have:=LMc7.out;omega);intro v472 w8 ho hb hg hat;rw [← Ny471.out] at ho;have n0_:=Aside0.mk (hb);have n1_:=Aside0.mk (ho);clear HB;clear HO_3;have HB:=n0_;have HO473:=n1_;clear n0_ n1_;clear ho hb hg hat))
     go_ret
     exact ⟨_,by first|rfl|(simp [errW_none,errW_some] <;> rfl)|(simp [*,errW_none,errW_some] <;> rfl),by (with_reducible repeat (first|apply Kd.R_alloc|apply Kd.R_drewN|apply Kd.R_drew));exact HO473.out,by repeat (first|(with_reducible first|exact HB.out|apply below_alloc|apply pw_below_drewN|apply below_drew1)|exact HB.out)⟩
    ·rw [if_neg c7] at H
     exact absurd H (by simp)
end Go.Proofs.Ytkodpbellndelaa.P

