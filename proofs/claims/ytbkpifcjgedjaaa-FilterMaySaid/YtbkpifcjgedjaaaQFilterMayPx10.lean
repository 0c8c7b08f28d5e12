/- Texts of FilterMay. Merged: Px10. -/
import Derived.Test.YtbkpifcjgedjaaaQFilterMayPx0
import Derived.Test.YtbkpifcjgedjaaaQFilterMayPx9
namespace Go.Proofs.Ytbkpifcjgedjaaa.P
open Go.RowKit Go.Proofs.YtbkpifcjgedjaaaW.PrintWords Go.Proofs.YtbkpifcjgedjaaaW.PrintLast Go.Proofs.YtbkpifcjgedjaaaW.PrintMore
attribute [local go_sem] max2_int min2_int max_two min_two max_three min_three max_four min_four   -- for this text's walks alone
set_option linter.unusedVariables false
set_option linter.unusedSimpArgs false
mutual
def thresherref19_Select.l0 : Nat→Int→List (S37)→List Int→List Int→Int→Int→Int→Int→ByteArray→Option (List Int)
 | 0,_,_,_,_,_,_,_,_,_=>none
 | k + 1,x0,x2,x3,x9,x10,x205000,x205001,x205002,x205003=>if x10 < (x3.length : Int) then (if 0≤x10 then (if (rd x3 x10) < 0 then (thresherref19_Select.j1 k x0 x2 x3 x9 x10 true x205000 x205001 x205002 x205003) else (thresherref19_Select.j1 k x0 x2 x3 x9 x10 (decide ((rd x3 x10) ≥ (x2.length : Int))) x205000 x205001 x205002 x205003)) else (none)) else (some x9)
def thresherref19_Select.j1 : Nat→Int→List (S37)→List Int→List Int→Int→Bool→Int→Int→Int→ByteArray→Option (List Int)
 | 0,_,_,_,_,_,_,_,_,_,_=>none
 | k + 1,x0,x2,x3,x9,x10,x32,x205000,x205001,x205002,x205003=>if x32=true then (thresherref19_Select.l0 k x0 x2 x3 x9 (wrap64 (x10 + 1)) x205000 x205001 x205002 x205003) else (if 0≤x10 then (if x10 < (x3.length : Int) then (if 0≤(rd x3 x10) then (if (rd x3 x10) < (x2.length : Int) then ((thresherref19_Holds.f k x0 x205000 x205001 x205002 x205003 ((rd_T37 x2 (rd x3 x10)).f0) ((rd_T37 x2 (rd x3 x10)).f1)).bind fun t212=>(if t212=true then (if x9.length < 17592186044416 then (thresherref19_Select.l0 k x0 x2 x3 (x9 ++ [rd x3 x10]) (wrap64 (x10 + 1)) x205000 x205001 x205002 x205003) else (none)) else (thresherref19_Select.l0 k x0 x2 x3 x9 (wrap64 (x10 + 1)) x205000 x205001 x205002 x205003))) else (none)) else (none)) else (none)) else (none))
end
def thresherref19_Select.f (k : Nat) (a0 : Int) (a1_0 : Int) (a1_1 : Int) (a1_2 : Int) (a1_3 : ByteArray) (l2 : List (S37)) (l3 : List Int) : Option (List Int):=thresherref19_Select.l0 k a0 l2 l3 (([] : List Int)) 0 a1_0 a1_1 a1_2 a1_3
theorem thresherref19_Select.mono_l : ∀ k,(∀ y0 y1 y2 y3 y4 y5 y6 y7 y8,LeO (thresherref19_Select.l0 k y0 y1 y2 y3 y4 y5 y6 y7 y8) (thresherref19_Select.l0 (k + 1) y0 y1 y2 y3 y4 y5 y6 y7 y8))∧(∀ y0 y1 y2 y3 y4 y5 y6 y7 y8 y9,LeO (thresherref19_Select.j1 k y0 y1 y2 y3 y4 y5 y6 y7 y8 y9) (thresherref19_Select.j1 (k + 1) y0 y1 y2 y3 y4 y5 y6 y7 y8 y9))
 | 0=>⟨fun _ _ _ _ _ _ _ _ _ r h=>by simp [thresherref19_Select.l0] at h,fun _ _ _ _ _ _ _ _ _ _ r h=>by simp [thresherref19_Select.j1] at h⟩
 | k + 1=>by
  obtain ⟨ih0,ih1⟩:=thresherref19_Select.mono_l k
  refine ⟨?_,?_⟩
  ·intro y0 y1 y2 y3 y4 y5 y6 y7 y8
   unfold thresherref19_Select.l0
   repeat' first
   | (with_reducible exact ih0 _ _ _ _ _ _ _ _ _)
   | (with_reducible exact ih1 _ _ _ _ _ _ _ _ _ _)
   | (with_reducible exact thresherref19_Holds.mono _ _ _ _ _ _ _ _)
   | (with_reducible exact LeO.refl _)
   | (with_reducible exact LeO.none _)
   | (with_reducible refine LeO.ite ?_ ?_)
   | (with_reducible refine LeO.bind ?_ (fun _=>?_))
   | exact ih0 _ _ _ _ _ _ _ _ _
   | exact ih1 _ _ _ _ _ _ _ _ _ _
   | exact thresherref19_Holds.mono _ _ _ _ _ _ _ _
   | exact LeO.none _
   | refine LeO.ite ?_ ?_
   | refine LeO.bind ?_ (fun _=>?_)
  ·intro y0 y1 y2 y3 y4 y5 y6 y7 y8 y9
   unfold thresherref19_Select.j1
   repeat' first
   | (with_reducible exact ih0 _ _ _ _ _ _ _ _ _)
   | (with_reducible exact ih1 _ _ _ _ _ _ _ _ _ _)
   | (with_reducible exact thresherref19_Holds.mono _ _ _ _ _ _ _ _)
   | (with_reducible exact LeO.refl _)
   | (with_reducible exact LeO.none _)
   | (with_reducible refine LeO.ite ?_ ?_)
   | (with_reducible refine LeO.bind ?_ (fun _=>?_))
   | exact ih0 _ _ _ _ _ _ _ _ _
   | exact ih1 _ _ _ _ _ _ _ _ _ _
   | exact thresherref19_Holds.mono _ _ _ _ _ _ _ _
   | exact LeO.none _
   | refine LeO.ite ?_ ?_
   | refine LeO.bind ?_ (fun _=>?_)
theorem thresherref19_Select.mono : ∀ a0 a1 a2 a3 a4 a5 a6 k,LeO (thresherref19_Select.f k a0 a1 a2 a3 a4 a5 a6) (thresherref19_Select.f (k + 1) a0 a1 a2 a3 a4 a5 a6):=by
 intro a0 a1 a2 a3 a4 a5 a6 k
 obtain ⟨ih0,ih1⟩:=thresherref19_Select.mono_l k
 unfold thresherref19_Select.f
 repeat' first
   | (with_reducible exact ih0 _ _ _ _ _ _ _ _ _)
   | (with_reducible exact ih1 _ _ _ _ _ _ _ _ _ _)
   | (with_reducible exact thresherref19_Holds.mono _ _ _ _ _ _ _ _)
   | (with_reducible exact LeO.refl _)
   | (with_reducible exact LeO.none _)
   | (with_reducible refine LeO.ite ?_ ?_)
   | (with_reducible refine LeO.bind ?_ (fun _=>?_))
   | exact ih0 _ _ _ _ _ _ _ _ _
   | exact ih1 _ _ _ _ _ _ _ _ _ _
   | exact thresherref19_Holds.mono _ _ _ _ _ _ _ _
   | exact LeO.none _
   | refine LeO.ite ?_ ?_
   | refine LeO.bind ?_ (fun _=>?_)
def thresherref19_Select.T6 : Bool × List (List Nat × List Nat):=(true,[([],[]),([],[]),([],[]),([],[]),([],[]),([3,4],[3,4]),([5],[5]),([2,6],[2,6]),([7],[7]),([0,1,8],[0,1,8]),([9,9,0,1,2,3,4,5,6,7,8,9],[9])])
def thresherref19_Select.B6 : List Nat:=[0,0,0,0,0,24,56,124,252,511,1023]
theorem thresherref19_Select.tab6 : rtab .any (opsOf Try.f14 6)=thresherref19_Select.T6:=by kernel_rfl
theorem thresherref19_Select.bits6 : waitsOk thresherref19_Select.T6.2 thresherref19_Select.B6=true:=by kernel_rfl
set_option maxHeartbeats 8000000 in
set_option maxRecDepth 100000 in
theorem thresherref19_Select.calls (k : Nat) (a0 : Int) (a1_0 : Int) (a1_1 : Int) (a1_2 : Int) (a1_3 : ByteArray) (A2 : Option Addr) (c2 : Nat) (l2 : List (S37)) (A3 : Option Addr) (c3 : Nat) (l3 : List Int) (r : List Int) (w : World) (hr2 : Kd.C k37 w A2 l2.length l2) (hc2 : l2.length≤c2) (hr3 : Kd.C (Kd.int .i64) w A3 l3.length l3) (hc3 : l3.length≤c3) (h : thresherref19_Select.f k a0 a1_0 a1_1 a1_2 a1_3 l2 l3=some r) :
  Calls Try.prog 14 #[.int .i64 a0,.agg #[.int .i64 a1_0,.int .i64 a1_1,.int .i64 a1_2,.string a1_3],.slice A2 l2.length c2,.slice A3 l3.length c3] w fun e w'=>∃ v0_ : Value,e=.returned (v0_)∧Kd.R (Kd.int .i64) 3 w' w.heap.size (fun _=>True) v0_ r∧Below w.heap.size w w':=by
 have hu39:=Try.underlying39
 have hu37:=Try.underlying37
 have HR2:=Aside0.mk hr2
 have HC2:=Aside0.mk hc2
 clear hr2 hc2
 have HR3:=Aside0.mk hr3
 have HC3:=Aside0.mk hc3
 clear hr3 hc3
 have HB:=Aside0.mk (Below.refl w.heap.size w)
 have H : (thresherref19_Select.l0 k a0 l2 l3 (([] : List Int)) 0 a1_0 a1_1 a1_2 a1_3)=some r:=h
 clear h
 obtain ⟨y205,hy205⟩ : ∃ y_ : List Int,y_=(([] : List Int)):=⟨_,rfl⟩
 replace H : (thresherref19_Select.l0 k a0 l2 l3 y205 0 a1_0 a1_1 a1_2 a1_3)=some r:=by first|(rw [hy205];with_reducible exact H)|(have H2_:=(Option.bind_some _ _).symm.trans H;rw [hy205];with_reducible exact H2_)|(have H2_:=(Option.bind_some _ _).symm.trans H;with_reducible exact H2_)|with_reducible exact H|(rw [hy205];exact H)|exact H
 have Ny205:=Aside0.mk hy205
 clear hy205
 have H':=Aside0.mk H
 clear H
 go_enter Try.func14,Try.ntmps14
 go_wp2_with (first|((with_reducible refine gate_dst (N:=5) rfl ?_);(try (refine gate_guard (by rfl) ?_;dsimp only));refine box_event ?hg (N:=5) ?hd (cs:=#[.int .i64 a1_0,.int .i64 a1_1,.int .i64 a1_2,.string a1_3]) (t:=39) ?hr ?_;(case hd=>rfl);(case hg=>rfl);(case hr=>first|(go_simp;done)|(go_simp;rfl));intro gb204 hg w5 hbox hb;have n0_:=Aside0.mk (below_step (below_up HB.out) hb);have n1_:=Aside0.mk (hbox);have n2_:=Aside0.mk ((by rw [hg];exact (below_size (below_up HB.out)) : w.heap.size≤gb204));have n3_:=Aside0.mk ((by rw [hg];exact (below_size (below_up HB.out)) : w.heap.size≤gb204));clear HB;have HB:=n0_;have BK204:=n1_;have GW204:=n2_;have GE204:=n3_;clear n0_ n1_ n2_ n3_;clear hb hbox hg)|((with_reducible refine gate_dst (N:=12) rfl ?_);(try (refine gate_guard (by rfl) ?_;dsimp only));refine Kd.R_lit (Kd.int .i64) _ 3 ?hg (N:=12) ?hd (xs:=([] : List Int)) (inner:=[]) (ok:=fun _=>True) (okp:=fun _=>True) ?hr ?hp (fun _ hk=>hk) trivial (Below.refl _ _) (Nat.le_refl _) (by simp) ?_;(case hd=>rfl);(case hg=>rfl);(case hr=>first|(go_simp;done)|(go_simp;rfl));(case hp=>exact (Reps.none _ _));intro v206 w6 ho7 hb hg_ hnew_;clear hg_ hnew_;(first|rw [← Ny205.out] at ho7|(simp only [Int.reduceToNat] at ho7;rw [← Ny205.out] at ho7));have n0_:=Aside0.mk (Kd.R_lower ho7 (below_size (below_go HB.out)));have n1_:=Aside0.mk (blk_below (blk_up BK204.out) hb);have n2_:=Aside0.mk (below_step (below_go HB.out) hb);clear BK204;clear HB;have HO207:=n0_;have BK204:=n1_;have HB:=n2_;clear n0_ n1_ n2_;clear hb ho7))
 go_loopg [9,10] k (fun kq v9 v10 w'=>∃ (x9_1 : List Int) (x10_1 : Int),v10=.int .i64 x10_1∧Aside0 (thresherref19_Select.l0 kq a0 l2 l3 x9_1 x10_1 a1_0 a1_1 a1_2 a1_3=some r)∧Aside0 (kq≤k)∧Aside0 (Kd.R (Kd.int .i64) 3 w' w.heap.size (fun _=>True) v9 x9_1)∧Aside0 (w'.heap[gb204]?=some (.cells #[.int .i64 a1_0,.int .i64 a1_1,.int .i64 a1_2,.string a1_3] 39 (0,0)))∧Aside0 (Below w.heap.size w w'))
 case atStart=>exact ⟨(y205),(0),(by first|rfl|(simp;done)|(simp [*];done)),H',⟨Nat.le_refl _⟩,⟨by (with_reducible repeat (first|apply Kd.R_alloc|apply Kd.R_drewN|apply Kd.R_drew));exact HO207.out⟩,⟨by (with_reducible repeat (first|refine blk_drewN ?_ _|refine blk_drew ?_|refine blk_alloc ?_ _));exact BK204.out⟩,⟨by repeat (first|(with_reducible first|exact HB.out|apply below_alloc|apply pw_below_drewN|apply below_drew1|refine below_set ?_ GE204.out)|exact HB.out)⟩⟩
 case round =>
  clear H'
  try clear c1
  try clear c2
  try clear p2
  try clear c3
  obtain ⟨x9_1,x10_1,rfl,HA,HK1,HO_9,BK204,HB⟩:=hrel
  cases gk with
  | zero=>exact absurd HA.out (by simp [thresherref19_Select.l0])
  | succ k1 =>
   have H:=HA.out
   clear HA
   simp only [thresherref19_Select.l0] at H
   by_cases c8 : x10_1 < (l3.length : Int)
   ·rw [if_pos c8] at H
    have c8b0 : decide (x10_1 < (l3.length : Int))=true:=decide_eq_true c8
    clear c8
    have HC9:=Aside0.mk H
    clear H
    go_upto_region 5 with (fail)
    go_cut [32] (fun v32 wc=>∃ (kq : Nat) (x32_8 : Bool),v32=.bool x32_8∧Aside0 (thresherref19_Select.j1 kq a0 l2 l3 x9_1 x10_1 x32_8 a1_0 a1_1 a1_2 a1_3=some r)∧Aside0 (kq≤k1)∧Aside0 (Kd.R (Kd.int .i64) 3 wc w.heap.size (fun _=>True) u9 x9_1)∧Aside0 (wc.heap[gb204]?=some (.cells #[.int .i64 a1_0,.int .i64 a1_1,.int .i64 a1_2,.string a1_3] 39 (0,0)))∧Aside0 (Below w.heap.size w wc))
    case first =>
     have H:=HC9.out
     clear HC9
     by_cases c10 : 0≤x10_1
     ·rw [if_pos c10] at H
      have c10b0 : decide (0≤x10_1)=true:=decide_eq_true c10
      clear c10
      (first|rw [c10b0]|(simp only [i64_w,i32_w];rw [c10b0])|skip)
      by_cases c11 : (rd l3 x10_1) < 0
      ·rw [if_pos c11] at H
       have c11b0 : decide ((rd l3 x10_1) < 0)=true:=decide_eq_true c11
       clear c11
       have H':=Aside0.mk H
       clear H
       have p208 : 0≤(x10_1 : Int):=of_decide_eq_true (by first|(with_reducible assumption)|assumption)
       have q208 : x10_1 < (l3.length : Int):=of_decide_eq_true (by first|(with_reducible assumption)|assumption)
       obtain ⟨ad208,e208,hx208_0⟩:=Kd.at_int HR3.out x10_1 p208 q208
       cases e208
       replace hx208_0:=(HB.out.cell (World.block_lt_of_cell? w _ hx208_0)).trans hx208_0
       replace p208:=eq_true p208
       replace q208:=eq_true q208
       go_wp2
       go_meet
       case rel=>exact ⟨_,(true),(by first|rfl|(simp;done)|(simp [*];done)),(by first|exact H'|(subst_vars;exact H')),⟨by have:=HK1.out;first|omega|exact Nat.le_refl _⟩,⟨by (with_reducible repeat (first|apply Kd.R_alloc|apply Kd.R_drewN|apply Kd.R_drew));exact HO_9.out⟩,⟨by (with_reducible repeat (first|refine blk_drewN ?_ _|refine blk_drew ?_|refine blk_alloc ?_ _));exact BK204.out⟩,⟨by repeat (first|(with_reducible first|exact HB.out|apply below_alloc|apply pw_below_drewN|apply below_drew1|refine below_set ?_ GE204.out)|exact HB.out)⟩⟩
      ·rw [if_neg c11] at H
       have c11b0 : decide ((rd l3 x10_1) < 0)=false:=decide_eq_false c11
       clear c11
       have H':=Aside0.mk H
       clear H
       have p208 : 0≤(x10_1 : Int):=of_decide_eq_true (by first|(with_reducible assumption)|assumption)
       have q208 : x10_1 < (l3.length : Int):=of_decide_eq_true (by first|(with_reducible assumption)|assumption)
       obtain ⟨ad208,e208,hx208_0⟩:=Kd.at_int HR3.out x10_1 p208 q208
       cases e208
       replace hx208_0:=(HB.out.cell (World.block_lt_of_cell? w _ hx208_0)).trans hx208_0
       replace p208:=eq_true p208
       replace q208:=eq_true q208
       have p209 : 0≤(x10_1 : Int):=of_decide_eq_true (by first|(with_reducible assumption)|assumption)
       have q209 : x10_1 < (l3.length : Int):=of_decide_eq_true (by first|(with_reducible assumption)|assumption)
       obtain ⟨ad209,e209,hx209_0⟩:=Kd.at_int HR3.out x10_1 p209 q209
       obtain rfl : ad208=ad209:=(by injection e209)
       replace hx209_0:=(HB.out.cell (World.block_lt_of_cell? w _ hx209_0)).trans hx209_0
       replace p209:=eq_true p209
       replace q209:=eq_true q209
       go_wp2
       go_meet
       case rel=>exact ⟨_,(decide ((rd l3 x10_1) ≥ (l2.length : Int))),(by first|rfl|(simp;done)|(simp [*];done)),(by first|exact H'|(subst_vars;exact H')),⟨by have:=HK1.out;first|omega|exact Nat.le_refl _⟩,⟨by (with_reducible repeat (first|apply Kd.R_alloc|apply Kd.R_drewN|apply Kd.R_drew));exact HO_9.out⟩,⟨by (with_reducible repeat (first|refine blk_drewN ?_ _|refine blk_drew ?_|refine blk_alloc ?_ _));exact BK204.out⟩,⟨by repeat (first|(with_reducible first|exact HB.out|apply below_alloc|apply pw_below_drewN|apply below_drew1|refine below_set ?_ GE204.out)|exact HB.out)⟩⟩
     ·rw [if_neg c10] at H
      exact absurd H (by simp)
    case rest =>
     clear HC9
     try clear c1
     try clear c2
     try clear p2
     try clear q2
     try clear hx2
     try clear c3
     try clear c8
     try clear c8b0
     try clear c10
     try clear c10b0
     try clear c11
     try clear c11b0
     try clear hx208_0
     try clear hx209_0
     try clear p2
     try clear p208
     try clear p209
     try clear q208
     try clear q209
     obtain ⟨kq,x32_8,rfl,HA,HJ8,HO_9,BK204,HB⟩:=hcut
     cases kq with
     | zero=>exact absurd HA.out (by simp [thresherref19_Select.j1])
     | succ kj8 =>
      have H:=HA.out
      clear HA
      simp only [thresherref19_Select.j1] at H
      by_cases c12 : x32_8=true
      ·subst c12
       have H1 : (thresherref19_Select.l0 kj8 a0 l2 l3 x9_1 (wrap64 (x10_1 + 1)) a1_0 a1_1 a1_2 a1_3)=some r:=by rw [if_pos rfl] at H;exact H
       clear H
       have H:=H1
       clear H1
       have H':=Aside0.mk H
       clear H
       go_wp2
       go_roundg kj8
       case measure=>have:=HK1.out;have:=HJ8.out;omega
       case rel=>exact ⟨(x9_1),(wrap64 (x10_1 + 1)),(by first|rfl|(simp;done)|(simp [*];done)),(by first|exact H'|(subst_vars;exact H')),⟨by have:=HK1.out;have:=HJ8.out;omega⟩,⟨by (with_reducible repeat (first|apply Kd.R_alloc|apply Kd.R_drewN|apply Kd.R_drew));exact HO_9.out⟩,⟨by (with_reducible repeat (first|refine blk_drewN ?_ _|refine blk_drew ?_|refine blk_alloc ?_ _));exact BK204.out⟩,⟨by repeat (first|(with_reducible first|exact HB.out|apply below_alloc|apply pw_below_drewN|apply below_drew1|refine below_set ?_ GE204.out)|exact HB.out)⟩⟩
      ·replace c12:=Bool.eq_false_iff.mpr c12
       subst c12
       have H1 : (if 0≤x10_1 then (if x10_1 < (l3.length : Int) then (if 0≤(rd l3 x10_1) then (if (rd l3 x10_1) < (l2.length : Int) then ((thresherref19_Holds.f kj8 a0 a1_0 a1_1 a1_2 a1_3 ((rd_T37 l2 (rd l3 x10_1)).f0) ((rd_T37 l2 (rd l3 x10_1)).f1)).bind fun t212=>(if t212=true then (if x9_1.length < 17592186044416 then (thresherref19_Select.l0 kj8 a0 l2 l3 (x9_1 ++ [rd l3 x10_1]) (wrap64 (x10_1 + 1)) a1_0 a1_1 a1_2 a1_3) else (none)) else (thresherref19_Select.l0 kj8 a0 l2 l3 x9_1 (wrap64 (x10_1 + 1)) a1_0 a1_1 a1_2 a1_3))) else (none)) else (none)) else (none)) else (none))=some r:=by rw [if_neg (show ¬ (false=true) by decide)] at H;exact H
       clear H
       have H:=H1
       clear H1
       by_cases c13 : 0≤x10_1
       ·rw [if_pos c13] at H
        have c13b0 : decide (0≤x10_1)=true:=decide_eq_true c13
        clear c13
        by_cases c14 : x10_1 < (l3.length : Int)
        ·rw [if_pos c14] at H
         have c14b0 : decide (x10_1 < (l3.length : Int))=true:=decide_eq_true c14
         clear c14
         by_cases c15 : 0≤(rd l3 x10_1)
         ·rw [if_pos c15] at H
          have c15b0 : decide (0≤(rd l3 x10_1))=true:=decide_eq_true c15
          clear c15
          by_cases c16 : (rd l3 x10_1) < (l2.length : Int)
          ·rw [if_pos c16] at H
           have c16b0 : decide ((rd l3 x10_1) < (l2.length : Int))=true:=decide_eq_true c16
           clear c16
           replace H:=Option.bind_eq_some_iff.mp H
           obtain ⟨t212,A170,H⟩:=H
           replace H : (if t212=true then (if x9_1.length < 17592186044416 then (thresherref19_Select.l0 kj8 a0 l2 l3 (x9_1 ++ [rd l3 x10_1]) (wrap64 (x10_1 + 1)) a1_0 a1_1 a1_2 a1_3) else (none)) else (thresherref19_Select.l0 kj8 a0 l2 l3 x9_1 (wrap64 (x10_1 + 1)) a1_0 a1_1 a1_2 a1_3))=some r:=H
           have A17:=Aside0.mk A170
           clear A170
           by_cases c18 : t212=true
           ·subst c18
            have H1 : (if x9_1.length < 17592186044416 then (thresherref19_Select.l0 kj8 a0 l2 l3 (x9_1 ++ [rd l3 x10_1]) (wrap64 (x10_1 + 1)) a1_0 a1_1 a1_2 a1_3) else (none))=some r:=by rw [if_pos rfl] at H;exact H
            clear H
            have H:=H1
            clear H1
            by_cases c19 : x9_1.length < 17592186044416
            ·rw [if_pos c19] at H
             have LMc19:=Aside0.mk c19
             clear c19
             obtain ⟨y214,hy214⟩ : ∃ y_ : List Int,y_=(x9_1 ++ [rd l3 x10_1]):=⟨_,rfl⟩
             replace H : (thresherref19_Select.l0 kj8 a0 l2 l3 y214 (wrap64 (x10_1 + 1)) a1_0 a1_1 a1_2 a1_3)=some r:=by first|(rw [hy214];with_reducible exact H)|(have H2_:=(Option.bind_some _ _).symm.trans H;rw [hy214];with_reducible exact H2_)|(have H2_:=(Option.bind_some _ _).symm.trans H;with_reducible exact H2_)|with_reducible exact H|(rw [hy214];exact H)|exact H
             have Ny214:=Aside0.mk hy214
             clear hy214
             have H':=Aside0.mk H
             clear H
             try go_wp2
             have n0_:=Aside0.mk (Kd.R_drew HO_9.out)
             have n1_:=Aside0.mk (blk_drew BK204.out)
             have n2_:=Aside0.mk (below_drew1 HB.out)
             clear HO_9
             clear BK204
             clear HB
             have HO_9:=n0_
             have BK204:=n1_
             have HB:=n2_
             clear n0_ n1_ n2_
             have p210 : 0≤(x10_1 : Int):=of_decide_eq_true (by first|(with_reducible assumption)|assumption)
             have q210 : x10_1 < (l3.length : Int):=of_decide_eq_true (by first|(with_reducible assumption)|assumption)
             obtain ⟨ad210,e210,hx210_0⟩:=Kd.at_int HR3.out x10_1 p210 q210
             have hw210_0:=hx210_0
             cases e210
             replace hx210_0:=(HB.out.cell (World.block_lt_of_cell? w _ hx210_0)).trans hx210_0
             replace p210:=eq_true p210
             replace q210:=eq_true q210
             have p211 : 0≤((rd l3 x10_1) : Int):=of_decide_eq_true (by first|(with_reducible assumption)|assumption)
             have q211 : (rd l3 x10_1) < (l2.length : Int):=of_decide_eq_true (by first|(with_reducible assumption)|assumption)
             obtain ⟨ad211,e211,hx211_0,hx211_1⟩:=at_T37 HR2.out (rd l3 x10_1) p211 q211
             have hw211_1:=hx211_1
             have hw211_0:=hx211_0
             cases e211
             replace hx211_0:=(HB.out.cell (World.block_lt_of_cell? w _ hx211_0)).trans hx211_0
             replace hx211_1:=(HB.out.cell (World.block_lt_of_cell? w _ hx211_1)).trans hx211_1
             replace p211:=eq_true p211
             replace q211:=eq_true q211
             refine start_ (n:=11) (S:=fun w'=>w'.cell? ⟨gb204,0,none⟩=some (.int .i64 a1_0)∧w'.cell? ⟨gb204,1,none⟩=some (.int .i64 a1_1)∧w'.cell? ⟨gb204,2,none⟩=some (.int .i64 a1_2)∧w'.cell? ⟨gb204,3,none⟩=some (.string a1_3)∧w'.cell? (ad210.add (x10_1).toNat)=some (.int .i64 (rd l3 x10_1))∧w'.cell? (ad211.add (((rd l3 x10_1)).toNat * 2))=some (.int .i64 ((rd_T37 l2 (rd l3 x10_1)).f0))∧w'.cell? ⟨(ad211.add (((rd l3 x10_1)).toNat * 2)).block,(ad211.add (((rd l3 x10_1)).toNat * 2)).off + 1,none⟩=some (.string ((rd_T37 l2 (rd l3 x10_1)).f1))) (ds:=[]) #[false,false,false,false,false,false,false,false,false,false,false] (by kernel_rfl) rfl rfl ⟨(blk_cell BK204.out 0).trans rfl,(blk_cell BK204.out 1).trans rfl,(blk_cell BK204.out 2).trans rfl,(blk_cell BK204.out 3).trans rfl,((HB.out.cell (World.block_lt_of_cell? w _ hw210_0)).trans hw210_0),((HB.out.cell (World.block_lt_of_cell? w _ hw211_0)).trans hw211_0),((HB.out.cell (World.block_lt_of_cell? w _ hw211_1)).trans hw211_1)⟩ (fun hHeld=>?_);refine with_tabW thresherref19_Select.tab6 thresherref19_Select.bits6 (fun HT_ HW_=>?_)
             generalize wc.drew=w20 at HO_9 BK204 HB hx210_0 hx211_0 hx211_1 hHeld ⊢
             refine pure_ (i:=0) (N:=some 33) (v:=?_) (a':=?_) #[true,false,false,false,false,false,false,false,false,false,false] rfl rfl (any_of HT_.out (by kernel_rfl)) (fun _ _ _ h=>h) (Or.inl ⟨by rfl,?_⟩) ?_ ?_
             rotate_left;(intro w';go_simp;with_reducible rfl);rotate_left;(simp only [Act.put,List.setIfInBounds_toArray,List.set_cons_zero,List.set_cons_succ,i64_w,i32_w];rfl)
             refine pure_ (i:=2) (N:=some 35) (v:=?_) (a':=?_) #[true,false,true,false,false,false,false,false,false,false,false] rfl rfl (any_of HT_.out (by kernel_rfl)) (fun _ _ _ h=>h) (Or.inl ⟨by rfl,?_⟩) ?_ ?_
             rotate_left;(intro w';go_simp;with_reducible rfl);rotate_left;(simp only [Act.put,List.setIfInBounds_toArray,List.set_cons_zero,List.set_cons_succ,i64_w,i32_w];rfl)
             refine pure_ (i:=3) (N:=some 36) (v:=?_) (a':=?_) #[true,false,true,true,false,false,false,false,false,false,false] rfl rfl (any_of HT_.out (by kernel_rfl)) (fun _ _ _ h=>h) (Or.inl ⟨by rfl,?_⟩) ?_ ?_
             rotate_left;(intro w';go_simp;with_reducible rfl);rotate_left;(simp only [Act.put,List.setIfInBounds_toArray,List.set_cons_zero,List.set_cons_succ,i64_w,i32_w];rfl)
             refine pure_ (i:=4) (N:=some 37) (v:=?_) (a':=?_) #[true,false,true,true,true,false,false,false,false,false,false] rfl rfl (any_of HT_.out (by kernel_rfl)) (fun _ _ _ h=>h) (Or.inl ⟨by rfl,?_⟩) ?_ ?_
             rotate_left;(intro w';go_simp;with_reducible rfl);rotate_left;(simp only [Act.put,List.setIfInBounds_toArray,List.set_cons_zero,List.set_cons_succ,i64_w,i32_w];rfl)
             refine pure_ (i:=5) (N:=some 38) (v:=?_) (a':=?_) #[true,false,true,true,true,true,false,false,false,false,false] rfl rfl (any_of HT_.out (by kernel_rfl)) (fun _ _ _ h=>h) (Or.inl ⟨by rfl,?_⟩) ?_ ?_
             rotate_left;(intro w';go_simp;with_reducible rfl);rotate_left;(simp only [Act.put,List.setIfInBounds_toArray,List.set_cons_zero,List.set_cons_succ,i64_w,i32_w];rfl)
             refine take_ (i:=1) (N:=some 34) (v:=?_) (a':=?_) #[true,true,true,true,true,true,false,false,false,false,false] rfl rfl (take_ofW HT_.out HW_.out (by kernel_rfl)) (fun _ _ _ h=>h) (Or.inl ⟨by rfl,?_⟩) hHeld ?_ ?_
             rotate_left;(rintro w' ⟨s0,s1,s2,s3,s4,s5,s6⟩;go_simp;with_reducible rfl);rotate_left;(simp only [Act.put,List.setIfInBounds_toArray,List.set_cons_zero,List.set_cons_succ,i64_w,i32_w];rfl)
             refine take_ (i:=6) (N:=some 39) (v:=?_) (a':=?_) #[true,true,true,true,true,true,true,false,false,false,false] rfl rfl (take_ofW HT_.out HW_.out (by kernel_rfl)) (fun _ _ _ h=>h) (Or.inl ⟨by rfl,?_⟩) hHeld ?_ ?_
             rotate_left;(rintro w' ⟨s0,s1,s2,s3,s4,s5,s6⟩;go_simp;with_reducible rfl);rotate_left;(simp only [Act.put,List.setIfInBounds_toArray,List.set_cons_zero,List.set_cons_succ,i64_w,i32_w];rfl)
             refine pure_ (i:=7) (N:=some 40) (v:=?_) (a':=?_) #[true,true,true,true,true,true,true,true,false,false,false] rfl rfl (any_of HT_.out (by kernel_rfl)) (fun _ _ _ h=>h) (Or.inl ⟨by rfl,?_⟩) ?_ ?_
             rotate_left;(intro w';go_simp;with_reducible rfl);rotate_left;(simp only [Act.put,List.setIfInBounds_toArray,List.set_cons_zero,List.set_cons_succ,i64_w,i32_w];rfl)
             refine take_ (i:=8) (N:=some 41) (v:=?_) (a':=?_) #[true,true,true,true,true,true,true,true,true,false,false] rfl rfl (take_ofW HT_.out HW_.out (by kernel_rfl)) (fun _ _ _ h=>h) (Or.inl ⟨by rfl,?_⟩) hHeld ?_ ?_
             rotate_left;(rintro w' ⟨s0,s1,s2,s3,s4,s5,s6⟩;go_simp;with_reducible rfl);rotate_left;(simp only [Act.put,List.setIfInBounds_toArray,List.set_cons_zero,List.set_cons_succ,i64_w,i32_w];rfl)
             refine one_ (i:=9) (N:=some 42) #[true,true,true,true,true,true,true,true,true,true,false] rfl rfl (one_of HT_.out (by kernel_rfl)) (by decide) (fun K hK=>?_)
             refine goes_ Try.func26 (by kernel_rfl) rfl #[.int .i64 a0,.agg #[.int .i64 a1_0,.int .i64 a1_1,.int .i64 a1_2,.string a1_3],.agg #[.int .i64 ((rd_T37 l2 (rd l3 x10_1)).f0),.string ((rd_T37 l2 (rd l3 x10_1)).f1)]] (by rfl) rfl rfl (by (try simp only [List.map_toArray,List.map_cons,List.map_nil]);first|done|rfl|(simp only [List.length_drop,List.length_take];rfl)) ?_
             with_reducible refine (thresherref19_Holds.calls kj8 a0 a1_0 a1_1 a1_2 a1_3 ((rd_T37 l2 (rd l3 x10_1)).f0) ((rd_T37 l2 (rd l3 x10_1)).f1) true _ A17.out).mono ?_
             rintro e w21 ⟨rfl,hb⟩
             refine ⟨_,rfl,?_⟩
             have n0_:=Aside0.mk (Kd.R_below (R_up HO_9.out) hb)
             have n1_:=Aside0.mk (blk_below (blk_up BK204.out) hb)
             have n2_:=Aside0.mk (below_step (below_go HB.out) hb)
             clear HO_9
             clear BK204
             clear HB
             have HO_9:=n0_
             have BK204:=n1_
             have HB:=n2_
             clear n0_ n1_ n2_
             (try clear hb)
             (try clear hb2)
             (try clear hk)
             (try clear hi)
             refine hK.out _ _ ⟨(blk_cell BK204.out 0).trans rfl,(blk_cell BK204.out 1).trans rfl,(blk_cell BK204.out 2).trans rfl,(blk_cell BK204.out 3).trans rfl,((HB.out.cell (World.block_lt_of_cell? w _ hw210_0)).trans hw210_0),((HB.out.cell (World.block_lt_of_cell? w _ hw211_0)).trans hw211_0),((HB.out.cell (World.block_lt_of_cell? w _ hw211_1)).trans hw211_1)⟩ (fun hHeld=>?_)
             clear hK K
             refine norm_ (a':=?_) ?_ ?_
             rotate_left
             ·show Act.put _ (some 42) _=_
              simp only [Act.put,List.setIfInBounds_toArray,List.set_cons_zero,List.set_cons_succ,i64_w,i32_w]
              rfl
             refine pure_ (i:=10) (N:=some 11) (v:=?_) (a':=?_) #[true,true,true,true,true,true,true,true,true,true,true] rfl rfl (any_of HT_.out (by kernel_rfl)) (fun _ _ _ h=>h) (Or.inl ⟨by rfl,?_⟩) ?_ ?_
             rotate_left;(intro w';go_simp;with_reducible rfl);rotate_left;(simp only [Act.put,List.setIfInBounds_toArray,List.set_cons_zero,List.set_cons_succ,i64_w,i32_w];rfl)
             refine done_ (done_of HT_.out (by kernel_rfl)) ?_
             (try clear hHeld)
             have p213 : 0≤(x10_1 : Int):=of_decide_eq_true (by first|(with_reducible assumption)|assumption)
             have q213 : x10_1 < (l3.length : Int):=of_decide_eq_true (by first|(with_reducible assumption)|assumption)
             obtain ⟨ad213,e213,hx213_0⟩:=Kd.at_int HR3.out x10_1 p213 q213
             obtain rfl : ad210=ad213:=(by injection e213)
             replace hx213_0:=(HB.out.cell (World.block_lt_of_cell? w _ hx213_0)).trans hx213_0
             replace p213:=eq_true p213
             replace q213:=eq_true q213
             try go_wp2_with (first|((with_reducible refine gate_builtin (b:=.append) (xs:=#[.tmp 44,.tmp 49]) rfl ?_);(try (refine gate_guard (by rfl) ?_;dsimp only));at_builtin;refine Kd.R_append (Kd.int .i64) (w0:=w) w.heap.size rfl (.tmp 44) (.tmp 49) 27 3 (.int .i64 0) 8 rfl Try.underlying27 info3 rfl (by decide) (by omega) u9 x9_1 (rd l3 x10_1) [.int .i64 (rd l3 x10_1)] (fun _=>True) (fun _=>False) rfl rfl ?aP (fun _ hk=>hk.elim) ?aF ?aO ?aB ?aS ?aL ?_;(case aP=>exact rfl);(case aB=>exact (below_go HB.out));(case aF=>exact (fun _ _=>trivial));(case aO=>exact (R_up HO_9.out));(case aS=>exact (below_size (below_go HB.out)));(case aL=>have:=LMc19.out;omega);intro v215 w22 ho hb hg hat;rw [← Ny214.out] at ho;have n0_:=Aside0.mk (blk_grown (blk_up BK204.out) hg (Kd.R_ne HO_9.out BK204.out (by decide)));have n1_:=Aside0.mk (hb);have n2_:=Aside0.mk (ho);clear BK204;clear HB;clear HO_9;have BK204:=n0_;have HB:=n1_;have HO216:=n2_;clear n0_ n1_ n2_;clear ho hb hg hat))
             go_roundg kj8
             case measure=>have:=HK1.out;have:=HJ8.out;omega
             case rel=>exact ⟨(y214),(wrap64 (x10_1 + 1)),(by first|rfl|(simp;done)|(simp [*];done)),(by first|exact H'|(subst_vars;exact H')),⟨by have:=HK1.out;have:=HJ8.out;omega⟩,⟨by (with_reducible repeat (first|apply Kd.R_alloc|apply Kd.R_drewN|apply Kd.R_drew));exact HO216.out⟩,⟨by (with_reducible repeat (first|refine blk_drewN ?_ _|refine blk_drew ?_|refine blk_alloc ?_ _));exact BK204.out⟩,⟨by repeat (first|(with_reducible first|exact HB.out|apply below_alloc|apply pw_below_drewN|apply below_drew1|refine below_set ?_ GE204.out)|exact HB.out)⟩⟩
            ·rw [if_neg c19] at H
             exact absurd H (by simp)
           ·replace c18:=Bool.eq_false_iff.mpr c18
            subst c18
            have H1 : (thresherref19_Select.l0 kj8 a0 l2 l3 x9_1 (wrap64 (x10_1 + 1)) a1_0 a1_1 a1_2 a1_3)=some r:=by rw [if_neg (show ¬ (false=true) by decide)] at H;exact H
            clear H
            have H:=H1
            clear H1
            have H':=Aside0.mk H
            clear H
            try go_wp2
            have n0_:=Aside0.mk (Kd.R_drew HO_9.out)
            have n1_:=Aside0.mk (blk_drew BK204.out)
            have n2_:=Aside0.mk (below_drew1 HB.out)
            clear HO_9
            clear BK204
            clear HB
            have HO_9:=n0_
            have BK204:=n1_
            have HB:=n2_
            clear n0_ n1_ n2_
            have p210 : 0≤(x10_1 : Int):=of_decide_eq_true (by first|(with_reducible assumption)|assumption)
            have q210 : x10_1 < (l3.length : Int):=of_decide_eq_true (by first|(with_reducible assumption)|assumption)
            obtain ⟨ad210,e210,hx210_0⟩:=Kd.at_int HR3.out x10_1 p210 q210
            have hw210_0:=hx210_0
            cases e210
            replace hx210_0:=(HB.out.cell (World.block_lt_of_cell? w _ hx210_0)).trans hx210_0
            replace p210:=eq_true p210
            replace q210:=eq_true q210
            have p211 : 0≤((rd l3 x10_1) : Int):=of_decide_eq_true (by first|(with_reducible assumption)|assumption)
            have q211 : (rd l3 x10_1) < (l2.length : Int):=of_decide_eq_true (by first|(with_reducible assumption)|assumption)
            obtain ⟨ad211,e211,hx211_0,hx211_1⟩:=at_T37 HR2.out (rd l3 x10_1) p211 q211
            have hw211_1:=hx211_1
            have hw211_0:=hx211_0
            cases e211
            replace hx211_0:=(HB.out.cell (World.block_lt_of_cell? w _ hx211_0)).trans hx211_0
            replace hx211_1:=(HB.out.cell (World.block_lt_of_cell? w _ hx211_1)).trans hx211_1
            replace p211:=eq_true p211
            replace q211:=eq_true q211
            refine start_ (n:=11) (S:=fun w'=>w'.cell? ⟨gb204,0,none⟩=some (.int .i64 a1_0)∧w'.cell? ⟨gb204,1,none⟩=some (.int .i64 a1_1)∧w'.cell? ⟨gb204,2,none⟩=some (.int .i64 a1_2)∧w'.cell? ⟨gb204,3,none⟩=some (.string a1_3)∧w'.cell? (ad210.add (x10_1).toNat)=some (.int .i64 (rd l3 x10_1))∧w'.cell? (ad211.add (((rd l3 x10_1)).toNat * 2))=some (.int .i64 ((rd_T37 l2 (rd l3 x10_1)).f0))∧w'.cell? ⟨(ad211.add (((rd l3 x10_1)).toNat * 2)).block,(ad211.add (((rd l3 x10_1)).toNat * 2)).off + 1,none⟩=some (.string ((rd_T37 l2 (rd l3 x10_1)).f1))) (ds:=[]) #[false,false,false,false,false,false,false,false,false,false,false] (by kernel_rfl) rfl rfl ⟨(blk_cell BK204.out 0).trans rfl,(blk_cell BK204.out 1).trans rfl,(blk_cell BK204.out 2).trans rfl,(blk_cell BK204.out 3).trans rfl,((HB.out.cell (World.block_lt_of_cell? w _ hw210_0)).trans hw210_0),((HB.out.cell (World.block_lt_of_cell? w _ hw211_0)).trans hw211_0),((HB.out.cell (World.block_lt_of_cell? w _ hw211_1)).trans hw211_1)⟩ (fun hHeld=>?_);refine with_tabW thresherref19_Select.tab6 thresherref19_Select.bits6 (fun HT_ HW_=>?_)
            generalize wc.drew=w23 at HO_9 BK204 HB hx210_0 hx211_0 hx211_1 hHeld ⊢
            refine pure_ (i:=0) (N:=some 33) (v:=?_) (a':=?_) #[true,false,false,false,false,false,false,false,false,false,false] rfl rfl (any_of HT_.out (by kernel_rfl)) (fun _ _ _ h=>h) (Or.inl ⟨by rfl,?_⟩) ?_ ?_
            rotate_left;(intro w';go_simp;with_reducible rfl);rotate_left;(simp only [Act.put,List.setIfInBounds_toArray,List.set_cons_zero,List.set_cons_succ,i64_w,i32_w];rfl)
            refine pure_ (i:=2) (N:=some 35) (v:=?_) (a':=?_) #[true,false,true,false,false,false,false,false,false,false,false] rfl rfl (any_of HT_.out (by kernel_rfl)) (fun _ _ _ h=>h) (Or.inl ⟨by rfl,?_⟩) ?_ ?_
            rotate_left;(intro w';go_simp;with_reducible rfl);rotate_left;(simp only [Act.put,List.setIfInBounds_toArray,List.set_cons_zero,List.set_cons_succ,i64_w,i32_w];rfl)
            refine pure_ (i:=3) (N:=some 36) (v:=?_) (a':=?_) #[true,false,true,true,false,false,false,false,false,false,false] rfl rfl (any_of HT_.out (by kernel_rfl)) (fun _ _ _ h=>h) (Or.inl ⟨by rfl,?_⟩) ?_ ?_
            rotate_left;(intro w';go_simp;with_reducible rfl);rotate_left;(simp only [Act.put,List.setIfInBounds_toArray,List.set_cons_zero,List.set_cons_succ,i64_w,i32_w];rfl)
            refine pure_ (i:=4) (N:=some 37) (v:=?_) (a':=?_) #[true,false,true,true,true,false,false,false,false,false,false] rfl rfl (any_of HT_.out (by kernel_rfl)) (fun _ _ _ h=>h) (Or.inl ⟨by rfl,?_⟩) ?_ ?_
            rotate_left;(intro w';go_simp;with_reducible rfl);rotate_left;(simp only [Act.put,List.setIfInBounds_toArray,List.set_cons_zero,List.set_cons_succ,i64_w,i32_w];rfl)
            refine pure_ (i:=5) (N:=some 38) (v:=?_) (a':=?_) #[true,false,true,true,true,true,false,false,false,false,false] rfl rfl (any_of HT_.out (by kernel_rfl)) (fun _ _ _ h=>h) (Or.inl ⟨by rfl,?_⟩) ?_ ?_
            rotate_left;(intro w';go_simp;with_reducible rfl);rotate_left;(simp only [Act.put,List.setIfInBounds_toArray,List.set_cons_zero,List.set_cons_succ,i64_w,i32_w];rfl)
            refine take_ (i:=1) (N:=some 34) (v:=?_) (a':=?_) #[true,true,true,true,true,true,false,false,false,false,false] rfl rfl (take_ofW HT_.out HW_.out (by kernel_rfl)) (fun _ _ _ h=>h) (Or.inl ⟨by rfl,?_⟩) hHeld ?_ ?_
            rotate_left;(rintro w' ⟨s0,s1,s2,s3,s4,s5,s6⟩;go_simp;with_reducible rfl);rotate_left;(simp only [Act.put,List.setIfInBounds_toArray,List.set_cons_zero,List.set_cons_succ,i64_w,i32_w];rfl)
            refine take_ (i:=6) (N:=some 39) (v:=?_) (a':=?_) #[true,true,true,true,true,true,true,false,false,false,false] rfl rfl (take_ofW HT_.out HW_.out (by kernel_rfl)) (fun _ _ _ h=>h) (Or.inl ⟨by rfl,?_⟩) hHeld ?_ ?_
            rotate_left;(rintro w' ⟨s0,s1,s2,s3,s4,s5,s6⟩;go_simp;with_reducible rfl);rotate_left;(simp only [Act.put,List.setIfInBounds_toArray,List.set_cons_zero,List.set_cons_succ,i64_w,i32_w];rfl)
            refine pure_ (i:=7) (N:=some 40) (v:=?_) (a':=?_) #[true,true,true,true,true,true,true,true,false,false,false] rfl rfl (any_of HT_.out (by kernel_rfl)) (fun _ _ _ h=>h) (Or.inl ⟨by rfl,?_⟩) ?_ ?_
            rotate_left;(intro w';go_simp;with_reducible rfl);rotate_left;(simp only [Act.put,List.setIfInBounds_toArray,List.set_cons_zero,List.set_cons_succ,i64_w,i32_w];rfl)
            refine take_ (i:=8) (N:=some 41) (v:=?_) (a':=?_) #[true,true,true,true,true,true,true,true,true,false,false] rfl rfl (take_ofW HT_.out HW_.out (by kernel_rfl)) (fun _ _ _ h=>h) (Or.inl ⟨by rfl,?_⟩) hHeld ?_ ?_
            rotate_left;(rintro w' ⟨s0,s1,s2,s3,s4,s5,s6⟩;go_simp;with_reducible rfl);rotate_left;(simp only [Act.put,List.setIfInBounds_toArray,List.set_cons_zero,List.set_cons_succ,i64_w,i32_w];rfl)
            refine one_ (i:=9) (N:=some 42) #[true,true,true,true,true,true,true,true,true,true,false] rfl rfl (one_of HT_.out (by kernel_rfl)) (by decide) (fun K hK=>?_)
            refine goes_ Try.func26 (by kernel_rfl) rfl #[.int .i64 a0,.agg #[.int .i64 a1_0,.int .i64 a1_1,.int .i64 a1_2,.string a1_3],.agg #[.int .i64 ((rd_T37 l2 (rd l3 x10_1)).f0),.string ((rd_T37 l2 (rd l3 x10_1)).f1)]] (by rfl) rfl rfl (by (try simp only [List.map_toArray,List.map_cons,List.map_nil]);first|done|rfl|(simp only [List.length_drop,List.length_take];rfl)) ?_
            with_reducible refine (thresherref19_Holds.calls kj8 a0 a1_0 a1_1 a1_2 a1_3 ((rd_T37 l2 (rd l3 x10_1)).f0) ((rd_T37 l2 (rd l3 x10_1)).f1) false _ A17.out).mono ?_
            rintro e w24 ⟨rfl,hb⟩
            refine ⟨_,rfl,?_⟩
            have n0_:=Aside0.mk (Kd.R_below (R_up HO_9.out) hb)
            have n1_:=Aside0.mk (blk_below (blk_up BK204.out) hb)
            have n2_:=Aside0.mk (below_step (below_go HB.out) hb)
            clear HO_9
            clear BK204
            clear HB
            have HO_9:=n0_
            have BK204:=n1_
            have HB:=n2_
            clear n0_ n1_ n2_
            (try clear hb)
            (try clear hb2)
            (try clear hk)
            (try clear hi)
            refine hK.out _ _ ⟨(blk_cell BK204.out 0).trans rfl,(blk_cell BK204.out 1).trans rfl,(blk_cell BK204.out 2).trans rfl,(blk_cell BK204.out 3).trans rfl,((HB.out.cell (World.block_lt_of_cell? w _ hw210_0)).trans hw210_0),((HB.out.cell (World.block_lt_of_cell? w _ hw211_0)).trans hw211_0),((HB.out.cell (World.block_lt_of_cell? w _ hw211_1)).trans hw211_1)⟩ (fun hHeld=>?_)
            clear hK K
            refine norm_ (a':=?_) ?_ ?_
            rotate_left
            ·show Act.put _ (some 42) _=_
             simp only [Act.put,List.setIfInBounds_toArray,List.set_cons_zero,List.set_cons_succ,i64_w,i32_w]
             rfl
            refine pure_ (i:=10) (N:=some 11) (v:=?_) (a':=?_) #[true,true,true,true,true,true,true,true,true,true,true] rfl rfl (any_of HT_.out (by kernel_rfl)) (fun _ _ _ h=>h) (Or.inl ⟨by rfl,?_⟩) ?_ ?_
            rotate_left;(intro w';go_simp;with_reducible rfl);rotate_left;(simp only [Act.put,List.setIfInBounds_toArray,List.set_cons_zero,List.set_cons_succ,i64_w,i32_w];rfl)
            refine done_ (done_of HT_.out (by kernel_rfl)) ?_
            (try clear hHeld)
            try go_wp2
            go_roundg kj8
            case measure=>have:=HK1.out;have:=HJ8.out;omega
            case rel=>exact ⟨(x9_1),(wrap64 (x10_1 + 1)),(by first|rfl|(simp;done)|(simp [*];done)),(by first|exact H'|(subst_vars;exact H')),⟨by have:=HK1.out;have:=HJ8.out;omega⟩,⟨by (with_reducible repeat (first|apply Kd.R_alloc|apply Kd.R_drewN|apply Kd.R_drew));exact HO_9.out⟩,⟨by (with_reducible repeat (first|refine blk_drewN ?_ _|refine blk_drew ?_|refine blk_alloc ?_ _));exact BK204.out⟩,⟨by repeat (first|(with_reducible first|exact HB.out|apply below_alloc|apply pw_below_drewN|apply below_drew1|refine below_set ?_ GE204.out)|exact HB.out)⟩⟩
          ·rw [if_neg c16] at H
           exact absurd H (by simp)
         ·rw [if_neg c15] at H
          exact absurd H (by simp)
        ·rw [if_neg c14] at H
         exact absurd H (by simp)
       ·rw [if_neg c13] at H
        exact absurd H (by simp)
   ·rw [if_neg c8] at H
    have c8b0 : decide (x10_1 < (l3.length : Int))=false:=decide_eq_false c8
    clear c8
    obtain rfl:=Option.some.inj H
    go_wp2
    go_ret
    exact ⟨_,by first|rfl|(simp [errW_none,errW_some] <;> rfl)|(simp [*,errW_none,errW_some] <;> rfl),by (with_reducible repeat (first|apply Kd.R_alloc|apply Kd.R_drewN|apply Kd.R_drew));exact HO_9.out,by repeat (first|(with_reducible first|exact HB.out|apply below_alloc|apply pw_below_drewN|apply below_drew1|refine below_set ?_ GE204.out)|exact HB.out)⟩
end Go.Proofs.Ytbkpifcjgedjaaa.P

