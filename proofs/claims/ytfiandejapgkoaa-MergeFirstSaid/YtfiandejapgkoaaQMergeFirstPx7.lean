/- Texts of MergeFirst. Merged: Px7. -/
import Derived.Test.YtfiandejapgkoaaQMergeFirstPx0
import Derived.Test.YtfiandejapgkoaaQMergeFirstPx6
namespace Go.Proofs.Ytfiandejapgkoaa.P
open Go.RowKit Go.Proofs.YtfiandejapgkoaaW.PrintWords Go.Proofs.YtfiandejapgkoaaW.PrintLast Go.Proofs.YtfiandejapgkoaaW.PrintMore
attribute [local go_sem] max2_int min2_int max_two min_two max_three min_three max_four min_four   -- for this text's walks alone
set_option linter.unusedVariables false
set_option linter.unusedSimpArgs false
mutual
def thresherref04_Compare.l0 : Nat→List (S31)→List (S31)→Int→List Int→Int→Int→Int→Option (Int)
 | 0,_,_,_,_,_,_,_=>none
 | k + 1,x1,x2,x7,x207000,x207001,x207002,x207003=>if x7 < x207001 then (if x7 < (x207000.length : Int) then (if x7 < (x1.length : Int) then (thresherref04_Compare.j1 k x1 x2 x7 (decide (x7 < (x2.length : Int))) x207000 x207001 x207002 x207003) else (thresherref04_Compare.j1 k x1 x2 x7 false x207000 x207001 x207002 x207003)) else (thresherref04_Compare.j1 k x1 x2 x7 false x207000 x207001 x207002 x207003)) else (thresherref04_Compare.j1 k x1 x2 x7 false x207000 x207001 x207002 x207003)
def thresherref04_Compare.j1 : Nat→List (S31)→List (S31)→Int→Bool→List Int→Int→Int→Int→Option (Int)
 | 0,_,_,_,_,_,_,_,_=>none
 | k + 1,x1,x2,x7,x31,x207000,x207001,x207002,x207003=>if x31=true then (if 0≤x7 then (if x7 < (x207000.length : Int) then (if x7 < (x1.length : Int) then (if x7 < (x2.length : Int) then ((thresherref03_Compare.f k (rd x207000 x7) ((rd_T31 x1 x7).f0) ((rd_T31 x1 x7).f1) ((rd_T31 x2 x7).f0) ((rd_T31 x2 x7).f1)).bind fun t210=>(if t210=0 then (thresherref04_Compare.l0 k x1 x2 (wrap64 (x7 + 1)) x207000 x207001 x207002 x207003) else (some t210))) else (none)) else (none)) else (none)) else (none)) else (some 0)
end
def thresherref04_Compare.f (k : Nat) (l0_0 : List Int) (a0_1 : Int) (a0_2 : Int) (a0_3 : Int) (l1 : List (S31)) (l2 : List (S31)) : Option (Int):=thresherref04_Compare.l0 k l1 l2 0 l0_0 a0_1 a0_2 a0_3
theorem thresherref04_Compare.mono_l : ∀ k,(∀ y0 y1 y2 y3 y4 y5 y6,LeO (thresherref04_Compare.l0 k y0 y1 y2 y3 y4 y5 y6) (thresherref04_Compare.l0 (k + 1) y0 y1 y2 y3 y4 y5 y6))∧(∀ y0 y1 y2 y3 y4 y5 y6 y7,LeO (thresherref04_Compare.j1 k y0 y1 y2 y3 y4 y5 y6 y7) (thresherref04_Compare.j1 (k + 1) y0 y1 y2 y3 y4 y5 y6 y7))
 | 0=>⟨fun _ _ _ _ _ _ _ r h=>by simp [thresherref04_Compare.l0] at h,fun _ _ _ _ _ _ _ _ r h=>by simp [thresherref04_Compare.j1] at h⟩
 | k + 1=>by
  obtain ⟨ih0,ih1⟩:=thresherref04_Compare.mono_l k
  refine ⟨?_,?_⟩
  ·intro y0 y1 y2 y3 y4 y5 y6
   unfold thresherref04_Compare.l0
   repeat' first
   | (with_reducible exact ih0 _ _ _ _ _ _ _)
   | (with_reducible exact ih1 _ _ _ _ _ _ _ _)
   | (with_reducible exact thresherref03_Compare.mono _ _ _ _ _ _)
   | (with_reducible exact LeO.refl _)
   | (with_reducible exact LeO.none _)
   | (with_reducible refine LeO.ite ?_ ?_)
   | (with_reducible refine LeO.bind ?_ (fun _=>?_))
   | exact ih0 _ _ _ _ _ _ _
   | exact ih1 _ _ _ _ _ _ _ _
   | exact thresherref03_Compare.mono _ _ _ _ _ _
   | exact LeO.none _
   | refine LeO.ite ?_ ?_
   | refine LeO.bind ?_ (fun _=>?_)
  ·intro y0 y1 y2 y3 y4 y5 y6 y7
   unfold thresherref04_Compare.j1
   repeat' first
   | (with_reducible exact ih0 _ _ _ _ _ _ _)
   | (with_reducible exact ih1 _ _ _ _ _ _ _ _)
   | (with_reducible exact thresherref03_Compare.mono _ _ _ _ _ _)
   | (with_reducible exact LeO.refl _)
   | (with_reducible exact LeO.none _)
   | (with_reducible refine LeO.ite ?_ ?_)
   | (with_reducible refine LeO.bind ?_ (fun _=>?_))
   | exact ih0 _ _ _ _ _ _ _
   | exact ih1 _ _ _ _ _ _ _ _
   | exact thresherref03_Compare.mono _ _ _ _ _ _
   | exact LeO.none _
   | refine LeO.ite ?_ ?_
   | refine LeO.bind ?_ (fun _=>?_)
theorem thresherref04_Compare.mono : ∀ a0 a1 a2 a3 a4 a5 k,LeO (thresherref04_Compare.f k a0 a1 a2 a3 a4 a5) (thresherref04_Compare.f (k + 1) a0 a1 a2 a3 a4 a5):=by
 intro a0 a1 a2 a3 a4 a5 k
 obtain ⟨ih0,ih1⟩:=thresherref04_Compare.mono_l k
 unfold thresherref04_Compare.f
 repeat' first
   | (with_reducible exact ih0 _ _ _ _ _ _ _)
   | (with_reducible exact ih1 _ _ _ _ _ _ _ _)
   | (with_reducible exact thresherref03_Compare.mono _ _ _ _ _ _)
   | (with_reducible exact LeO.refl _)
   | (with_reducible exact LeO.none _)
   | (with_reducible refine LeO.ite ?_ ?_)
   | (with_reducible refine LeO.bind ?_ (fun _=>?_))
   | exact ih0 _ _ _ _ _ _ _
   | exact ih1 _ _ _ _ _ _ _ _
   | exact thresherref03_Compare.mono _ _ _ _ _ _
   | exact LeO.none _
   | refine LeO.ite ?_ ?_
   | refine LeO.bind ?_ (fun _=>?_)
def thresherref04_Compare.T4 : Bool × List (List Nat × List Nat):=(true,[([],[]),([0],[0]),([],[]),([1,2],[1,2]),([3],[3]),([],[]),([],[]),([5,6],[5,6]),([7],[7]),([],[]),([],[]),([9,10],[9,10]),([11],[11]),([4,8,12],[4,8,12]),([13,13,0,1,2,3,4,5,6,7,8,9,10,11,12,13],[13])])
def thresherref04_Compare.B4 : List Nat:=[0,1,0,7,15,0,0,96,224,0,0,1536,3584,8191,16383]
theorem thresherref04_Compare.tab4 : rtab .any (opsOf Try.f27 4)=thresherref04_Compare.T4:=by kernel_rfl
theorem thresherref04_Compare.bits4 : waitsOk thresherref04_Compare.T4.2 thresherref04_Compare.B4=true:=by kernel_rfl
set_option maxHeartbeats 8000000 in
set_option maxRecDepth 100000 in
theorem thresherref04_Compare.calls (k : Nat) (A0_0 : Option Addr) (c0_0 : Nat) (l0_0 : List Int) (a0_1 : Int) (a0_2 : Int) (a0_3 : Int) (A1 : Option Addr) (c1 : Nat) (l1 : List (S31)) (A2 : Option Addr) (c2 : Nat) (l2 : List (S31)) (r : Int) (w : World) (hr0_0 : Kd.C (Kd.int .i64) w A0_0 l0_0.length l0_0) (hc0_0 : l0_0.length≤c0_0) (hr1 : Kd.C k31 w A1 l1.length l1) (hc1 : l1.length≤c1) (hr2 : Kd.C k31 w A2 l2.length l2) (hc2 : l2.length≤c2) (h : thresherref04_Compare.f k l0_0 a0_1 a0_2 a0_3 l1 l2=some r) :
  Calls Try.prog 27 #[.agg #[.slice A0_0 l0_0.length c0_0,.int .i64 a0_1,.int .i64 a0_2,.int .i64 a0_3],.slice A1 l1.length c1,.slice A2 l2.length c2] w fun e w'=>e=.returned (.int .i64 r)∧Below w.heap.size w w':=by
 have hu26:=Try.underlying26
 have hu31:=Try.underlying31
 have HR0_0:=Aside0.mk hr0_0
 have HC0_0:=Aside0.mk hc0_0
 clear hr0_0 hc0_0
 have HR1:=Aside0.mk hr1
 have HC1:=Aside0.mk hc1
 clear hr1 hc1
 have HR2:=Aside0.mk hr2
 have HC2:=Aside0.mk hc2
 clear hr2 hc2
 have HB:=Aside0.mk (Below.refl w.heap.size w)
 have H : (thresherref04_Compare.l0 k l1 l2 0 l0_0 a0_1 a0_2 a0_3)=some r:=h
 clear h
 have H':=Aside0.mk H
 clear H
 go_enter Try.func27,Try.ntmps27
 go_wp2_with (first|((with_reducible refine gate_dst (N:=3) rfl ?_);(try (refine gate_guard (by rfl) ?_;dsimp only));refine box_event ?hg (N:=3) ?hd (cs:=#[.slice A0_0 l0_0.length c0_0,.int .i64 a0_1,.int .i64 a0_2,.int .i64 a0_3]) (t:=26) ?hr ?_;(case hd=>rfl);(case hg=>rfl);(case hr=>first|(go_simp;done)|(go_simp;rfl));intro gb206 hg w4 hbox hb;have n0_:=Aside0.mk (below_step (below_up HB.out) hb);have n1_:=Aside0.mk (hbox);have n2_:=Aside0.mk ((by rw [hg];exact (below_size (below_up HB.out)) : w.heap.size≤gb206));have n3_:=Aside0.mk ((by rw [hg];exact (below_size (below_up HB.out)) : w.heap.size≤gb206));clear HB;have HB:=n0_;have BK206:=n1_;have GW206:=n2_;have GE206:=n3_;clear n0_ n1_ n2_ n3_;clear hb hbox hg))
 go_loopg [7] k (fun kq v7 w'=>∃ (x7_1 : Int),v7=.int .i64 x7_1∧Aside0 (thresherref04_Compare.l0 kq l1 l2 x7_1 l0_0 a0_1 a0_2 a0_3=some r)∧Aside0 (kq≤k)∧Aside0 (w'.heap[gb206]?=some (.cells #[(.slice A0_0 l0_0.length c0_0),.int .i64 a0_1,.int .i64 a0_2,.int .i64 a0_3] 26 (0,0)))∧Aside0 (Below w.heap.size w w'))
 case atStart=>exact ⟨(0),(by first|rfl|(simp;done)|(simp [*];done)),H',⟨Nat.le_refl _⟩,⟨by (with_reducible repeat (first|refine blk_drewN ?_ _|refine blk_drew ?_|refine blk_alloc ?_ _));exact BK206.out⟩,⟨by repeat (first|(with_reducible first|exact HB.out|apply below_alloc|apply pw_below_drewN|apply below_drew1|refine below_set ?_ GE206.out)|exact HB.out)⟩⟩
 case round =>
  clear H'
  try clear c1
  try clear c2
  try clear p2
  obtain ⟨x7_1,rfl,HA,HK1,BK206,HB⟩:=hrel
  cases gk with
  | zero=>exact absurd HA.out (by simp [thresherref04_Compare.l0])
  | succ k1 =>
   have H:=HA.out
   clear HA
   simp only [thresherref04_Compare.l0] at H
   have HC5:=Aside0.mk H
   clear H
   go_upto_region 2 with (fail)
   go_cut [31] (fun v31 wc=>∃ (kq : Nat) (x31_4 : Bool),v31=.bool x31_4∧Aside0 (thresherref04_Compare.j1 kq l1 l2 x7_1 x31_4 l0_0 a0_1 a0_2 a0_3=some r)∧Aside0 (kq≤k1)∧Aside0 (wc.heap[gb206]?=some (.cells #[(.slice A0_0 l0_0.length c0_0),.int .i64 a0_1,.int .i64 a0_2,.int .i64 a0_3] 26 (0,0)))∧Aside0 (Below w.heap.size w wc))
   case first =>
    have H:=HC5.out
    clear HC5
    by_cases c6 : x7_1 < a0_1
    ·rw [if_pos c6] at H
     have c6b0 : decide (x7_1 < a0_1)=true:=decide_eq_true c6
     clear c6
     (first|rw [c6b0]|(simp only [i64_w,i32_w];rw [c6b0])|skip)
     by_cases c7 : x7_1 < (l0_0.length : Int)
     ·rw [if_pos c7] at H
      have c7b0 : decide (x7_1 < (l0_0.length : Int))=true:=decide_eq_true c7
      clear c7
      by_cases c8 : x7_1 < (l1.length : Int)
      ·rw [if_pos c8] at H
       have c8b0 : decide (x7_1 < (l1.length : Int))=true:=decide_eq_true c8
       clear c8
       have H':=Aside0.mk H
       clear H
       have hcz9_0 : wr.cell? ⟨gb206,0,none⟩=some (.slice A0_0 l0_0.length c0_0):=(blk_cell BK206.out 0).trans rfl
       have hcz9_1 : wr.cell? ⟨gb206,1,none⟩=some (.int .i64 a0_1):=(blk_cell BK206.out 1).trans rfl
       have hcz9_2 : wr.cell? ⟨gb206,2,none⟩=some (.int .i64 a0_2):=(blk_cell BK206.out 2).trans rfl
       have hcz9_3 : wr.cell? ⟨gb206,3,none⟩=some (.int .i64 a0_3):=(blk_cell BK206.out 3).trans rfl
       have hfz9_0:=blk_frozen BK206.out 0
       have hfz9_1:=blk_frozen BK206.out 1
       have hfz9_2:=blk_frozen BK206.out 2
       have hfz9_3:=blk_frozen BK206.out 3
       go_wp2
       go_meet
       case rel=>exact ⟨_,(decide (x7_1 < (l2.length : Int))),(by first|rfl|(simp;done)|(simp [*];done)),(by first|exact H'|(subst_vars;exact H')),⟨by have:=HK1.out;first|omega|exact Nat.le_refl _⟩,⟨by (with_reducible repeat (first|refine blk_drewN ?_ _|refine blk_drew ?_|refine blk_alloc ?_ _));exact BK206.out⟩,⟨by repeat (first|(with_reducible first|exact HB.out|apply below_alloc|apply pw_below_drewN|apply below_drew1|refine below_set ?_ GE206.out)|exact HB.out)⟩⟩
      ·rw [if_neg c8] at H
       have c8b0 : decide (x7_1 < (l1.length : Int))=false:=decide_eq_false c8
       clear c8
       have H':=Aside0.mk H
       clear H
       have hcz10_0 : wr.cell? ⟨gb206,0,none⟩=some (.slice A0_0 l0_0.length c0_0):=(blk_cell BK206.out 0).trans rfl
       have hcz10_1 : wr.cell? ⟨gb206,1,none⟩=some (.int .i64 a0_1):=(blk_cell BK206.out 1).trans rfl
       have hcz10_2 : wr.cell? ⟨gb206,2,none⟩=some (.int .i64 a0_2):=(blk_cell BK206.out 2).trans rfl
       have hcz10_3 : wr.cell? ⟨gb206,3,none⟩=some (.int .i64 a0_3):=(blk_cell BK206.out 3).trans rfl
       have hfz10_0:=blk_frozen BK206.out 0
       have hfz10_1:=blk_frozen BK206.out 1
       have hfz10_2:=blk_frozen BK206.out 2
       have hfz10_3:=blk_frozen BK206.out 3
       go_wp2
       go_meet
       case rel=>exact ⟨_,(false),(by first|rfl|(simp;done)|(simp [*];done)),(by first|exact H'|(subst_vars;exact H')),⟨by have:=HK1.out;first|omega|exact Nat.le_refl _⟩,⟨by (with_reducible repeat (first|refine blk_drewN ?_ _|refine blk_drew ?_|refine blk_alloc ?_ _));exact BK206.out⟩,⟨by repeat (first|(with_reducible first|exact HB.out|apply below_alloc|apply pw_below_drewN|apply below_drew1|refine below_set ?_ GE206.out)|exact HB.out)⟩⟩
     ·rw [if_neg c7] at H
      have c7b0 : decide (x7_1 < (l0_0.length : Int))=false:=decide_eq_false c7
      clear c7
      have H':=Aside0.mk H
      clear H
      have hcz11_0 : wr.cell? ⟨gb206,0,none⟩=some (.slice A0_0 l0_0.length c0_0):=(blk_cell BK206.out 0).trans rfl
      have hcz11_1 : wr.cell? ⟨gb206,1,none⟩=some (.int .i64 a0_1):=(blk_cell BK206.out 1).trans rfl
      have hcz11_2 : wr.cell? ⟨gb206,2,none⟩=some (.int .i64 a0_2):=(blk_cell BK206.out 2).trans rfl
      have hcz11_3 : wr.cell? ⟨gb206,3,none⟩=some (.int .i64 a0_3):=(blk_cell BK206.out 3).trans rfl
      have hfz11_0:=blk_frozen BK206.out 0
      have hfz11_1:=blk_frozen BK206.out 1
      have hfz11_2:=blk_frozen BK206.out 2
      have hfz11_3:=blk_frozen BK206.out 3
      go_wp2
      go_meet
      case rel=>exact ⟨_,(false),(by first|rfl|(simp;done)|(simp [*];done)),(by first|exact H'|(subst_vars;exact H')),⟨by have:=HK1.out;first|omega|exact Nat.le_refl _⟩,⟨by (with_reducible repeat (first|refine blk_drewN ?_ _|refine blk_drew ?_|refine blk_alloc ?_ _));exact BK206.out⟩,⟨by repeat (first|(with_reducible first|exact HB.out|apply below_alloc|apply pw_below_drewN|apply below_drew1|refine below_set ?_ GE206.out)|exact HB.out)⟩⟩
    ·rw [if_neg c6] at H
     have c6b0 : decide (x7_1 < a0_1)=false:=decide_eq_false c6
     clear c6
     (first|rw [c6b0]|(simp only [i64_w,i32_w];rw [c6b0])|skip)
     have H':=Aside0.mk H
     clear H
     have hcz12_0 : wr.cell? ⟨gb206,0,none⟩=some (.slice A0_0 l0_0.length c0_0):=(blk_cell BK206.out 0).trans rfl
     have hcz12_1 : wr.cell? ⟨gb206,1,none⟩=some (.int .i64 a0_1):=(blk_cell BK206.out 1).trans rfl
     have hcz12_2 : wr.cell? ⟨gb206,2,none⟩=some (.int .i64 a0_2):=(blk_cell BK206.out 2).trans rfl
     have hcz12_3 : wr.cell? ⟨gb206,3,none⟩=some (.int .i64 a0_3):=(blk_cell BK206.out 3).trans rfl
     have hfz12_0:=blk_frozen BK206.out 0
     have hfz12_1:=blk_frozen BK206.out 1
     have hfz12_2:=blk_frozen BK206.out 2
     have hfz12_3:=blk_frozen BK206.out 3
     go_wp2
     go_meet
     case rel=>exact ⟨_,(false),(by first|rfl|(simp;done)|(simp [*];done)),(by first|exact H'|(subst_vars;exact H')),⟨by have:=HK1.out;first|omega|exact Nat.le_refl _⟩,⟨by (with_reducible repeat (first|refine blk_drewN ?_ _|refine blk_drew ?_|refine blk_alloc ?_ _));exact BK206.out⟩,⟨by repeat (first|(with_reducible first|exact HB.out|apply below_alloc|apply pw_below_drewN|apply below_drew1|refine below_set ?_ GE206.out)|exact HB.out)⟩⟩
   case rest =>
    clear HC5
    try clear c1
    try clear c2
    try clear p2
    try clear c6
    try clear c6b0
    try clear c7
    try clear c7b0
    try clear c8
    try clear c8b0
    try clear hcz10_0
    try clear hcz10_1
    try clear hcz10_2
    try clear hcz10_3
    try clear hcz11_0
    try clear hcz11_1
    try clear hcz11_2
    try clear hcz11_3
    try clear hcz12_0
    try clear hcz12_1
    try clear hcz12_2
    try clear hcz12_3
    try clear hcz9_0
    try clear hcz9_1
    try clear hcz9_2
    try clear hcz9_3
    try clear hfz10_0
    try clear hfz10_1
    try clear hfz10_2
    try clear hfz10_3
    try clear hfz11_0
    try clear hfz11_1
    try clear hfz11_2
    try clear hfz11_3
    try clear hfz12_0
    try clear hfz12_1
    try clear hfz12_2
    try clear hfz12_3
    try clear hfz9_0
    try clear hfz9_1
    try clear hfz9_2
    try clear hfz9_3
    try clear p2
    obtain ⟨kq,x31_4,rfl,HA,HJ4,BK206,HB⟩:=hcut
    cases kq with
    | zero=>exact absurd HA.out (by simp [thresherref04_Compare.j1])
    | succ kj4 =>
     have H:=HA.out
     clear HA
     simp only [thresherref04_Compare.j1] at H
     by_cases c13 : x31_4=true
     ·subst c13
      have H1 : (if 0≤x7_1 then (if x7_1 < (l0_0.length : Int) then (if x7_1 < (l1.length : Int) then (if x7_1 < (l2.length : Int) then ((thresherref03_Compare.f kj4 (rd l0_0 x7_1) ((rd_T31 l1 x7_1).f0) ((rd_T31 l1 x7_1).f1) ((rd_T31 l2 x7_1).f0) ((rd_T31 l2 x7_1).f1)).bind fun t210=>(if t210=0 then (thresherref04_Compare.l0 kj4 l1 l2 (wrap64 (x7_1 + 1)) l0_0 a0_1 a0_2 a0_3) else (some t210))) else (none)) else (none)) else (none)) else (none))=some r:=by rw [if_pos rfl] at H;exact H
      clear H
      have H:=H1
      clear H1
      by_cases c14 : 0≤x7_1
      ·rw [if_pos c14] at H
       have c14b0 : decide (0≤x7_1)=true:=decide_eq_true c14
       clear c14
       by_cases c15 : x7_1 < (l0_0.length : Int)
       ·rw [if_pos c15] at H
        have c15b0 : decide (x7_1 < (l0_0.length : Int))=true:=decide_eq_true c15
        clear c15
        by_cases c16 : x7_1 < (l1.length : Int)
        ·rw [if_pos c16] at H
         have c16b0 : decide (x7_1 < (l1.length : Int))=true:=decide_eq_true c16
         clear c16
         by_cases c17 : x7_1 < (l2.length : Int)
         ·rw [if_pos c17] at H
          have c17b0 : decide (x7_1 < (l2.length : Int))=true:=decide_eq_true c17
          clear c17
          replace H:=Option.bind_eq_some_iff.mp H
          obtain ⟨t210,A180,H⟩:=H
          replace H : (if t210=0 then (thresherref04_Compare.l0 kj4 l1 l2 (wrap64 (x7_1 + 1)) l0_0 a0_1 a0_2 a0_3) else (some t210))=some r:=H
          have A18:=Aside0.mk A180
          clear A180
          by_cases c19 : t210=0
          ·rw [if_pos c19] at H
           have c19b0 : (t210 == 0)=true:=beq_iff_eq.mpr c19
           have c19b1 : (t210 != 0)=false:=bne_eq_false_iff_eq.mpr c19
           clear c19
           have H':=Aside0.mk H
           clear H
           try go_wp2
           have n0_:=Aside0.mk (blk_drew BK206.out)
           have n1_:=Aside0.mk (below_drew1 HB.out)
           clear BK206
           clear HB
           have BK206:=n0_
           have HB:=n1_
           clear n0_ n1_
           have p207 : 0≤(x7_1 : Int):=of_decide_eq_true (by first|(with_reducible assumption)|assumption)
           have q207 : x7_1 < (l0_0.length : Int):=of_decide_eq_true (by first|(with_reducible assumption)|assumption)
           obtain ⟨ad207,e207,hx207_0⟩:=Kd.at_int HR0_0.out x7_1 p207 q207
           have hw207_0:=hx207_0
           cases e207
           replace hx207_0:=(HB.out.cell (World.block_lt_of_cell? w _ hx207_0)).trans hx207_0
           replace p207:=eq_true p207
           replace q207:=eq_true q207
           have p208 : 0≤(x7_1 : Int):=of_decide_eq_true (by first|(with_reducible assumption)|assumption)
           have q208 : x7_1 < (l1.length : Int):=of_decide_eq_true (by first|(with_reducible assumption)|assumption)
           obtain ⟨ad208,e208,hx208_0,hx208_1⟩:=at_T31 HR1.out x7_1 p208 q208
           have hw208_1:=hx208_1
           have hw208_0:=hx208_0
           cases e208
           replace hx208_0:=(HB.out.cell (World.block_lt_of_cell? w _ hx208_0)).trans hx208_0
           replace hx208_1:=(HB.out.cell (World.block_lt_of_cell? w _ hx208_1)).trans hx208_1
           replace p208:=eq_true p208
           replace q208:=eq_true q208
           have p209 : 0≤(x7_1 : Int):=of_decide_eq_true (by first|(with_reducible assumption)|assumption)
           have q209 : x7_1 < (l2.length : Int):=of_decide_eq_true (by first|(with_reducible assumption)|assumption)
           obtain ⟨ad209,e209,hx209_0,hx209_1⟩:=at_T31 HR2.out x7_1 p209 q209
           have hw209_1:=hx209_1
           have hw209_0:=hx209_0
           cases e209
           replace hx209_0:=(HB.out.cell (World.block_lt_of_cell? w _ hx209_0)).trans hx209_0
           replace hx209_1:=(HB.out.cell (World.block_lt_of_cell? w _ hx209_1)).trans hx209_1
           replace p209:=eq_true p209
           replace q209:=eq_true q209
           refine start_ (n:=15) (S:=fun w'=>w'.cell? ⟨gb206,0,none⟩=some (.slice (some ad207) l0_0.length c0_0)∧w'.cell? ⟨gb206,1,none⟩=some (.int .i64 a0_1)∧w'.cell? ⟨gb206,2,none⟩=some (.int .i64 a0_2)∧w'.cell? ⟨gb206,3,none⟩=some (.int .i64 a0_3)∧w'.cell? (ad207.add (x7_1).toNat)=some (.int .i64 (rd l0_0 x7_1))∧w'.cell? (ad208.add ((x7_1).toNat * 2))=some (.int .i64 ((rd_T31 l1 x7_1).f0))∧w'.cell? ⟨(ad208.add ((x7_1).toNat * 2)).block,(ad208.add ((x7_1).toNat * 2)).off + 1,none⟩=some (.string ((rd_T31 l1 x7_1).f1))∧w'.cell? (ad209.add ((x7_1).toNat * 2))=some (.int .i64 ((rd_T31 l2 x7_1).f0))∧w'.cell? ⟨(ad209.add ((x7_1).toNat * 2)).block,(ad209.add ((x7_1).toNat * 2)).off + 1,none⟩=some (.string ((rd_T31 l2 x7_1).f1))) (ds:=[]) #[false,false,false,false,false,false,false,false,false,false,false,false,false,false,false] (by kernel_rfl) rfl rfl ⟨(blk_cell BK206.out 0).trans rfl,(blk_cell BK206.out 1).trans rfl,(blk_cell BK206.out 2).trans rfl,(blk_cell BK206.out 3).trans rfl,((HB.out.cell (World.block_lt_of_cell? w _ hw207_0)).trans hw207_0),((HB.out.cell (World.block_lt_of_cell? w _ hw208_0)).trans hw208_0),((HB.out.cell (World.block_lt_of_cell? w _ hw208_1)).trans hw208_1),((HB.out.cell (World.block_lt_of_cell? w _ hw209_0)).trans hw209_0),((HB.out.cell (World.block_lt_of_cell? w _ hw209_1)).trans hw209_1)⟩ (fun hHeld=>?_);refine with_tabW thresherref04_Compare.tab4 thresherref04_Compare.bits4 (fun HT_ HW_=>?_)
           generalize wc.drew=w20 at BK206 HB hx207_0 hx208_0 hx208_1 hx209_0 hx209_1 hHeld ⊢
           refine pure_ (i:=0) (N:=some 34) (v:=?_) (a':=?_) #[true,false,false,false,false,false,false,false,false,false,false,false,false,false,false] rfl rfl (any_of HT_.out (by kernel_rfl)) (fun _ _ _ h=>h) (Or.inl ⟨by rfl,?_⟩) ?_ ?_
           rotate_left;(intro w';go_simp;with_reducible rfl);rotate_left;(simp only [Act.put,List.setIfInBounds_toArray,List.set_cons_zero,List.set_cons_succ,i64_w,i32_w];rfl)
           refine pure_ (i:=2) (N:=some 36) (v:=?_) (a':=?_) #[true,false,true,false,false,false,false,false,false,false,false,false,false,false,false] rfl rfl (any_of HT_.out (by kernel_rfl)) (fun _ _ _ h=>h) (Or.inl ⟨by rfl,?_⟩) ?_ ?_
           rotate_left;(intro w';go_simp;with_reducible rfl);rotate_left;(simp only [Act.put,List.setIfInBounds_toArray,List.set_cons_zero,List.set_cons_succ,i64_w,i32_w];rfl)
           refine pure_ (i:=5) (N:=some 39) (v:=?_) (a':=?_) #[true,false,true,false,false,true,false,false,false,false,false,false,false,false,false] rfl rfl (any_of HT_.out (by kernel_rfl)) (fun _ _ _ h=>h) (Or.inl ⟨by rfl,?_⟩) ?_ ?_
           rotate_left;(intro w';go_simp;with_reducible rfl);rotate_left;(simp only [Act.put,List.setIfInBounds_toArray,List.set_cons_zero,List.set_cons_succ,i64_w,i32_w];rfl)
           refine pure_ (i:=6) (N:=some 40) (v:=?_) (a':=?_) #[true,false,true,false,false,true,true,false,false,false,false,false,false,false,false] rfl rfl (any_of HT_.out (by kernel_rfl)) (fun _ _ _ h=>h) (Or.inl ⟨by rfl,?_⟩) ?_ ?_
           rotate_left;(intro w';go_simp;with_reducible rfl);rotate_left;(simp only [Act.put,List.setIfInBounds_toArray,List.set_cons_zero,List.set_cons_succ,i64_w,i32_w];rfl)
           refine pure_ (i:=7) (N:=some 41) (v:=?_) (a':=?_) #[true,false,true,false,false,true,true,true,false,false,false,false,false,false,false] rfl rfl (any_of HT_.out (by kernel_rfl)) (fun _ _ _ h=>h) (Or.inl ⟨by rfl,?_⟩) ?_ ?_
           rotate_left;(intro w';go_simp;with_reducible rfl);rotate_left;(simp only [Act.put,List.setIfInBounds_toArray,List.set_cons_zero,List.set_cons_succ,i64_w,i32_w];rfl)
           refine pure_ (i:=9) (N:=some 43) (v:=?_) (a':=?_) #[true,false,true,false,false,true,true,true,false,true,false,false,false,false,false] rfl rfl (any_of HT_.out (by kernel_rfl)) (fun _ _ _ h=>h) (Or.inl ⟨by rfl,?_⟩) ?_ ?_
           rotate_left;(intro w';go_simp;with_reducible rfl);rotate_left;(simp only [Act.put,List.setIfInBounds_toArray,List.set_cons_zero,List.set_cons_succ,i64_w,i32_w];rfl)
           refine pure_ (i:=10) (N:=some 44) (v:=?_) (a':=?_) #[true,false,true,false,false,true,true,true,false,true,true,false,false,false,false] rfl rfl (any_of HT_.out (by kernel_rfl)) (fun _ _ _ h=>h) (Or.inl ⟨by rfl,?_⟩) ?_ ?_
           rotate_left;(intro w';go_simp;with_reducible rfl);rotate_left;(simp only [Act.put,List.setIfInBounds_toArray,List.set_cons_zero,List.set_cons_succ,i64_w,i32_w];rfl)
           refine pure_ (i:=11) (N:=some 45) (v:=?_) (a':=?_) #[true,false,true,false,false,true,true,true,false,true,true,true,false,false,false] rfl rfl (any_of HT_.out (by kernel_rfl)) (fun _ _ _ h=>h) (Or.inl ⟨by rfl,?_⟩) ?_ ?_
           rotate_left;(intro w';go_simp;with_reducible rfl);rotate_left;(simp only [Act.put,List.setIfInBounds_toArray,List.set_cons_zero,List.set_cons_succ,i64_w,i32_w];rfl)
           refine take_ (i:=1) (N:=some 35) (v:=?_) (a':=?_) #[true,true,true,false,false,true,true,true,false,true,true,true,false,false,false] rfl rfl (take_ofW HT_.out HW_.out (by kernel_rfl)) (fun _ _ _ h=>h) (Or.inl ⟨by rfl,?_⟩) hHeld ?_ ?_
           rotate_left;(rintro w' ⟨s0,s1,s2,s3,s4,s5,s6,s7,s8⟩;go_simp;with_reducible rfl);rotate_left;(simp only [Act.put,List.setIfInBounds_toArray,List.set_cons_zero,List.set_cons_succ,i64_w,i32_w];rfl)
           refine pure_ (i:=3) (N:=some 37) (v:=?_) (a':=?_) #[true,true,true,true,false,true,true,true,false,true,true,true,false,false,false] rfl rfl (any_of HT_.out (by kernel_rfl)) (fun _ _ _ h=>h) (Or.inl ⟨by rfl,?_⟩) ?_ ?_
           rotate_left;(intro w';go_simp;with_reducible rfl);rotate_left;(simp only [Act.put,List.setIfInBounds_toArray,List.set_cons_zero,List.set_cons_succ,i64_w,i32_w];rfl)
           refine take_ (i:=4) (N:=some 38) (v:=?_) (a':=?_) #[true,true,true,true,true,true,true,true,false,true,true,true,false,false,false] rfl rfl (take_ofW HT_.out HW_.out (by kernel_rfl)) (fun _ _ _ h=>h) (Or.inl ⟨by rfl,?_⟩) hHeld ?_ ?_
           rotate_left;(rintro w' ⟨s0,s1,s2,s3,s4,s5,s6,s7,s8⟩;go_simp;with_reducible rfl);rotate_left;(simp only [Act.put,List.setIfInBounds_toArray,List.set_cons_zero,List.set_cons_succ,i64_w,i32_w];rfl)
           refine take_ (i:=8) (N:=some 42) (v:=?_) (a':=?_) #[true,true,true,true,true,true,true,true,true,true,true,true,false,false,false] rfl rfl (take_ofW HT_.out HW_.out (by kernel_rfl)) (fun _ _ _ h=>h) (Or.inl ⟨by rfl,?_⟩) hHeld ?_ ?_
           rotate_left;(rintro w' ⟨s0,s1,s2,s3,s4,s5,s6,s7,s8⟩;go_simp;with_reducible rfl);rotate_left;(simp only [Act.put,List.setIfInBounds_toArray,List.set_cons_zero,List.set_cons_succ,i64_w,i32_w];rfl)
           refine take_ (i:=12) (N:=some 46) (v:=?_) (a':=?_) #[true,true,true,true,true,true,true,true,true,true,true,true,true,false,false] rfl rfl (take_ofW HT_.out HW_.out (by kernel_rfl)) (fun _ _ _ h=>h) (Or.inl ⟨by rfl,?_⟩) hHeld ?_ ?_
           rotate_left;(rintro w' ⟨s0,s1,s2,s3,s4,s5,s6,s7,s8⟩;go_simp;with_reducible rfl);rotate_left;(simp only [Act.put,List.setIfInBounds_toArray,List.set_cons_zero,List.set_cons_succ,i64_w,i32_w];rfl)
           refine one_ (i:=13) (N:=some 47) #[true,true,true,true,true,true,true,true,true,true,true,true,true,true,false] rfl rfl (one_of HT_.out (by kernel_rfl)) (by decide) (fun K hK=>?_)
           refine goes_ Try.func35 (by kernel_rfl) rfl #[.int .i64 (rd l0_0 x7_1),.agg #[.int .i64 ((rd_T31 l1 x7_1).f0),.string ((rd_T31 l1 x7_1).f1)],.agg #[.int .i64 ((rd_T31 l2 x7_1).f0),.string ((rd_T31 l2 x7_1).f1)]] (by rfl) rfl rfl (by (try simp only [List.map_toArray,List.map_cons,List.map_nil]);first|done|rfl|(simp only [List.length_drop,List.length_take];rfl)) ?_
           with_reducible refine (thresherref03_Compare.calls kj4 (rd l0_0 x7_1) ((rd_T31 l1 x7_1).f0) ((rd_T31 l1 x7_1).f1) ((rd_T31 l2 x7_1).f0) ((rd_T31 l2 x7_1).f1) t210 _ A18.out).mono ?_
           rintro e w21 ⟨rfl,hb⟩
           refine ⟨_,rfl,?_⟩
           have n0_:=Aside0.mk (blk_below (blk_up BK206.out) hb)
           have n1_:=Aside0.mk (below_step (below_go HB.out) hb)
           clear BK206
           clear HB
           have BK206:=n0_
           have HB:=n1_
           clear n0_ n1_
           (try clear hb)
           (try clear hb2)
           (try clear hk)
           (try clear hi)
           refine hK.out _ _ ⟨(blk_cell BK206.out 0).trans rfl,(blk_cell BK206.out 1).trans rfl,(blk_cell BK206.out 2).trans rfl,(blk_cell BK206.out 3).trans rfl,((HB.out.cell (World.block_lt_of_cell? w _ hw207_0)).trans hw207_0),((HB.out.cell (World.block_lt_of_cell? w _ hw208_0)).trans hw208_0),((HB.out.cell (World.block_lt_of_cell? w _ hw208_1)).trans hw208_1),((HB.out.cell (World.block_lt_of_cell? w _ hw209_0)).trans hw209_0),((HB.out.cell (World.block_lt_of_cell? w _ hw209_1)).trans hw209_1)⟩ (fun hHeld=>?_)
           clear hK K
           refine norm_ (a':=?_) ?_ ?_
           rotate_left
           ·show Act.put _ (some 47) _=_
            simp only [Act.put,List.setIfInBounds_toArray,List.set_cons_zero,List.set_cons_succ,i64_w,i32_w]
            rfl
           refine pure_ (i:=14) (N:=some 8) (v:=?_) (a':=?_) #[true,true,true,true,true,true,true,true,true,true,true,true,true,true,true] rfl rfl (any_of HT_.out (by kernel_rfl)) (fun _ _ _ h=>h) (Or.inl ⟨by rfl,?_⟩) ?_ ?_
           rotate_left;(intro w';go_simp;with_reducible rfl);rotate_left;(simp only [Act.put,List.setIfInBounds_toArray,List.set_cons_zero,List.set_cons_succ,i64_w,i32_w];rfl)
           refine done_ (done_of HT_.out (by kernel_rfl)) ?_
           (try clear hHeld)
           try go_wp2
           go_roundg kj4
           case measure=>have:=HK1.out;have:=HJ4.out;omega
           case rel=>exact ⟨(wrap64 (x7_1 + 1)),(by first|rfl|(simp;done)|(simp [*];done)),(by first|exact H'|(subst_vars;exact H')),⟨by have:=HK1.out;have:=HJ4.out;omega⟩,⟨by (with_reducible repeat (first|refine blk_drewN ?_ _|refine blk_drew ?_|refine blk_alloc ?_ _));exact BK206.out⟩,⟨by repeat (first|(with_reducible first|exact HB.out|apply below_alloc|apply pw_below_drewN|apply below_drew1|refine below_set ?_ GE206.out)|exact HB.out)⟩⟩
          ·rw [if_neg c19] at H
           have c19b0 : (t210 == 0)=false:=beq_eq_false_iff_ne.mpr c19
           have c19b1 : (t210 != 0)=true:=bne_iff_ne.mpr c19
           obtain rfl:=Option.some.inj H
           try go_wp2
           have n0_:=Aside0.mk (blk_drew BK206.out)
           have n1_:=Aside0.mk (below_drew1 HB.out)
           clear BK206
           clear HB
           have BK206:=n0_
           have HB:=n1_
           clear n0_ n1_
           have p207 : 0≤(x7_1 : Int):=of_decide_eq_true (by first|(with_reducible assumption)|assumption)
           have q207 : x7_1 < (l0_0.length : Int):=of_decide_eq_true (by first|(with_reducible assumption)|assumption)
           obtain ⟨ad207,e207,hx207_0⟩:=Kd.at_int HR0_0.out x7_1 p207 q207
           have hw207_0:=hx207_0
           cases e207
           replace hx207_0:=(HB.out.cell (World.block_lt_of_cell? w _ hx207_0)).trans hx207_0
           replace p207:=eq_true p207
           replace q207:=eq_true q207
           have p208 : 0≤(x7_1 : Int):=of_decide_eq_true (by first|(with_reducible assumption)|assumption)
           have q208 : x7_1 < (l1.length : Int):=of_decide_eq_true (by first|(with_reducible assumption)|assumption)
           obtain ⟨ad208,e208,hx208_0,hx208_1⟩:=at_T31 HR1.out x7_1 p208 q208
           have hw208_1:=hx208_1
           have hw208_0:=hx208_0
           cases e208
           replace hx208_0:=(HB.out.cell (World.block_lt_of_cell? w _ hx208_0)).trans hx208_0
           replace hx208_1:=(HB.out.cell (World.block_lt_of_cell? w _ hx208_1)).trans hx208_1
           replace p208:=eq_true p208
           replace q208:=eq_true q208
           have p209 : 0≤(x7_1 : Int):=of_decide_eq_true (by first|(with_reducible assumption)|assumption)
           have q209 : x7_1 < (l2.length : Int):=of_decide_eq_true (by first|(with_reducible assumption)|assumption)
           obtain ⟨ad209,e209,hx209_0,hx209_1⟩:=at_T31 HR2.out x7_1 p209 q209
           have hw209_1:=hx209_1
           have hw209_0:=hx209_0
           cases e209
           replace hx209_0:=(HB.out.cell (World.block_lt_of_cell? w _ hx209_0)).trans hx209_0
           replace hx209_1:=(HB.out.cell (World.block_lt_of_cell? w _ hx209_1)).trans hx209_1
           replace p209:=eq_true p209
           replace q209:=eq_true q209
           refine start_ (n:=15) (S:=fun w'=>w'.cell? ⟨gb206,0,none⟩=some (.slice (some ad207) l0_0.length c0_0)∧w'.cell? ⟨gb206,1,none⟩=some (.int .i64 a0_1)∧w'.cell? ⟨gb206,2,none⟩=some (.int .i64 a0_2)∧w'.cell? ⟨gb206,3,none⟩=some (.int .i64 a0_3)∧w'.cell? (ad207.add (x7_1).toNat)=some (.int .i64 (rd l0_0 x7_1))∧w'.cell? (ad208.add ((x7_1).toNat * 2))=some (.int .i64 ((rd_T31 l1 x7_1).f0))∧w'.cell? ⟨(ad208.add ((x7_1).toNat * 2)).block,(ad208.add ((x7_1).toNat * 2)).off + 1,none⟩=some (.string ((rd_T31 l1 x7_1).f1))∧w'.cell? (ad209.add ((x7_1).toNat * 2))=some (.int .i64 ((rd_T31 l2 x7_1).f0))∧w'.cell? ⟨(ad209.add ((x7_1).toNat * 2)).block,(ad209.add ((x7_1).toNat * 2)).off + 1,none⟩=some (.string ((rd_T31 l2 x7_1).f1))) (ds:=[]) #[false,false,false,false,false,false,false,false,false,false,false,false,false,false,false] (by kernel_rfl) rfl rfl ⟨(blk_cell BK206.out 0).trans rfl,(blk_cell BK206.out 1).trans rfl,(blk_cell BK206.out 2).trans rfl,(blk_cell BK206.out 3).trans rfl,((HB.out.cell (World.block_lt_of_cell? w _ hw207_0)).trans hw207_0),((HB.out.cell (World.block_lt_of_cell? w _ hw208_0)).trans hw208_0),((HB.out.cell (World.block_lt_of_cell? w _ hw208_1)).trans hw208_1),((HB.out.cell (World.block_lt_of_cell? w _ hw209_0)).trans hw209_0),((HB.out.cell (World.block_lt_of_cell? w _ hw209_1)).trans hw209_1)⟩ (fun hHeld=>?_);refine with_tabW thresherref04_Compare.tab4 thresherref04_Compare.bits4 (fun HT_ HW_=>?_)
           generalize wc.drew=w22 at BK206 HB hx207_0 hx208_0 hx208_1 hx209_0 hx209_1 hHeld ⊢
           refine pure_ (i:=0) (N:=some 34) (v:=?_) (a':=?_) #[true,false,false,false,false,false,false,false,false,false,false,false,false,false,false] rfl rfl (any_of HT_.out (by kernel_rfl)) (fun _ _ _ h=>h) (Or.inl ⟨by rfl,?_⟩) ?_ ?_
           rotate_left;(intro w';go_simp;with_reducible rfl);rotate_left;(simp only [Act.put,List.setIfInBounds_toArray,List.set_cons_zero,List.set_cons_succ,i64_w,i32_w];rfl)
           refine pure_ (i:=2) (N:=some 36) (v:=?_) (a':=?_) #[true,false,true,false,false,false,false,false,false,false,false,false,false,false,false] rfl rfl (any_of HT_.out (by kernel_rfl)) (fun _ _ _ h=>h) (Or.inl ⟨by rfl,?_⟩) ?_ ?_
           rotate_left;(intro w';go_simp;with_reducible rfl);rotate_left;(simp only [Act.put,List.setIfInBounds_toArray,List.set_cons_zero,List.set_cons_succ,i64_w,i32_w];rfl)
           refine pure_ (i:=5) (N:=some 39) (v:=?_) (a':=?_) #[true,false,true,false,false,true,false,false,false,false,false,false,false,false,false] rfl rfl (any_of HT_.out (by kernel_rfl)) (fun _ _ _ h=>h) (Or.inl ⟨by rfl,?_⟩) ?_ ?_
           rotate_left;(intro w';go_simp;with_reducible rfl);rotate_left;(simp only [Act.put,List.setIfInBounds_toArray,List.set_cons_zero,List.set_cons_succ,i64_w,i32_w];rfl)
           refine pure_ (i:=6) (N:=some 40) (v:=?_) (a':=?_) #[true,false,true,false,false,true,true,false,false,false,false,false,false,false,false] rfl rfl (any_of HT_.out (by kernel_rfl)) (fun _ _ _ h=>h) (Or.inl ⟨by rfl,?_⟩) ?_ ?_
           rotate_left;(intro w';go_simp;with_reducible rfl);rotate_left;(simp only [Act.put,List.setIfInBounds_toArray,List.set_cons_zero,List.set_cons_succ,i64_w,i32_w];rfl)
           refine pure_ (i:=7) (N:=some 41) (v:=?_) (a':=?_) #[true,false,true,false,false,true,true,true,false,false,false,false,false,false,false] rfl rfl (any_of HT_.out (by kernel_rfl)) (fun _ _ _ h=>h) (Or.inl ⟨by rfl,?_⟩) ?_ ?_
           rotate_left;(intro w';go_simp;with_reducible rfl);rotate_left;(simp only [Act.put,List.setIfInBounds_toArray,List.set_cons_zero,List.set_cons_succ,i64_w,i32_w];rfl)
           refine pure_ (i:=9) (N:=some 43) (v:=?_) (a':=?_) #[true,false,true,false,false,true,true,true,false,true,false,false,false,false,false] rfl rfl (any_of HT_.out (by kernel_rfl)) (fun _ _ _ h=>h) (Or.inl ⟨by rfl,?_⟩) ?_ ?_
           rotate_left;(intro w';go_simp;with_reducible rfl);rotate_left;(simp only [Act.put,List.setIfInBounds_toArray,List.set_cons_zero,List.set_cons_succ,i64_w,i32_w];rfl)
           refine pure_ (i:=10) (N:=some 44) (v:=?_) (a':=?_) #[true,false,true,false,false,true,true,true,false,true,true,false,false,false,false] rfl rfl (any_of HT_.out (by kernel_rfl)) (fun _ _ _ h=>h) (Or.inl ⟨by rfl,?_⟩) ?_ ?_
           rotate_left;(intro w';go_simp;with_reducible rfl);rotate_left;(simp only [Act.put,List.setIfInBounds_toArray,List.set_cons_zero,List.set_cons_succ,i64_w,i32_w];rfl)
           refine pure_ (i:=11) (N:=some 45) (v:=?_) (a':=?_) #[true,false,true,false,false,true,true,true,false,true,true,true,false,false,false] rfl rfl (any_of HT_.out (by kernel_rfl)) (fun _ _ _ h=>h) (Or.inl ⟨by rfl,?_⟩) ?_ ?_
           rotate_left;(intro w';go_simp;with_reducible rfl);rotate_left;(simp only [Act.put,List.setIfInBounds_toArray,List.set_cons_zero,List.set_cons_succ,i64_w,i32_w];rfl)
           refine take_ (i:=1) (N:=some 35) (v:=?_) (a':=?_) #[true,true,true,false,false,true,true,true,false,true,true,true,false,false,false] rfl rfl (take_ofW HT_.out HW_.out (by kernel_rfl)) (fun _ _ _ h=>h) (Or.inl ⟨by rfl,?_⟩) hHeld ?_ ?_
           rotate_left;(rintro w' ⟨s0,s1,s2,s3,s4,s5,s6,s7,s8⟩;go_simp;with_reducible rfl);rotate_left;(simp only [Act.put,List.setIfInBounds_toArray,List.set_cons_zero,List.set_cons_succ,i64_w,i32_w];rfl)
           refine pure_ (i:=3) (N:=some 37) (v:=?_) (a':=?_) #[true,true,true,true,false,true,true,true,false,true,true,true,false,false,false] rfl rfl (any_of HT_.out (by kernel_rfl)) (fun _ _ _ h=>h) (Or.inl ⟨by rfl,?_⟩) ?_ ?_
           rotate_left;(intro w';go_simp;with_reducible rfl);rotate_left;(simp only [Act.put,List.setIfInBounds_toArray,List.set_cons_zero,List.set_cons_succ,i64_w,i32_w];rfl)
           refine take_ (i:=4) (N:=some 38) (v:=?_) (a':=?_) #[true,true,true,true,true,true,true,true,false,true,true,true,false,false,false] rfl rfl (take_ofW HT_.out HW_.out (by kernel_rfl)) (fun _ _ _ h=>h) (Or.inl ⟨by rfl,?_⟩) hHeld ?_ ?_
           rotate_left;(rintro w' ⟨s0,s1,s2,s3,s4,s5,s6,s7,s8⟩;go_simp;with_reducible rfl);rotate_left;(simp only [Act.put,List.setIfInBounds_toArray,List.set_cons_zero,List.set_cons_succ,i64_w,i32_w];rfl)
           refine take_ (i:=8) (N:=some 42) (v:=?_) (a':=?_) #[true,true,true,true,true,true,true,true,true,true,true,true,false,false,false] rfl rfl (take_ofW HT_.out HW_.out (by kernel_rfl)) (fun _ _ _ h=>h) (Or.inl ⟨by rfl,?_⟩) hHeld ?_ ?_
           rotate_left;(rintro w' ⟨s0,s1,s2,s3,s4,s5,s6,s7,s8⟩;go_simp;with_reducible rfl);rotate_left;(simp only [Act.put,List.setIfInBounds_toArray,List.set_cons_zero,List.set_cons_succ,i64_w,i32_w];rfl)
           refine take_ (i:=12) (N:=some 46) (v:=?_) (a':=?_) #[true,true,true,true,true,true,true,true,true,true,true,true,true,false,false] rfl rfl (take_ofW HT_.out HW_.out (by kernel_rfl)) (fun _ _ _ h=>h) (Or.inl ⟨by rfl,?_⟩) hHeld ?_ ?_
           rotate_left;(rintro w' ⟨s0,s1,s2,s3,s4,s5,s6,s7,s8⟩;go_simp;with_reducible rfl);rotate_left;(simp only [Act.put,List.setIfInBounds_toArray,List.set_cons_zero,List.set_cons_succ,i64_w,i32_w];rfl)
           refine one_ (i:=13) (N:=some 47) #[true,true,true,true,true,true,true,true,true,true,true,true,true,true,false] rfl rfl (one_of HT_.out (by kernel_rfl)) (by decide) (fun K hK=>?_)
           refine goes_ Try.func35 (by kernel_rfl) rfl #[.int .i64 (rd l0_0 x7_1),.agg #[.int .i64 ((rd_T31 l1 x7_1).f0),.string ((rd_T31 l1 x7_1).f1)],.agg #[.int .i64 ((rd_T31 l2 x7_1).f0),.string ((rd_T31 l2 x7_1).f1)]] (by rfl) rfl rfl (by (try simp only [List.map_toArray,List.map_cons,List.map_nil]);first|done|rfl|(simp only [List.length_drop,List.length_take];rfl)) ?_
           with_reducible refine (thresherref03_Compare.calls kj4 (rd l0_0 x7_1) ((rd_T31 l1 x7_1).f0) ((rd_T31 l1 x7_1).f1) ((rd_T31 l2 x7_1).f0) ((rd_T31 l2 x7_1).f1) t210 _ A18.out).mono ?_
           rintro e w23 ⟨rfl,hb⟩
           refine ⟨_,rfl,?_⟩
           have n0_:=Aside0.mk (blk_below (blk_up BK206.out) hb)
           have n1_:=Aside0.mk (below_step (below_go HB.out) hb)
           clear BK206
           clear HB
           have BK206:=n0_
           have HB:=n1_
           clear n0_ n1_
           (try clear hb)
           (try clear hb2)
           (try clear hk)
           (try clear hi)
           refine hK.out _ _ ⟨(blk_cell BK206.out 0).trans rfl,(blk_cell BK206.out 1).trans rfl,(blk_cell BK206.out 2).trans rfl,(blk_cell BK206.out 3).trans rfl,((HB.out.cell (World.block_lt_of_cell? w _ hw207_0)).trans hw207_0),((HB.out.cell (World.block_lt_of_cell? w _ hw208_0)).trans hw208_0),((HB.out.cell (World.block_lt_of_cell? w _ hw208_1)).trans hw208_1),((HB.out.cell (World.block_lt_of_cell? w _ hw209_0)).trans hw209_0),((HB.out.cell (World.block_lt_of_cell? w _ hw209_1)).trans hw209_1)⟩ (fun hHeld=>?_)
           clear hK K
           refine norm_ (a':=?_) ?_ ?_
           rotate_left
           ·show Act.put _ (some 47) _=_
            simp only [Act.put,List.setIfInBounds_toArray,List.set_cons_zero,List.set_cons_succ,i64_w,i32_w]
            rfl
           refine pure_ (i:=14) (N:=some 8) (v:=?_) (a':=?_) #[true,true,true,true,true,true,true,true,true,true,true,true,true,true,true] rfl rfl (any_of HT_.out (by kernel_rfl)) (fun _ _ _ h=>h) (Or.inl ⟨by rfl,?_⟩) ?_ ?_
           rotate_left;(intro w';go_simp;with_reducible rfl);rotate_left;(simp only [Act.put,List.setIfInBounds_toArray,List.set_cons_zero,List.set_cons_succ,i64_w,i32_w];rfl)
           refine done_ (done_of HT_.out (by kernel_rfl)) ?_
           (try clear hHeld)
           try go_wp2
           go_ret
           exact ⟨by first|rfl|(simp [errW_none,errW_some] <;> rfl)|(simp [*,errW_none,errW_some] <;> rfl),by repeat (first|(with_reducible first|exact HB.out|apply below_alloc|apply pw_below_drewN|apply below_drew1|refine below_set ?_ GE206.out)|exact HB.out)⟩
         ·rw [if_neg c17] at H
          exact absurd H (by simp)
        ·rw [if_neg c16] at H
         exact absurd H (by simp)
       ·rw [if_neg c15] at H
        exact absurd H (by simp)
      ·rw [if_neg c14] at H
       exact absurd H (by simp)
     ·replace c13:=Bool.eq_false_iff.mpr c13
      subst c13
      have H1 : (some 0)=some r:=by rw [if_neg (show ¬ (false=true) by decide)] at H;exact H
      clear H
      have H:=H1
      clear H1
      obtain rfl:=Option.some.inj H
      go_wp2
      go_ret
      exact ⟨by first|rfl|(simp [errW_none,errW_some] <;> rfl)|(simp [*,errW_none,errW_some] <;> rfl),by repeat (first|(with_reducible first|exact HB.out|apply below_alloc|apply pw_below_drewN|apply below_drew1|refine below_set ?_ GE206.out)|exact HB.out)⟩
end Go.Proofs.Ytfiandejapgkoaa.P

