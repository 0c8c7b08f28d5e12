/- Texts of FilterMay. Merged: Px5. -/
import Derived.Test.YtbkpifcjgedjaaaQFilterMayPx0
namespace Go.Proofs.Ytbkpifcjgedjaaa.P
open Go.RowKit Go.Proofs.YtbkpifcjgedjaaaW.PrintWords Go.Proofs.YtbkpifcjgedjaaaW.PrintLast Go.Proofs.YtbkpifcjgedjaaaW.PrintMore
attribute [local go_sem] max2_int min2_int max_two min_two max_three min_three max_four min_four   -- for this text's walks alone
set_option linter.unusedVariables false
set_option linter.unusedSimpArgs false
def thresherref04_Made.l0 : Nat→Int→Int→Int→Int→Int→Int→Int→Int→Int→Int→List Int→Int→Int→Int→Option (List Int × Int × Int × Int)
 | 0,_,_,_,_,_,_,_,_,_,_,_,_,_,_=>none
 | k + 1,x11,x13,x137000,x137001,x137002,x137003,x137004,x137005,x137006,x137007,x139000,x139001,x139002,x139003=>if x13 < x11 then (if 0≤x13 then (if x13 < 8 then (if x139000.length < 17592186044416 then (thresherref04_Made.l0 k x11 (wrap64 (x13 + 1)) x137000 x137001 x137002 x137003 x137004 x137005 x137006 x137007 (x139000 ++ [wrap64 (1 + (Int.tmod (wrap64 (rd [x137000,x137001,x137002,x137003,x137004,x137005,x137006,x137007] x13)) 3))]) x139001 x139002 x139003) else (none)) else (none)) else (none)) else (some (x139000,x139001,x139002,x139003))
def thresherref04_Made.f (k : Nat) (a0_0 : Int) (a0_1 : Int) (a0_2 : Int) (a0_3 : Int) (a0_4 : Int) (a0_5 : Int) (a0_6 : Int) (a0_7 : Int) (a1 : Int) (a2 : Int) (a3 : Int) (a4 : Int) : Option (List Int × Int × Int × Int):=if (wrap64 (1 + (Int.tmod (wrap64 (a1)) 8)))=0 then (none) else (thresherref04_Made.l0 k (wrap64 (1 + (Int.tmod (wrap64 (a1)) 8))) 0 a0_0 a0_1 a0_2 a0_3 a0_4 a0_5 a0_6 a0_7 ([] : List Int) (wrap64 (1 + (Int.tmod (wrap64 (a2)) (wrap64 (1 + (Int.tmod (wrap64 (a1)) 8)))))) (wrap64 (1 + (Int.tmod (wrap64 (a3)) 3))) (wrap64 (1 + (Int.tmod (wrap64 (a4)) 8))))
theorem thresherref04_Made.mono_l : ∀ k,(∀ y0 y1 y2 y3 y4 y5 y6 y7 y8 y9 y10 y11 y12 y13,LeO (thresherref04_Made.l0 k y0 y1 y2 y3 y4 y5 y6 y7 y8 y9 y10 y11 y12 y13) (thresherref04_Made.l0 (k + 1) y0 y1 y2 y3 y4 y5 y6 y7 y8 y9 y10 y11 y12 y13))
 | 0=>fun _ _ _ _ _ _ _ _ _ _ _ _ _ _ r h=>by simp [thresherref04_Made.l0] at h
 | k + 1=>by
  have ih0:=thresherref04_Made.mono_l k
  ·intro y0 y1 y2 y3 y4 y5 y6 y7 y8 y9 y10 y11 y12 y13
   unfold thresherref04_Made.l0
   repeat' first
   | (with_reducible exact ih0 _ _ _ _ _ _ _ _ _ _ _ _ _ _)
   | (with_reducible exact LeO.refl _)
   | (with_reducible exact LeO.none _)
   | (with_reducible refine LeO.ite ?_ ?_)
   | (with_reducible refine LeO.bind ?_ (fun _=>?_))
   | exact ih0 _ _ _ _ _ _ _ _ _ _ _ _ _ _
   | exact LeO.none _
   | refine LeO.ite ?_ ?_
   | refine LeO.bind ?_ (fun _=>?_)
theorem thresherref04_Made.mono : ∀ a0 a1 a2 a3 a4 a5 a6 a7 a8 a9 a10 a11 k,LeO (thresherref04_Made.f k a0 a1 a2 a3 a4 a5 a6 a7 a8 a9 a10 a11) (thresherref04_Made.f (k + 1) a0 a1 a2 a3 a4 a5 a6 a7 a8 a9 a10 a11):=by
 intro a0 a1 a2 a3 a4 a5 a6 a7 a8 a9 a10 a11 k
 have ih0:=thresherref04_Made.mono_l k
 unfold thresherref04_Made.f
 repeat' first
   | (with_reducible exact ih0 _ _ _ _ _ _ _ _ _ _ _ _ _ _)
   | (with_reducible exact LeO.refl _)
   | (with_reducible exact LeO.none _)
   | (with_reducible refine LeO.ite ?_ ?_)
   | (with_reducible refine LeO.bind ?_ (fun _=>?_))
   | exact ih0 _ _ _ _ _ _ _ _ _ _ _ _ _ _
   | exact LeO.none _
   | refine LeO.ite ?_ ?_
   | refine LeO.bind ?_ (fun _=>?_)
def thresherref04_Made.T6 : Bool × List (List Nat × List Nat):=(true,[([],[]),([0],[0]),([],[]),([2],[2]),([3],[3]),([4],[4]),([5],[5]),([6],[6]),([7],[7]),([1,8],[1,8]),([0,1,2,3,4,5,6,7,8,9],[]),([10,9,9,0,1,2,3,4,5,6,7,8,9],[9,10])])
def thresherref04_Made.B6 : List Nat:=[0,1,0,4,12,28,60,124,252,511,1023,2047]
theorem thresherref04_Made.tab6 : rtab .any (opsOf Try.f24 6)=thresherref04_Made.T6:=by kernel_rfl
theorem thresherref04_Made.bits6 : waitsOk thresherref04_Made.T6.2 thresherref04_Made.B6=true:=by kernel_rfl
set_option maxHeartbeats 8000000 in
set_option maxRecDepth 100000 in
theorem thresherref04_Made.calls (k : Nat) (a0_0 : Int) (a0_1 : Int) (a0_2 : Int) (a0_3 : Int) (a0_4 : Int) (a0_5 : Int) (a0_6 : Int) (a0_7 : Int) (a1 : Int) (a2 : Int) (a3 : Int) (a4 : Int) (r1 : List Int) (r2 : Int) (r3 : Int) (r4 : Int) (w : World) (h : thresherref04_Made.f k a0_0 a0_1 a0_2 a0_3 a0_4 a0_5 a0_6 a0_7 a1 a2 a3 a4=some (r1,r2,r3,r4)) :
  Calls Try.prog 24 #[.agg #[.int .u8 a0_0,.int .u8 a0_1,.int .u8 a0_2,.int .u8 a0_3,.int .u8 a0_4,.int .u8 a0_5,.int .u8 a0_6,.int .u8 a0_7],.int .u8 a1,.int .u8 a2,.int .u8 a3,.int .u8 a4] w fun e w'=>∃ v0_ : Value,e=.returned (.agg #[v0_,.int .i64 r2,.int .i64 r3,.int .i64 r4])∧Kd.R (Kd.int .i64) 3 w' w.heap.size (fun _=>True) v0_ r1∧Below w.heap.size w w':=by
 have hu22:=Try.underlying22
 have hu32:=Try.underlying32
 have HB:=Aside0.mk (Below.refl w.heap.size w)
 have H : (if (wrap64 (1 + (Int.tmod (wrap64 (a1)) 8)))=0 then (none) else (thresherref04_Made.l0 k (wrap64 (1 + (Int.tmod (wrap64 (a1)) 8))) 0 a0_0 a0_1 a0_2 a0_3 a0_4 a0_5 a0_6 a0_7 ([] : List Int) (wrap64 (1 + (Int.tmod (wrap64 (a2)) (wrap64 (1 + (Int.tmod (wrap64 (a1)) 8)))))) (wrap64 (1 + (Int.tmod (wrap64 (a3)) 3))) (wrap64 (1 + (Int.tmod (wrap64 (a4)) 8)))))=some (r1,r2,r3,r4):=h
 clear h
 by_cases c6 : (wrap64 (1 + (Int.tmod (wrap64 (a1)) 8)))=0
 ·rw [if_pos c6] at H
  exact absurd H (by simp)
 ·rw [if_neg c6] at H
  have c6b0 : ((wrap64 (1 + (Int.tmod (wrap64 (a1)) 8))) == 0)=false:=beq_eq_false_iff_ne.mpr c6
  have c6b1 : ((wrap64 (1 + (Int.tmod (wrap64 (a1)) 8))) != 0)=true:=bne_iff_ne.mpr c6
  have H':=Aside0.mk H
  clear H
  go_enter Try.func24,Try.ntmps24
  go_wp2_with (first|((with_reducible refine gate_dst (N:=5) rfl ?_);refine box_event ?hg (N:=5) ?hd (cs:=#[.int .u8 a0_0,.int .u8 a0_1,.int .u8 a0_2,.int .u8 a0_3,.int .u8 a0_4,.int .u8 a0_5,.int .u8 a0_6,.int .u8 a0_7]) (t:=22) ?hr ?_;(case hd=>rfl);(case hg=>rfl);(case hr=>first|(go_simp;done)|(go_simp;rfl));intro gb136 hg w7 hbox hb;have n0_:=Aside0.mk (below_step (below_up HB.out) hb);have n1_:=Aside0.mk (hbox);have n2_:=Aside0.mk ((by rw [hg];exact (below_size (below_up HB.out)) : w.heap.size≤gb136));have n3_:=Aside0.mk ((by rw [hg];exact (below_size (below_up HB.out)) : w.heap.size≤gb136));clear HB;have HB:=n0_;have BK136:=n1_;have GW136:=n2_;have GE136:=n3_;clear n0_ n1_ n2_ n3_;clear hb hbox hg)|((with_reducible refine gate_dst (N:=10) rfl ?_);refine box_event ?hg (N:=10) ?hd (cs:=#[.slice none 0 0,.int .i64 0,.int .i64 0,.int .i64 0]) (t:=32) ?hr ?_;(case hd=>rfl);(case hg=>rfl);(case hr=>first|(go_simp;done)|(go_simp;rfl));intro gb137 hg w8 hbox hb;have n0_:=Aside0.mk (blk_below (blk_up BK136.out) hb);have n1_:=Aside0.mk (below_step (below_go HB.out) hb);have n2_:=Aside0.mk (hbox);have n3_:=Aside0.mk ((by rw [hg];exact (below_size (below_go HB.out)) : w.heap.size≤gb137));have n4_:=Aside0.mk ((by rw [hg];exact (below_size (below_go HB.out)) : w.heap.size≤gb137));have n5_:=Aside0.mk ((by rw [hg];exact Nat.ne_of_lt (blk_lt (blk_up BK136.out)) : gb136≠gb137));have n6_:=Aside0.mk ((by rw [hg];exact Nat.ne_of_gt (blk_lt (blk_up BK136.out)) : gb137≠gb136));clear BK136;clear HB;have BK136:=n0_;have HB:=n1_;have BK137:=n2_;have GW137:=n3_;have GE137:=n4_;have NB136_137:=n5_;have NB137_136:=n6_;clear n0_ n1_ n2_ n3_ n4_ n5_ n6_;clear hb hbox hg)|((with_reducible refine gate_dst (N:=12) rfl ?_);refine box_event ?hg (N:=12) ?hd (cs:=#[.slice none 0 0,.int .i64 0,.int .i64 0,.int .i64 0]) (t:=32) ?hr ?_;(case hd=>rfl);(case hg=>rfl);(case hr=>first|(go_simp;done)|(go_simp;rfl));intro gb138 hg w9 hbox hb;have n0_:=Aside0.mk (blk_below (blk_up BK136.out) hb);have n1_:=Aside0.mk (blk_below (blk_up BK137.out) hb);have n2_:=Aside0.mk (below_step (below_go HB.out) hb);have n3_:=Aside0.mk (hbox);have n4_:=Aside0.mk ((by rw [hg];exact (below_size (below_go HB.out)) : w.heap.size≤gb138));have n5_:=Aside0.mk ((by rw [hg];exact (below_size (below_go HB.out)) : w.heap.size≤gb138));have n6_:=Aside0.mk ((by rw [hg];exact Nat.ne_of_lt (blk_lt (blk_up BK136.out)) : gb136≠gb138));have n7_:=Aside0.mk ((by rw [hg];exact Nat.ne_of_gt (blk_lt (blk_up BK136.out)) : gb138≠gb136));have n8_:=Aside0.mk ((by rw [hg];exact Nat.ne_of_lt (blk_lt (blk_up BK137.out)) : gb137≠gb138));have n9_:=Aside0.mk ((by rw [hg];exact Nat.ne_of_gt (blk_lt (blk_up BK137.out)) : gb138≠gb137));clear BK136;clear BK137;clear HB;have BK136:=n0_;have BK137:=n1_;have HB:=n2_;have BK138:=n3_;have GW138:=n4_;have GE138:=n5_;have NB136_138:=n6_;have NB138_136:=n7_;have NB137_138:=n8_;have NB138_137:=n9_;clear n0_ n1_ n2_ n3_ n4_ n5_ n6_ n7_ n8_ n9_;clear hb hbox hg;have hnb10:=NB138_136.out;have hnc10:=NB136_138.out;have hnb11:=NB138_137.out;have hnc11:=NB137_138.out;have hcz12_0 : w9.cell? ⟨gb138,0,none⟩=some (.slice none 0 0):=(blk_cell BK138.out 0).trans rfl;have hcz12_1 : w9.cell? ⟨gb138,1,none⟩=some (.int .i64 0):=(blk_cell BK138.out 1).trans rfl;have hcz12_2 : w9.cell? ⟨gb138,2,none⟩=some (.int .i64 0):=(blk_cell BK138.out 2).trans rfl;have hcz12_3 : w9.cell? ⟨gb138,3,none⟩=some (.int .i64 0):=(blk_cell BK138.out 3).trans rfl;have hfz12_0:=blk_frozen BK138.out 0;have hfz12_1:=blk_frozen BK138.out 1;have hfz12_2:=blk_frozen BK138.out 2;have hfz12_3:=blk_frozen BK138.out 3))
  go_loopg [13] k (fun kq v13 w'=>∃ (x13_1 : Int) (x139000_1 : List Int) (u139000 : Value),v13=.int .i64 x13_1∧Aside0 (thresherref04_Made.l0 kq (wrap64 (1 + (Int.tmod (wrap64 (a1)) 8))) x13_1 a0_0 a0_1 a0_2 a0_3 a0_4 a0_5 a0_6 a0_7 x139000_1 (wrap64 (1 + (Int.tmod (wrap64 (a2)) (wrap64 (1 + (Int.tmod (wrap64 (a1)) 8)))))) (wrap64 (1 + (Int.tmod (wrap64 (a3)) 3))) (wrap64 (1 + (Int.tmod (wrap64 (a4)) 8)))=some (r1,r2,r3,r4))∧Aside0 (kq≤k)∧Aside0 (Kd.R (Kd.int .i64) 3 w' w.heap.size (fun _=>True) u139000 x139000_1)∧Aside0 (w'.heap[gb136]?=some (.cells #[.int .u8 a0_0,.int .u8 a0_1,.int .u8 a0_2,.int .u8 a0_3,.int .u8 a0_4,.int .u8 a0_5,.int .u8 a0_6,.int .u8 a0_7] 22 (0,0)))∧Aside0 (w'.heap[gb137]?=some (.cells #[(.slice none 0 0),.int .i64 0,.int .i64 0,.int .i64 0] 32 (0,0)))∧Aside0 (w'.heap[gb138]?=some (.cells #[u139000,.int .i64 (wrap64 (1 + (Int.tmod (wrap64 (a2)) (wrap64 (1 + (Int.tmod (wrap64 (a1)) 8)))))),.int .i64 (wrap64 (1 + (Int.tmod (wrap64 (a3)) 3))),.int .i64 (wrap64 (1 + (Int.tmod (wrap64 (a4)) 8)))] 32 (0,0)))∧Aside0 (Below w.heap.size w w'))
  case atStart=>exact ⟨(0),(([] : List Int)),(.slice none 0 0),(by first|rfl|(simp;done)|(simp [*];done)),H',⟨Nat.le_refl _⟩,⟨by first|exact Kd.R_nil _ _ _ _ _|exact Kd.N_nil _ _ _ _ _|exact Kd.V_nil _ _ _ _ _|exact Kd.Q_nil _ _ _ _ _|exact Kd.S_nil _ _ _ _ _⟩,⟨by (with_reducible repeat (first|refine blk_drewN ?_ _|refine blk_drew ?_|refine blk_alloc ?_ _));refine blk_far ?_ NB136_138.out _;(with_reducible repeat (first|refine blk_drewN ?_ _|refine blk_drew ?_|refine blk_alloc ?_ _));refine blk_far ?_ NB136_138.out _;(with_reducible repeat (first|refine blk_drewN ?_ _|refine blk_drew ?_|refine blk_alloc ?_ _));refine blk_far ?_ NB136_138.out _;(with_reducible repeat (first|refine blk_drewN ?_ _|refine blk_drew ?_|refine blk_alloc ?_ _));refine blk_far ?_ NB136_138.out _;(with_reducible repeat (first|refine blk_drewN ?_ _|refine blk_drew ?_|refine blk_alloc ?_ _));exact BK136.out⟩,⟨by (with_reducible repeat (first|refine blk_drewN ?_ _|refine blk_drew ?_|refine blk_alloc ?_ _));refine blk_far ?_ NB137_138.out _;(with_reducible repeat (first|refine blk_drewN ?_ _|refine blk_drew ?_|refine blk_alloc ?_ _));refine blk_far ?_ NB137_138.out _;(with_reducible repeat (first|refine blk_drewN ?_ _|refine blk_drew ?_|refine blk_alloc ?_ _));refine blk_far ?_ NB137_138.out _;(with_reducible repeat (first|refine blk_drewN ?_ _|refine blk_drew ?_|refine blk_alloc ?_ _));refine blk_far ?_ NB137_138.out _;(with_reducible repeat (first|refine blk_drewN ?_ _|refine blk_drew ?_|refine blk_alloc ?_ _));exact BK137.out⟩,⟨by (with_reducible repeat (first|refine blk_drewN ?_ _|refine blk_drew ?_|refine blk_alloc ?_ _));refine blk_put (cs:=#[.slice none 0 0,.int .i64 (wrap64 (1 + (Int.tmod (wrap64 (a2)) (wrap64 (1 + (Int.tmod (wrap64 (a1)) 8)))))),.int .i64 (wrap64 (1 + (Int.tmod (wrap64 (a3)) 3))),.int .i64 0]) ?_ 3 _ rfl;(with_reducible repeat (first|refine blk_drewN ?_ _|refine blk_drew ?_|refine blk_alloc ?_ _));refine blk_put (cs:=#[.slice none 0 0,.int .i64 (wrap64 (1 + (Int.tmod (wrap64 (a2)) (wrap64 (1 + (Int.tmod (wrap64 (a1)) 8)))))),.int .i64 0,.int .i64 0]) ?_ 2 _ rfl;(with_reducible repeat (first|refine blk_drewN ?_ _|refine blk_drew ?_|refine blk_alloc ?_ _));refine blk_put (cs:=#[.slice none 0 0,.int .i64 0,.int .i64 0,.int .i64 0]) ?_ 1 _ rfl;(with_reducible repeat (first|refine blk_drewN ?_ _|refine blk_drew ?_|refine blk_alloc ?_ _));refine blk_put (cs:=#[.slice none 0 0,.int .i64 0,.int .i64 0,.int .i64 0]) ?_ 0 _ rfl;(with_reducible repeat (first|refine blk_drewN ?_ _|refine blk_drew ?_|refine blk_alloc ?_ _));exact BK138.out⟩,⟨by repeat (first|(with_reducible first|exact HB.out|apply below_alloc|apply pw_below_drewN|apply below_drew1|refine below_set ?_ GE136.out|refine below_set ?_ GE137.out|refine below_set ?_ GE138.out)|exact HB.out)⟩⟩
  case round =>
   clear H'
   try clear c1
   try clear c2
   try clear p2
   try clear c6
   try clear c6b0
   try clear c6b1
   try clear p6
   try clear c10
   try clear c11
   try clear hcz12_0
   try clear hcz12_1
   try clear hcz12_2
   try clear hcz12_3
   try clear hfz12_0
   try clear hfz12_1
   try clear hfz12_2
   try clear hfz12_3
   obtain ⟨x13_1,x139000_1,u139000,rfl,HA,HK1,HO_139000,BK136,BK137,BK138,HB⟩:=hrel
   cases gk with
   | zero=>exact absurd HA.out (by simp [thresherref04_Made.l0])
   | succ k1 =>
    have H:=HA.out
    clear HA
    simp only [thresherref04_Made.l0] at H
    by_cases c13 : x13_1 < (wrap64 (1 + (Int.tmod (wrap64 (a1)) 8)))
    ·rw [if_pos c13] at H
     have c13b0 : decide (x13_1 < (wrap64 (1 + (Int.tmod (wrap64 (a1)) 8))))=true:=decide_eq_true c13
     clear c13
     by_cases c14 : 0≤x13_1
     ·rw [if_pos c14] at H
      have c14b0 : decide (0≤x13_1)=true:=decide_eq_true c14
      clear c14
      by_cases c15 : x13_1 < 8
      ·rw [if_pos c15] at H
       have c15b0 : decide (x13_1 < 8)=true:=decide_eq_true c15
       clear c15
       have c16b0:=eq_true (of_decide_eq_true (by first|(with_reducible assumption)|assumption) : 0≤x13_1)
       have c17b0:=eq_true (of_decide_eq_true (by first|(with_reducible assumption)|assumption) : x13_1 < 8)
       by_cases c18 : x139000_1.length < 17592186044416
       ·rw [if_pos c18] at H
        have LMc18:=Aside0.mk c18
        clear c18
        obtain ⟨y139,hy139⟩ : ∃ y_ : List Int,y_=(x139000_1 ++ [wrap64 (1 + (Int.tmod (wrap64 (rd [a0_0,a0_1,a0_2,a0_3,a0_4,a0_5,a0_6,a0_7] x13_1)) 3))]):=⟨_,rfl⟩
        replace H : (thresherref04_Made.l0 k1 (wrap64 (1 + (Int.tmod (wrap64 (a1)) 8))) (wrap64 (x13_1 + 1)) a0_0 a0_1 a0_2 a0_3 a0_4 a0_5 a0_6 a0_7 y139 (wrap64 (1 + (Int.tmod (wrap64 (a2)) (wrap64 (1 + (Int.tmod (wrap64 (a1)) 8)))))) (wrap64 (1 + (Int.tmod (wrap64 (a3)) 3))) (wrap64 (1 + (Int.tmod (wrap64 (a4)) 8))))=some (r1,r2,r3,r4):=by first|(rw [hy139];with_reducible exact H)|(have H2_:=(Option.bind_some _ _).symm.trans H;rw [hy139];with_reducible exact H2_)|(have H2_:=(Option.bind_some _ _).symm.trans H;with_reducible exact H2_)|with_reducible exact H|(rw [hy139];exact H)|exact H
        have Ny139:=Aside0.mk hy139
        clear hy139
        have H':=Aside0.mk H
        clear H
        try go_wp2
        have n0_:=Aside0.mk (Kd.R_drew HO_139000.out)
        have n1_:=Aside0.mk (blk_drew BK136.out)
        have n2_:=Aside0.mk (blk_drew BK137.out)
        have n3_:=Aside0.mk (blk_drew BK138.out)
        have n4_:=Aside0.mk (below_drew1 HB.out)
        clear HO_139000
        clear BK136
        clear BK137
        clear BK138
        clear HB
        have HO_139000:=n0_
        have BK136:=n1_
        have BK137:=n2_
        have BK138:=n3_
        have HB:=n4_
        clear n0_ n1_ n2_ n3_ n4_
        refine start_ (n:=12) (S:=fun w'=>w'.cell? ⟨gb138,0,none⟩=some (u139000)∧w'.cell? ⟨gb138,1,none⟩=some (.int .i64 (wrap64 (1 + (Int.tmod (wrap64 (a2)) (wrap64 (1 + (Int.tmod (wrap64 (a1)) 8)))))))∧w'.cell? ⟨gb138,2,none⟩=some (.int .i64 (wrap64 (1 + (Int.tmod (wrap64 (a3)) 3))))∧w'.cell? ⟨gb138,3,none⟩=some (.int .i64 (wrap64 (1 + (Int.tmod (wrap64 (a4)) 8))))∧w'.cell? ⟨gb136,0,none⟩=some (.int .u8 a0_0)∧w'.cell? ⟨gb136,1,none⟩=some (.int .u8 a0_1)∧w'.cell? ⟨gb136,2,none⟩=some (.int .u8 a0_2)∧w'.cell? ⟨gb136,3,none⟩=some (.int .u8 a0_3)∧w'.cell? ⟨gb136,4,none⟩=some (.int .u8 a0_4)∧w'.cell? ⟨gb136,5,none⟩=some (.int .u8 a0_5)∧w'.cell? ⟨gb136,6,none⟩=some (.int .u8 a0_6)∧w'.cell? ⟨gb136,7,none⟩=some (.int .u8 a0_7)∧w'.cell? ⟨gb136,x13_1.toNat,none⟩=some (.int .u8 (rd [a0_0,a0_1,a0_2,a0_3,a0_4,a0_5,a0_6,a0_7] x13_1))) (ds:=[11]) #[false,false,false,false,false,false,false,false,false,false,false,false] (by kernel_rfl) rfl rfl ⟨(blk_cell BK138.out 0).trans rfl,(blk_cell BK138.out 1).trans rfl,(blk_cell BK138.out 2).trans rfl,(blk_cell BK138.out 3).trans rfl,(blk_cell BK136.out 0).trans rfl,(blk_cell BK136.out 1).trans rfl,(blk_cell BK136.out 2).trans rfl,(blk_cell BK136.out 3).trans rfl,(blk_cell BK136.out 4).trans rfl,(blk_cell BK136.out 5).trans rfl,(blk_cell BK136.out 6).trans rfl,(blk_cell BK136.out 7).trans rfl,(blk_cell BK136.out x13_1.toNat).trans (cells_rd .u8 [a0_0,a0_1,a0_2,a0_3,a0_4,a0_5,a0_6,a0_7] x13_1 (of_decide_eq_true (by first|(with_reducible assumption)|assumption)) (of_decide_eq_true (by first|(with_reducible assumption)|assumption)))⟩ (fun hHeld=>?_);refine with_tabW thresherref04_Made.tab6 thresherref04_Made.bits6 (fun HT_ HW_=>?_)
        generalize wr.drew=w19 at HO_139000 BK136 BK137 BK138 HB hHeld ⊢
        refine pure_ (i:=0) (N:=some 37) (v:=?_) (a':=?_) #[true,false,false,false,false,false,false,false,false,false,false,false] rfl rfl (any_of HT_.out (by kernel_rfl)) (fun _ _ _ h=>h) (Or.inl ⟨by rfl,?_⟩) ?_ ?_
        rotate_left;(intro w';go_simp;with_reducible rfl);rotate_left;(simp only [Act.put,List.setIfInBounds_toArray,List.set_cons_zero,List.set_cons_succ,i64_w,i32_w];rfl)
        refine pure_ (i:=2) (N:=some 39) (v:=?_) (a':=?_) #[true,false,true,false,false,false,false,false,false,false,false,false] rfl rfl (any_of HT_.out (by kernel_rfl)) (fun _ _ _ h=>h) (Or.inl ⟨by rfl,?_⟩) ?_ ?_
        rotate_left;(intro w';go_simp;with_reducible rfl);rotate_left;(simp only [Act.put,List.setIfInBounds_toArray,List.set_cons_zero,List.set_cons_succ,i64_w,i32_w];rfl)
        refine pure_ (i:=3) (N:=some 40) (v:=?_) (a':=?_) #[true,false,true,true,false,false,false,false,false,false,false,false] rfl rfl (any_of HT_.out (by kernel_rfl)) (fun _ _ _ h=>h) (Or.inl ⟨by rfl,?_⟩) ?_ ?_
        rotate_left;(intro w';go_simp;with_reducible rfl);rotate_left;(simp only [Act.put,List.setIfInBounds_toArray,List.set_cons_zero,List.set_cons_succ,i64_w,i32_w];rfl)
        refine take_ (i:=1) (N:=some 38) (v:=?_) (a':=?_) #[true,true,true,true,false,false,false,false,false,false,false,false] rfl rfl (take_ofW HT_.out HW_.out (by kernel_rfl)) (fun _ _ _ h=>h) (Or.inl ⟨by rfl,?_⟩) hHeld ?_ ?_
        rotate_left;(rintro w' ⟨s0,s1,s2,s3,s4,s5,s6,s7,s8,s9,s10,s11,s12⟩;go_simp;with_reducible rfl);rotate_left;(simp only [Act.put,List.setIfInBounds_toArray,List.set_cons_zero,List.set_cons_succ,i64_w,i32_w];rfl)
        refine take_ (i:=4) (N:=some 41) (v:=?_) (a':=?_) #[true,true,true,true,true,false,false,false,false,false,false,false] rfl rfl (take_ofW HT_.out HW_.out (by kernel_rfl)) (fun _ _ _ h=>h) (Or.inl ⟨by rfl,?_⟩) hHeld ?_ ?_
        rotate_left;(rintro w' ⟨s0,s1,s2,s3,s4,s5,s6,s7,s8,s9,s10,s11,s12⟩;go_simp;with_reducible rfl);rotate_left;(simp only [Act.put,List.setIfInBounds_toArray,List.set_cons_zero,List.set_cons_succ,i64_w,i32_w];rfl)
        refine pure_ (i:=5) (N:=some 42) (v:=?_) (a':=?_) #[true,true,true,true,true,true,false,false,false,false,false,false] rfl rfl (any_of HT_.out (by kernel_rfl)) (fun _ _ _ h=>h) (Or.inl ⟨by rfl,?_⟩) ?_ ?_
        rotate_left;(intro w';go_simp;with_reducible rfl);rotate_left;(simp only [Act.put,List.setIfInBounds_toArray,List.set_cons_zero,List.set_cons_succ,i64_w,i32_w];rfl)
        refine pure_ (i:=6) (N:=some 43) (v:=?_) (a':=?_) #[true,true,true,true,true,true,true,false,false,false,false,false] rfl rfl (any_of HT_.out (by kernel_rfl)) (fun _ _ _ h=>h) (Or.inl ⟨by rfl,?_⟩) ?_ ?_
        rotate_left;(intro w';go_simp;with_reducible rfl);rotate_left;(simp only [Act.put,List.setIfInBounds_toArray,List.set_cons_zero,List.set_cons_succ,i64_w,i32_w];rfl)
        refine pure_ (i:=7) (N:=some 44) (v:=?_) (a':=?_) #[true,true,true,true,true,true,true,true,false,false,false,false] rfl rfl (any_of HT_.out (by kernel_rfl)) (fun _ _ _ h=>h) (Or.inl ⟨by rfl,?_⟩) ?_ ?_
        rotate_left;(intro w';go_simp;with_reducible rfl);rotate_left;(simp only [Act.put,List.setIfInBounds_toArray,List.set_cons_zero,List.set_cons_succ,i64_w,i32_w];rfl)
        refine one_ (i:=8) (N:=some 45) #[true,true,true,true,true,true,true,true,true,false,false,false] rfl rfl (one_of HT_.out (by kernel_rfl)) (by decide) (fun K hK=>?_)
        refine value_ (w1:=?_) (v:=?_) (by rfl) rfl ?_ ?_
        rotate_left 2
        ·go_simp
         constructor
         ·rfl
         ·rfl
        refine hK.out _ _ ⟨(blk_cell (blk_alloc BK138.out _) 0).trans rfl,(blk_cell (blk_alloc BK138.out _) 1).trans rfl,(blk_cell (blk_alloc BK138.out _) 2).trans rfl,(blk_cell (blk_alloc BK138.out _) 3).trans rfl,(blk_cell (blk_alloc BK136.out _) 0).trans rfl,(blk_cell (blk_alloc BK136.out _) 1).trans rfl,(blk_cell (blk_alloc BK136.out _) 2).trans rfl,(blk_cell (blk_alloc BK136.out _) 3).trans rfl,(blk_cell (blk_alloc BK136.out _) 4).trans rfl,(blk_cell (blk_alloc BK136.out _) 5).trans rfl,(blk_cell (blk_alloc BK136.out _) 6).trans rfl,(blk_cell (blk_alloc BK136.out _) 7).trans rfl,(blk_cell (blk_alloc BK136.out _) x13_1.toNat).trans (cells_rd .u8 [a0_0,a0_1,a0_2,a0_3,a0_4,a0_5,a0_6,a0_7] x13_1 (of_decide_eq_true (by first|(with_reducible assumption)|assumption)) (of_decide_eq_true (by first|(with_reducible assumption)|assumption)))⟩ (fun hHeld=>?_)
        clear hK K
        refine norm_ (a':=?_) ?_ ?_
        rotate_left
        ·show Act.put _ (some 45) _=_
         simp only [Act.put,List.setIfInBounds_toArray,List.set_cons_zero,List.set_cons_succ,i64_w,i32_w]
         rfl
        refine one_ (i:=9) (N:=some 46) #[true,true,true,true,true,true,true,true,true,true,false,false] rfl rfl (one_of HT_.out (by kernel_rfl)) (by decide) (fun K hK=>?_)
        refine Kd.R_append_step (Kd.int .i64) (w0:=w) w.heap.size (by rfl) (.tmp 38) (.tmp 45) 27 3 (.int .i64 0) 8 rfl Try.underlying27 info3 rfl (by decide) (by omega) u139000 x139000_1 (wrap64 (1 + (Int.tmod (wrap64 (rd [a0_0,a0_1,a0_2,a0_3,a0_4,a0_5,a0_6,a0_7] x13_1)) 3))) [.int .i64 (wrap64 (1 + (Int.tmod (wrap64 (rd [a0_0,a0_1,a0_2,a0_3,a0_4,a0_5,a0_6,a0_7] x13_1)) 3)))] (fun _=>True) (fun _=>False) rfl rfl ?aP (fun _ hk=>hk.elim) ?aF ?aO ?aB ?aS ?aL ?_
        (case aP=>exact rfl)
        (case aB=>exact (below_go HB.out))
        (case aF=>exact (fun _ _=>trivial))
        (case aO=>exact (R_up HO_139000.out))
        (case aS=>exact (below_size (below_go HB.out)))
        (case aL=>have:=LMc18.out;omega)
        intro v140 w20 ho hb hg hat
        rw [← Ny139.out] at ho
        have n0_:=Aside0.mk (blk_grown (blk_up BK136.out) hg (Kd.R_ne HO_139000.out BK136.out (by decide)))
        have n1_:=Aside0.mk (blk_grown (blk_up BK137.out) hg (Kd.R_ne HO_139000.out BK137.out (by decide)))
        have n2_:=Aside0.mk (blk_grown (blk_up BK138.out) hg (Kd.R_ne HO_139000.out BK138.out (by decide)))
        have n3_:=Aside0.mk (hb)
        have n4_:=Aside0.mk (ho)
        clear BK136
        clear BK137
        clear BK138
        clear HB
        clear HO_139000
        have BK136:=n0_
        have BK137:=n1_
        have BK138:=n2_
        have HB:=n3_
        have HO141:=n4_
        clear n0_ n1_ n2_ n3_ n4_
        clear ho hb hg hat
        obtain ⟨Ao21,co21,eo21⟩:=Kd.R_slice HO141.out
        (first|subst eo21|(injection eo21 with f1_ f2_ f3_;have f4_:=f1_.symm;have f5_:=f3_.symm;clear f1_ f2_ f3_;subst f4_;subst f5_))
        refine hK.out _ _ ⟨(blk_cell BK138.out 0).trans rfl,(blk_cell BK138.out 1).trans rfl,(blk_cell BK138.out 2).trans rfl,(blk_cell BK138.out 3).trans rfl,(blk_cell BK136.out 0).trans rfl,(blk_cell BK136.out 1).trans rfl,(blk_cell BK136.out 2).trans rfl,(blk_cell BK136.out 3).trans rfl,(blk_cell BK136.out 4).trans rfl,(blk_cell BK136.out 5).trans rfl,(blk_cell BK136.out 6).trans rfl,(blk_cell BK136.out 7).trans rfl,(blk_cell BK136.out x13_1.toNat).trans (cells_rd .u8 [a0_0,a0_1,a0_2,a0_3,a0_4,a0_5,a0_6,a0_7] x13_1 (of_decide_eq_true (by first|(with_reducible assumption)|assumption)) (of_decide_eq_true (by first|(with_reducible assumption)|assumption)))⟩ (fun hHeld=>?_)
        clear hK K
        refine norm_ (a':=?_) ?_ ?_
        rotate_left
        ·show Act.put _ (some 46) _=_
         simp only [Act.put,List.setIfInBounds_toArray,List.set_cons_zero,List.set_cons_succ,i64_w,i32_w]
         rfl
        refine pure_ (i:=10) (N:=some 47) (v:=?_) (a':=?_) #[true,true,true,true,true,true,true,true,true,true,true,false] rfl rfl (any_of HT_.out (by kernel_rfl)) (fun _ _ _ h=>h) (Or.inl ⟨by rfl,?_⟩) ?_ ?_
        rotate_left;(intro w';go_simp;with_reducible rfl);rotate_left;(simp only [Act.put,List.setIfInBounds_toArray,List.set_cons_zero,List.set_cons_succ,i64_w,i32_w];rfl)
        refine last_ (i:=11) (N:=none) #[true,true,true,true,true,true,true,true,true,true,true,true] rfl rfl (one_of HT_.out (by kernel_rfl)) (by decide) (fun K hK=>?_)
        have hs22 : w20.cell? ⟨gb138,0,none⟩=some (u139000):=(blk_cell BK138.out 0).trans rfl
        have hfs22:=blk_frozen BK138.out 0
        have hns22_0:=NB136_138.out
        have hns22_1:=NB137_138.out
        have hms22_0:=NB138_136.out
        have hms22_1:=NB138_137.out
        refine skip_ (w1:=?_) (by rfl) rfl ?_ ?_
        rotate_left
        ·go_simp
         rfl
        refine hK.out _ _ ?_
        clear hK K
        refine done_ (done_of HT_.out (by kernel_rfl)) ?_
        (try clear hHeld)
        try go_wp2
        go_roundg k1
        case measure=>have:=HK1.out;omega
        case rel=>exact ⟨(wrap64 (x13_1 + 1)),(y139),(.slice Ao21 y139.length co21),(by first|rfl|(simp;done)|(simp [*];done)),(by first|exact H'|(subst_vars;exact H')),⟨by have:=HK1.out;omega⟩,⟨by (with_reducible repeat (first|apply Kd.R_alloc|apply Kd.R_drewN|apply Kd.R_drew));exact Kd.R_mono (Kd.R_far (p:=⟨gb138,0,none⟩) (Kd.R_types HO141.out BK138.out (by decide)) (fun _ hk=>hk.2) (.slice Ao21 y139.length co21)) (fun _ hk=>trivial)⟩,⟨by (with_reducible repeat (first|refine blk_drewN ?_ _|refine blk_drew ?_|refine blk_alloc ?_ _));refine blk_far ?_ NB136_138.out _;(with_reducible repeat (first|refine blk_drewN ?_ _|refine blk_drew ?_|refine blk_alloc ?_ _));exact BK136.out⟩,⟨by (with_reducible repeat (first|refine blk_drewN ?_ _|refine blk_drew ?_|refine blk_alloc ?_ _));refine blk_far ?_ NB137_138.out _;(with_reducible repeat (first|refine blk_drewN ?_ _|refine blk_drew ?_|refine blk_alloc ?_ _));exact BK137.out⟩,⟨by (with_reducible repeat (first|refine blk_drewN ?_ _|refine blk_drew ?_|refine blk_alloc ?_ _));refine blk_put (cs:=#[u139000,.int .i64 (wrap64 (1 + (Int.tmod (wrap64 (a2)) (wrap64 (1 + (Int.tmod (wrap64 (a1)) 8)))))),.int .i64 (wrap64 (1 + (Int.tmod (wrap64 (a3)) 3))),.int .i64 (wrap64 (1 + (Int.tmod (wrap64 (a4)) 8)))]) ?_ 0 _ rfl;(with_reducible repeat (first|refine blk_drewN ?_ _|refine blk_drew ?_|refine blk_alloc ?_ _));exact BK138.out⟩,⟨by repeat (first|(with_reducible first|exact HB.out|apply below_alloc|apply pw_below_drewN|apply below_drew1|refine below_set ?_ GE136.out|refine below_set ?_ GE137.out|refine below_set ?_ GE138.out)|exact HB.out)⟩⟩
       ·rw [if_neg c18] at H
        exact absurd H (by simp)
      ·rw [if_neg c15] at H
       exact absurd H (by simp)
     ·rw [if_neg c14] at H
      exact absurd H (by simp)
    ·rw [if_neg c13] at H
     have c13b0 : decide (x13_1 < (wrap64 (1 + (Int.tmod (wrap64 (a1)) 8))))=false:=decide_eq_false c13
     clear c13
     simp only [Option.some.injEq,Prod.mk.injEq] at H
     obtain ⟨rfl,rfl,rfl,rfl⟩:=H
     have hnb23:=NB138_136.out
     have hnc23:=NB136_138.out
     have hnb24:=NB138_137.out
     have hnc24:=NB137_138.out
     have hcz25_0 : wr.cell? ⟨gb138,0,none⟩=some (u139000):=(blk_cell BK138.out 0).trans rfl
     have hcz25_1 : wr.cell? ⟨gb138,1,none⟩=some (.int .i64 (wrap64 (1 + (Int.tmod (wrap64 (a2)) (wrap64 (1 + (Int.tmod (wrap64 (a1)) 8))))))):=(blk_cell BK138.out 1).trans rfl
     have hcz25_2 : wr.cell? ⟨gb138,2,none⟩=some (.int .i64 (wrap64 (1 + (Int.tmod (wrap64 (a3)) 3)))):=(blk_cell BK138.out 2).trans rfl
     have hcz25_3 : wr.cell? ⟨gb138,3,none⟩=some (.int .i64 (wrap64 (1 + (Int.tmod (wrap64 (a4)) 8)))):=(blk_cell BK138.out 3).trans rfl
     have hfz25_0:=blk_frozen BK138.out 0
     have hfz25_1:=blk_frozen BK138.out 1
     have hfz25_2:=blk_frozen BK138.out 2
     have hfz25_3:=blk_frozen BK138.out 3
     obtain ⟨Ao26,co26,eo26⟩:=Kd.R_slice HO_139000.out
     subst eo26
     have hnb27:=NB137_136.out
     have hnc27:=NB136_137.out
     have hcz28_0 : wr.cell? ⟨gb137,0,none⟩=some (.slice none 0 0):=(blk_cell BK137.out 0).trans rfl
     have hcz28_1 : wr.cell? ⟨gb137,1,none⟩=some (.int .i64 0):=(blk_cell BK137.out 1).trans rfl
     have hcz28_2 : wr.cell? ⟨gb137,2,none⟩=some (.int .i64 0):=(blk_cell BK137.out 2).trans rfl
     have hcz28_3 : wr.cell? ⟨gb137,3,none⟩=some (.int .i64 0):=(blk_cell BK137.out 3).trans rfl
     have hfz28_0:=blk_frozen BK137.out 0
     have hfz28_1:=blk_frozen BK137.out 1
     have hfz28_2:=blk_frozen BK137.out 2
     have hfz28_3:=blk_frozen BK137.out 3
     go_wp2
     refine bodyPost_ret (results_cell_row rfl _ _ gb137 32 #[.slice Ao26 x139000_1.length co26,.int .i64 (wrap64 (1 + (Int.tmod (wrap64 (a2)) (wrap64 (1 + (Int.tmod (wrap64 (a1)) 8)))))),.int .i64 (wrap64 (1 + (Int.tmod (wrap64 (a3)) 3))),.int .i64 (wrap64 (1 + (Int.tmod (wrap64 (a4)) 8)))] (0,0) _ rfl (by (with_reducible repeat (first|refine blk_drewN ?_ _|refine blk_drew ?_|refine blk_alloc ?_ _));refine blk_put (cs:=#[.slice Ao26 x139000_1.length co26,.int .i64 (wrap64 (1 + (Int.tmod (wrap64 (a2)) (wrap64 (1 + (Int.tmod (wrap64 (a1)) 8)))))),.int .i64 (wrap64 (1 + (Int.tmod (wrap64 (a3)) 3))),.int .i64 0]) ?_ 3 _ rfl;(with_reducible repeat (first|refine blk_drewN ?_ _|refine blk_drew ?_|refine blk_alloc ?_ _));refine blk_put (cs:=#[.slice Ao26 x139000_1.length co26,.int .i64 (wrap64 (1 + (Int.tmod (wrap64 (a2)) (wrap64 (1 + (Int.tmod (wrap64 (a1)) 8)))))),.int .i64 0,.int .i64 0]) ?_ 2 _ rfl;(with_reducible repeat (first|refine blk_drewN ?_ _|refine blk_drew ?_|refine blk_alloc ?_ _));refine blk_put (cs:=#[.slice Ao26 x139000_1.length co26,.int .i64 0,.int .i64 0,.int .i64 0]) ?_ 1 _ rfl;(with_reducible repeat (first|refine blk_drewN ?_ _|refine blk_drew ?_|refine blk_alloc ?_ _));refine blk_put (cs:=#[.slice none 0 0,.int .i64 0,.int .i64 0,.int .i64 0]) ?_ 0 _ rfl;(with_reducible repeat (first|refine blk_drewN ?_ _|refine blk_drew ?_|refine blk_alloc ?_ _));exact BK137.out) Try.underlying32 rfl (by kernel_rfl)) rfl ?_
     exact ⟨_,by first|rfl|(simp [errW_none,errW_some] <;> rfl)|(simp [*,errW_none,errW_some] <;> rfl),by (with_reducible repeat (first|apply Kd.R_alloc|apply Kd.R_drewN|apply Kd.R_drew));exact Kd.R_mono (Kd.R_far (p:=⟨gb137,3,none⟩) (Kd.R_far (p:=⟨gb137,2,none⟩) (Kd.R_far (p:=⟨gb137,1,none⟩) (Kd.R_far (p:=⟨gb137,0,none⟩) (Kd.R_types HO_139000.out BK137.out (by decide)) (fun _ hk=>hk.2) (.slice Ao26 x139000_1.length co26)) (fun _ hk=>hk.2) (.int .i64 (wrap64 (1 + (Int.tmod (wrap64 (a2)) (wrap64 (1 + (Int.tmod (wrap64 (a1)) 8)))))))) (fun _ hk=>hk.2) (.int .i64 (wrap64 (1 + (Int.tmod (wrap64 (a3)) 3))))) (fun _ hk=>hk.2) (.int .i64 (wrap64 (1 + (Int.tmod (wrap64 (a4)) 8))))) (fun _ hk=>trivial),by repeat (first|(with_reducible first|exact HB.out|apply below_alloc|apply pw_below_drewN|apply below_drew1|refine below_set ?_ GE136.out|refine below_set ?_ GE137.out|refine below_set ?_ GE138.out)|exact HB.out)⟩
def thresherlaw19_made.f (k : Nat) (a0_0 : Int) (a0_1 : Int) (a0_2 : Int) (a0_3 : Int) (a0_4 : Int) (a0_5 : Int) (a0_6 : Int) (a0_7 : Int) (a0_8 : Int) (a0_9 : Int) (a0_10 : Int) (a0_11 : Int) : Option (List Int × Int × Int × Int):=(thresherref04_Made.f k a0_0 a0_1 a0_2 a0_3 a0_4 a0_5 a0_6 a0_7 a0_8 a0_9 a0_10 a0_11).bind fun bt144=>(some (bt144.1,bt144.2.1,bt144.2.2.1,bt144.2.2.2))
theorem thresherlaw19_made.mono : ∀ a0 a1 a2 a3 a4 a5 a6 a7 a8 a9 a10 a11 k,LeO (thresherlaw19_made.f k a0 a1 a2 a3 a4 a5 a6 a7 a8 a9 a10 a11) (thresherlaw19_made.f (k + 1) a0 a1 a2 a3 a4 a5 a6 a7 a8 a9 a10 a11):=by
 intro a0 a1 a2 a3 a4 a5 a6 a7 a8 a9 a10 a11 k
 unfold thresherlaw19_made.f
 repeat' first
   | (with_reducible exact thresherref04_Made.mono _ _ _ _ _ _ _ _ _ _ _ _ _)
   | (with_reducible exact LeO.refl _)
   | (with_reducible exact LeO.none _)
   | (with_reducible refine LeO.ite ?_ ?_)
   | (with_reducible refine LeO.bind ?_ (fun _=>?_))
   | exact thresherref04_Made.mono _ _ _ _ _ _ _ _ _ _ _ _ _
   | exact LeO.none _
   | refine LeO.ite ?_ ?_
   | refine LeO.bind ?_ (fun _=>?_)
set_option maxHeartbeats 8000000 in
set_option maxRecDepth 100000 in
theorem thresherlaw19_made.calls (k : Nat) (a0_0 : Int) (a0_1 : Int) (a0_2 : Int) (a0_3 : Int) (a0_4 : Int) (a0_5 : Int) (a0_6 : Int) (a0_7 : Int) (a0_8 : Int) (a0_9 : Int) (a0_10 : Int) (a0_11 : Int) (r1 : List Int) (r2 : Int) (r3 : Int) (r4 : Int) (w : World) (h : thresherlaw19_made.f k a0_0 a0_1 a0_2 a0_3 a0_4 a0_5 a0_6 a0_7 a0_8 a0_9 a0_10 a0_11=some (r1,r2,r3,r4)) :
  Calls Try.prog 9 #[.agg #[.int .u8 a0_0,.int .u8 a0_1,.int .u8 a0_2,.int .u8 a0_3,.int .u8 a0_4,.int .u8 a0_5,.int .u8 a0_6,.int .u8 a0_7,.int .u8 a0_8,.int .u8 a0_9,.int .u8 a0_10,.int .u8 a0_11]] w fun e w'=>∃ v0_ : Value,e=.returned (.agg #[v0_,.int .i64 r2,.int .i64 r3,.int .i64 r4])∧Kd.R (Kd.int .i64) 3 w' w.heap.size (fun _=>True) v0_ r1∧Below w.heap.size w w':=by
 have hu24:=Try.underlying24
 have hu32:=Try.underlying32
 have hu22:=Try.underlying22
 have HB:=Aside0.mk (Below.refl w.heap.size w)
 have H : ((thresherref04_Made.f k a0_0 a0_1 a0_2 a0_3 a0_4 a0_5 a0_6 a0_7 a0_8 a0_9 a0_10 a0_11).bind fun bt144=>(some (bt144.1,bt144.2.1,bt144.2.2.1,bt144.2.2.2)))=some (r1,r2,r3,r4):=h
 clear h
 replace H:=Option.bind_eq_some_iff.mp H
 obtain ⟨⟨t144,t147,t148,t149⟩,A20,H⟩:=H
 replace H : (some (t144,t147,t148,t149))=some (r1,r2,r3,r4):=H
 have A2:=Aside0.mk A20
 clear A20
 simp only [Option.some.injEq,Prod.mk.injEq] at H
 obtain ⟨rfl,rfl,rfl,rfl⟩:=H
 go_enter Try.func9,Try.ntmps9
 go_wp2_with (first|((with_reducible refine gate_dst (N:=1) rfl ?_);refine box_event ?hg (N:=1) ?hd (cs:=#[.int .u8 a0_0,.int .u8 a0_1,.int .u8 a0_2,.int .u8 a0_3,.int .u8 a0_4,.int .u8 a0_5,.int .u8 a0_6,.int .u8 a0_7,.int .u8 a0_8,.int .u8 a0_9,.int .u8 a0_10,.int .u8 a0_11]) (t:=24) ?hr ?_;(case hd=>rfl);(case hg=>rfl);(case hr=>first|(go_simp;done)|(go_simp;rfl));intro gb142 hg w3 hbox hb;have n0_:=Aside0.mk (below_step (below_up HB.out) hb);have n1_:=Aside0.mk (hbox);have n2_:=Aside0.mk ((by rw [hg];exact (below_size (below_up HB.out)) : w.heap.size≤gb142));have n3_:=Aside0.mk ((by rw [hg];exact (below_size (below_up HB.out)) : w.heap.size≤gb142));clear HB;have HB:=n0_;have BK142:=n1_;have GW142:=n2_;have GE142:=n3_;clear n0_ n1_ n2_ n3_;clear hb hbox hg)|((with_reducible refine gate_dst (N:=2) rfl ?_);refine box_event ?hg (N:=2) ?hd (cs:=#[.slice none 0 0,.int .i64 0,.int .i64 0,.int .i64 0]) (t:=32) ?hr ?_;(case hd=>rfl);(case hg=>rfl);(case hr=>first|(go_simp;done)|(go_simp;rfl));intro gb143 hg w4 hbox hb;have n0_:=Aside0.mk (blk_below (blk_up BK142.out) hb);have n1_:=Aside0.mk (below_step (below_go HB.out) hb);have n2_:=Aside0.mk (hbox);have n3_:=Aside0.mk ((by rw [hg];exact (below_size (below_go HB.out)) : w.heap.size≤gb143));have n4_:=Aside0.mk ((by rw [hg];exact (below_size (below_go HB.out)) : w.heap.size≤gb143));have n5_:=Aside0.mk ((by rw [hg];exact Nat.ne_of_lt (blk_lt (blk_up BK142.out)) : gb142≠gb143));have n6_:=Aside0.mk ((by rw [hg];exact Nat.ne_of_gt (blk_lt (blk_up BK142.out)) : gb143≠gb142));clear BK142;clear HB;have BK142:=n0_;have HB:=n1_;have BK143:=n2_;have GW143:=n3_;have GE143:=n4_;have NB142_143:=n5_;have NB143_142:=n6_;clear n0_ n1_ n2_ n3_ n4_ n5_ n6_;clear hb hbox hg;have hnb5:=NB142_143.out;have hnc5:=NB143_142.out;have hcz6_0 : w4.cell? ⟨gb142,0,none⟩=some (.int .u8 a0_0):=(blk_cell BK142.out 0).trans rfl;have hcz6_1 : w4.cell? ⟨gb142,1,none⟩=some (.int .u8 a0_1):=(blk_cell BK142.out 1).trans rfl;have hcz6_2 : w4.cell? ⟨gb142,2,none⟩=some (.int .u8 a0_2):=(blk_cell BK142.out 2).trans rfl;have hcz6_3 : w4.cell? ⟨gb142,3,none⟩=some (.int .u8 a0_3):=(blk_cell BK142.out 3).trans rfl;have hcz6_4 : w4.cell? ⟨gb142,4,none⟩=some (.int .u8 a0_4):=(blk_cell BK142.out 4).trans rfl;have hcz6_5 : w4.cell? ⟨gb142,5,none⟩=some (.int .u8 a0_5):=(blk_cell BK142.out 5).trans rfl;have hcz6_6 : w4.cell? ⟨gb142,6,none⟩=some (.int .u8 a0_6):=(blk_cell BK142.out 6).trans rfl;have hcz6_7 : w4.cell? ⟨gb142,7,none⟩=some (.int .u8 a0_7):=(blk_cell BK142.out 7).trans rfl;have hcz6_8 : w4.cell? ⟨gb142,8,none⟩=some (.int .u8 a0_8):=(blk_cell BK142.out 8).trans rfl;have hcz6_9 : w4.cell? ⟨gb142,9,none⟩=some (.int .u8 a0_9):=(blk_cell BK142.out 9).trans rfl;have hcz6_10 : w4.cell? ⟨gb142,10,none⟩=some (.int .u8 a0_10):=(blk_cell BK142.out 10).trans rfl;have hcz6_11 : w4.cell? ⟨gb142,11,none⟩=some (.int .u8 a0_11):=(blk_cell BK142.out 11).trans rfl;have hfz6_0:=blk_frozen BK142.out 0;have hfz6_1:=blk_frozen BK142.out 1;have hfz6_2:=blk_frozen BK142.out 2;have hfz6_3:=blk_frozen BK142.out 3;have hfz6_4:=blk_frozen BK142.out 4;have hfz6_5:=blk_frozen BK142.out 5;have hfz6_6:=blk_frozen BK142.out 6;have hfz6_7:=blk_frozen BK142.out 7;have hfz6_8:=blk_frozen BK142.out 8;have hfz6_9:=blk_frozen BK142.out 9;have hfz6_10:=blk_frozen BK142.out 10;have hfz6_11:=blk_frozen BK142.out 11)|((with_reducible refine gate_callee (f:=24) rfl ?_);refine goesL_ (some 13) rfl rfl Try.func24 (by kernel_rfl) rfl #[.agg #[.int .u8 a0_0,.int .u8 a0_1,.int .u8 a0_2,.int .u8 a0_3,.int .u8 a0_4,.int .u8 a0_5,.int .u8 a0_6,.int .u8 a0_7],.int .u8 a0_8,.int .u8 a0_9,.int .u8 a0_10,.int .u8 a0_11] rfl (by (try simp only [List.map_toArray,List.map_cons,List.map_nil]);first|done|rfl|(simp only [List.length_drop,List.length_take];rfl)) ?_;(with_reducible refine (thresherref04_Made.calls k a0_0 a0_1 a0_2 a0_3 a0_4 a0_5 a0_6 a0_7 a0_8 a0_9 a0_10 a0_11 t144 t147 t148 t149 _ A2.out).mono ?_);rintro e w7 ⟨v145,rfl,ho0,hb⟩;refine ⟨_,rfl,?_⟩;have n0_:=Aside0.mk (Kd.R_lower ho0 (below_size (below_go HB.out)));have n1_:=Aside0.mk (blk_below (blk_up BK142.out) hb);have n2_:=Aside0.mk (blk_below (blk_up BK143.out) hb);have n3_:=Aside0.mk (below_step (below_go HB.out) hb);clear BK142;clear BK143;clear HB;have HO146:=n0_;have BK142:=n1_;have BK143:=n2_;have HB:=n3_;clear n0_ n1_ n2_ n3_;(try clear hb);(try clear hb2);(try clear hk);(try clear hi);(try clear ho0);obtain ⟨Ao8,co8,eo8⟩:=Kd.R_slice HO146.out;subst eo8;have hcz9_0 : w7.cell? ⟨gb143,0,none⟩=some (.slice none 0 0):=(blk_cell BK143.out 0).trans rfl;have hcz9_1 : w7.cell? ⟨gb143,1,none⟩=some (.int .i64 0):=(blk_cell BK143.out 1).trans rfl;have hcz9_2 : w7.cell? ⟨gb143,2,none⟩=some (.int .i64 0):=(blk_cell BK143.out 2).trans rfl;have hcz9_3 : w7.cell? ⟨gb143,3,none⟩=some (.int .i64 0):=(blk_cell BK143.out 3).trans rfl;have hfz9_0:=blk_frozen BK143.out 0;have hfz9_1:=blk_frozen BK143.out 1;have hfz9_2:=blk_frozen BK143.out 2;have hfz9_3:=blk_frozen BK143.out 3))
 refine bodyPost_ret (results_cell_row rfl _ _ gb143 32 #[.slice Ao8 t144.length co8,.int .i64 t147,.int .i64 t148,.int .i64 t149] (0,0) _ rfl (by (with_reducible repeat (first|refine blk_drewN ?_ _|refine blk_drew ?_|refine blk_alloc ?_ _));refine blk_put (cs:=#[.slice Ao8 t144.length co8,.int .i64 t147,.int .i64 t148,.int .i64 0]) ?_ 3 _ rfl;(with_reducible repeat (first|refine blk_drewN ?_ _|refine blk_drew ?_|refine blk_alloc ?_ _));refine blk_put (cs:=#[.slice Ao8 t144.length co8,.int .i64 t147,.int .i64 0,.int .i64 0]) ?_ 2 _ rfl;(with_reducible repeat (first|refine blk_drewN ?_ _|refine blk_drew ?_|refine blk_alloc ?_ _));refine blk_put (cs:=#[.slice Ao8 t144.length co8,.int .i64 0,.int .i64 0,.int .i64 0]) ?_ 1 _ rfl;(with_reducible repeat (first|refine blk_drewN ?_ _|refine blk_drew ?_|refine blk_alloc ?_ _));refine blk_put (cs:=#[.slice none 0 0,.int .i64 0,.int .i64 0,.int .i64 0]) ?_ 0 _ rfl;(with_reducible repeat (first|refine blk_drewN ?_ _|refine blk_drew ?_|refine blk_alloc ?_ _));exact BK143.out) Try.underlying32 rfl (by kernel_rfl)) rfl ?_
 exact ⟨_,by first|rfl|(simp [errW_none,errW_some] <;> rfl)|(simp [*,errW_none,errW_some] <;> rfl),by (with_reducible repeat (first|apply Kd.R_alloc|apply Kd.R_drewN|apply Kd.R_drew));exact Kd.R_mono (Kd.R_far (p:=⟨gb143,3,none⟩) (Kd.R_far (p:=⟨gb143,2,none⟩) (Kd.R_far (p:=⟨gb143,1,none⟩) (Kd.R_far (p:=⟨gb143,0,none⟩) (Kd.R_types HO146.out BK143.out (by decide)) (fun _ hk=>hk.2) (.slice Ao8 t144.length co8)) (fun _ hk=>hk.2) (.int .i64 t147)) (fun _ hk=>hk.2) (.int .i64 t148)) (fun _ hk=>hk.2) (.int .i64 t149)) (fun _ hk=>trivial),by repeat (first|(with_reducible first|exact HB.out|apply below_alloc|apply pw_below_drewN|apply below_drew1|refine below_set ?_ GE142.out|refine below_set ?_ GE143.out)|exact HB.out)⟩
end Go.Proofs.Ytbkpifcjgedjaaa.P

