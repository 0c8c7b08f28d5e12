/- Texts of MergeFirst. Merged: Px5. -/
import Derived.Test.YtfiandejapgkoaaQMergeFirstPx0
namespace Go.Proofs.Ytfiandejapgkoaa.P
open Go.RowKit Go.Proofs.YtfiandejapgkoaaW.PrintWords Go.Proofs.YtfiandejapgkoaaW.PrintLast Go.Proofs.YtfiandejapgkoaaW.PrintMore
attribute [local go_sem] max2_int min2_int max_two min_two max_three min_three max_four min_four   -- for this text's walks alone
set_option linter.unusedVariables false
set_option linter.unusedSimpArgs false
def thresherref04_Made.l0 : Nat→Int→Int→Int→Int→Int→Int→Int→Int→Int→Int→List Int→Int→Int→Int→Option (List Int × Int × Int × Int)
 | 0,_,_,_,_,_,_,_,_,_,_,_,_,_,_=>none
 | k + 1,x11,x13,x184000,x184001,x184002,x184003,x184004,x184005,x184006,x184007,x186000,x186001,x186002,x186003=>if x13 < x11 then (if 0≤x13 then (if x13 < 8 then (if x186000.length < 17592186044416 then (thresherref04_Made.l0 k x11 (wrap64 (x13 + 1)) x184000 x184001 x184002 x184003 x184004 x184005 x184006 x184007 (x186000 ++ [wrap64 (1 + (Int.tmod (wrap64 (rd [x184000,x184001,x184002,x184003,x184004,x184005,x184006,x184007] x13)) 3))]) x186001 x186002 x186003) else (none)) else (none)) else (none)) else (some (x186000,x186001,x186002,x186003))
def thresherref04_Made.f (k : Nat) (a0_0 : Int) (a0_1 : Int) (a0_2 : Int) (a0_3 : Int) (a0_4 : Int) (a0_5 : Int) (a0_6 : Int) (a0_7 : Int) (a1 : Int) (a2 : Int) (a3 : Int) (a4 : Int) : Option (List Int × Int × Int × Int):=if (wrap64 (1 + (Int.tmod (wrap64 (a1)) 8)))=0 then (none) else (thresherref04_Made.l0 k (wrap64 (1 + (Int.tmod (wrap64 (a1)) 8))) 0 a0_0 a0_1 a0_2 a0_3 a0_4 a0_5 a0_6 a0_7 ([] : List Int) (wrap64 (1 + (Int.tmod (wrap64 (a2)) (wrap64 (1 + (Int.tmod (wrap64 (a1)) 8)))))) (wrap64 (1 + (Int.tmod (wrap64 (a3)) 3))) (wrap64 (1 + (Int.tmod (wrap64 (a4)) 8))))
theorem thresherref04_Made.mono_l : ∀ k,(∀ y0 y1 y2 y3 y4 y5 y6 y7 y8 y9 y10 y11 y12 y13,LeO (thresherref04_Made.l0 k y0 y1 y2 y3 y4 y5 y6 y7 y8 y9 y10 y11 y12 y13) (thresherref04_Made.l0 (k + 1) y0 y1 y2 y3 y4 y5 y6 y7 y8 y9 y10 y11 y12 y13))
 | 0=>fun _ _ _ _ _ _ _ _ _ _ _ _ _ _ r h=>by simp [thresherref04_Made.l0] at h
 | k + 1=>by
  have ih0:=thresherref04_Made.mono_l k
  ·intro y0 y1 y2 y3 y4 y5 y6 y7 y8 y9 y10 y11 y12 y13
   unfold thresherref04_Made.l0
   repeat' first
   | (with_reducible exact ih0 _ _ _ _ _ _ _ _ _ _ _ _ _ _)
   | (with_reducible exact LeO.refl _)
   | (with_reducible exact LeO.none _)
   | (with_reducible refine LeO.ite ?_ ?_)
   | (with_reducible refine LeO.bind ?_ (fun _=>?_))
   | exact ih0 _ _ _ _ _ _ _ _ _ _ _ _ _ _
   | exact LeO.none _
   | refine LeO.ite ?_ ?_
   | refine LeO.bind ?_ (fun _=>?_)
theorem thresherref04_Made.mono : ∀ a0 a1 a2 a3 a4 a5 a6 a7 a8 a9 a10 a11 k,LeO (thresherref04_Made.f k a0 a1 a2 a3 a4 a5 a6 a7 a8 a9 a10 a11) (thresherref04_Made.f (k + 1) a0 a1 a2 a3 a4 a5 a6 a7 a8 a9 a10 a11):=by
 intro a0 a1 a2 a3 a4 a5 a6 a7 a8 a9 a10 a11 k
 have ih0:=thresherref04_Made.mono_l k
 unfold thresherref04_Made.f
 repeat' first
   | (with_reducible exact ih0 _ _ _ _ _ _ _ _ _ _ _ _ _ _)
   | (with_reducible exact LeO.refl _)
   | (with_reducible exact LeO.none _)
   | (with_reducible refine LeO.ite ?_ ?_)
   | (with_reducible refine LeO.bind ?_ (fun _=>?_))
   | exact ih0 _ _ _ _ _ _ _ _ _ _ _ _ _ _
   | exact LeO.none _
   | refine LeO.ite ?_ ?_
   | refine LeO.bind ?_ (fun _=>?_)
def thresherref04_Made.T6 : Bool × List (List Nat × List Nat):=(true,[([],[]),([0],[0]),([],[]),([2],[2]),([3],[3]),([4],[4]),([5],[5]),([6],[6]),([7],[7]),([1,8],[1,8]),([0,1,2,3,4,5,6,7,8,9],[]),([10,9,9,0,1,2,3,4,5,6,7,8,9],[9,10])])
def thresherref04_Made.B6 : List Nat:=[0,1,0,4,12,28,60,124,252,511,1023,2047]
theorem thresherref04_Made.tab6 : rtab .any (opsOf Try.f23 6)=thresherref04_Made.T6:=by kernel_rfl
theorem thresherref04_Made.bits6 : waitsOk thresherref04_Made.T6.2 thresherref04_Made.B6=true:=by kernel_rfl
set_option maxHeartbeats 8000000 in
set_option maxRecDepth 100000 in
theorem thresherref04_Made.calls (k : Nat) (a0_0 : Int) (a0_1 : Int) (a0_2 : Int) (a0_3 : Int) (a0_4 : Int) (a0_5 : Int) (a0_6 : Int) (a0_7 : Int) (a1 : Int) (a2 : Int) (a3 : Int) (a4 : Int) (r1 : List Int) (r2 : Int) (r3 : Int) (r4 : Int) (w : World) (h : thresherref04_Made.f k a0_0 a0_1 a0_2 a0_3 a0_4 a0_5 a0_6 a0_7 a1 a2 a3 a4=some (r1,r2,r3,r4)) :
  Calls Try.prog 23 #[.agg #[.int .u8 a0_0,.int .u8 a0_1,.int .u8 a0_2,.int .u8 a0_3,.int .u8 a0_4,.int .u8 a0_5,.int .u8 a0_6,.int .u8 a0_7],.int .u8 a1,.int .u8 a2,.int .u8 a3,.int .u8 a4] w fun e w'=>∃ v0_ : Value,e=.returned (.agg #[v0_,.int .i64 r2,.int .i64 r3,.int .i64 r4])∧Kd.R (Kd.int .i64) 3 w' w.heap.size (fun _=>True) v0_ r1∧Below w.heap.size w w':=by
 have hu36:=Try.underlying36
 have hu26:=Try.underlying26
 have HB:=Aside0.mk (Below.refl w.heap.size w)
 have H : (if (wrap64 (1 + (Int.tmod (wrap64 (a1)) 8)))=0 then (none) else (thresherref04_Made.l0 k (wrap64 (1 + (Int.tmod (wrap64 (a1)) 8))) 0 a0_0 a0_1 a0_2 a0_3 a0_4 a0_5 a0_6 a0_7 ([] : List Int) (wrap64 (1 + (Int.tmod (wrap64 (a2)) (wrap64 (1 + (Int.tmod (wrap64 (a1)) 8)))))) (wrap64 (1 + (Int.tmod (wrap64 (a3)) 3))) (wrap64 (1 + (Int.tmod (wrap64 (a4)) 8)))))=some (r1,r2,r3,r4):=h
 clear h
 by_cases c6 : (wrap64 (1 + (Int.tmod (wrap64 (a1)) 8)))=0
 ·rw [if_pos c6] at H
  exact absurd H (by simp)
 ·rw [if_neg c6] at H
  have c6b0 : ((wrap64 (1 + (Int.tmod (wrap64 (a1)) 8))) == 0)=false:=beq_eq_false_iff_ne.mpr c6
  have c6b1 : ((wrap64 (1 + (Int.tmod (wrap64 (a1)) 8))) != 0)=true:=bne_iff_ne.mpr c6
  have H':=Aside0.mk H
  clear H
  go_enter Try.func23,Try.ntmps23
  go_wp2_with (first|((with_reducible refine gate_dst (N:=5) rfl ?_);refine box_event ?hg (N:=5) ?hd (cs:=#[.int .u8 a0_0,.int .u8 a0_1,.int .u8 a0_2,.int .u8 a0_3,.int .u8 a0_4,.int .u8 a0_5,.int .u8 a0_6,.int .u8 a0_7]) (t:=36) ?hr ?_;(case hd=>rfl);(case hg=>rfl);(case hr=>first|(go_simp;done)|(go_simp;rfl));intro gb183 hg w7 hbox hb;have n0_:=Aside0.mk (below_step (below_up HB.out) hb);have n1_:=Aside0.mk (hbox);have n2_:=Aside0.mk ((by rw [hg];exact (below_size (below_up HB.out)) : w.heap.size≤gb183));have n3_:=Aside0.mk ((by rw [hg];exact (below_size (below_up HB.out)) : w.heap.size≤gb183));clear HB;have HB:=n0_;have BK183:=n1_;have GW183:=n2_;have GE183:=n3_;clear n0_ n1_ n2_ n3_;clear hb hbox hg)|((with_reducible refine gate_dst (N:=10) rfl ?_);refine box_event ?hg (N:=10) ?hd (cs:=#[.slice none 0 0,.int .i64 0,.int .i64 0,.int .i64 0]) (t:=26) ?hr ?_;(case hd=>rfl);(case hg=>rfl);(case hr=>first|(go_simp;done)|(go_simp;rfl));intro gb184 hg w8 hbox hb;have n0_:=Aside0.mk (blk_below (blk_up BK183.out) hb);have n1_:=Aside0.mk (below_step (below_go HB.out) hb);have n2_:=Aside0.mk (hbox);have n3_:=Aside0.mk ((by rw [hg];exact (below_size (below_go HB.out)) : w.heap.size≤gb184));have n4_:=Aside0.mk ((by rw [hg];exact (below_size (below_go HB.out)) : w.heap.size≤gb184));have n5_:=Aside0.mk ((by rw [hg];exact Nat.ne_of_lt (blk_lt (blk_up BK183.out)) : gb183≠gb184));have n6_:=Aside0.mk ((by rw [hg];exact Nat.ne_of_gt (blk_lt (blk_up BK183.out)) : gb184≠gb183));clear BK183;clear HB;have BK183:=n0_;have HB:=n1_;have BK184:=n2_;have GW184:=n3_;have GE184:=n4_;have NB183_184:=n5_;have NB184_183:=n6_;clear n0_ n1_ n2_ n3_ n4_ n5_ n6_;clear hb hbox hg)|((with_reducible refine gate_dst (N:=12) rfl ?_);refine box_event ?hg (N:=12) ?hd (cs:=#[.slice none 0 0,.int .i64 0,.int .i64 0,.int .i64 0]) (t:=26) ?hr ?_;(case hd=>rfl);(case hg=>rfl);(case hr=>first|(go_simp;done)|(go_simp;rfl));intro gb185 hg w9 hbox hb;have n0_:=Aside0.mk (blk_below (blk_up BK183.out) hb);have n1_:=Aside0.mk (blk_below (blk_up BK184.out) hb);have n2_:=Aside0.mk (below_step (below_go HB.out) hb);have n3_:=Aside0.mk (hbox);have n4_:=Aside0.mk ((by rw [hg];exact (below_size (below_go HB.out)) : w.heap.size≤gb185));have n5_:=Aside0.mk ((by rw [hg];exact (below_size (below_go HB.out)) : w.heap.size≤gb185));have n6_:=Aside0.mk ((by rw [hg];exact Nat.ne_of_lt (blk_lt (blk_up BK183.out)) : gb183≠gb185));have n7_:=Aside0.mk ((by rw [hg];exact Nat.ne_of_gt (blk_lt (blk_up BK183.out)) : gb185≠gb183));have n8_:=Aside0.mk ((by rw [hg];exact Nat.ne_of_lt (blk_lt (blk_up BK184.out)) : gb184≠gb185));have n9_:=Aside0.mk ((by rw [hg];exact Nat.ne_of_gt (blk_lt (blk_up BK184.out)) : gb185≠gb184));clear BK183;clear BK184;clear HB;have BK183:=n0_;have BK184:=n1_;have HB:=n2_;have BK185:=n3_;have GW185:=n4_;have GE185:=n5_;have NB183_185:=n6_;have NB185_183:=n7_;have NB184_185:=n8_;have NB185_184:=n9_;clear n0_ n1_ n2_ n3_ n4_ n5_ n6_ n7_ n8_ n9_;clear hb hbox hg;have hnb10:=NB185_183.out;have hnc10:=NB183_185.out;have hnb11:=NB185_184.out;have hnc11:=NB184_185.out;have hcz12_0 : w9.cell? ⟨gb185,0,none⟩=some (.slice none 0 0):=(blk_cell BK185.out 0).trans rfl;have hcz12_1 : w9.cell? ⟨gb185,1,none⟩=some (.int .i64 0):=(blk_cell BK185.out 1).trans rfl;have hcz12_2 : w9.cell? ⟨gb185,2,none⟩=some (.int .i64 0):=(blk_cell BK185.out 2).trans rfl;have hcz12_3 : w9.cell? ⟨gb185,3,none⟩=some (.int .i64 0):=(blk_cell BK185.out 3).trans rfl;have hfz12_0:=blk_frozen BK185.out 0;have hfz12_1:=blk_frozen BK185.out 1;have hfz12_2:=blk_frozen BK185.out 2;have hfz12_3:=blk_frozen BK185.out 3))
  go_loopg [13] k (fun kq v13 w'=>∃ (x13_1 : Int) (x186000_1 : List Int) (u186000 : Value),v13=.int .i64 x13_1∧Aside0 (thresherref04_Made.l0 kq (wrap64 (1 + (Int.tmod (wrap64 (a1)) 8))) x13_1 a0_0 a0_1 a0_2 a0_3 a0_4 a0_5 a0_6 a0_7 x186000_1 (wrap64 (1 + (Int.tmod (wrap64 (a2)) (wrap64 (1 + (Int.tmod (wrap64 (a1)) 8)))))) (wrap64 (1 + (Int.tmod (wrap64 (a3)) 3))) (wrap64 (1 + (Int.tmod (wrap64 (a4)) 8)))=some (r1,r2,r3,r4))∧Aside0 (kq≤k)∧Aside0 (Kd.R (Kd.int .i64) 3 w' w.heap.size (fun _=>True) u186000 x186000_1)∧Aside0 (w'.heap[gb183]?=some (.cells #[.int .u8 a0_0,.int .u8 a0_1,.int .u8 a0_2,.int .u8 a0_3,.int .u8 a0_4,.int .u8 a0_5,.int .u8 a0_6,.int .u8 a0_7] 36 (0,0)))∧Aside0 (w'.heap[gb184]?=some (.cells #[(.slice none 0 0),.int .i64 0,.int .i64 0,.int .i64 0] 26 (0,0)))∧Aside0 (w'.heap[gb185]?=some (.cells #[u186000,.int .i64 (wrap64 (1 + (Int.tmod (wrap64 (a2)) (wrap64 (1 + (Int.tmod (wrap64 (a1)) 8)))))),.int .i64 (wrap64 (1 + (Int.tmod (wrap64 (a3)) 3))),.int .i64 (wrap64 (1 + (Int.tmod (wrap64 (a4)) 8)))] 26 (0,0)))∧Aside0 (Below w.heap.size w w'))
  case atStart=>exact ⟨(0),(([] : List Int)),(.slice none 0 0),(by first|rfl|(simp;done)|(simp [*];done)),H',⟨Nat.le_refl _⟩,⟨by first|exact Kd.R_nil _ _ _ _ _|exact Kd.N_nil _ _ _ _ _|exact Kd.V_nil _ _ _ _ _|exact Kd.Q_nil _ _ _ _ _|exact Kd.S_nil _ _ _ _ _⟩,⟨by (with_reducible repeat (first|refine blk_drewN ?_ _|refine blk_drew ?_|refine blk_alloc ?_ _));refine blk_far ?_ NB183_185.out _;(with_reducible repeat (first|refine blk_drewN ?_ _|refine blk_drew ?_|refine blk_alloc ?_ _));refine blk_far ?_ NB183_185.out _;(with_reducible repeat (first|refine blk_drewN ?_ _|refine blk_drew ?_|refine blk_alloc ?_ _));refine blk_far ?_ NB183_185.out _;(with_reducible repeat (first|refine blk_drewN ?_ _|refine blk_drew ?_|refine blk_alloc ?_ _));refine blk_far ?_ NB183_185.out _;(with_reducible repeat (first|refine blk_drewN ?_ _|refine blk_drew ?_|refine blk_alloc ?_ _));exact BK183.out⟩,⟨by (with_reducible repeat (first|refine blk_drewN ?_ _|refine blk_drew ?_|refine blk_alloc ?_ _));refine blk_far ?_ NB184_185.out _;(with_reducible repeat (first|refine blk_drewN ?_ _|refine blk_drew ?_|refine blk_alloc ?_ _));refine blk_far ?_ NB184_185.out _;(with_reducible repeat (first|refine blk_drewN ?_ _|refine blk_drew ?_|refine blk_alloc ?_ _));refine blk_far ?_ NB184_185.out _;(with_reducible repeat (first|refine blk_drewN ?_ _|refine blk_drew ?_|refine blk_alloc ?_ _));refine blk_far ?_ NB184_185.out _;(with_reducible repeat (first|refine blk_drewN ?_ _|refine blk_drew ?_|refine blk_alloc ?_ _));exact BK184.out⟩,⟨by (with_reducible repeat (first|refine blk_drewN ?_ _|refine blk_drew ?_|refine blk_alloc ?_ _));refine blk_put (cs:=#[.slice none 0 0,.int .i64 (wrap64 (1 + (Int.tmod (wrap64 (a2)) (wrap64 (1 + (Int.tmod (wrap64 (a1)) 8)))))),.int .i64 (wrap64 (1 + (Int.tmod (wrap64 (a3)) 3))),.int .i64 0]) ?_ 3 _ rfl;(with_reducible repeat (first|refine blk_drewN ?_ _|refine blk_drew ?_|refine blk_alloc ?_ _));refine blk_put (cs:=#[.slice none 0 0,.int .i64 (wrap64 (1 + (Int.tmod (wrap64 (a2)) (wrap64 (1 + (Int.tmod (wrap64 (a1)) 8)))))),.int .i64 0,.int .i64 0]) ?_ 2 _ rfl;(with_reducible repeat (first|refine blk_drewN ?_ _|refine blk_drew ?_|refine blk_alloc ?_ _));refine blk_put (cs:=#[.slice none 0 0,.int .i64 0,.int .i64 0,.int .i64 0]) ?_ 1 _ rfl;(with_reducible repeat (first|refine blk_drewN ?_ _|refine blk_drew ?_|refine blk_alloc ?_ _));refine blk_put (cs:=#[.slice none 0 0,.int .i64 0,.int .i64 0,.int .i64 0]) ?_ 0 _ rfl;(with_reducible repeat (first|refine blk_drewN ?_ _|refine blk_drew ?_|refine blk_alloc ?_ _));exact BK185.out⟩,⟨by repeat (first|(with_reducible first|exact HB.out|apply below_alloc|apply pw_below_drewN|apply below_drew1|refine below_set ?_ GE183.out|refine below_set ?_ GE184.out|refine below_set ?_ GE185.out)|exact HB.out)⟩⟩
  case round =>
   clear H'
   try clear c1
   try clear c2
   try clear p2
   try clear c6
   try clear c6b0
   try clear c6b1
   try clear p6
   try clear c10
   try clear c11
   try clear hcz12_0
   try clear hcz12_1
   try clear hcz12_2
   try clear hcz12_3
   try clear hfz12_0
   try clear hfz12_1
   try clear hfz12_2
   try clear hfz12_3
   obtain ⟨x13_1,x186000_1,u186000,rfl,HA,HK1,HO_186000,BK183,BK184,BK185,HB⟩:=hrel
   cases gk with
   | zero=>exact absurd HA.out (by simp [thresherref04_Made.l0])
   | succ k1 =>
    have H:=HA.out
    clear HA
    simp only [thresherref04_Made.l0] at H
    by_cases c13 : x13_1 < (wrap64 (1 + (Int.tmod (wrap64 (a1)) 8)))
    ·rw [if_pos c13] at H
     have c13b0 : decide (x13_1 < (wrap64 (1 + (Int.tmod (wrap64 (a1)) 8))))=true:=decide_eq_true c13
     clear c13
     by_cases c14 : 0≤x13_1
     ·rw [if_pos c14] at H
      have c14b0 : decide (0≤x13_1)=true:=decide_eq_true c14
      clear c14
      by_cases c15 : x13_1 < 8
      ·rw [if_pos c15] at H
       have c15b0 : decide (x13_1 < 8)=true:=decide_eq_true c15
       clear c15
       have c16b0:=eq_true (of_decide_eq_true (by first|(with_reducible assumption)|assumption) : 0≤x13_1)
       have c17b0:=eq_true (of_decide_eq_true (by first|(with_reducible assumption)|assumption) : x13_1 < 8)
       by_cases c18 : x186000_1.length < 17592186044416
       ·rw [if_pos c18] at H
        have LMc18:=Aside0.mk c18
        clear c18
        obtain ⟨y186,hy186⟩ : ∃ y_ : List Int,y_=(x186000_1 ++ [wrap64 (1 + (Int.tmod (wrap64 (rd [a0_0,a0_1,a0_2,a0_3,a0_4,a0_5,a0_6,a0_7] x13_1)) 3))]):=⟨_,rfl⟩
        replace H : (thresherref04_Made.l0 k1 (wrap64 (1 + (Int.tmod (wrap64 (a1)) 8))) (wrap64 (x13_1 + 1)) a0_0 a0_1 a0_2 a0_3 a0_4 a0_5 a0_6 a0_7 y186 (wrap64 (1 + (Int.tmod (wrap64 (a2)) (wrap64 (1 + (Int.tmod (wrap64 (a1)) 8)))))) (wrap64 (1 + (Int.tmod (wrap64 (a3)) 3))) (wrap64 (1 + (Int.tmod (wrap64 (a4)) 8))))=some (r1,r2,r3,r4):=by first|(rw [hy186];with_reducible exact H)|(have H2_:=(Option.bind_some _ _).symm.trans H;rw [hy186];with_reducible exact H2_)|(have H2_:=(Option.bind_some _ _).symm.trans H;with_reducible exact H2_)|with_reducible exact H|(rw [hy186];exact H)|exact H
        have Ny186:=Aside0.mk hy186
        clear hy186
        have H':=Aside0.mk H
        clear H
        try go_wp2
        have n0_:=Aside0.mk (Kd.R_drew HO_186000.out)
        have n1_:=Aside0.mk (blk_drew BK183.out)
        have n2_:=Aside0.mk (blk_drew BK184.out)
        have n3_:=Aside0.mk (blk_drew BK185.out)
        have n4_:=Aside0.mk (below_drew1 HB.out)
        clear HO_186000
        clear BK183
        clear BK184
        clear BK185
        clear HB
        have HO_186000:=n0_
        have BK183:=n1_
        have BK184:=n2_
        have BK185:=n3_
        have HB:=n4_
        clear n0_ n1_ n2_ n3_ n4_
        refine start_ (n:=12) (S:=fun w'=>w'.cell? ⟨gb185,0,none⟩=some (u186000)∧w'.cell? ⟨gb185,1,none⟩=some (.int .i64 (wrap64 (1 + (Int.tmod (wrap64 (a2)) (wrap64 (1 + (Int.tmod (wrap64 (a1)) 8)))))))∧w'.cell? ⟨gb185,2,none⟩=some (.int .i64 (wrap64 (1 + (Int.tmod (wrap64 (a3)) 3))))∧w'.cell? ⟨gb185,3,none⟩=some (.int .i64 (wrap64 (1 + (Int.tmod (wrap64 (a4)) 8))))∧w'.cell? ⟨gb183,0,none⟩=some (.int .u8 a0_0)∧w'.cell? ⟨gb183,1,none⟩=some (.int .u8 a0_1)∧w'.cell? ⟨gb183,2,none⟩=some (.int .u8 a0_2)∧w'.cell? ⟨gb183,3,none⟩=some (.int .u8 a0_3)∧w'.cell? ⟨gb183,4,none⟩=some (.int .u8 a0_4)∧w'.cell? ⟨gb183,5,none⟩=some (.int .u8 a0_5)∧w'.cell? ⟨gb183,6,none⟩=some (.int .u8 a0_6)∧w'.cell? ⟨gb183,7,none⟩=some (.int .u8 a0_7)∧w'.cell? ⟨gb183,x13_1.toNat,none⟩=some (.int .u8 (rd [a0_0,a0_1,a0_2,a0_3,a0_4,a0_5,a0_6,a0_7] x13_1))) (ds:=[11]) #[false,false,false,false,false,false,false,false,false,false,false,false] (by kernel_rfl) rfl rfl ⟨(blk_cell BK185.out 0).trans rfl,(blk_cell BK185.out 1).trans rfl,(blk_cell BK185.out 2).trans rfl,(blk_cell BK185.out 3).trans rfl,(blk_cell BK183.out 0).trans rfl,(blk_cell BK183.out 1).trans rfl,(blk_cell BK183.out 2).trans rfl,(blk_cell BK183.out 3).trans rfl,(blk_cell BK183.out 4).trans rfl,(blk_cell BK183.out 5).trans rfl,(blk_cell BK183.out 6).trans rfl,(blk_cell BK183.out 7).trans rfl,(blk_cell BK183.out x13_1.toNat).trans (cells_rd .u8 [a0_0,a0_1,a0_2,a0_3,a0_4,a0_5,a0_6,a0_7] x13_1 (of_decide_eq_true (by first|(with_reducible assumption)|assumption)) (of_decide_eq_true (by first|(with_reducible assumption)|assumption)))⟩ (fun hHeld=>?_);refine with_tabW thresherref04_Made.tab6 thresherref04_Made.bits6 (fun HT_ HW_=>?_)
        generalize wr.drew=w19 at HO_186000 BK183 BK184 BK185 HB hHeld ⊢
        refine pure_ (i:=0) (N:=some 37) (v:=?_) (a':=?_) #[true,false,false,false,false,false,false,false,false,false,false,false] rfl rfl (any_of HT_.out (by kernel_rfl)) (fun _ _ _ h=>h) (Or.inl ⟨by rfl,?_⟩) ?_ ?_
        rotate_left;(intro w';go_simp;with_reducible rfl);rotate_left;(simp only [Act.put,List.setIfInBounds_toArray,List.set_cons_zero,List.set_cons_succ,i64_w,i32_w];rfl)
        refine pure_ (i:=2) (N:=some 39) (v:=?_) (a':=?_) #[true,false,true,false,false,false,false,false,false,false,false,false] rfl rfl (any_of HT_.out (by kernel_rfl)) (fun _ _ _ h=>h) (Or.inl ⟨by rfl,?_⟩) ?_ ?_
        rotate_left;(intro w';go_simp;with_reducible rfl);rotate_left;(simp only [Act.put,List.setIfInBounds_toArray,List.set_cons_zero,List.set_cons_succ,i64_w,i32_w];rfl)
        refine pure_ (i:=3) (N:=some 40) (v:=?_) (a':=?_) #[true,false,true,true,false,false,false,false,false,false,false,false] rfl rfl (any_of HT_.out (by kernel_rfl)) (fun _ _ _ h=>h) (Or.inl ⟨by rfl,?_⟩) ?_ ?_
        rotate_left;(intro w';go_simp;with_reducible rfl);rotate_left;(simp only [Act.put,List.setIfInBounds_toArray,List.set_cons_zero,List.set_cons_succ,i64_w,i32_w];rfl)
        refine take_ (i:=1) (N:=some 38) (v:=?_) (a':=?_) #[true,true,true,true,false,false,false,false,false,false,false,false] rfl rfl (take_ofW HT_.out HW_.out (by kernel_rfl)) (fun _ _ _ h=>h) (Or.inl ⟨by rfl,?_⟩) hHeld ?_ ?_
        rotate_left;(rintro w' ⟨s0,s1,s2,s3,s4,s5,s6,s7,s8,s9,s10,s11,s12⟩;go_simp;with_reducible rfl);rotate_left;(simp only [Act.put,List.setIfInBounds_toArray,List.set_cons_zero,List.set_cons_succ,i64_w,i32_w];rfl)
        refine take_ (i:=4) (N:=some 41) (v:=?_) (a':=?_) #[true,true,true,true,true,false,false,false,false,false,false,false] rfl rfl (take_ofW HT_.out HW_.out (by kernel_rfl)) (fun _ _ _ h=>h) (Or.inl ⟨by rfl,?_⟩) hHeld ?_ ?_
        rotate_left;(rintro w' ⟨s0,s1,s2,s3,s4,s5,s6,s7,s8,s9,s10,s11,s12⟩;go_simp;with_reducible rfl);rotate_left;(simp only [Act.put,List.setIfInBounds_toArray,List.set_cons_zero,List.set_cons_succ,i64_w,i32_w];rfl)
        refine pure_ (i:=5) (N:=some 42) (v:=?_) (a':=?_) #[true,true,true,true,true,true,false,false,false,false,false,false] rfl rfl (any_of HT_.out (by kernel_rfl)) (fun _ _ _ h=>h) (Or.inl ⟨by rfl,?_⟩) ?_ ?_
        rotate_left;(intro w';go_simp;with_reducible rfl);rotate_left;(simp only [Act.put,List.setIfInBounds_toArray,List.set_cons_zero,List.set_cons_succ,i64_w,i32_w];rfl)
        refine pure_ (i:=6) (N:=some 43) (v:=?_) (a':=?_) #[true,true,true,true,true,true,true,false,false,false,false,false] rfl rfl (any_of HT_.out (by kernel_rfl)) (fun _ _ _ h=>h) (Or.inl ⟨by rfl,?_⟩) ?_ ?_
        rotate_left;(intro w';go_simp;with_reducible rfl);rotate_left;(simp only [Act.put,List.setIfInBounds_toArray,List.set_cons_zero,List.set_cons_succ,i64_w,i32_w];rfl)
        refine pure_ (i:=7) (N:=some 44) (v:=?_) (a':=?_) #[true,true,true,true,true,true,true,true,false,false,false,false] rfl rfl (any_of HT_.out (by kernel_rfl)) (fun _ _ _ h=>h) (Or.inl ⟨by rfl,?_⟩) ?_ ?_
        rotate_left;(intro w';go_simp;with_reducible rfl);rotate_left;(simp only [Act.put,List.setIfInBounds_toArray,List.set_cons_zero,List.set_cons_succ,i64_w,i32_w];rfl)
        refine one_ (i:=8) (N:=some 45) #[true,true,true,true,true,true,true,true,true,false,false,false] rfl rfl (one_of HT_.out (by kernel_rfl)) (by decide) (fun K hK=>?_)
        refine value_ (w1:=?_) (v:=?_) (by rfl) rfl ?_ ?_
        rotate_left 2
        ·go_simp
         constructor
         ·rfl
         ·rfl
        refine hK.out _ _ ⟨(blk_cell (blk_alloc BK185.out _) 0).trans rfl,(blk_cell (blk_alloc BK185.out _) 1).trans rfl,(blk_cell (blk_alloc BK185.out _) 2).trans rfl,(blk_cell (blk_alloc BK185.out _) 3).trans rfl,(blk_cell (blk_alloc BK183.out _) 0).trans rfl,(blk_cell (blk_alloc BK183.out _) 1).trans rfl,(blk_cell (blk_alloc BK183.out _) 2).trans rfl,(blk_cell (blk_alloc BK183.out _) 3).trans rfl,(blk_cell (blk_alloc BK183.out _) 4).trans rfl,(blk_cell (blk_alloc BK183.out _) 5).trans rfl,(blk_cell (blk_alloc BK183.out _) 6).trans rfl,(blk_cell (blk_alloc BK183.out _) 7).trans rfl,(blk_cell (blk_alloc BK183.out _) x13_1.toNat).trans (cells_rd .u8 [a0_0,a0_1,a0_2,a0_3,a0_4,a0_5,a0_6,a0_7] x13_1 (of_decide_eq_true (by first|(with_reducible assumption)|assumption)) (of_decide_eq_true (by first|(with_reducible assumption)|assumption)))⟩ (fun hHeld=>?_)
        clear hK K
        refine norm_ (a':=?_) ?_ ?_
        rotate_left
        ·show Act.put _ (some 45) _=_
         simp only [Act.put,List.setIfInBounds_toArray,List.set_cons_zero,List.set_cons_succ,i64_w,i32_w]
         rfl
        refine one_ (i:=9) (N:=some 46) #[true,true,true,true,true,true,true,true,true,true,false,false] rfl rfl (one_of HT_.out (by kernel_rfl)) (by decide) (fun K hK=>?_)
        refine Kd.R_append_step (Kd.int .i64) (w0:=w) w.heap.size (by rfl) (.tmp 38) (.tmp 45) 24 3 (.int .i64 0) 8 rfl Try.underlying24 info3 rfl (by decide) (by omega) u186000 x186000_1 (wrap64 (1 + (Int.tmod (wrap64 (rd [a0_0,a0_1,a0_2,a0_3,a0_4,a0_5,a0_6,a0_7] x13_1)) 3))) [.int .i64 (wrap64 (1 + (Int.tmod (wrap64 (rd [a0_0,a0_1,a0_2,a0_3,a0_4,a0_5,a0_6,a0_7] x13_1)) 3)))] (fun _=>True) (fun _=>False) rfl rfl ?aP (fun _ hk=>hk.elim) ?aF ?aO ?aB ?aS ?aL ?_
        (case aP=>exact rfl)
        (case aB=>exact (below_go HB.out))
        (case aF=>exact (fun _ _=>trivial))
        (case aO=>exact (R_up HO_186000.out))
        (case aS=>exact (below_size (below_go HB.out)))
        (case aL=>have:=LMc18.out;omega)
        intro v187 w20 ho hb hg hat
        rw [← Ny186.out] at ho
        have n0_:=Aside0.mk (blk_grown (blk_up BK183.out) hg (Kd.R_ne HO_186000.out BK183.out (by decide)))
        have n1_:=Aside0.mk (blk_grown (blk_up BK184.out) hg (Kd.R_ne HO_186000.out BK184.out (by decide)))
        have n2_:=Aside0.mk (blk_grown (blk_up BK185.out) hg (Kd.R_ne HO_186000.out BK185.out (by decide)))
        have n3_:=Aside0.mk (hb)
        have n4_:=Aside0.mk (ho)
        clear BK183
        clear BK184
        clear BK185
        clear HB
        clear HO_186000
        have BK183:=n0_
        have BK184:=n1_
        have BK185:=n2_
        have HB:=n3_
        have HO188:=n4_
        clear n0_ n1_ n2_ n3_ n4_
        clear ho hb hg hat
        obtain ⟨Ao21,co21,eo21⟩:=Kd.R_slice HO188.out
        (first|subst eo21|(injection eo21 with f1_ f2_ f3_;have f4_:=f1_.symm;have f5_:=f3_.symm;clear f1_ f2_ f3_;subst f4_;subst f5_))
        refine hK.out _ _ ⟨(blk_cell BK185.out 0).trans rfl,(blk_cell BK185.out 1).trans rfl,(blk_cell BK185.out 2).trans rfl,(blk_cell BK185.out 3).trans rfl,(blk_cell BK183.out 0).trans rfl,(blk_cell BK183.out 1).trans rfl,(blk_cell BK183.out 2).trans rfl,(blk_cell BK183.out 3).trans rfl,(blk_cell BK183.out 4).trans rfl,(blk_cell BK183.out 5).trans rfl,(blk_cell BK183.out 6).trans rfl,(blk_cell BK183.out 7).trans rfl,(blk_cell BK183.out x13_1.toNat).trans (cells_rd .u8 [a0_0,a0_1,a0_2,a0_3,a0_4,a0_5,a0_6,a0_7] x13_1 (of_decide_eq_true (by first|(with_reducible assumption)|assumption)) (of_decide_eq_true (by first|(with_reducible assumption)|assumption)))⟩ (fun hHeld=>?_)
        clear hK K
        refine norm_ (a':=?_) ?_ ?_
        rotate_left
        ·show Act.put _ (some 46) _=_
         simp only [Act.put,List.setIfInBounds_toArray,List.set_cons_zero,List.set_cons_succ,i64_w,i32_w]
         rfl
        refine pure_ (i:=10) (N:=some 47) (v:=?_) (a':=?_) #[true,true,true,true,true,true,true,true,true,true,true,false] rfl rfl (any_of HT_.out (by kernel_rfl)) (fun _ _ _ h=>h) (Or.inl ⟨by rfl,?_⟩) ?_ ?_
        rotate_left;(intro w';go_simp;with_reducible rfl);rotate_left;(simp only [Act.put,List.setIfInBounds_toArray,List.set_cons_zero,List.set_cons_succ,i64_w,i32_w];rfl)
        refine last_ (i:=11) (N:=none) #[true,true,true,true,true,true,true,true,true,true,true,true] rfl rfl (one_of HT_.out (by kernel_rfl)) (by decide) (fun K hK=>?_)
        have hs22 : w20.cell? ⟨gb185,0,none⟩=some (u186000):=(blk_cell BK185.out 0).trans rfl
        have hfs22:=blk_frozen BK185.out 0
        have hns22_0:=NB183_185.out
        have hns22_1:=NB184_185.out
        have hms22_0:=NB185_183.out
        have hms22_1:=NB185_184.out
        refine skip_ (w1:=?_) (by rfl) rfl ?_ ?_
        rotate_left
        ·go_simp
         rfl
        refine hK.out _ _ ?_
        clear hK K
        refine done_ (done_of HT_.out (by kernel_rfl)) ?_
        (try clear hHeld)
        try go_wp2
        go_roundg k1
        case measure=>have:=HK1.out;omega
        case rel=>exact ⟨(wrap64 (x13_1 + 1)),(y186),(.slice Ao21 y186.length co21),(by first|rfl|(simp;done)|(simp [*];done)),(by first|exact H'|(subst_vars;exact H')),⟨by have:=HK1.out;omega⟩,⟨by (with_reducible repeat (first|apply Kd.R_alloc|apply Kd.R_drewN|apply Kd.R_drew));exact Kd.R_mono (Kd.R_far (p:=⟨gb185,0,none⟩) (Kd.R_types HO188.out BK185.out (by decide)) (fun _ hk=>hk.2) (.slice Ao21 y186.length co21)) (fun _ hk=>trivial)⟩,⟨by (with_reducible repeat (first|refine blk_drewN ?_ _|refine blk_drew ?_|refine blk_alloc ?_ _));refine blk_far ?_ NB183_185.out _;(with_reducible repeat (first|refine blk_drewN ?_ _|refine blk_drew ?_|refine blk_alloc ?_ _));exact BK183.out⟩,⟨by (with_reducible repeat (first|refine blk_drewN ?_ _|refine blk_drew ?_|refine blk_alloc ?_ _));refine blk_far ?_ NB184_185.out _;(with_reducible repeat (first|refine blk_drewN ?_ _|refine blk_drew ?_|refine blk_alloc ?_ _));exact BK184.out⟩,⟨by (with_reducible repeat (first|refine blk_drewN ?_ _|refine blk_drew ?_|refine blk_alloc ?_ _));refine blk_put (cs:=#[u186000,.int .i64 (wrap64 (1 + (Int.tmod (wrap64 (a2)) (wrap64 (1 + (Int.tmod (wrap64 (a1)) 8)))))),.int .i64 (wrap64 (1 + (Int.tmod (wrap64 (a3)) 3))),.int .i64 (wrap64 (1 + (Int.tmod (wrap64 (a4)) 8)))]) ?_ 0 _ rfl;(with_reducible repeat (first|refine blk_drewN ?_ _|refine blk_drew ?_|refine blk_alloc ?_ _));exact BK185.out⟩,⟨by repeat (first|(with_reducible first|exact HB.out|apply below_alloc|apply pw_below_drewN|apply below_drew1|refine below_set ?_ GE183.out|refine below_set ?_ GE184.out|refine below_set ?_ GE185.out)|exact HB.out)⟩⟩
       ·rw [if_neg c18] at H
        exact absurd H (by simp)
      ·rw [if_neg c15] at H
       exact absurd H (by simp)
     ·rw [if_neg c14] at H
      exact absurd H (by simp)
    ·rw [if_neg c13] at H
     have c13b0 : decide (x13_1 < (wrap64 (1 + (Int.tmod (wrap64 (a1)) 8))))=false:=decide_eq_false c13
     clear c13
     simp only [Option.some.injEq,Prod.mk.injEq] at H
     obtain ⟨rfl,rfl,rfl,rfl⟩:=H
     have hnb23:=NB185_183.out
     have hnc23:=NB183_185.out
     have hnb24:=NB185_184.out
     have hnc24:=NB184_185.out
     have hcz25_0 : wr.cell? ⟨gb185,0,none⟩=some (u186000):=(blk_cell BK185.out 0).trans rfl
     have hcz25_1 : wr.cell? ⟨gb185,1,none⟩=some (.int .i64 (wrap64 (1 + (Int.tmod (wrap64 (a2)) (wrap64 (1 + (Int.tmod (wrap64 (a1)) 8))))))):=(blk_cell BK185.out 1).trans rfl
     have hcz25_2 : wr.cell? ⟨gb185,2,none⟩=some (.int .i64 (wrap64 (1 + (Int.tmod (wrap64 (a3)) 3)))):=(blk_cell BK185.out 2).trans rfl
     have hcz25_3 : wr.cell? ⟨gb185,3,none⟩=some (.int .i64 (wrap64 (1 + (Int.tmod (wrap64 (a4)) 8)))):=(blk_cell BK185.out 3).trans rfl
     have hfz25_0:=blk_frozen BK185.out 0
     have hfz25_1:=blk_frozen BK185.out 1
     have hfz25_2:=blk_frozen BK185.out 2
     have hfz25_3:=blk_frozen BK185.out 3
     obtain ⟨Ao26,co26,eo26⟩:=Kd.R_slice HO_186000.out
     subst eo26
     have hnb27:=NB184_183.out
     have hnc27:=NB183_184.out
     have hcz28_0 : wr.cell? ⟨gb184,0,none⟩=some (.slice none 0 0):=(blk_cell BK184.out 0).trans rfl
     have hcz28_1 : wr.cell? ⟨gb184,1,none⟩=some (.int .i64 0):=(blk_cell BK184.out 1).trans rfl
     have hcz28_2 : wr.cell? ⟨gb184,2,none⟩=some (.int .i64 0):=(blk_cell BK184.out 2).trans rfl
     have hcz28_3 : wr.cell? ⟨gb184,3,none⟩=some (.int .i64 0):=(blk_cell BK184.out 3).trans rfl
     have hfz28_0:=blk_frozen BK184.out 0
     have hfz28_1:=blk_frozen BK184.out 1
     have hfz28_2:=blk_frozen BK184.out 2
     have hfz28_3:=blk_frozen BK184.out 3
     go_wp2
     refine bodyPost_ret (results_cell_row rfl _ _ gb184 26 #[.slice Ao26 x186000_1.length co26,.int .i64 (wrap64 (1 + (Int.tmod (wrap64 (a2)) (wrap64 (1 + (Int.tmod (wrap64 (a1)) 8)))))),.int .i64 (wrap64 (1 + (Int.tmod (wrap64 (a3)) 3))),.int .i64 (wrap64 (1 + (Int.tmod (wrap64 (a4)) 8)))] (0,0) _ rfl (by (with_reducible repeat (first|refine blk_drewN ?_ _|refine blk_drew ?_|refine blk_alloc ?_ _));refine blk_put (cs:=#[.slice Ao26 x186000_1.length co26,.int .i64 (wrap64 (1 + (Int.tmod (wrap64 (a2)) (wrap64 (1 + (Int.tmod (wrap64 (a1)) 8)))))),.int .i64 (wrap64 (1 + (Int.tmod (wrap64 (a3)) 3))),.int .i64 0]) ?_ 3 _ rfl;(with_reducible repeat (first|refine blk_drewN ?_ _|refine blk_drew ?_|refine blk_alloc ?_ _));refine blk_put (cs:=#[.slice Ao26 x186000_1.length co26,.int .i64 (wrap64 (1 + (Int.tmod (wrap64 (a2)) (wrap64 (1 + (Int.tmod (wrap64 (a1)) 8)))))),.int .i64 0,.int .i64 0]) ?_ 2 _ rfl;(with_reducible repeat (first|refine blk_drewN ?_ _|refine blk_drew ?_|refine blk_alloc ?_ _));refine blk_put (cs:=#[.slice Ao26 x186000_1.length co26,.int .i64 0,.int .i64 0,.int .i64 0]) ?_ 1 _ rfl;(with_reducible repeat (first|refine blk_drewN ?_ _|refine blk_drew ?_|refine blk_alloc ?_ _));refine blk_put (cs:=#[.slice none 0 0,.int .i64 0,.int .i64 0,.int .i64 0]) ?_ 0 _ rfl;(with_reducible repeat (first|refine blk_drewN ?_ _|refine blk_drew ?_|refine blk_alloc ?_ _));exact BK184.out) Try.underlying26 rfl (by kernel_rfl)) rfl ?_
     exact ⟨_,by first|rfl|(simp [errW_none,errW_some] <;> rfl)|(simp [*,errW_none,errW_some] <;> rfl),by (with_reducible repeat (first|apply Kd.R_alloc|apply Kd.R_drewN|apply Kd.R_drew));exact Kd.R_mono (Kd.R_far (p:=⟨gb184,3,none⟩) (Kd.R_far (p:=⟨gb184,2,none⟩) (Kd.R_far (p:=⟨gb184,1,none⟩) (Kd.R_far (p:=⟨gb184,0,none⟩) (Kd.R_types HO_186000.out BK184.out (by decide)) (fun _ hk=>hk.2) (.slice Ao26 x186000_1.length co26)) (fun _ hk=>hk.2) (.int .i64 (wrap64 (1 + (Int.tmod (wrap64 (a2)) (wrap64 (1 + (Int.tmod (wrap64 (a1)) 8)))))))) (fun _ hk=>hk.2) (.int .i64 (wrap64 (1 + (Int.tmod (wrap64 (a3)) 3))))) (fun _ hk=>hk.2) (.int .i64 (wrap64 (1 + (Int.tmod (wrap64 (a4)) 8))))) (fun _ hk=>trivial),by repeat (first|(with_reducible first|exact HB.out|apply below_alloc|apply pw_below_drewN|apply below_drew1|refine below_set ?_ GE183.out|refine below_set ?_ GE184.out|refine below_set ?_ GE185.out)|exact HB.out)⟩
def thresherlaw14_made.f (k : Nat) (a0_0 : Int) (a0_1 : Int) (a0_2 : Int) (a0_3 : Int) (a0_4 : Int) (a0_5 : Int) (a0_6 : Int) (a0_7 : Int) (a0_8 : Int) (a0_9 : Int) (a0_10 : Int) (a0_11 : Int) : Option (List Int × Int × Int × Int):=(thresherref04_Made.f k a0_0 a0_1 a0_2 a0_3 a0_4 a0_5 a0_6 a0_7 a0_8 a0_9 a0_10 a0_11).bind fun bt191=>(some (bt191.1,bt191.2.1,bt191.2.2.1,bt191.2.2.2))
theorem thresherlaw14_made.mono : ∀ a0 a1 a2 a3 a4 a5 a6 a7 a8 a9 a10 a11 k,LeO (thresherlaw14_made.f k a0 a1 a2 a3 a4 a5 a6 a7 a8 a9 a10 a11) (thresherlaw14_made.f (k + 1) a0 a1 a2 a3 a4 a5 a6 a7 a8 a9 a10 a11):=by
 intro a0 a1 a2 a3 a4 a5 a6 a7 a8 a9 a10 a11 k
 unfold thresherlaw14_made.f
 repeat' first
   | (with_reducible exact thresherref04_Made.mono _ _ _ _ _ _ _ _ _ _ _ _ _)
   | (with_reducible exact LeO.refl _)
   | (with_reducible exact LeO.none _)
   | (with_reducible refine LeO.ite ?_ ?_)
   | (with_reducible refine LeO.bind ?_ (fun _=>?_))
   | exact thresherref04_Made.mono _ _ _ _ _ _ _ _ _ _ _ _ _
   | exact LeO.none _
   | refine LeO.ite ?_ ?_
   | refine LeO.bind ?_ (fun _=>?_)
set_option maxHeartbeats 8000000 in
set_option maxRecDepth 100000 in
theorem thresherlaw14_made.calls (k : Nat) (a0_0 : Int) (a0_1 : Int) (a0_2 : Int) (a0_3 : Int) (a0_4 : Int) (a0_5 : Int) (a0_6 : Int) (a0_7 : Int) (a0_8 : Int) (a0_9 : Int) (a0_10 : Int) (a0_11 : Int) (r1 : List Int) (r2 : Int) (r3 : Int) (r4 : Int) (w : World) (h : thresherlaw14_made.f k a0_0 a0_1 a0_2 a0_3 a0_4 a0_5 a0_6 a0_7 a0_8 a0_9 a0_10 a0_11=some (r1,r2,r3,r4)) :
  Calls Try.prog 10 #[.agg #[.int .u8 a0_0,.int .u8 a0_1,.int .u8 a0_2,.int .u8 a0_3,.int .u8 a0_4,.int .u8 a0_5,.int .u8 a0_6,.int .u8 a0_7,.int .u8 a0_8,.int .u8 a0_9,.int .u8 a0_10,.int .u8 a0_11]] w fun e w'=>∃ v0_ : Value,e=.returned (.agg #[v0_,.int .i64 r2,.int .i64 r3,.int .i64 r4])∧Kd.R (Kd.int .i64) 3 w' w.heap.size (fun _=>True) v0_ r1∧Below w.heap.size w w':=by
 have hu38:=Try.underlying38
 have hu26:=Try.underlying26
 have hu36:=Try.underlying36
 have HB:=Aside0.mk (Below.refl w.heap.size w)
 have H : ((thresherref04_Made.f k a0_0 a0_1 a0_2 a0_3 a0_4 a0_5 a0_6 a0_7 a0_8 a0_9 a0_10 a0_11).bind fun bt191=>(some (bt191.1,bt191.2.1,bt191.2.2.1,bt191.2.2.2)))=some (r1,r2,r3,r4):=h
 clear h
 replace H:=Option.bind_eq_some_iff.mp H
 obtain ⟨⟨t191,t194,t195,t196⟩,A20,H⟩:=H
 replace H : (some (t191,t194,t195,t196))=some (r1,r2,r3,r4):=H
 have A2:=Aside0.mk A20
 clear A20
 simp only [Option.some.injEq,Prod.mk.injEq] at H
 obtain ⟨rfl,rfl,rfl,rfl⟩:=H
 go_enter Try.func10,Try.ntmps10
 go_wp2_with (first|((with_reducible refine gate_dst (N:=1) rfl ?_);refine box_event ?hg (N:=1) ?hd (cs:=#[.int .u8 a0_0,.int .u8 a0_1,.int .u8 a0_2,.int .u8 a0_3,.int .u8 a0_4,.int .u8 a0_5,.int .u8 a0_6,.int .u8 a0_7,.int .u8 a0_8,.int .u8 a0_9,.int .u8 a0_10,.int .u8 a0_11]) (t:=38) ?hr ?_;(case hd=>rfl);(case hg=>rfl);(case hr=>first|(go_simp;done)|(go_simp;rfl));intro gb189 hg w3 hbox hb;have n0_:=Aside0.mk (below_step (below_up HB.out) hb);have n1_:=Aside0.mk (hbox);have n2_:=Aside0.mk ((by rw [hg];exact (below_size (below_up HB.out)) : w.heap.size≤gb189));have n3_:=Aside0.mk ((by rw [hg];exact (below_size (below_up HB.out)) : w.heap.size≤gb189));clear HB;have HB:=n0_;have BK189:=n1_;have GW189:=n2_;have GE189:=n3_;clear n0_ n1_ n2_ n3_;clear hb hbox hg)|((with_reducible refine gate_dst (N:=2) rfl ?_);refine box_event ?hg (N:=2) ?hd (cs:=#[.slice none 0 0,.int .i64 0,.int .i64 0,.int .i64 0]) (t:=26) ?hr ?_;(case hd=>rfl);(case hg=>rfl);(case hr=>first|(go_simp;done)|(go_simp;rfl));intro gb190 hg w4 hbox hb;have n0_:=Aside0.mk (blk_below (blk_up BK189.out) hb);have n1_:=Aside0.mk (below_step (below_go HB.out) hb);have n2_:=Aside0.mk (hbox);have n3_:=Aside0.mk ((by rw [hg];exact (below_size (below_go HB.out)) : w.heap.size≤gb190));have n4_:=Aside0.mk ((by rw [hg];exact (below_size (below_go HB.out)) : w.heap.size≤gb190));have n5_:=Aside0.mk ((by rw [hg];exact Nat.ne_of_lt (blk_lt (blk_up BK189.out)) : gb189≠gb190));have n6_:=Aside0.mk ((by rw [hg];exact Nat.ne_of_gt (blk_lt (blk_up BK189.out)) : gb190≠gb189));clear BK189;clear HB;have BK189:=n0_;have HB:=n1_;have BK190:=n2_;have GW190:=n3_;have GE190:=n4_;have NB189_190:=n5_;have NB190_189:=n6_;clear n0_ n1_ n2_ n3_ n4_ n5_ n6_;clear hb hbox hg;have hnb5:=NB189_190.out;have hnc5:=NB190_189.out;have hcz6_0 : w4.cell? ⟨gb189,0,none⟩=some (.int .u8 a0_0):=(blk_cell BK189.out 0).trans rfl;have hcz6_1 : w4.cell? ⟨gb189,1,none⟩=some (.int .u8 a0_1):=(blk_cell BK189.out 1).trans rfl;have hcz6_2 : w4.cell? ⟨gb189,2,none⟩=some (.int .u8 a0_2):=(blk_cell BK189.out 2).trans rfl;have hcz6_3 : w4.cell? ⟨gb189,3,none⟩=some (.int .u8 a0_3):=(blk_cell BK189.out 3).trans rfl;have hcz6_4 : w4.cell? ⟨gb189,4,none⟩=some (.int .u8 a0_4):=(blk_cell BK189.out 4).trans rfl;have hcz6_5 : w4.cell? ⟨gb189,5,none⟩=some (.int .u8 a0_5):=(blk_cell BK189.out 5).trans rfl;have hcz6_6 : w4.cell? ⟨gb189,6,none⟩=some (.int .u8 a0_6):=(blk_cell BK189.out 6).trans rfl;have hcz6_7 : w4.cell? ⟨gb189,7,none⟩=some (.int .u8 a0_7):=(blk_cell BK189.out 7).trans rfl;have hcz6_8 : w4.cell? ⟨gb189,8,none⟩=some (.int .u8 a0_8):=(blk_cell BK189.out 8).trans rfl;have hcz6_9 : w4.cell? ⟨gb189,9,none⟩=some (.int .u8 a0_9):=(blk_cell BK189.out 9).trans rfl;have hcz6_10 : w4.cell? ⟨gb189,10,none⟩=some (.int .u8 a0_10):=(blk_cell BK189.out 10).trans rfl;have hcz6_11 : w4.cell? ⟨gb189,11,none⟩=some (.int .u8 a0_11):=(blk_cell BK189.out 11).trans rfl;have hfz6_0:=blk_frozen BK189.out 0;have hfz6_1:=blk_frozen BK189.out 1;have hfz6_2:=blk_frozen BK189.out 2;have hfz6_3:=blk_frozen BK189.out 3;have hfz6_4:=blk_frozen BK189.out 4;have hfz6_5:=blk_frozen BK189.out 5;have hfz6_6:=blk_frozen BK189.out 6;have hfz6_7:=blk_frozen BK189.out 7;have hfz6_8:=blk_frozen BK189.out 8;have hfz6_9:=blk_frozen BK189.out 9;have hfz6_10:=blk_frozen BK189.out 10;have hfz6_11:=blk_frozen BK189.out 11)|((with_reducible refine gate_callee (f:=23) rfl ?_);refine goesL_ (some 13) rfl rfl Try.func23 (by kernel_rfl) rfl #[.agg #[.int .u8 a0_0,.int .u8 a0_1,.int .u8 a0_2,.int .u8 a0_3,.int .u8 a0_4,.int .u8 a0_5,.int .u8 a0_6,.int .u8 a0_7],.int .u8 a0_8,.int .u8 a0_9,.int .u8 a0_10,.int .u8 a0_11] rfl (by (try simp only [List.map_toArray,List.map_cons,List.map_nil]);first|done|rfl|(simp only [List.length_drop,List.length_take];rfl)) ?_;(with_reducible refine (thresherref04_Made.calls k a0_0 a0_1 a0_2 a0_3 a0_4 a0_5 a0_6 a0_7 a0_8 a0_9 a0_10 a0_11 t191 t194 t195 t196 _ A2.out).mono ?_);rintro e w7 ⟨v192,rfl,ho0,hb⟩;refine ⟨_,rfl,?_⟩;have n0_:=Aside0.mk (Kd.R_lower ho0 (below_size (below_go HB.out)));have n1_:=Aside0.mk (blk_below (blk_up BK189.out) hb);have n2_:=Aside0.mk (blk_below (blk_up BK190.out) hb);have n3_:=Aside0.mk (below_step (below_go HB.out) hb);clear BK189;clear BK190;clear HB;have HO193:=n0_;have BK189:=n1_;have BK190:=n2_;have HB:=n3_;clear n0_ n1_ n2_ n3_;(try clear hb);(try clear hb2);(try clear hk);(try clear hi);(try clear ho0);obtain ⟨Ao8,co8,eo8⟩:=Kd.R_slice HO193.out;subst eo8;have hcz9_0 : w7.cell? ⟨gb190,0,none⟩=some (.slice none 0 0):=(blk_cell BK190.out 0).trans rfl;have hcz9_1 : w7.cell? ⟨gb190,1,none⟩=some (.int .i64 0):=(blk_cell BK190.out 1).trans rfl;have hcz9_2 : w7.cell? ⟨gb190,2,none⟩=some (.int .i64 0):=(blk_cell BK190.out 2).trans rfl;have hcz9_3 : w7.cell? ⟨gb190,3,none⟩=some (.int .i64 0):=(blk_cell BK190.out 3).trans rfl;have hfz9_0:=blk_frozen BK190.out 0;have hfz9_1:=blk_frozen BK190.out 1;have hfz9_2:=blk_frozen BK190.out 2;have hfz9_3:=blk_frozen BK190.out 3))
 refine bodyPost_ret (results_cell_row rfl _ _ gb190 26 #[.slice Ao8 t191.length co8,.int .i64 t194,.int .i64 t195,.int .i64 t196] (0,0) _ rfl (by (with_reducible repeat (first|refine blk_drewN ?_ _|refine blk_drew ?_|refine blk_alloc ?_ _));refine blk_put (cs:=#[.slice Ao8 t191.length co8,.int .i64 t194,.int .i64 t195,.int .i64 0]) ?_ 3 _ rfl;(with_reducible repeat (first|refine blk_drewN ?_ _|refine blk_drew ?_|refine blk_alloc ?_ _));refine blk_put (cs:=#[.slice Ao8 t191.length co8,.int .i64 t194,.int .i64 0,.int .i64 0]) ?_ 2 _ rfl;(with_reducible repeat (first|refine blk_drewN ?_ _|refine blk_drew ?_|refine blk_alloc ?_ _));refine blk_put (cs:=#[.slice Ao8 t191.length co8,.int .i64 0,.int .i64 0,.int .i64 0]) ?_ 1 _ rfl;(with_reducible repeat (first|refine blk_drewN ?_ _|refine blk_drew ?_|refine blk_alloc ?_ _));refine blk_put (cs:=#[.slice none 0 0,.int .i64 0,.int .i64 0,.int .i64 0]) ?_ 0 _ rfl;(with_reducible repeat (first|refine blk_drewN ?_ _|refine blk_drew ?_|refine blk_alloc ?_ _));exact BK190.out) Try.underlying26 rfl (by kernel_rfl)) rfl ?_
 exact ⟨_,by first|rfl|(simp [errW_none,errW_some] <;> rfl)|(simp [*,errW_none,errW_some] <;> rfl),by (with_reducible repeat (first|apply Kd.R_alloc|apply Kd.R_drewN|apply Kd.R_drew));exact Kd.R_mono (Kd.R_far (p:=⟨gb190,3,none⟩) (Kd.R_far (p:=⟨gb190,2,none⟩) (Kd.R_far (p:=⟨gb190,1,none⟩) (Kd.R_far (p:=⟨gb190,0,none⟩) (Kd.R_types HO193.out BK190.out (by decide)) (fun _ hk=>hk.2) (.slice Ao8 t191.length co8)) (fun _ hk=>hk.2) (.int .i64 t194)) (fun _ hk=>hk.2) (.int .i64 t195)) (fun _ hk=>hk.2) (.int .i64 t196)) (fun _ hk=>trivial),by repeat (first|(with_reducible first|exact HB.out|apply below_alloc|apply pw_below_drewN|apply below_drew1|refine below_set ?_ GE189.out|refine below_set ?_ GE190.out)|exact HB.out)⟩
def thresherref03_Fits.j0 : Nat→Int→Bool→Int→ByteArray→Option (Bool)
 | 0,_,_,_,_=>none
 | k + 1,x5,x6,x198000,x198001=>if x6=true then (some (x198001.toList == ([] : List UInt8))) else (if x5=3 then (if x198000=0 then (some (decide ((x198001.size : Int)≤60))) else (some false)) else (some false))
def thresherref03_Fits.f (k : Nat) (a0 : Int) (a1_0 : Int) (a1_1 : ByteArray) : Option (Bool):=if a0=1 then (thresherref03_Fits.j0 k a0 (a0 == 1) a1_0 a1_1) else (thresherref03_Fits.j0 k a0 (a0 == 2) a1_0 a1_1)
theorem thresherref03_Fits.mono_l : ∀ k,(∀ y0 y1 y2 y3,LeO (thresherref03_Fits.j0 k y0 y1 y2 y3) (thresherref03_Fits.j0 (k + 1) y0 y1 y2 y3))
 | 0=>fun _ _ _ _ r h=>by simp [thresherref03_Fits.j0] at h
 | k + 1=>by
  have ih0:=thresherref03_Fits.mono_l k
  ·intro y0 y1 y2 y3
   unfold thresherref03_Fits.j0
   repeat' first
   | (with_reducible exact ih0 _ _ _ _)
   | (with_reducible exact LeO.refl _)
   | (with_reducible exact LeO.none _)
   | (with_reducible refine LeO.ite ?_ ?_)
   | (with_reducible refine LeO.bind ?_ (fun _=>?_))
   | exact ih0 _ _ _ _
   | exact LeO.none _
   | refine LeO.ite ?_ ?_
   | refine LeO.bind ?_ (fun _=>?_)
theorem thresherref03_Fits.mono : ∀ a0 a1 a2 k,LeO (thresherref03_Fits.f k a0 a1 a2) (thresherref03_Fits.f (k + 1) a0 a1 a2):=by
 intro a0 a1 a2 k
 have ih0:=thresherref03_Fits.mono_l k
 unfold thresherref03_Fits.f
 repeat' first
   | (with_reducible exact ih0 _ _ _ _)
   | (with_reducible exact LeO.refl _)
   | (with_reducible exact LeO.none _)
   | (with_reducible refine LeO.ite ?_ ?_)
   | (with_reducible refine LeO.bind ?_ (fun _=>?_))
   | exact ih0 _ _ _ _
   | exact LeO.none _
   | refine LeO.ite ?_ ?_
   | refine LeO.bind ?_ (fun _=>?_)
set_option maxHeartbeats 8000000 in
set_option maxRecDepth 100000 in
theorem thresherref03_Fits.calls (k : Nat) (a0 : Int) (a1_0 : Int) (a1_1 : ByteArray) (r : Bool) (w : World) (h : thresherref03_Fits.f k a0 a1_0 a1_1=some r) :
  Calls Try.prog 47 #[.int .i64 a0,.agg #[.int .i64 a1_0,.string a1_1]] w fun e w'=>e=.returned (.bool r)∧Below w.heap.size w w':=by
 have hu31:=Try.underlying31
 have HB:=Aside0.mk (Below.refl w.heap.size w)
 have H : (if a0=1 then (thresherref03_Fits.j0 k a0 (a0 == 1) a1_0 a1_1) else (thresherref03_Fits.j0 k a0 (a0 == 2) a1_0 a1_1))=some r:=h
 clear h
 have HC3:=Aside0.mk H
 clear H
 go_enter Try.func47,Try.ntmps47
 go_upto_if 6 with (first|((with_reducible refine gate_dst (N:=3) rfl ?_);(try (refine gate_guard (by rfl) ?_;dsimp only));refine box_event ?hg (N:=3) ?hd (cs:=#[.int .i64 a1_0,.string a1_1]) (t:=31) ?hr ?_;(case hd=>rfl);(case hg=>rfl);(case hr=>first|(go_simp;done)|(go_simp;rfl));intro gb197 hg w4 hbox hb;have n0_:=Aside0.mk (below_step (below_up HB.out) hb);have n1_:=Aside0.mk (hbox);have n2_:=Aside0.mk ((by rw [hg];exact (below_size (below_up HB.out)) : w.heap.size≤gb197));have n3_:=Aside0.mk ((by rw [hg];exact (below_size (below_up HB.out)) : w.heap.size≤gb197));clear HB;have HB:=n0_;have BK197:=n1_;have GW197:=n2_;have GE197:=n3_;clear n0_ n1_ n2_ n3_;clear hb hbox hg))
 (try simp only [Act.put,List.setIfInBounds_toArray,List.set_cons_zero,List.set_cons_succ])
 go_cut [6] (fun v6 wc=>∃ (kq : Nat) (x6_2 : Bool),v6=.bool x6_2∧Aside0 (thresherref03_Fits.j0 kq a0 x6_2 a1_0 a1_1=some r)∧Aside0 (kq≤k)∧Aside0 (wc.heap[gb197]?=some (.cells #[.int .i64 a1_0,.string a1_1] 31 (0,0)))∧Aside0 (Below w.heap.size w wc))
 case first =>
  have H:=HC3.out
  clear HC3
  by_cases c5 : a0=1
  ·rw [if_pos c5] at H
   have c5b0 : (a0 == 1)=true:=beq_iff_eq.mpr c5
   have c5b1 : (a0 != 1)=false:=bne_eq_false_iff_eq.mpr c5
   clear c5
   (first|rw [c5b0]|(simp only [i64_w,i32_w];rw [c5b0])|skip)
   have H':=Aside0.mk H
   clear H
   go_wp2
   go_meet
   case rel=>exact ⟨_,((a0 == 1)),(by first|rfl|(simp;done)|(simp [*];done)),(by first|exact H'|(subst_vars;exact H')),⟨by first|omega|exact Nat.le_refl _⟩,⟨by (with_reducible repeat (first|refine blk_drewN ?_ _|refine blk_drew ?_|refine blk_alloc ?_ _));exact BK197.out⟩,⟨by repeat (first|(with_reducible first|exact HB.out|apply below_alloc|apply pw_below_drewN|apply below_drew1|refine below_set ?_ GE197.out)|exact HB.out)⟩⟩
  ·rw [if_neg c5] at H
   have c5b0 : (a0 == 1)=false:=beq_eq_false_iff_ne.mpr c5
   have c5b1 : (a0 != 1)=true:=bne_iff_ne.mpr c5
   (first|rw [c5b0]|(simp only [i64_w,i32_w];rw [c5b0])|skip)
   have H':=Aside0.mk H
   clear H
   go_wp2
   go_meet
   case rel=>exact ⟨_,((a0 == 2)),(by first|rfl|(simp;done)|(simp [*];done)),(by first|exact H'|(subst_vars;exact H')),⟨by first|omega|exact Nat.le_refl _⟩,⟨by (with_reducible repeat (first|refine blk_drewN ?_ _|refine blk_drew ?_|refine blk_alloc ?_ _));exact BK197.out⟩,⟨by repeat (first|(with_reducible first|exact HB.out|apply below_alloc|apply pw_below_drewN|apply below_drew1|refine below_set ?_ GE197.out)|exact HB.out)⟩⟩
 case rest =>
  clear HC3
  try clear p2
  try clear c4
  try clear c5
  try clear c5b0
  try clear c5b1
  obtain ⟨kq,x6_2,rfl,HA,HJ2,BK197,HB⟩:=hcut
  cases kq with
  | zero=>exact absurd HA.out (by simp [thresherref03_Fits.j0])
  | succ kj2 =>
   have H:=HA.out
   clear HA
   simp only [thresherref03_Fits.j0] at H
   by_cases c6 : x6_2=true
   ·subst c6
    have H1 : (some (a1_1.toList == ([] : List UInt8)))=some r:=by rw [if_pos rfl] at H;exact H
    clear H
    have H:=H1
    clear H1
    obtain rfl:=Option.some.inj H
    have hcz7_0 : wc.cell? ⟨gb197,0,none⟩=some (.int .i64 a1_0):=(blk_cell BK197.out 0).trans rfl
    have hcz7_1 : wc.cell? ⟨gb197,1,none⟩=some (.string a1_1):=(blk_cell BK197.out 1).trans rfl
    have hfz7_0:=blk_frozen BK197.out 0
    have hfz7_1:=blk_frozen BK197.out 1
    go_wp2
    go_ret
    exact ⟨by first|rfl|(simp [errW_none,errW_some] <;> rfl)|(simp [*,errW_none,errW_some] <;> rfl),by repeat (first|(with_reducible first|exact HB.out|apply below_alloc|apply pw_below_drewN|apply below_drew1|refine below_set ?_ GE197.out)|exact HB.out)⟩
   ·replace c6:=Bool.eq_false_iff.mpr c6
    subst c6
    have H1 : (if a0=3 then (if a1_0=0 then (some (decide ((a1_1.size : Int)≤60))) else (some false)) else (some false))=some r:=by rw [if_neg (show ¬ (false=true) by decide)] at H;exact H
    clear H
    have H:=H1
    clear H1
    by_cases c8 : a0=3
    ·rw [if_pos c8] at H
     have c8b0 : (a0 == 3)=true:=beq_iff_eq.mpr c8
     have c8b1 : (a0 != 3)=false:=bne_eq_false_iff_eq.mpr c8
     clear c8
     by_cases c9 : a1_0=0
     ·rw [if_pos c9] at H
      have c9b0 : (a1_0 == 0)=true:=beq_iff_eq.mpr c9
      have c9b1 : (a1_0 != 0)=false:=bne_eq_false_iff_eq.mpr c9
      clear c9
      obtain rfl:=Option.some.inj H
      have hcz10_0 : wc.cell? ⟨gb197,0,none⟩=some (.int .i64 a1_0):=(blk_cell BK197.out 0).trans rfl
      have hcz10_1 : wc.cell? ⟨gb197,1,none⟩=some (.string a1_1):=(blk_cell BK197.out 1).trans rfl
      have hfz10_0:=blk_frozen BK197.out 0
      have hfz10_1:=blk_frozen BK197.out 1
      go_wp2
      go_ret
      exact ⟨by first|rfl|(simp [errW_none,errW_some] <;> rfl)|(simp [*,errW_none,errW_some] <;> rfl),by repeat (first|(with_reducible first|exact HB.out|apply below_alloc|apply pw_below_drewN|apply below_drew1|refine below_set ?_ GE197.out)|exact HB.out)⟩
     ·rw [if_neg c9] at H
      have c9b0 : (a1_0 == 0)=false:=beq_eq_false_iff_ne.mpr c9
      have c9b1 : (a1_0 != 0)=true:=bne_iff_ne.mpr c9
      obtain rfl:=Option.some.inj H
      have hcz11_0 : wc.cell? ⟨gb197,0,none⟩=some (.int .i64 a1_0):=(blk_cell BK197.out 0).trans rfl
      have hcz11_1 : wc.cell? ⟨gb197,1,none⟩=some (.string a1_1):=(blk_cell BK197.out 1).trans rfl
      have hfz11_0:=blk_frozen BK197.out 0
      have hfz11_1:=blk_frozen BK197.out 1
      go_wp2
      go_ret
      exact ⟨by first|rfl|(simp [errW_none,errW_some] <;> rfl)|(simp [*,errW_none,errW_some] <;> rfl),by repeat (first|(with_reducible first|exact HB.out|apply below_alloc|apply pw_below_drewN|apply below_drew1|refine below_set ?_ GE197.out)|exact HB.out)⟩
    ·rw [if_neg c8] at H
     have c8b0 : (a0 == 3)=false:=beq_eq_false_iff_ne.mpr c8
     have c8b1 : (a0 != 3)=true:=bne_iff_ne.mpr c8
     obtain rfl:=Option.some.inj H
     go_wp2
     go_ret
     exact ⟨by first|rfl|(simp [errW_none,errW_some] <;> rfl)|(simp [*,errW_none,errW_some] <;> rfl),by repeat (first|(with_reducible first|exact HB.out|apply below_alloc|apply pw_below_drewN|apply below_drew1|refine below_set ?_ GE197.out)|exact HB.out)⟩
def thresherref03_both.f (k : Nat) (a0 : Int) (a1_0 : Int) (a1_1 : ByteArray) (a2_0 : Int) (a2_1 : ByteArray) : Option (Bool):=(thresherref03_Fits.f k a0 a1_0 a1_1).bind fun t200=>((thresherref03_Fits.f k a0 a2_0 a2_1).bind fun t201=>(if t200=true then (some t201) else (some false)))
theorem thresherref03_both.mono : ∀ a0 a1 a2 a3 a4 k,LeO (thresherref03_both.f k a0 a1 a2 a3 a4) (thresherref03_both.f (k + 1) a0 a1 a2 a3 a4):=by
 intro a0 a1 a2 a3 a4 k
 unfold thresherref03_both.f
 repeat' first
   | (with_reducible exact thresherref03_Fits.mono _ _ _ _)
   | (with_reducible exact LeO.refl _)
   | (with_reducible exact LeO.none _)
   | (with_reducible refine LeO.ite ?_ ?_)
   | (with_reducible refine LeO.bind ?_ (fun _=>?_))
   | exact thresherref03_Fits.mono _ _ _ _
   | exact LeO.none _
   | refine LeO.ite ?_ ?_
   | refine LeO.bind ?_ (fun _=>?_)
set_option maxHeartbeats 8000000 in
set_option maxRecDepth 100000 in
theorem thresherref03_both.calls (k : Nat) (a0 : Int) (a1_0 : Int) (a1_1 : ByteArray) (a2_0 : Int) (a2_1 : ByteArray) (r : Bool) (w : World) (h : thresherref03_both.f k a0 a1_0 a1_1 a2_0 a2_1=some r) :
  Calls Try.prog 39 #[.int .i64 a0,.agg #[.int .i64 a1_0,.string a1_1],.agg #[.int .i64 a2_0,.string a2_1]] w fun e w'=>e=.returned (.bool r)∧Below w.heap.size w w':=by
 have hu31:=Try.underlying31
 have HB:=Aside0.mk (Below.refl w.heap.size w)
 have H : ((thresherref03_Fits.f k a0 a1_0 a1_1).bind fun t200=>((thresherref03_Fits.f k a0 a2_0 a2_1).bind fun t201=>(if t200=true then (some t201) else (some false))))=some r:=h
 clear h
 replace H:=Option.bind_eq_some_iff.mp H
 obtain ⟨t200,A40,H⟩:=H
 replace H : ((thresherref03_Fits.f k a0 a2_0 a2_1).bind fun t201=>(if t200=true then (some t201) else (some false)))=some r:=H
 have A4:=Aside0.mk A40
 clear A40
 replace H:=Option.bind_eq_some_iff.mp H
 obtain ⟨t201,A50,H⟩:=H
 replace H : (if t200=true then (some t201) else (some false))=some r:=H
 have A5:=Aside0.mk A50
 clear A50
 by_cases c6 : t200=true
 ·subst c6
  have H1 : (some t201)=some r:=by rw [if_pos rfl] at H;exact H
  clear H
  have H:=H1
  clear H1
  obtain rfl:=Option.some.inj H
  go_enter Try.func39,Try.ntmps39
  go_wp2_with (first|((with_reducible refine gate_dst (N:=4) rfl ?_);refine box_event ?hg (N:=4) ?hd (cs:=#[.int .i64 a1_0,.string a1_1]) (t:=31) ?hr ?_;(case hd=>rfl);(case hg=>rfl);(case hr=>first|(go_simp;done)|(go_simp;rfl));intro gb198 hg w7 hbox hb;have n0_:=Aside0.mk (below_step (below_up HB.out) hb);have n1_:=Aside0.mk (hbox);have n2_:=Aside0.mk ((by rw [hg];exact (below_size (below_up HB.out)) : w.heap.size≤gb198));have n3_:=Aside0.mk ((by rw [hg];exact (below_size (below_up HB.out)) : w.heap.size≤gb198));clear HB;have HB:=n0_;have BK198:=n1_;have GW198:=n2_;have GE198:=n3_;clear n0_ n1_ n2_ n3_;clear hb hbox hg)|((with_reducible refine gate_dst (N:=5) rfl ?_);refine box_event ?hg (N:=5) ?hd (cs:=#[.int .i64 a2_0,.string a2_1]) (t:=31) ?hr ?_;(case hd=>rfl);(case hg=>rfl);(case hr=>first|(go_simp;done)|(go_simp;rfl));intro gb199 hg w8 hbox hb;have n0_:=Aside0.mk (blk_below (blk_up BK198.out) hb);have n1_:=Aside0.mk (below_step (below_go HB.out) hb);have n2_:=Aside0.mk (hbox);have n3_:=Aside0.mk ((by rw [hg];exact (below_size (below_go HB.out)) : w.heap.size≤gb199));have n4_:=Aside0.mk ((by rw [hg];exact (below_size (below_go HB.out)) : w.heap.size≤gb199));have n5_:=Aside0.mk ((by rw [hg];exact Nat.ne_of_lt (blk_lt (blk_up BK198.out)) : gb198≠gb199));have n6_:=Aside0.mk ((by rw [hg];exact Nat.ne_of_gt (blk_lt (blk_up BK198.out)) : gb199≠gb198));clear BK198;clear HB;have BK198:=n0_;have HB:=n1_;have BK199:=n2_;have GW199:=n3_;have GE199:=n4_;have NB198_199:=n5_;have NB199_198:=n6_;clear n0_ n1_ n2_ n3_ n4_ n5_ n6_;clear hb hbox hg;have hnb9:=NB198_199.out;have hnc9:=NB199_198.out;have hcz10_0 : w8.cell? ⟨gb198,0,none⟩=some (.int .i64 a1_0):=(blk_cell BK198.out 0).trans rfl;have hcz10_1 : w8.cell? ⟨gb198,1,none⟩=some (.string a1_1):=(blk_cell BK198.out 1).trans rfl;have hfz10_0:=blk_frozen BK198.out 0;have hfz10_1:=blk_frozen BK198.out 1)|((with_reducible refine gate_callee (f:=47) rfl ?_);refine goesL_ (some 11) rfl rfl Try.func47 (by kernel_rfl) rfl #[.int .i64 a0,.agg #[.int .i64 a1_0,.string a1_1]] rfl (by (try simp only [List.map_toArray,List.map_cons,List.map_nil]);first|done|rfl|(simp only [List.length_drop,List.length_take];rfl)) ?_;(with_reducible refine (thresherref03_Fits.calls k a0 a1_0 a1_1 true _ A4.out).mono ?_);rintro e w11 ⟨rfl,hb⟩;refine ⟨_,rfl,?_⟩;have n0_:=Aside0.mk (blk_below (blk_up BK198.out) hb);have n1_:=Aside0.mk (blk_below (blk_up BK199.out) hb);have n2_:=Aside0.mk (below_step (below_go HB.out) hb);clear BK198;clear BK199;clear HB;have BK198:=n0_;have BK199:=n1_;have HB:=n2_;clear n0_ n1_ n2_;(try clear hb);(try clear hb2);(try clear hk);(try clear hi);have hcz12_0 : w11.cell? ⟨gb199,0,none⟩=some (.int .i64 a2_0):=(blk_cell BK199.out 0).trans rfl;have hcz12_1 : w11.cell? ⟨gb199,1,none⟩=some (.string a2_1):=(blk_cell BK199.out 1).trans rfl;have hfz12_0:=blk_frozen BK199.out 0;have hfz12_1:=blk_frozen BK199.out 1)|((with_reducible refine gate_callee (f:=47) rfl ?_);refine goesL_ (some 14) rfl rfl Try.func47 (by kernel_rfl) rfl #[.int .i64 a0,.agg #[.int .i64 a2_0,.string a2_1]] rfl (by (try simp only [List.map_toArray,List.map_cons,List.map_nil]);first|done|rfl|(simp only [List.length_drop,List.length_take];rfl)) ?_;(with_reducible refine (thresherref03_Fits.calls k a0 a2_0 a2_1 t201 _ A5.out).mono ?_);rintro e w13 ⟨rfl,hb⟩;refine ⟨_,rfl,?_⟩;have n0_:=Aside0.mk (blk_below (blk_up BK198.out) hb);have n1_:=Aside0.mk (blk_below (blk_up BK199.out) hb);have n2_:=Aside0.mk (below_step (below_go HB.out) hb);clear BK198;clear BK199;clear HB;have BK198:=n0_;have BK199:=n1_;have HB:=n2_;clear n0_ n1_ n2_;(try clear hb);(try clear hb2);(try clear hk);(try clear hi)))
  go_ret
  exact ⟨by first|rfl|(simp [errW_none,errW_some] <;> rfl)|(simp [*,errW_none,errW_some] <;> rfl),by repeat (first|(with_reducible first|exact HB.out|apply below_alloc|apply pw_below_drewN|apply below_drew1|refine below_set ?_ GE198.out|refine below_set ?_ GE199.out)|exact HB.out)⟩
 ·replace c6:=Bool.eq_false_iff.mpr c6
  subst c6
  have H1 : (some false)=some r:=by rw [if_neg (show ¬ (false=true) by decide)] at H;exact H
  clear H
  have H:=H1
  clear H1
  obtain rfl:=Option.some.inj H
  go_enter Try.func39,Try.ntmps39
  go_wp2_with (first|((with_reducible refine gate_dst (N:=4) rfl ?_);refine box_event ?hg (N:=4) ?hd (cs:=#[.int .i64 a1_0,.string a1_1]) (t:=31) ?hr ?_;(case hd=>rfl);(case hg=>rfl);(case hr=>first|(go_simp;done)|(go_simp;rfl));intro gb198 hg w14 hbox hb;have n0_:=Aside0.mk (below_step (below_up HB.out) hb);have n1_:=Aside0.mk (hbox);have n2_:=Aside0.mk ((by rw [hg];exact (below_size (below_up HB.out)) : w.heap.size≤gb198));have n3_:=Aside0.mk ((by rw [hg];exact (below_size (below_up HB.out)) : w.heap.size≤gb198));clear HB;have HB:=n0_;have BK198:=n1_;have GW198:=n2_;have GE198:=n3_;clear n0_ n1_ n2_ n3_;clear hb hbox hg)|((with_reducible refine gate_dst (N:=5) rfl ?_);refine box_event ?hg (N:=5) ?hd (cs:=#[.int .i64 a2_0,.string a2_1]) (t:=31) ?hr ?_;(case hd=>rfl);(case hg=>rfl);(case hr=>first|(go_simp;done)|(go_simp;rfl));intro gb199 hg w15 hbox hb;have n0_:=Aside0.mk (blk_below (blk_up BK198.out) hb);have n1_:=Aside0.mk (below_step (below_go HB.out) hb);have n2_:=Aside0.mk (hbox);have n3_:=Aside0.mk ((by rw [hg];exact (below_size (below_go HB.out)) : w.heap.size≤gb199));have n4_:=Aside0.mk ((by rw [hg];exact (below_size (below_go HB.out)) : w.heap.size≤gb199));have n5_:=Aside0.mk ((by rw [hg];exact Nat.ne_of_lt (blk_lt (blk_up BK198.out)) : gb198≠gb199));have n6_:=Aside0.mk ((by rw [hg];exact Nat.ne_of_gt (blk_lt (blk_up BK198.out)) : gb199≠gb198));clear BK198;clear HB;have BK198:=n0_;have HB:=n1_;have BK199:=n2_;have GW199:=n3_;have GE199:=n4_;have NB198_199:=n5_;have NB199_198:=n6_;clear n0_ n1_ n2_ n3_ n4_ n5_ n6_;clear hb hbox hg;have hnb16:=NB198_199.out;have hnc16:=NB199_198.out;have hcz17_0 : w15.cell? ⟨gb198,0,none⟩=some (.int .i64 a1_0):=(blk_cell BK198.out 0).trans rfl;have hcz17_1 : w15.cell? ⟨gb198,1,none⟩=some (.string a1_1):=(blk_cell BK198.out 1).trans rfl;have hfz17_0:=blk_frozen BK198.out 0;have hfz17_1:=blk_frozen BK198.out 1)|((with_reducible refine gate_callee (f:=47) rfl ?_);refine goesL_ (some 11) rfl rfl Try.func47 (by kernel_rfl) rfl #[.int .i64 a0,.agg #[.int .i64 a1_0,.string a1_1]] rfl (by (try simp only [List.map_toArray,List.map_cons,List.map_nil]);first|done|rfl|(simp only [List.length_drop,List.length_take];rfl)) ?_;(with_reducible refine (thresherref03_Fits.calls k a0 a1_0 a1_1 false _ A4.out).mono ?_);rintro e w18 ⟨rfl,hb⟩;refine ⟨_,rfl,?_⟩;have n0_:=Aside0.mk (blk_below (blk_up BK198.out) hb);have n1_:=Aside0.mk (blk_below (blk_up BK199.out) hb);have n2_:=Aside0.mk (below_step (below_go HB.out) hb);clear BK198;clear BK199;clear HB;have BK198:=n0_;have BK199:=n1_;have HB:=n2_;clear n0_ n1_ n2_;(try clear hb);(try clear hb2);(try clear hk);(try clear hi);have hcz19_0 : w18.cell? ⟨gb199,0,none⟩=some (.int .i64 a2_0):=(blk_cell BK199.out 0).trans rfl;have hcz19_1 : w18.cell? ⟨gb199,1,none⟩=some (.string a2_1):=(blk_cell BK199.out 1).trans rfl;have hfz19_0:=blk_frozen BK199.out 0;have hfz19_1:=blk_frozen BK199.out 1)|((with_reducible refine gate_callee (f:=47) rfl ?_);refine goesL_ (some 14) rfl rfl Try.func47 (by kernel_rfl) rfl #[.int .i64 a0,.agg #[.int .i64 a2_0,.string a2_1]] rfl (by (try simp only [List.map_toArray,List.map_cons,List.map_nil]);first|done|rfl|(simp only [List.length_drop,List.length_take];rfl)) ?_;(with_reducible refine (thresherref03_Fits.calls k a0 a2_0 a2_1 t201 _ A5.out).mono ?_);rintro e w20 ⟨rfl,hb⟩;refine ⟨_,rfl,?_⟩;have n0_:=Aside0.mk (blk_below (blk_up BK198.out) hb);have n1_:=Aside0.mk (blk_below (blk_up BK199.out) hb);have n2_:=Aside0.mk (below_step (below_go HB.out) hb);clear BK198;clear BK199;clear HB;have BK198:=n0_;have BK199:=n1_;have HB:=n2_;clear n0_ n1_ n2_;(try clear hb);(try clear hb2);(try clear hk);(try clear hi)))
  go_ret
  exact ⟨by first|rfl|(simp [errW_none,errW_some] <;> rfl)|(simp [*,errW_none,errW_some] <;> rfl),by repeat (first|(with_reducible first|exact HB.out|apply below_alloc|apply pw_below_drewN|apply below_drew1|refine below_set ?_ GE198.out|refine below_set ?_ GE199.out)|exact HB.out)⟩
mutual
def thresherref03_texts.l0 : Nat→ByteArray→ByteArray→Int→Option (Int)
 | 0,_,_,_=>none
 | k + 1,x0,x1,x5=>if x5 < (x0.size : Int) then (thresherref03_texts.j1 k x0 x1 x5 (decide (x5 < (x1.size : Int)))) else (thresherref03_texts.j1 k x0 x1 x5 false)
def thresherref03_texts.j1 : Nat→ByteArray→ByteArray→Int→Bool→Option (Int)
 | 0,_,_,_,_=>none
 | k + 1,x0,x1,x5,x15=>if x15=true then (if 0≤x5 then (if x5 < (x0.size : Int) then (if x5 < (x1.size : Int) then (if (bt x0 x5) < (bt x1 x5) then (some (-1)) else (if (bt x0 x5) > (bt x1 x5) then (some 1) else (thresherref03_texts.l0 k x0 x1 (wrap64 (x5 + 1))))) else (none)) else (none)) else (none)) else (if (x0.size : Int) < (x1.size : Int) then (some (-1)) else (if (x0.size : Int) > (x1.size : Int) then (some 1) else (some 0)))
end
def thresherref03_texts.f (k : Nat) (a0 : ByteArray) (a1 : ByteArray) : Option (Int):=thresherref03_texts.l0 k a0 a1 0
theorem thresherref03_texts.mono_l : ∀ k,(∀ y0 y1 y2,LeO (thresherref03_texts.l0 k y0 y1 y2) (thresherref03_texts.l0 (k + 1) y0 y1 y2))∧(∀ y0 y1 y2 y3,LeO (thresherref03_texts.j1 k y0 y1 y2 y3) (thresherref03_texts.j1 (k + 1) y0 y1 y2 y3))
 | 0=>⟨fun _ _ _ r h=>by simp [thresherref03_texts.l0] at h,fun _ _ _ _ r h=>by simp [thresherref03_texts.j1] at h⟩
 | k + 1=>by
  obtain ⟨ih0,ih1⟩:=thresherref03_texts.mono_l k
  refine ⟨?_,?_⟩
  ·intro y0 y1 y2
   unfold thresherref03_texts.l0
   repeat' first
   | (with_reducible exact ih0 _ _ _)
   | (with_reducible exact ih1 _ _ _ _)
   | (with_reducible exact LeO.refl _)
   | (with_reducible exact LeO.none _)
   | (with_reducible refine LeO.ite ?_ ?_)
   | (with_reducible refine LeO.bind ?_ (fun _=>?_))
   | exact ih0 _ _ _
   | exact ih1 _ _ _ _
   | exact LeO.none _
   | refine LeO.ite ?_ ?_
   | refine LeO.bind ?_ (fun _=>?_)
  ·intro y0 y1 y2 y3
   unfold thresherref03_texts.j1
   repeat' first
   | (with_reducible exact ih0 _ _ _)
   | (with_reducible exact ih1 _ _ _ _)
   | (with_reducible exact LeO.refl _)
   | (with_reducible exact LeO.none _)
   | (with_reducible refine LeO.ite ?_ ?_)
   | (with_reducible refine LeO.bind ?_ (fun _=>?_))
   | exact ih0 _ _ _
   | exact ih1 _ _ _ _
   | exact LeO.none _
   | refine LeO.ite ?_ ?_
   | refine LeO.bind ?_ (fun _=>?_)
theorem thresherref03_texts.mono : ∀ a0 a1 k,LeO (thresherref03_texts.f k a0 a1) (thresherref03_texts.f (k + 1) a0 a1):=by
 intro a0 a1 k
 obtain ⟨ih0,ih1⟩:=thresherref03_texts.mono_l k
 unfold thresherref03_texts.f
 repeat' first
   | (with_reducible exact ih0 _ _ _)
   | (with_reducible exact ih1 _ _ _ _)
   | (with_reducible exact LeO.refl _)
   | (with_reducible exact LeO.none _)
   | (with_reducible refine LeO.ite ?_ ?_)
   | (with_reducible refine LeO.bind ?_ (fun _=>?_))
   | exact ih0 _ _ _
   | exact ih1 _ _ _ _
   | exact LeO.none _
   | refine LeO.ite ?_ ?_
   | refine LeO.bind ?_ (fun _=>?_)
set_option maxHeartbeats 8000000 in
set_option maxRecDepth 100000 in
theorem thresherref03_texts.calls (k : Nat) (a0 : ByteArray) (a1 : ByteArray) (r : Int) (w : World) (h : thresherref03_texts.f k a0 a1=some r) :
  Calls Try.prog 40 #[.string a0,.string a1] w fun e w'=>e=.returned (.int .i64 r)∧Drawn0 w w':=by
 have H : (thresherref03_texts.l0 k a0 a1 0)=some r:=h
 clear h
 have H':=Aside0.mk H
 clear H
 go_enter Try.func40,Try.ntmps40
 go_wp2
 repeat (go_quiet (fail);try go_wp2)
 go_loopg [5] k (fun kq v5 w'=>∃ (x5_1 : Int),v5=.int .i64 x5_1∧Aside0 (thresherref03_texts.l0 kq a0 a1 x5_1=some r)∧Aside0 (kq≤k)∧Drawn0 w w')
 case atStart=>exact ⟨(0),(by first|rfl|(simp;done)|(simp [*];done)),H',⟨Nat.le_refl _⟩,by repeat (first|exact Drawn0.refl _|apply Drawn0.step)⟩
 case round =>
  clear H'
  try clear p2
  obtain ⟨x5_1,rfl,HA,HK1,⟨m1,rfl⟩⟩:=hrel
  cases gk with
  | zero=>exact absurd HA.out (by simp [thresherref03_texts.l0])
  | succ k1 =>
   have H:=HA.out
   clear HA
   simp only [thresherref03_texts.l0] at H
   have HC3:=Aside0.mk H
   clear H
   go_upto_region 2 with (fail)
   repeat (go_quiet (fail);go_upto_region 2 with (fail))
   go_cut [15] (fun v15 wc=>∃ (kq : Nat) (x15_2 : Bool),v15=.bool x15_2∧Aside0 (thresherref03_texts.j1 kq a0 a1 x5_1 x15_2=some r)∧Aside0 (kq≤k1)∧Drawn0 w wc)
   case first =>
    have H:=HC3.out
    clear HC3
    by_cases c4 : x5_1 < (a0.size : Int)
    ·rw [if_pos c4] at H
     have c4b0 : decide (x5_1 < (a0.size : Int))=true:=decide_eq_true c4
     clear c4
     (first|rw [c4b0]|(simp only [i64_w,i32_w];rw [c4b0])|skip)
     have H':=Aside0.mk H
     clear H
     go_wp2
     repeat (go_quiet (fail);try go_wp2)
     go_meet
     case rel=>exact ⟨_,(decide (x5_1 < (a1.size : Int))),(by first|rfl|(simp;done)|(simp [*];done)),(by first|exact H'|(subst_vars;exact H')),⟨by have:=HK1.out;first|omega|exact Nat.le_refl _⟩,by repeat (first|exact Drawn0.refl _|apply Drawn0.step)⟩
    ·rw [if_neg c4] at H
     have c4b0 : decide (x5_1 < (a0.size : Int))=false:=decide_eq_false c4
     clear c4
     (first|rw [c4b0]|(simp only [i64_w,i32_w];rw [c4b0])|skip)
     have H':=Aside0.mk H
     clear H
     go_wp2
     repeat (go_quiet (fail);try go_wp2)
     go_meet
     case rel=>exact ⟨_,(false),(by first|rfl|(simp;done)|(simp [*];done)),(by first|exact H'|(subst_vars;exact H')),⟨by have:=HK1.out;first|omega|exact Nat.le_refl _⟩,by repeat (first|exact Drawn0.refl _|apply Drawn0.step)⟩
   case rest =>
    clear HC3
    try clear p2
    try clear c4
    try clear c4b0
    try clear p2
    obtain ⟨kq,x15_2,rfl,HA,HJ2,⟨mc2,rfl⟩⟩:=hcut
    cases kq with
    | zero=>exact absurd HA.out (by simp [thresherref03_texts.j1])
    | succ kj2 =>
     have H:=HA.out
     clear HA
     simp only [thresherref03_texts.j1] at H
     by_cases c5 : x15_2=true
     ·subst c5
      have H1 : (if 0≤x5_1 then (if x5_1 < (a0.size : Int) then (if x5_1 < (a1.size : Int) then (if (bt a0 x5_1) < (bt a1 x5_1) then (some (-1)) else (if (bt a0 x5_1) > (bt a1 x5_1) then (some 1) else (thresherref03_texts.l0 kj2 a0 a1 (wrap64 (x5_1 + 1))))) else (none)) else (none)) else (none))=some r:=by rw [if_pos rfl] at H;exact H
      clear H
      have H:=H1
      clear H1
      by_cases c6 : 0≤x5_1
      ·rw [if_pos c6] at H
       have c6b0 : decide (0≤x5_1)=true:=decide_eq_true c6
       clear c6
       by_cases c7 : x5_1 < (a0.size : Int)
       ·rw [if_pos c7] at H
        have c7b0 : decide (x5_1 < (a0.size : Int))=true:=decide_eq_true c7
        clear c7
        by_cases c9 : x5_1 < (a1.size : Int)
        ·rw [if_pos c9] at H
         have c9b0 : decide (x5_1 < (a1.size : Int))=true:=decide_eq_true c9
         clear c9
         by_cases c11 : (bt a0 x5_1) < (bt a1 x5_1)
         ·rw [if_pos c11] at H
          have c11b0 : decide ((bt a0 x5_1) < (bt a1 x5_1))=true:=decide_eq_true c11
          clear c11
          obtain rfl:=Option.some.inj H
          have p8 : 0≤(x5_1 : Int):=of_decide_eq_true (by first|(with_reducible assumption)|assumption)
          have q8 : x5_1 < (a0.size : Int):=of_decide_eq_true (by first|(with_reducible assumption)|assumption)
          have hx8:=bt_at a0 x5_1
          replace p8:=eq_true p8
          replace q8:=eq_true q8
          have p10 : 0≤(x5_1 : Int):=of_decide_eq_true (by first|(with_reducible assumption)|assumption)
          have q10 : x5_1 < (a1.size : Int):=of_decide_eq_true (by first|(with_reducible assumption)|assumption)
          have hx10:=bt_at a1 x5_1
          replace p10:=eq_true p10
          replace q10:=eq_true q10
          go_wp2
          repeat (go_quiet (fail);try go_wp2)
          go_ret
          exact ⟨by first|rfl|(simp;done)|(simp [*];done),by repeat (first|exact Drawn0.refl _|apply Drawn0.step)⟩
         ·rw [if_neg c11] at H
          have c11b0 : decide ((bt a0 x5_1) < (bt a1 x5_1))=false:=decide_eq_false c11
          clear c11
          by_cases c14 : (bt a0 x5_1) > (bt a1 x5_1)
          ·rw [if_pos c14] at H
           have c14b0 : decide ((bt a1 x5_1) < (bt a0 x5_1))=true:=decide_eq_true c14
           clear c14
           obtain rfl:=Option.some.inj H
           have p8 : 0≤(x5_1 : Int):=of_decide_eq_true (by first|(with_reducible assumption)|assumption)
           have q8 : x5_1 < (a0.size : Int):=of_decide_eq_true (by first|(with_reducible assumption)|assumption)
           have hx8:=bt_at a0 x5_1
           replace p8:=eq_true p8
           replace q8:=eq_true q8
           have p10 : 0≤(x5_1 : Int):=of_decide_eq_true (by first|(with_reducible assumption)|assumption)
           have q10 : x5_1 < (a1.size : Int):=of_decide_eq_true (by first|(with_reducible assumption)|assumption)
           have hx10:=bt_at a1 x5_1
           replace p10:=eq_true p10
           replace q10:=eq_true q10
           have p12 : 0≤(x5_1 : Int):=of_decide_eq_true (by first|(with_reducible assumption)|assumption)
           have q12 : x5_1 < (a0.size : Int):=of_decide_eq_true (by first|(with_reducible assumption)|assumption)
           have hx12:=bt_at a0 x5_1
           replace p12:=eq_true p12
           replace q12:=eq_true q12
           have p13 : 0≤(x5_1 : Int):=of_decide_eq_true (by first|(with_reducible assumption)|assumption)
           have q13 : x5_1 < (a1.size : Int):=of_decide_eq_true (by first|(with_reducible assumption)|assumption)
           have hx13:=bt_at a1 x5_1
           replace p13:=eq_true p13
           replace q13:=eq_true q13
           go_wp2
           repeat (go_quiet (fail);try go_wp2)
           go_ret
           exact ⟨by first|rfl|(simp;done)|(simp [*];done),by repeat (first|exact Drawn0.refl _|apply Drawn0.step)⟩
          ·rw [if_neg c14] at H
           have c14b0 : decide ((bt a1 x5_1) < (bt a0 x5_1))=false:=decide_eq_false c14
           clear c14
           have H':=Aside0.mk H
           clear H
           have p8 : 0≤(x5_1 : Int):=of_decide_eq_true (by first|(with_reducible assumption)|assumption)
           have q8 : x5_1 < (a0.size : Int):=of_decide_eq_true (by first|(with_reducible assumption)|assumption)
           have hx8:=bt_at a0 x5_1
           replace p8:=eq_true p8
           replace q8:=eq_true q8
           have p10 : 0≤(x5_1 : Int):=of_decide_eq_true (by first|(with_reducible assumption)|assumption)
           have q10 : x5_1 < (a1.size : Int):=of_decide_eq_true (by first|(with_reducible assumption)|assumption)
           have hx10:=bt_at a1 x5_1
           replace p10:=eq_true p10
           replace q10:=eq_true q10
           have p12 : 0≤(x5_1 : Int):=of_decide_eq_true (by first|(with_reducible assumption)|assumption)
           have q12 : x5_1 < (a0.size : Int):=of_decide_eq_true (by first|(with_reducible assumption)|assumption)
           have hx12:=bt_at a0 x5_1
           replace p12:=eq_true p12
           replace q12:=eq_true q12
           have p13 : 0≤(x5_1 : Int):=of_decide_eq_true (by first|(with_reducible assumption)|assumption)
           have q13 : x5_1 < (a1.size : Int):=of_decide_eq_true (by first|(with_reducible assumption)|assumption)
           have hx13:=bt_at a1 x5_1
           replace p13:=eq_true p13
           replace q13:=eq_true q13
           go_wp2
           repeat (go_quiet (fail);try go_wp2)
           go_roundg kj2
           case measure=>have:=HK1.out;have:=HJ2.out;omega
           case rel=>exact ⟨(wrap64 (x5_1 + 1)),(by first|rfl|(simp;done)|(simp [*];done)),(by first|exact H'|(subst_vars;exact H')),⟨by have:=HK1.out;have:=HJ2.out;omega⟩,by repeat (first|exact Drawn0.refl _|apply Drawn0.step)⟩
        ·rw [if_neg c9] at H
         exact absurd H (by simp)
       ·rw [if_neg c7] at H
        exact absurd H (by simp)
      ·rw [if_neg c6] at H
       exact absurd H (by simp)
     ·replace c5:=Bool.eq_false_iff.mpr c5
      subst c5
      have H1 : (if (a0.size : Int) < (a1.size : Int) then (some (-1)) else (if (a0.size : Int) > (a1.size : Int) then (some 1) else (some 0)))=some r:=by rw [if_neg (show ¬ (false=true) by decide)] at H;exact H
      clear H
      have H:=H1
      clear H1
      by_cases c15 : (a0.size : Int) < (a1.size : Int)
      ·rw [if_pos c15] at H
       have c15b0 : decide ((a0.size : Int) < (a1.size : Int))=true:=decide_eq_true c15
       have c15b1 : decide (a0.size < a1.size)=true:=decide_eq_true (Int.ofNat_lt.mp c15)
       clear c15
       obtain rfl:=Option.some.inj H
       go_wp2
       repeat (go_quiet (fail);try go_wp2)
       go_ret
       exact ⟨by first|rfl|(simp;done)|(simp [*];done),by repeat (first|exact Drawn0.refl _|apply Drawn0.step)⟩
      ·rw [if_neg c15] at H
       have c15b0 : decide ((a0.size : Int) < (a1.size : Int))=false:=decide_eq_false c15
       have c15b1 : decide (a0.size < a1.size)=false:=decide_eq_false (fun h=>c15 (Int.ofNat_lt.mpr h))
       clear c15
       by_cases c16 : (a0.size : Int) > (a1.size : Int)
       ·rw [if_pos c16] at H
        have c16b0 : decide ((a1.size : Int) < (a0.size : Int))=true:=decide_eq_true c16
        have c16b1 : decide (a1.size < a0.size)=true:=decide_eq_true (Int.ofNat_lt.mp c16)
        clear c16
        obtain rfl:=Option.some.inj H
        go_wp2
        repeat (go_quiet (fail);try go_wp2)
        go_ret
        exact ⟨by first|rfl|(simp;done)|(simp [*];done),by repeat (first|exact Drawn0.refl _|apply Drawn0.step)⟩
       ·rw [if_neg c16] at H
        have c16b0 : decide ((a1.size : Int) < (a0.size : Int))=false:=decide_eq_false c16
        have c16b1 : decide (a1.size < a0.size)=false:=decide_eq_false (fun h=>c16 (Int.ofNat_lt.mpr h))
        clear c16
        obtain rfl:=Option.some.inj H
        go_wp2
        repeat (go_quiet (fail);try go_wp2)
        go_ret
        exact ⟨by first|rfl|(simp;done)|(simp [*];done),by repeat (first|exact Drawn0.refl _|apply Drawn0.step)⟩
end Go.Proofs.Ytfiandejapgkoaa.P

