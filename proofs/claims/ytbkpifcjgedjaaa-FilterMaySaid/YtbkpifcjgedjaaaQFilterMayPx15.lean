/- Texts of FilterMay. Merged: Px15. -/
import Derived.Test.YtbkpifcjgedjaaaQFilterMayPx0
import Derived.Test.YtbkpifcjgedjaaaQFilterMayPx2
namespace Go.Proofs.Ytbkpifcjgedjaaa.P
open Go.RowKit Go.Proofs.YtbkpifcjgedjaaaW.PrintWords Go.Proofs.YtbkpifcjgedjaaaW.PrintLast Go.Proofs.YtbkpifcjgedjaaaW.PrintMore
attribute [local go_sem] max2_int min2_int max_two min_two max_three min_three max_four min_four   -- for this text's walks alone
set_option linter.unusedVariables false
set_option linter.unusedSimpArgs false
mutual
def filter_May.l0 : Nat→List (S39)→List (S39)→Int→Int→List Int→Int→Int→Int→Option (Bool)
 | 0,_,_,_,_,_,_,_,_=>none
 | k + 1,x1,x7,x8,x9,x372000,x372001,x372002,x372003=>if x9 < x8 then (if 0≤x9 then (if x9 < (x7.length : Int) then (if ((rd_T39 x7 x9).f0) < 0 then (filter_May.j1 k x1 x7 x8 x9 true x372000 x372001 x372002 x372003 ((rd_T39 x7 x9).f0) ((rd_T39 x7 x9).f1) ((rd_T39 x7 x9).f2.f0) ((rd_T39 x7 x9).f2.f1)) else (filter_May.j1 k x1 x7 x8 x9 (decide (((rd_T39 x7 x9).f0) ≥ (x372000.length : Int))) x372000 x372001 x372002 x372003 ((rd_T39 x7 x9).f0) ((rd_T39 x7 x9).f1) ((rd_T39 x7 x9).f2.f0) ((rd_T39 x7 x9).f2.f1))) else (none)) else (none)) else (some (decide ((x1.length : Int)≤16)))
def filter_May.j1 : Nat→List (S39)→List (S39)→Int→Int→Bool→List Int→Int→Int→Int→Int→Int→Int→ByteArray→Option (Bool)
 | 0,_,_,_,_,_,_,_,_,_,_,_,_,_=>none
 | k + 1,x1,x7,x8,x9,x13,x372000,x372001,x372002,x372003,x374000,x374001,x374002,x374003=>if x13=true then (some false) else (if 0≤x374000 then (if x374000 < (x372000.length : Int) then ((value_Fits.f k (rd x372000 x374000) x374002 x374003).bind fun t375=>(if t375=true then (if x374001 < 1 then (filter_May.j2 k x1 x7 x8 x9 true x372000 x372001 x372002 x372003 x374000 x374001 x374002 x374003) else (filter_May.j2 k x1 x7 x8 x9 (decide (x374001 > 7)) x372000 x372001 x372002 x372003 x374000 x374001 x374002 x374003)) else (filter_May.j2 k x1 x7 x8 x9 true x372000 x372001 x372002 x372003 x374000 x374001 x374002 x374003))) else (none)) else (none))
def filter_May.j2 : Nat→List (S39)→List (S39)→Int→Int→Bool→List Int→Int→Int→Int→Int→Int→Int→ByteArray→Option (Bool)
 | 0,_,_,_,_,_,_,_,_,_,_,_,_,_=>none
 | k + 1,x1,x7,x8,x9,x25,x372000,x372001,x372002,x372003,x374000,x374001,x374002,x374003=>if x25=true then (some false) else (if x374001=7 then (if 0≤x374000 then (if x374000 < (x372000.length : Int) then (if (rd x372000 x374000)=3 then (filter_May.l0 k x1 x7 x8 (wrap64 (x9 + 1)) x372000 x372001 x372002 x372003) else (some false)) else (none)) else (none)) else (filter_May.l0 k x1 x7 x8 (wrap64 (x9 + 1)) x372000 x372001 x372002 x372003))
end
def filter_May.f (k : Nat) (l0_0 : List Int) (a0_1 : Int) (a0_2 : Int) (a0_3 : Int) (l1 : List (S39)) : Option (Bool):=filter_May.l0 k l1 l1 (l1.length : Int) 0 l0_0 a0_1 a0_2 a0_3
theorem filter_May.mono_l : ∀ k,(∀ y0 y1 y2 y3 y4 y5 y6 y7,LeO (filter_May.l0 k y0 y1 y2 y3 y4 y5 y6 y7) (filter_May.l0 (k + 1) y0 y1 y2 y3 y4 y5 y6 y7))∧(∀ y0 y1 y2 y3 y4 y5 y6 y7 y8 y9 y10 y11 y12,LeO (filter_May.j1 k y0 y1 y2 y3 y4 y5 y6 y7 y8 y9 y10 y11 y12) (filter_May.j1 (k + 1) y0 y1 y2 y3 y4 y5 y6 y7 y8 y9 y10 y11 y12))∧(∀ y0 y1 y2 y3 y4 y5 y6 y7 y8 y9 y10 y11 y12,LeO (filter_May.j2 k y0 y1 y2 y3 y4 y5 y6 y7 y8 y9 y10 y11 y12) (filter_May.j2 (k + 1) y0 y1 y2 y3 y4 y5 y6 y7 y8 y9 y10 y11 y12))
 | 0=>⟨fun _ _ _ _ _ _ _ _ r h=>by simp [filter_May.l0] at h,fun _ _ _ _ _ _ _ _ _ _ _ _ _ r h=>by simp [filter_May.j1] at h,fun _ _ _ _ _ _ _ _ _ _ _ _ _ r h=>by simp [filter_May.j2] at h⟩
 | k + 1=>by
  obtain ⟨ih0,ih1,ih2⟩:=filter_May.mono_l k
  refine ⟨?_,?_,?_⟩
  ·intro y0 y1 y2 y3 y4 y5 y6 y7
   unfold filter_May.l0
   repeat' first
   | (with_reducible exact ih0 _ _ _ _ _ _ _ _)
   | (with_reducible exact ih1 _ _ _ _ _ _ _ _ _ _ _ _ _)
   | (with_reducible exact ih2 _ _ _ _ _ _ _ _ _ _ _ _ _)
   | (with_reducible exact value_Fits.mono _ _ _ _)
   | (with_reducible exact LeO.refl _)
   | (with_reducible exact LeO.none _)
   | (with_reducible refine LeO.ite ?_ ?_)
   | (with_reducible refine LeO.bind ?_ (fun _=>?_))
   | exact ih0 _ _ _ _ _ _ _ _
   | exact ih1 _ _ _ _ _ _ _ _ _ _ _ _ _
   | exact ih2 _ _ _ _ _ _ _ _ _ _ _ _ _
   | exact value_Fits.mono _ _ _ _
   | exact LeO.none _
   | refine LeO.ite ?_ ?_
   | refine LeO.bind ?_ (fun _=>?_)
  ·intro y0 y1 y2 y3 y4 y5 y6 y7 y8 y9 y10 y11 y12
   unfold filter_May.j1
   repeat' first
   | (with_reducible exact ih0 _ _ _ _ _ _ _ _)
   | (with_reducible exact ih1 _ _ _ _ _ _ _ _ _ _ _ _ _)
   | (with_reducible exact ih2 _ _ _ _ _ _ _ _ _ _ _ _ _)
   | (with_reducible exact value_Fits.mono _ _ _ _)
   | (with_reducible exact LeO.refl _)
   | (with_reducible exact LeO.none _)
   | (with_reducible refine LeO.ite ?_ ?_)
   | (with_reducible refine LeO.bind ?_ (fun _=>?_))
   | exact ih0 _ _ _ _ _ _ _ _
   | exact ih1 _ _ _ _ _ _ _ _ _ _ _ _ _
   | exact ih2 _ _ _ _ _ _ _ _ _ _ _ _ _
   | exact value_Fits.mono _ _ _ _
   | exact LeO.none _
   | refine LeO.ite ?_ ?_
   | refine LeO.bind ?_ (fun _=>?_)
  ·intro y0 y1 y2 y3 y4 y5 y6 y7 y8 y9 y10 y11 y12
   unfold filter_May.j2
   repeat' first
   | (with_reducible exact ih0 _ _ _ _ _ _ _ _)
   | (with_reducible exact ih1 _ _ _ _ _ _ _ _ _ _ _ _ _)
   | (with_reducible exact ih2 _ _ _ _ _ _ _ _ _ _ _ _ _)
   | (with_reducible exact value_Fits.mono _ _ _ _)
   | (with_reducible exact LeO.refl _)
   | (with_reducible exact LeO.none _)
   | (with_reducible refine LeO.ite ?_ ?_)
   | (with_reducible refine LeO.bind ?_ (fun _=>?_))
   | exact ih0 _ _ _ _ _ _ _ _
   | exact ih1 _ _ _ _ _ _ _ _ _ _ _ _ _
   | exact ih2 _ _ _ _ _ _ _ _ _ _ _ _ _
   | exact value_Fits.mono _ _ _ _
   | exact LeO.none _
   | refine LeO.ite ?_ ?_
   | refine LeO.bind ?_ (fun _=>?_)
theorem filter_May.mono : ∀ a0 a1 a2 a3 a4 k,LeO (filter_May.f k a0 a1 a2 a3 a4) (filter_May.f (k + 1) a0 a1 a2 a3 a4):=by
 intro a0 a1 a2 a3 a4 k
 obtain ⟨ih0,ih1,ih2⟩:=filter_May.mono_l k
 unfold filter_May.f
 repeat' first
   | (with_reducible exact ih0 _ _ _ _ _ _ _ _)
   | (with_reducible exact ih1 _ _ _ _ _ _ _ _ _ _ _ _ _)
   | (with_reducible exact ih2 _ _ _ _ _ _ _ _ _ _ _ _ _)
   | (with_reducible exact value_Fits.mono _ _ _ _)
   | (with_reducible exact LeO.refl _)
   | (with_reducible exact LeO.none _)
   | (with_reducible refine LeO.ite ?_ ?_)
   | (with_reducible refine LeO.bind ?_ (fun _=>?_))
   | exact ih0 _ _ _ _ _ _ _ _
   | exact ih1 _ _ _ _ _ _ _ _ _ _ _ _ _
   | exact ih2 _ _ _ _ _ _ _ _ _ _ _ _ _
   | exact value_Fits.mono _ _ _ _
   | exact LeO.none _
   | refine LeO.ite ?_ ?_
   | refine LeO.bind ?_ (fun _=>?_)
def filter_May.T6 : Bool × List (List Nat × List Nat):=(true,[([],[]),([0],[0]),([],[]),([2],[2]),([1,3],[1,3]),([4],[4]),([],[]),([6],[6]),([5,7],[5,7]),([8],[8]),([9,8],[9]),([10],[10]),([11,10],[10,11]),([12,10],[10,12]),([10,13],[10,13]),([14,10],[14]),([15],[15]),([16,15],[15,16]),([17,15],[15,17]),([15,18],[15,18]),([19,15],[19])])
def filter_May.B6 : List Nat:=[0,1,0,4,15,31,0,64,255,511,1023,2047,4095,8191,16383,32767,65535,131071,262143,524287,1048575]
theorem filter_May.tab6 : rtab .any (opsOf Try.f20 6)=filter_May.T6:=by kernel_rfl
theorem filter_May.bits6 : waitsOk filter_May.T6.2 filter_May.B6=true:=by kernel_rfl
set_option maxHeartbeats 8000000 in
set_option maxRecDepth 100000 in
theorem filter_May.calls (k : Nat) (A0_0 : Option Addr) (c0_0 : Nat) (l0_0 : List Int) (a0_1 : Int) (a0_2 : Int) (a0_3 : Int) (A1 : Option Addr) (c1 : Nat) (l1 : List (S39)) (r : Bool) (w : World) (hr0_0 : Kd.C (Kd.int .i64) w A0_0 l0_0.length l0_0) (hc0_0 : l0_0.length≤c0_0) (hr1 : Kd.C k39 w A1 l1.length l1) (hc1 : l1.length≤c1) (h : filter_May.f k l0_0 a0_1 a0_2 a0_3 l1=some r) :
  Calls Try.prog 20 #[.agg #[.slice A0_0 l0_0.length c0_0,.int .i64 a0_1,.int .i64 a0_2,.int .i64 a0_3],.slice A1 l1.length c1] w fun e w'=>e=.returned (.bool r)∧Below w.heap.size w w':=by
 have hu32:=Try.underlying32
 have hu39:=Try.underlying39
 have hu37:=Try.underlying37
 have HR0_0:=Aside0.mk hr0_0
 have HC0_0:=Aside0.mk hc0_0
 clear hr0_0 hc0_0
 have HR1:=Aside0.mk hr1
 have HC1:=Aside0.mk hc1
 clear hr1 hc1
 have HB:=Aside0.mk (Below.refl w.heap.size w)
 have H : (filter_May.l0 k l1 l1 (l1.length : Int) 0 l0_0 a0_1 a0_2 a0_3)=some r:=h
 clear h
 have H':=Aside0.mk H
 clear H
 go_enter Try.func20,Try.ntmps20
 go_wp2_with (first|((with_reducible refine gate_dst (N:=2) rfl ?_);(try (refine gate_guard (by rfl) ?_;dsimp only));refine box_event ?hg (N:=2) ?hd (cs:=#[.slice A0_0 l0_0.length c0_0,.int .i64 a0_1,.int .i64 a0_2,.int .i64 a0_3]) (t:=32) ?hr ?_;(case hd=>rfl);(case hg=>rfl);(case hr=>first|(go_simp;done)|(go_simp;rfl));intro gb371 hg w3 hbox hb;have n0_:=Aside0.mk (below_step (below_up HB.out) hb);have n1_:=Aside0.mk (hbox);have n2_:=Aside0.mk ((by rw [hg];exact (below_size (below_up HB.out)) : w.heap.size≤gb371));have n3_:=Aside0.mk ((by rw [hg];exact (below_size (below_up HB.out)) : w.heap.size≤gb371));clear HB;have HB:=n0_;have BK371:=n1_;have GW371:=n2_;have GE371:=n3_;clear n0_ n1_ n2_ n3_;clear hb hbox hg))
 go_loopg [9] k (fun kq v9 w'=>∃ (x9_1 : Int),v9=.int .i64 x9_1∧Aside0 (filter_May.l0 kq l1 l1 (l1.length : Int) x9_1 l0_0 a0_1 a0_2 a0_3=some r)∧Aside0 (kq≤k)∧Aside0 (w'.heap[gb371]?=some (.cells #[(.slice A0_0 l0_0.length c0_0),.int .i64 a0_1,.int .i64 a0_2,.int .i64 a0_3] 32 (0,0)))∧Aside0 (Below w.heap.size w w'))
 case atStart=>exact ⟨(0),(by first|rfl|(simp;done)|(simp [*];done)),H',⟨Nat.le_refl _⟩,⟨by (with_reducible repeat (first|refine blk_drewN ?_ _|refine blk_drew ?_|refine blk_alloc ?_ _));exact BK371.out⟩,⟨by repeat (first|(with_reducible first|exact HB.out|apply below_alloc|apply pw_below_drewN|apply below_drew1|refine below_set ?_ GE371.out)|exact HB.out)⟩⟩
 case round =>
  clear H'
  try clear c1
  try clear c2
  try clear p2
  obtain ⟨x9_1,rfl,HA,HK1,BK371,HB⟩:=hrel
  cases gk with
  | zero=>exact absurd HA.out (by simp [filter_May.l0])
  | succ k1 =>
   have H:=HA.out
   clear HA
   simp only [filter_May.l0] at H
   by_cases c4 : x9_1 < (l1.length : Int)
   ·rw [if_pos c4] at H
    have c4b0 : decide (x9_1 < (l1.length : Int))=true:=decide_eq_true c4
    clear c4
    by_cases c5 : 0≤x9_1
    ·rw [if_pos c5] at H
     have c5b0 : decide (0≤x9_1)=true:=decide_eq_true c5
     clear c5
     by_cases c6 : x9_1 < (l1.length : Int)
     ·rw [if_pos c6] at H
      have c6b0 : decide (x9_1 < (l1.length : Int))=true:=decide_eq_true c6
      clear c6
      have HC7:=Aside0.mk H
      clear H
      have p372 : 0≤(x9_1 : Int):=of_decide_eq_true (by first|(with_reducible assumption)|assumption)
      have q372 : x9_1 < (l1.length : Int):=of_decide_eq_true (by first|(with_reducible assumption)|assumption)
      obtain ⟨ad372,e372,hx372_0,hx372_1,hx372_2,hx372_3⟩:=at_T39 HR1.out x9_1 p372 q372
      cases e372
      replace hx372_0:=(HB.out.cell (World.block_lt_of_cell? w _ hx372_0)).trans hx372_0
      replace hx372_1:=(HB.out.cell (World.block_lt_of_cell? w _ hx372_1)).trans hx372_1
      replace hx372_2:=(HB.out.cell (World.block_lt_of_cell? w _ hx372_2)).trans hx372_2
      replace hx372_3:=(HB.out.cell (World.block_lt_of_cell? w _ hx372_3)).trans hx372_3
      replace p372:=eq_true p372
      replace q372:=eq_true q372
      go_upto_region 4 with (first|((with_reducible refine gate_dst (N:=6) rfl ?_);(try (refine gate_guard (by rfl) ?_;dsimp only));refine box_event ?hg (N:=6) ?hd (cs:=#[.int .i64 0,.int .i64 0,.int .i64 0,.string (⟨#[]⟩ : ByteArray)]) (t:=39) ?hr ?_;(case hd=>rfl);(case hg=>rfl);(case hr=>first|(go_simp;done)|(go_simp;rfl));intro gb373 hg w8 hbox hb;have n0_:=Aside0.mk (blk_below (blk_up BK371.out) hb);have n1_:=Aside0.mk (below_step (below_go HB.out) hb);have n2_:=Aside0.mk (hbox);have n3_:=Aside0.mk ((by rw [hg];exact (below_size (below_go HB.out)) : w.heap.size≤gb373));have n4_:=Aside0.mk ((by rw [hg];exact (below_size (below_go HB.out)) : w.heap.size≤gb373));have n5_:=Aside0.mk ((by rw [hg];exact Nat.ne_of_lt (blk_lt (blk_up BK371.out)) : gb371≠gb373));have n6_:=Aside0.mk ((by rw [hg];exact Nat.ne_of_gt (blk_lt (blk_up BK371.out)) : gb373≠gb371));clear BK371;clear HB;have BK371:=n0_;have HB:=n1_;have BK373:=n2_;have GW373:=n3_;have GE373:=n4_;have NB371_373:=n5_;have NB373_371:=n6_;clear n0_ n1_ n2_ n3_ n4_ n5_ n6_;clear hb hbox hg;have hnb9:=NB373_371.out;have hnc9:=NB371_373.out;have hcz10_0 : w8.cell? ⟨gb373,0,none⟩=some (.int .i64 0):=(blk_cell BK373.out 0).trans rfl;have hcz10_1 : w8.cell? ⟨gb373,1,none⟩=some (.int .i64 0):=(blk_cell BK373.out 1).trans rfl;have hcz10_2 : w8.cell? ⟨gb373,2,none⟩=some (.int .i64 0):=(blk_cell BK373.out 2).trans rfl;have hcz10_3 : w8.cell? ⟨gb373,3,none⟩=some (.string (⟨#[]⟩ : ByteArray)):=(blk_cell BK373.out 3).trans rfl;have hfz10_0:=blk_frozen BK373.out 0;have hfz10_1:=blk_frozen BK373.out 1;have hfz10_2:=blk_frozen BK373.out 2;have hfz10_3:=blk_frozen BK373.out 3))
      (try simp only [Act.put,List.setIfInBounds_toArray,List.set_cons_zero,List.set_cons_succ])
      go_cut [13] (fun v13 wc=>∃ (kq : Nat) (x13_6 : Bool),v13=.bool x13_6∧Aside0 (filter_May.j1 kq l1 l1 (l1.length : Int) x9_1 x13_6 l0_0 a0_1 a0_2 a0_3 ((rd_T39 l1 x9_1).f0) ((rd_T39 l1 x9_1).f1) ((rd_T39 l1 x9_1).f2.f0) ((rd_T39 l1 x9_1).f2.f1)=some r)∧Aside0 (kq≤k1)∧Aside0 (wc.heap[gb371]?=some (.cells #[(.slice A0_0 l0_0.length c0_0),.int .i64 a0_1,.int .i64 a0_2,.int .i64 a0_3] 32 (0,0)))∧Aside0 (wc.heap[gb373]?=some (.cells #[.int .i64 ((rd_T39 l1 x9_1).f0),.int .i64 ((rd_T39 l1 x9_1).f1),.int .i64 ((rd_T39 l1 x9_1).f2.f0),.string ((rd_T39 l1 x9_1).f2.f1)] 39 (0,0)))∧Aside0 (Below w.heap.size w wc))
      case first =>
       have H:=HC7.out
       clear HC7
       by_cases c11 : ((rd_T39 l1 x9_1).f0) < 0
       ·rw [if_pos c11] at H
        have c11b0 : decide (((rd_T39 l1 x9_1).f0) < 0)=true:=decide_eq_true c11
        clear c11
        (first|rw [c11b0]|(simp only [i64_w,i32_w];rw [c11b0])|skip)
        have H':=Aside0.mk H
        clear H
        have hnb12:=NB373_371.out
        have hnc12:=NB371_373.out
        have hcz13_0 : w8.cell? ⟨gb373,0,none⟩=some (.int .i64 0):=(blk_cell BK373.out 0).trans rfl
        have hcz13_1 : w8.cell? ⟨gb373,1,none⟩=some (.int .i64 0):=(blk_cell BK373.out 1).trans rfl
        have hcz13_2 : w8.cell? ⟨gb373,2,none⟩=some (.int .i64 0):=(blk_cell BK373.out 2).trans rfl
        have hcz13_3 : w8.cell? ⟨gb373,3,none⟩=some (.string (⟨#[]⟩ : ByteArray)):=(blk_cell BK373.out 3).trans rfl
        have hfz13_0:=blk_frozen BK373.out 0
        have hfz13_1:=blk_frozen BK373.out 1
        have hfz13_2:=blk_frozen BK373.out 2
        have hfz13_3:=blk_frozen BK373.out 3
        go_wp2
        go_meet
        case rel=>exact ⟨_,(true),(by first|rfl|(simp;done)|(simp [*];done)),(by first|exact H'|(subst_vars;exact H')),⟨by have:=HK1.out;first|omega|exact Nat.le_refl _⟩,⟨by (with_reducible repeat (first|refine blk_drewN ?_ _|refine blk_drew ?_|refine blk_alloc ?_ _));refine blk_far ?_ NB371_373.out _;(with_reducible repeat (first|refine blk_drewN ?_ _|refine blk_drew ?_|refine blk_alloc ?_ _));refine blk_far ?_ NB371_373.out _;(with_reducible repeat (first|refine blk_drewN ?_ _|refine blk_drew ?_|refine blk_alloc ?_ _));refine blk_far ?_ NB371_373.out _;(with_reducible repeat (first|refine blk_drewN ?_ _|refine blk_drew ?_|refine blk_alloc ?_ _));refine blk_far ?_ NB371_373.out _;(with_reducible repeat (first|refine blk_drewN ?_ _|refine blk_drew ?_|refine blk_alloc ?_ _));exact BK371.out⟩,⟨by (with_reducible repeat (first|refine blk_drewN ?_ _|refine blk_drew ?_|refine blk_alloc ?_ _));refine blk_put (cs:=#[.int .i64 ((rd_T39 l1 x9_1).f0),.int .i64 ((rd_T39 l1 x9_1).f1),.int .i64 ((rd_T39 l1 x9_1).f2.f0),.string (⟨#[]⟩ : ByteArray)]) ?_ 3 _ rfl;(with_reducible repeat (first|refine blk_drewN ?_ _|refine blk_drew ?_|refine blk_alloc ?_ _));refine blk_put (cs:=#[.int .i64 ((rd_T39 l1 x9_1).f0),.int .i64 ((rd_T39 l1 x9_1).f1),.int .i64 0,.string (⟨#[]⟩ : ByteArray)]) ?_ 2 _ rfl;(with_reducible repeat (first|refine blk_drewN ?_ _|refine blk_drew ?_|refine blk_alloc ?_ _));refine blk_put (cs:=#[.int .i64 ((rd_T39 l1 x9_1).f0),.int .i64 0,.int .i64 0,.string (⟨#[]⟩ : ByteArray)]) ?_ 1 _ rfl;(with_reducible repeat (first|refine blk_drewN ?_ _|refine blk_drew ?_|refine blk_alloc ?_ _));refine blk_put (cs:=#[.int .i64 0,.int .i64 0,.int .i64 0,.string (⟨#[]⟩ : ByteArray)]) ?_ 0 _ rfl;(with_reducible repeat (first|refine blk_drewN ?_ _|refine blk_drew ?_|refine blk_alloc ?_ _));exact BK373.out⟩,⟨by repeat (first|(with_reducible first|exact HB.out|apply below_alloc|apply pw_below_drewN|apply below_drew1|refine below_set ?_ GE371.out|refine below_set ?_ GE373.out)|exact HB.out)⟩⟩
       ·rw [if_neg c11] at H
        have c11b0 : decide (((rd_T39 l1 x9_1).f0) < 0)=false:=decide_eq_false c11
        clear c11
        (first|rw [c11b0]|(simp only [i64_w,i32_w];rw [c11b0])|skip)
        have H':=Aside0.mk H
        clear H
        have hnb14:=NB373_371.out
        have hnc14:=NB371_373.out
        have hcz15_0 : w8.cell? ⟨gb373,0,none⟩=some (.int .i64 0):=(blk_cell BK373.out 0).trans rfl
        have hcz15_1 : w8.cell? ⟨gb373,1,none⟩=some (.int .i64 0):=(blk_cell BK373.out 1).trans rfl
        have hcz15_2 : w8.cell? ⟨gb373,2,none⟩=some (.int .i64 0):=(blk_cell BK373.out 2).trans rfl
        have hcz15_3 : w8.cell? ⟨gb373,3,none⟩=some (.string (⟨#[]⟩ : ByteArray)):=(blk_cell BK373.out 3).trans rfl
        have hfz15_0:=blk_frozen BK373.out 0
        have hfz15_1:=blk_frozen BK373.out 1
        have hfz15_2:=blk_frozen BK373.out 2
        have hfz15_3:=blk_frozen BK373.out 3
        have hcz16_0 : w8.cell? ⟨gb371,0,none⟩=some (.slice A0_0 l0_0.length c0_0):=(blk_cell BK371.out 0).trans rfl
        have hcz16_1 : w8.cell? ⟨gb371,1,none⟩=some (.int .i64 a0_1):=(blk_cell BK371.out 1).trans rfl
        have hcz16_2 : w8.cell? ⟨gb371,2,none⟩=some (.int .i64 a0_2):=(blk_cell BK371.out 2).trans rfl
        have hcz16_3 : w8.cell? ⟨gb371,3,none⟩=some (.int .i64 a0_3):=(blk_cell BK371.out 3).trans rfl
        have hfz16_0:=blk_frozen BK371.out 0
        have hfz16_1:=blk_frozen BK371.out 1
        have hfz16_2:=blk_frozen BK371.out 2
        have hfz16_3:=blk_frozen BK371.out 3
        go_wp2
        go_meet
        case rel=>exact ⟨_,(decide (((rd_T39 l1 x9_1).f0) ≥ (l0_0.length : Int))),(by first|rfl|(simp;done)|(simp [*];done)),(by first|exact H'|(subst_vars;exact H')),⟨by have:=HK1.out;first|omega|exact Nat.le_refl _⟩,⟨by (with_reducible repeat (first|refine blk_drewN ?_ _|refine blk_drew ?_|refine blk_alloc ?_ _));refine blk_far ?_ NB371_373.out _;(with_reducible repeat (first|refine blk_drewN ?_ _|refine blk_drew ?_|refine blk_alloc ?_ _));refine blk_far ?_ NB371_373.out _;(with_reducible repeat (first|refine blk_drewN ?_ _|refine blk_drew ?_|refine blk_alloc ?_ _));refine blk_far ?_ NB371_373.out _;(with_reducible repeat (first|refine blk_drewN ?_ _|refine blk_drew ?_|refine blk_alloc ?_ _));refine blk_far ?_ NB371_373.out _;(with_reducible repeat (first|refine blk_drewN ?_ _|refine blk_drew ?_|refine blk_alloc ?_ _));exact BK371.out⟩,⟨by (with_reducible repeat (first|refine blk_drewN ?_ _|refine blk_drew ?_|refine blk_alloc ?_ _));refine blk_put (cs:=#[.int .i64 ((rd_T39 l1 x9_1).f0),.int .i64 ((rd_T39 l1 x9_1).f1),.int .i64 ((rd_T39 l1 x9_1).f2.f0),.string (⟨#[]⟩ : ByteArray)]) ?_ 3 _ rfl;(with_reducible repeat (first|refine blk_drewN ?_ _|refine blk_drew ?_|refine blk_alloc ?_ _));refine blk_put (cs:=#[.int .i64 ((rd_T39 l1 x9_1).f0),.int .i64 ((rd_T39 l1 x9_1).f1),.int .i64 0,.string (⟨#[]⟩ : ByteArray)]) ?_ 2 _ rfl;(with_reducible repeat (first|refine blk_drewN ?_ _|refine blk_drew ?_|refine blk_alloc ?_ _));refine blk_put (cs:=#[.int .i64 ((rd_T39 l1 x9_1).f0),.int .i64 0,.int .i64 0,.string (⟨#[]⟩ : ByteArray)]) ?_ 1 _ rfl;(with_reducible repeat (first|refine blk_drewN ?_ _|refine blk_drew ?_|refine blk_alloc ?_ _));refine blk_put (cs:=#[.int .i64 0,.int .i64 0,.int .i64 0,.string (⟨#[]⟩ : ByteArray)]) ?_ 0 _ rfl;(with_reducible repeat (first|refine blk_drewN ?_ _|refine blk_drew ?_|refine blk_alloc ?_ _));exact BK373.out⟩,⟨by repeat (first|(with_reducible first|exact HB.out|apply below_alloc|apply pw_below_drewN|apply below_drew1|refine below_set ?_ GE371.out|refine below_set ?_ GE373.out)|exact HB.out)⟩⟩
      case rest =>
       clear HC7
       try clear c1
       try clear c2
       try clear p2
       try clear p3
       try clear q3
       try clear hx3
       try clear c4
       try clear c4b0
       try clear c5
       try clear c5b0
       try clear c6
       try clear c6b0
       try clear c9
       try clear c11
       try clear c11b0
       try clear c12
       try clear c14
       try clear hcz10_0
       try clear hcz10_1
       try clear hcz10_2
       try clear hcz10_3
       try clear hcz13_0
       try clear hcz13_1
       try clear hcz13_2
       try clear hcz13_3
       try clear hcz15_0
       try clear hcz15_1
       try clear hcz15_2
       try clear hcz15_3
       try clear hcz16_0
       try clear hcz16_1
       try clear hcz16_2
       try clear hcz16_3
       try clear hfz10_0
       try clear hfz10_1
       try clear hfz10_2
       try clear hfz10_3
       try clear hfz13_0
       try clear hfz13_1
       try clear hfz13_2
       try clear hfz13_3
       try clear hfz15_0
       try clear hfz15_1
       try clear hfz15_2
       try clear hfz15_3
       try clear hfz16_0
       try clear hfz16_1
       try clear hfz16_2
       try clear hfz16_3
       try clear hx372_0
       try clear hx372_1
       try clear hx372_2
       try clear hx372_3
       try clear p2
       try clear p372
       try clear q372
       obtain ⟨kq,x13_6,rfl,HA,HJ6,BK371,BK373,HB⟩:=hcut
       cases kq with
       | zero=>exact absurd HA.out (by simp [filter_May.j1])
       | succ kj6 =>
        have H:=HA.out
        clear HA
        simp only [filter_May.j1] at H
        by_cases c17 : x13_6=true
        ·subst c17
         have H1 : (some false)=some r:=by rw [if_pos rfl] at H;exact H
         clear H
         have H:=H1
         clear H1
         obtain rfl:=Option.some.inj H
         go_wp2
         go_ret
         exact ⟨by first|rfl|(simp [errW_none,errW_some] <;> rfl)|(simp [*,errW_none,errW_some] <;> rfl),by repeat (first|(with_reducible first|exact HB.out|apply below_alloc|apply pw_below_drewN|apply below_drew1|refine below_set ?_ GE371.out|refine below_set ?_ GE373.out)|exact HB.out)⟩
        ·replace c17:=Bool.eq_false_iff.mpr c17
         subst c17
         have H1 : (if 0≤((rd_T39 l1 x9_1).f0) then (if ((rd_T39 l1 x9_1).f0) < (l0_0.length : Int) then ((value_Fits.f kj6 (rd l0_0 ((rd_T39 l1 x9_1).f0)) ((rd_T39 l1 x9_1).f2.f0) ((rd_T39 l1 x9_1).f2.f1)).bind fun t375=>(if t375=true then (if ((rd_T39 l1 x9_1).f1) < 1 then (filter_May.j2 kj6 l1 l1 (l1.length : Int) x9_1 true l0_0 a0_1 a0_2 a0_3 ((rd_T39 l1 x9_1).f0) ((rd_T39 l1 x9_1).f1) ((rd_T39 l1 x9_1).f2.f0) ((rd_T39 l1 x9_1).f2.f1)) else (filter_May.j2 kj6 l1 l1 (l1.length : Int) x9_1 (decide (((rd_T39 l1 x9_1).f1) > 7)) l0_0 a0_1 a0_2 a0_3 ((rd_T39 l1 x9_1).f0) ((rd_T39 l1 x9_1).f1) ((rd_T39 l1 x9_1).f2.f0) ((rd_T39 l1 x9_1).f2.f1))) else (filter_May.j2 kj6 l1 l1 (l1.length : Int) x9_1 true l0_0 a0_1 a0_2 a0_3 ((rd_T39 l1 x9_1).f0) ((rd_T39 l1 x9_1).f1) ((rd_T39 l1 x9_1).f2.f0) ((rd_T39 l1 x9_1).f2.f1)))) else (none)) else (none))=some r:=by rw [if_neg (show ¬ (false=true) by decide)] at H;exact H
         clear H
         have H:=H1
         clear H1
         have HC18:=Aside0.mk H
         clear H
         go_upto_region 6 with (fail)
         go_cut [25] (fun v25 wc=>∃ (kq : Nat) (x25_17 : Bool),v25=.bool x25_17∧Aside0 (filter_May.j2 kq l1 l1 (l1.length : Int) x9_1 x25_17 l0_0 a0_1 a0_2 a0_3 ((rd_T39 l1 x9_1).f0) ((rd_T39 l1 x9_1).f1) ((rd_T39 l1 x9_1).f2.f0) ((rd_T39 l1 x9_1).f2.f1)=some r)∧Aside0 (kq≤kj6)∧Aside0 (wc.heap[gb371]?=some (.cells #[(.slice A0_0 l0_0.length c0_0),.int .i64 a0_1,.int .i64 a0_2,.int .i64 a0_3] 32 (0,0)))∧Aside0 (wc.heap[gb373]?=some (.cells #[.int .i64 ((rd_T39 l1 x9_1).f0),.int .i64 ((rd_T39 l1 x9_1).f1),.int .i64 ((rd_T39 l1 x9_1).f2.f0),.string ((rd_T39 l1 x9_1).f2.f1)] 39 (0,0)))∧Aside0 (Below w.heap.size w wc))
         case first =>
          have H:=HC18.out
          clear HC18
          by_cases c19 : 0≤((rd_T39 l1 x9_1).f0)
          ·rw [if_pos c19] at H
           have c19b0 : decide (0≤((rd_T39 l1 x9_1).f0))=true:=decide_eq_true c19
           clear c19
           (first|rw [c19b0]|(simp only [i64_w,i32_w];rw [c19b0])|skip)
           by_cases c20 : ((rd_T39 l1 x9_1).f0) < (l0_0.length : Int)
           ·rw [if_pos c20] at H
            have c20b0 : decide (((rd_T39 l1 x9_1).f0) < (l0_0.length : Int))=true:=decide_eq_true c20
            clear c20
            replace H:=Option.bind_eq_some_iff.mp H
            obtain ⟨t375,A210,H⟩:=H
            replace H : (if t375=true then (if ((rd_T39 l1 x9_1).f1) < 1 then (filter_May.j2 kj6 l1 l1 (l1.length : Int) x9_1 true l0_0 a0_1 a0_2 a0_3 ((rd_T39 l1 x9_1).f0) ((rd_T39 l1 x9_1).f1) ((rd_T39 l1 x9_1).f2.f0) ((rd_T39 l1 x9_1).f2.f1)) else (filter_May.j2 kj6 l1 l1 (l1.length : Int) x9_1 (decide (((rd_T39 l1 x9_1).f1) > 7)) l0_0 a0_1 a0_2 a0_3 ((rd_T39 l1 x9_1).f0) ((rd_T39 l1 x9_1).f1) ((rd_T39 l1 x9_1).f2.f0) ((rd_T39 l1 x9_1).f2.f1))) else (filter_May.j2 kj6 l1 l1 (l1.length : Int) x9_1 true l0_0 a0_1 a0_2 a0_3 ((rd_T39 l1 x9_1).f0) ((rd_T39 l1 x9_1).f1) ((rd_T39 l1 x9_1).f2.f0) ((rd_T39 l1 x9_1).f2.f1)))=some r:=H
            have A21:=Aside0.mk A210
            clear A210
            by_cases c22 : t375=true
            ·subst c22
             have H1 : (if ((rd_T39 l1 x9_1).f1) < 1 then (filter_May.j2 kj6 l1 l1 (l1.length : Int) x9_1 true l0_0 a0_1 a0_2 a0_3 ((rd_T39 l1 x9_1).f0) ((rd_T39 l1 x9_1).f1) ((rd_T39 l1 x9_1).f2.f0) ((rd_T39 l1 x9_1).f2.f1)) else (filter_May.j2 kj6 l1 l1 (l1.length : Int) x9_1 (decide (((rd_T39 l1 x9_1).f1) > 7)) l0_0 a0_1 a0_2 a0_3 ((rd_T39 l1 x9_1).f0) ((rd_T39 l1 x9_1).f1) ((rd_T39 l1 x9_1).f2.f0) ((rd_T39 l1 x9_1).f2.f1)))=some r:=by rw [if_pos rfl] at H;exact H
             clear H
             have H:=H1
             clear H1
             by_cases c23 : ((rd_T39 l1 x9_1).f1) < 1
             ·rw [if_pos c23] at H
              have c23b0 : decide (((rd_T39 l1 x9_1).f1) < 1)=true:=decide_eq_true c23
              clear c23
              have H':=Aside0.mk H
              clear H
              try go_wp2
              have n0_:=Aside0.mk (blk_drew BK371.out)
              have n1_:=Aside0.mk (blk_drew BK373.out)
              have n2_:=Aside0.mk (below_drew1 HB.out)
              clear BK371
              clear BK373
              clear HB
              have BK371:=n0_
              have BK373:=n1_
              have HB:=n2_
              clear n0_ n1_ n2_
              have p374 : 0≤(((rd_T39 l1 x9_1).f0) : Int):=of_decide_eq_true (by first|(with_reducible assumption)|assumption)
              have q374 : ((rd_T39 l1 x9_1).f0) < (l0_0.length : Int):=of_decide_eq_true (by first|(with_reducible assumption)|assumption)
              obtain ⟨ad374,e374,hx374_0⟩:=Kd.at_int HR0_0.out ((rd_T39 l1 x9_1).f0) p374 q374
              have hw374_0:=hx374_0
              cases e374
              replace hx374_0:=(HB.out.cell (World.block_lt_of_cell? w _ hx374_0)).trans hx374_0
              replace p374:=eq_true p374
              replace q374:=eq_true q374
              refine start_ (n:=21) (S:=fun w'=>w'.cell? ⟨gb371,0,none⟩=some (.slice (some ad374) l0_0.length c0_0)∧w'.cell? ⟨gb371,1,none⟩=some (.int .i64 a0_1)∧w'.cell? ⟨gb371,2,none⟩=some (.int .i64 a0_2)∧w'.cell? ⟨gb371,3,none⟩=some (.int .i64 a0_3)∧w'.cell? ⟨gb373,0,none⟩=some (.int .i64 ((rd_T39 l1 x9_1).f0))∧w'.cell? ⟨gb373,1,none⟩=some (.int .i64 ((rd_T39 l1 x9_1).f1))∧w'.cell? ⟨gb373,2,none⟩=some (.int .i64 ((rd_T39 l1 x9_1).f2.f0))∧w'.cell? ⟨gb373,3,none⟩=some (.string ((rd_T39 l1 x9_1).f2.f1))∧w'.cell? (ad374.add (((rd_T39 l1 x9_1).f0)).toNat)=some (.int .i64 (rd l0_0 ((rd_T39 l1 x9_1).f0)))) (ds:=[]) #[false,false,false,false,false,false,false,false,false,false,false,false,false,false,false,false,false,false,false,false,false] (by kernel_rfl) rfl rfl ⟨(blk_cell BK371.out 0).trans rfl,(blk_cell BK371.out 1).trans rfl,(blk_cell BK371.out 2).trans rfl,(blk_cell BK371.out 3).trans rfl,(blk_cell BK373.out 0).trans rfl,(blk_cell BK373.out 1).trans rfl,(blk_cell BK373.out 2).trans rfl,(blk_cell BK373.out 3).trans rfl,((HB.out.cell (World.block_lt_of_cell? w _ hw374_0)).trans hw374_0)⟩ (fun hHeld=>?_);refine with_tabW filter_May.tab6 filter_May.bits6 (fun HT_ HW_=>?_)
              generalize wc.drew=w24 at BK371 BK373 HB hx374_0 hHeld ⊢
              refine pure_ (i:=0) (N:=some 26) (v:=?_) (a':=?_) #[true,false,false,false,false,false,false,false,false,false,false,false,false,false,false,false,false,false,false,false,false] rfl rfl (any_of HT_.out (by kernel_rfl)) (fun _ _ _ h=>h) (Or.inl ⟨by rfl,?_⟩) ?_ ?_
              rotate_left;(intro w';go_simp;with_reducible rfl);rotate_left;(simp only [Act.put,List.setIfInBounds_toArray,List.set_cons_zero,List.set_cons_succ,i64_w,i32_w];rfl)
              refine pure_ (i:=2) (N:=some 28) (v:=?_) (a':=?_) #[true,false,true,false,false,false,false,false,false,false,false,false,false,false,false,false,false,false,false,false,false] rfl rfl (any_of HT_.out (by kernel_rfl)) (fun _ _ _ h=>h) (Or.inl ⟨by rfl,?_⟩) ?_ ?_
              rotate_left;(intro w';go_simp;with_reducible rfl);rotate_left;(simp only [Act.put,List.setIfInBounds_toArray,List.set_cons_zero,List.set_cons_succ,i64_w,i32_w];rfl)
              refine pure_ (i:=6) (N:=some 32) (v:=?_) (a':=?_) #[true,false,true,false,false,false,true,false,false,false,false,false,false,false,false,false,false,false,false,false,false] rfl rfl (any_of HT_.out (by kernel_rfl)) (fun _ _ _ h=>h) (Or.inl ⟨by rfl,?_⟩) ?_ ?_
              rotate_left;(intro w';go_simp;with_reducible rfl);rotate_left;(simp only [Act.put,List.setIfInBounds_toArray,List.set_cons_zero,List.set_cons_succ,i64_w,i32_w];rfl)
              refine take_ (i:=1) (N:=some 27) (v:=?_) (a':=?_) #[true,true,true,false,false,false,true,false,false,false,false,false,false,false,false,false,false,false,false,false,false] rfl rfl (take_ofW HT_.out HW_.out (by kernel_rfl)) (fun _ _ _ h=>h) (Or.inl ⟨by rfl,?_⟩) hHeld ?_ ?_
              rotate_left;(rintro w' ⟨s0,s1,s2,s3,s4,s5,s6,s7,s8⟩;go_simp;with_reducible rfl);rotate_left;(simp only [Act.put,List.setIfInBounds_toArray,List.set_cons_zero,List.set_cons_succ,i64_w,i32_w];rfl)
              refine take_ (i:=3) (N:=some 29) (v:=?_) (a':=?_) #[true,true,true,true,false,false,true,false,false,false,false,false,false,false,false,false,false,false,false,false,false] rfl rfl (take_ofW HT_.out HW_.out (by kernel_rfl)) (fun _ _ _ h=>h) (Or.inl ⟨by rfl,?_⟩) hHeld ?_ ?_
              rotate_left;(rintro w' ⟨s0,s1,s2,s3,s4,s5,s6,s7,s8⟩;go_simp;with_reducible rfl);rotate_left;(simp only [Act.put,List.setIfInBounds_toArray,List.set_cons_zero,List.set_cons_succ,i64_w,i32_w];rfl)
              refine pure_ (i:=4) (N:=some 30) (v:=?_) (a':=?_) #[true,true,true,true,true,false,true,false,false,false,false,false,false,false,false,false,false,false,false,false,false] rfl rfl (any_of HT_.out (by kernel_rfl)) (fun _ _ _ h=>h) (Or.inl ⟨by rfl,?_⟩) ?_ ?_
              rotate_left;(intro w';go_simp;with_reducible rfl);rotate_left;(simp only [Act.put,List.setIfInBounds_toArray,List.set_cons_zero,List.set_cons_succ,i64_w,i32_w];rfl)
              refine take_ (i:=5) (N:=some 31) (v:=?_) (a':=?_) #[true,true,true,true,true,true,true,false,false,false,false,false,false,false,false,false,false,false,false,false,false] rfl rfl (take_ofW HT_.out HW_.out (by kernel_rfl)) (fun _ _ _ h=>h) (Or.inl ⟨by rfl,?_⟩) hHeld ?_ ?_
              rotate_left;(rintro w' ⟨s0,s1,s2,s3,s4,s5,s6,s7,s8⟩;go_simp;with_reducible rfl);rotate_left;(simp only [Act.put,List.setIfInBounds_toArray,List.set_cons_zero,List.set_cons_succ,i64_w,i32_w];rfl)
              refine take_ (i:=7) (N:=some 33) (v:=?_) (a':=?_) #[true,true,true,true,true,true,true,true,false,false,false,false,false,false,false,false,false,false,false,false,false] rfl rfl (take_ofW HT_.out HW_.out (by kernel_rfl)) (fun _ _ _ h=>h) (Or.inl ⟨by rfl,?_⟩) hHeld ?_ ?_
              rotate_left;(rintro w' ⟨s0,s1,s2,s3,s4,s5,s6,s7,s8⟩;go_simp;with_reducible rfl);rotate_left;(simp only [Act.put,List.setIfInBounds_toArray,List.set_cons_zero,List.set_cons_succ,i64_w,i32_w];rfl)
              refine one_ (i:=8) (N:=some 34) #[true,true,true,true,true,true,true,true,true,false,false,false,false,false,false,false,false,false,false,false,false] rfl rfl (one_of HT_.out (by kernel_rfl)) (by decide) (fun K hK=>?_)
              refine goes_ Try.func27 (by kernel_rfl) rfl #[.int .i64 (rd l0_0 ((rd_T39 l1 x9_1).f0)),.agg #[.int .i64 ((rd_T39 l1 x9_1).f2.f0),.string ((rd_T39 l1 x9_1).f2.f1)]] (by rfl) rfl rfl (by (try simp only [List.map_toArray,List.map_cons,List.map_nil]);first|done|rfl|(simp only [List.length_drop,List.length_take];rfl)) ?_
              with_reducible refine (value_Fits.calls kj6 (rd l0_0 ((rd_T39 l1 x9_1).f0)) ((rd_T39 l1 x9_1).f2.f0) ((rd_T39 l1 x9_1).f2.f1) true _ A21.out).mono ?_
              rintro e w25 ⟨rfl,hb⟩
              refine ⟨_,rfl,?_⟩
              have n0_:=Aside0.mk (blk_below (blk_up BK371.out) hb)
              have n1_:=Aside0.mk (blk_below (blk_up BK373.out) hb)
              have n2_:=Aside0.mk (below_step (below_go HB.out) hb)
              clear BK371
              clear BK373
              clear HB
              have BK371:=n0_
              have BK373:=n1_
              have HB:=n2_
              clear n0_ n1_ n2_
              (try clear hb)
              (try clear hb2)
              (try clear hk)
              (try clear hi)
              refine hK.out _ _ ⟨(blk_cell BK371.out 0).trans rfl,(blk_cell BK371.out 1).trans rfl,(blk_cell BK371.out 2).trans rfl,(blk_cell BK371.out 3).trans rfl,(blk_cell BK373.out 0).trans rfl,(blk_cell BK373.out 1).trans rfl,(blk_cell BK373.out 2).trans rfl,(blk_cell BK373.out 3).trans rfl,((HB.out.cell (World.block_lt_of_cell? w _ hw374_0)).trans hw374_0)⟩ (fun hHeld=>?_)
              clear hK K
              refine norm_ (a':=?_) ?_ ?_
              rotate_left
              ·show Act.put _ (some 34) _=_
               simp only [Act.put,List.setIfInBounds_toArray,List.set_cons_zero,List.set_cons_succ,i64_w,i32_w]
               rfl
              refine pure_ (i:=9) (N:=some 35) (v:=?_) (a':=?_) #[true,true,true,true,true,true,true,true,true,true,false,false,false,false,false,false,false,false,false,false,false] rfl rfl (any_of HT_.out (by kernel_rfl)) (fun _ _ _ h=>h) (Or.inl ⟨by rfl,?_⟩) ?_ ?_
              rotate_left;(intro w';go_simp;with_reducible rfl);rotate_left;(simp only [Act.put,List.setIfInBounds_toArray,List.set_cons_zero,List.set_cons_succ,i64_w,i32_w];rfl)
              refine pure_ (i:=10) (N:=some 36) (v:=?_) (a':=?_) #[true,true,true,true,true,true,true,true,true,true,true,false,false,false,false,false,false,false,false,false,false] rfl rfl (any_of HT_.out (by kernel_rfl)) (fun _ _ _ h=>h) (Or.inl ⟨by rfl,?_⟩) ?_ ?_
              rotate_left;(intro w';go_simp;with_reducible rfl);rotate_left;(simp only [Act.put,List.setIfInBounds_toArray,List.set_cons_zero,List.set_cons_succ,i64_w,i32_w];rfl)
              refine pure_ (i:=11) (N:=some 37) (v:=?_) (a':=?_) #[true,true,true,true,true,true,true,true,true,true,true,true,false,false,false,false,false,false,false,false,false] rfl rfl (any_of HT_.out (by kernel_rfl)) (fun _ _ _ h=>h) (Or.inl ⟨by rfl,?_⟩) ?_ ?_
              rotate_left;(intro w';go_simp;with_reducible rfl);rotate_left;(simp only [Act.put,List.setIfInBounds_toArray,List.set_cons_zero,List.set_cons_succ,i64_w,i32_w];rfl)
              refine take_ (i:=12) (N:=some 38) (v:=?_) (a':=?_) #[true,true,true,true,true,true,true,true,true,true,true,true,true,false,false,false,false,false,false,false,false] rfl rfl (take_ofW HT_.out HW_.out (by kernel_rfl)) (fun _ _ _ h=>h) (Or.inl ⟨by rfl,?_⟩) hHeld ?_ ?_
              rotate_left;(rintro w' ⟨s0,s1,s2,s3,s4,s5,s6,s7,s8⟩;go_simp;with_reducible rfl);rotate_left;(simp only [Act.put,List.setIfInBounds_toArray,List.set_cons_zero,List.set_cons_succ,i64_w,i32_w];rfl)
              refine pure_ (i:=13) (N:=some 39) (v:=?_) (a':=?_) #[true,true,true,true,true,true,true,true,true,true,true,true,true,true,false,false,false,false,false,false,false] rfl rfl (any_of HT_.out (by kernel_rfl)) (fun _ _ _ h=>h) (Or.inl ⟨by rfl,?_⟩) ?_ ?_
              rotate_left;(intro w';go_simp;with_reducible rfl);rotate_left;(simp only [Act.put,List.setIfInBounds_toArray,List.set_cons_zero,List.set_cons_succ,i64_w,i32_w];rfl)
              refine pure_ (i:=14) (N:=some 40) (v:=?_) (a':=?_) #[true,true,true,true,true,true,true,true,true,true,true,true,true,true,true,false,false,false,false,false,false] rfl rfl (any_of HT_.out (by kernel_rfl)) (fun _ _ _ h=>h) (Or.inl ⟨by rfl,?_⟩) ?_ ?_
              rotate_left;(intro w';go_simp;with_reducible rfl);rotate_left;(simp only [Act.put,List.setIfInBounds_toArray,List.set_cons_zero,List.set_cons_succ,i64_w,i32_w];rfl)
              refine pure_ (i:=15) (N:=some 41) (v:=?_) (a':=?_) #[true,true,true,true,true,true,true,true,true,true,true,true,true,true,true,true,false,false,false,false,false] rfl rfl (any_of HT_.out (by kernel_rfl)) (fun _ _ _ h=>h) (Or.inl ⟨by rfl,?_⟩) ?_ ?_
              rotate_left;(intro w';go_simp;with_reducible rfl);rotate_left;(simp only [Act.put,List.setIfInBounds_toArray,List.set_cons_zero,List.set_cons_succ,i64_w,i32_w];rfl)
              refine pure_ (i:=16) (N:=some 42) (v:=undef) (a':=?_) #[true,true,true,true,true,true,true,true,true,true,true,true,true,true,true,true,true,false,false,false,false] rfl rfl (any_of HT_.out (by kernel_rfl)) (fun _ _ _ h=>h) (Or.inr ⟨by rfl,rfl⟩) ?_ ?_
              rotate_left
              ·simp only [Act.put,List.setIfInBounds_toArray,List.set_cons_zero,List.set_cons_succ,i64_w,i32_w]
               rfl
              refine pure_ (i:=17) (N:=some 43) (v:=undef) (a':=?_) #[true,true,true,true,true,true,true,true,true,true,true,true,true,true,true,true,true,true,false,false,false] rfl rfl (any_of HT_.out (by kernel_rfl)) (fun _ _ _ h=>h) (Or.inr ⟨by rfl,rfl⟩) ?_ ?_
              rotate_left
              ·simp only [Act.put,List.setIfInBounds_toArray,List.set_cons_zero,List.set_cons_succ,i64_w,i32_w]
               rfl
              refine pure_ (i:=18) (N:=some 44) (v:=undef) (a':=?_) #[true,true,true,true,true,true,true,true,true,true,true,true,true,true,true,true,true,true,true,false,false] rfl rfl (any_of HT_.out (by kernel_rfl)) (fun _ _ _ h=>h) (Or.inr ⟨by rfl,rfl⟩) ?_ ?_
              rotate_left
              ·simp only [Act.put,List.setIfInBounds_toArray,List.set_cons_zero,List.set_cons_succ,i64_w,i32_w]
               rfl
              refine pure_ (i:=19) (N:=some 45) (v:=?_) (a':=?_) #[true,true,true,true,true,true,true,true,true,true,true,true,true,true,true,true,true,true,true,true,false] rfl rfl (any_of HT_.out (by kernel_rfl)) (fun _ _ _ h=>h) (Or.inl ⟨by rfl,?_⟩) ?_ ?_
              rotate_left;(intro w';go_simp;with_reducible rfl);rotate_left;(simp only [Act.put,List.setIfInBounds_toArray,List.set_cons_zero,List.set_cons_succ,i64_w,i32_w];rfl)
              refine pure_ (i:=20) (N:=some 25) (v:=?_) (a':=?_) #[true,true,true,true,true,true,true,true,true,true,true,true,true,true,true,true,true,true,true,true,true] rfl rfl (any_of HT_.out (by kernel_rfl)) (fun _ _ _ h=>h) (Or.inl ⟨by rfl,?_⟩) ?_ ?_
              rotate_left;(intro w';go_simp;with_reducible rfl);rotate_left;(simp only [Act.put,List.setIfInBounds_toArray,List.set_cons_zero,List.set_cons_succ,i64_w,i32_w];rfl)
              refine done_ (done_of HT_.out (by kernel_rfl)) ?_
              (try clear hHeld)
              try go_wp2
              go_meet
              case rel=>exact ⟨_,(true),(by first|rfl|(simp;done)|(simp [*];done)),(by first|exact H'|(subst_vars;exact H')),⟨by have:=HK1.out;have:=HJ6.out;first|omega|exact Nat.le_refl _⟩,⟨by (with_reducible repeat (first|refine blk_drewN ?_ _|refine blk_drew ?_|refine blk_alloc ?_ _));exact BK371.out⟩,⟨by (with_reducible repeat (first|refine blk_drewN ?_ _|refine blk_drew ?_|refine blk_alloc ?_ _));exact BK373.out⟩,⟨by repeat (first|(with_reducible first|exact HB.out|apply below_alloc|apply pw_below_drewN|apply below_drew1|refine below_set ?_ GE371.out|refine below_set ?_ GE373.out)|exact HB.out)⟩⟩
             ·rw [if_neg c23] at H
              have c23b0 : decide (((rd_T39 l1 x9_1).f1) < 1)=false:=decide_eq_false c23
              clear c23
              have H':=Aside0.mk H
              clear H
              try go_wp2
              have n0_:=Aside0.mk (blk_drew BK371.out)
              have n1_:=Aside0.mk (blk_drew BK373.out)
              have n2_:=Aside0.mk (below_drew1 HB.out)
              clear BK371
              clear BK373
              clear HB
              have BK371:=n0_
              have BK373:=n1_
              have HB:=n2_
              clear n0_ n1_ n2_
              have p374 : 0≤(((rd_T39 l1 x9_1).f0) : Int):=of_decide_eq_true (by first|(with_reducible assumption)|assumption)
              have q374 : ((rd_T39 l1 x9_1).f0) < (l0_0.length : Int):=of_decide_eq_true (by first|(with_reducible assumption)|assumption)
              obtain ⟨ad374,e374,hx374_0⟩:=Kd.at_int HR0_0.out ((rd_T39 l1 x9_1).f0) p374 q374
              have hw374_0:=hx374_0
              cases e374
              replace hx374_0:=(HB.out.cell (World.block_lt_of_cell? w _ hx374_0)).trans hx374_0
              replace p374:=eq_true p374
              replace q374:=eq_true q374
              refine start_ (n:=21) (S:=fun w'=>w'.cell? ⟨gb371,0,none⟩=some (.slice (some ad374) l0_0.length c0_0)∧w'.cell? ⟨gb371,1,none⟩=some (.int .i64 a0_1)∧w'.cell? ⟨gb371,2,none⟩=some (.int .i64 a0_2)∧w'.cell? ⟨gb371,3,none⟩=some (.int .i64 a0_3)∧w'.cell? ⟨gb373,0,none⟩=some (.int .i64 ((rd_T39 l1 x9_1).f0))∧w'.cell? ⟨gb373,1,none⟩=some (.int .i64 ((rd_T39 l1 x9_1).f1))∧w'.cell? ⟨gb373,2,none⟩=some (.int .i64 ((rd_T39 l1 x9_1).f2.f0))∧w'.cell? ⟨gb373,3,none⟩=some (.string ((rd_T39 l1 x9_1).f2.f1))∧w'.cell? (ad374.add (((rd_T39 l1 x9_1).f0)).toNat)=some (.int .i64 (rd l0_0 ((rd_T39 l1 x9_1).f0)))) (ds:=[]) #[false,false,false,false,false,false,false,false,false,false,false,false,false,false,false,false,false,false,false,false,false] (by kernel_rfl) rfl rfl ⟨(blk_cell BK371.out 0).trans rfl,(blk_cell BK371.out 1).trans rfl,(blk_cell BK371.out 2).trans rfl,(blk_cell BK371.out 3).trans rfl,(blk_cell BK373.out 0).trans rfl,(blk_cell BK373.out 1).trans rfl,(blk_cell BK373.out 2).trans rfl,(blk_cell BK373.out 3).trans rfl,((HB.out.cell (World.block_lt_of_cell? w _ hw374_0)).trans hw374_0)⟩ (fun hHeld=>?_);refine with_tabW filter_May.tab6 filter_May.bits6 (fun HT_ HW_=>?_)
              generalize wc.drew=w26 at BK371 BK373 HB hx374_0 hHeld ⊢
              refine pure_ (i:=0) (N:=some 26) (v:=?_) (a':=?_) #[true,false,false,false,false,false,false,false,false,false,false,false,false,false,false,false,false,false,false,false,false] rfl rfl (any_of HT_.out (by kernel_rfl)) (fun _ _ _ h=>h) (Or.inl ⟨by rfl,?_⟩) ?_ ?_
              rotate_left;(intro w';go_simp;with_reducible rfl);rotate_left;(simp only [Act.put,List.setIfInBounds_toArray,List.set_cons_zero,List.set_cons_succ,i64_w,i32_w];rfl)
              refine pure_ (i:=2) (N:=some 28) (v:=?_) (a':=?_) #[true,false,true,false,false,false,false,false,false,false,false,false,false,false,false,false,false,false,false,false,false] rfl rfl (any_of HT_.out (by kernel_rfl)) (fun _ _ _ h=>h) (Or.inl ⟨by rfl,?_⟩) ?_ ?_
              rotate_left;(intro w';go_simp;with_reducible rfl);rotate_left;(simp only [Act.put,List.setIfInBounds_toArray,List.set_cons_zero,List.set_cons_succ,i64_w,i32_w];rfl)
              refine pure_ (i:=6) (N:=some 32) (v:=?_) (a':=?_) #[true,false,true,false,false,false,true,false,false,false,false,false,false,false,false,false,false,false,false,false,false] rfl rfl (any_of HT_.out (by kernel_rfl)) (fun _ _ _ h=>h) (Or.inl ⟨by rfl,?_⟩) ?_ ?_
              rotate_left;(intro w';go_simp;with_reducible rfl);rotate_left;(simp only [Act.put,List.setIfInBounds_toArray,List.set_cons_zero,List.set_cons_succ,i64_w,i32_w];rfl)
              refine take_ (i:=1) (N:=some 27) (v:=?_) (a':=?_) #[true,true,true,false,false,false,true,false,false,false,false,false,false,false,false,false,false,false,false,false,false] rfl rfl (take_ofW HT_.out HW_.out (by kernel_rfl)) (fun _ _ _ h=>h) (Or.inl ⟨by rfl,?_⟩) hHeld ?_ ?_
              rotate_left;(rintro w' ⟨s0,s1,s2,s3,s4,s5,s6,s7,s8⟩;go_simp;with_reducible rfl);rotate_left;(simp only [Act.put,List.setIfInBounds_toArray,List.set_cons_zero,List.set_cons_succ,i64_w,i32_w];rfl)
              refine take_ (i:=3) (N:=some 29) (v:=?_) (a':=?_) #[true,true,true,true,false,false,true,false,false,false,false,false,false,false,false,false,false,false,false,false,false] rfl rfl (take_ofW HT_.out HW_.out (by kernel_rfl)) (fun _ _ _ h=>h) (Or.inl ⟨by rfl,?_⟩) hHeld ?_ ?_
              rotate_left;(rintro w' ⟨s0,s1,s2,s3,s4,s5,s6,s7,s8⟩;go_simp;with_reducible rfl);rotate_left;(simp only [Act.put,List.setIfInBounds_toArray,List.set_cons_zero,List.set_cons_succ,i64_w,i32_w];rfl)
              refine pure_ (i:=4) (N:=some 30) (v:=?_) (a':=?_) #[true,true,true,true,true,false,true,false,false,false,false,false,false,false,false,false,false,false,false,false,false] rfl rfl (any_of HT_.out (by kernel_rfl)) (fun _ _ _ h=>h) (Or.inl ⟨by rfl,?_⟩) ?_ ?_
              rotate_left;(intro w';go_simp;with_reducible rfl);rotate_left;(simp only [Act.put,List.setIfInBounds_toArray,List.set_cons_zero,List.set_cons_succ,i64_w,i32_w];rfl)
              refine take_ (i:=5) (N:=some 31) (v:=?_) (a':=?_) #[true,true,true,true,true,true,true,false,false,false,false,false,false,false,false,false,false,false,false,false,false] rfl rfl (take_ofW HT_.out HW_.out (by kernel_rfl)) (fun _ _ _ h=>h) (Or.inl ⟨by rfl,?_⟩) hHeld ?_ ?_
              rotate_left;(rintro w' ⟨s0,s1,s2,s3,s4,s5,s6,s7,s8⟩;go_simp;with_reducible rfl);rotate_left;(simp only [Act.put,List.setIfInBounds_toArray,List.set_cons_zero,List.set_cons_succ,i64_w,i32_w];rfl)
              refine take_ (i:=7) (N:=some 33) (v:=?_) (a':=?_) #[true,true,true,true,true,true,true,true,false,false,false,false,false,false,false,false,false,false,false,false,false] rfl rfl (take_ofW HT_.out HW_.out (by kernel_rfl)) (fun _ _ _ h=>h) (Or.inl ⟨by rfl,?_⟩) hHeld ?_ ?_
              rotate_left;(rintro w' ⟨s0,s1,s2,s3,s4,s5,s6,s7,s8⟩;go_simp;with_reducible rfl);rotate_left;(simp only [Act.put,List.setIfInBounds_toArray,List.set_cons_zero,List.set_cons_succ,i64_w,i32_w];rfl)
              refine one_ (i:=8) (N:=some 34) #[true,true,true,true,true,true,true,true,true,false,false,false,false,false,false,false,false,false,false,false,false] rfl rfl (one_of HT_.out (by kernel_rfl)) (by decide) (fun K hK=>?_)
              refine goes_ Try.func27 (by kernel_rfl) rfl #[.int .i64 (rd l0_0 ((rd_T39 l1 x9_1).f0)),.agg #[.int .i64 ((rd_T39 l1 x9_1).f2.f0),.string ((rd_T39 l1 x9_1).f2.f1)]] (by rfl) rfl rfl (by (try simp only [List.map_toArray,List.map_cons,List.map_nil]);first|done|rfl|(simp only [List.length_drop,List.length_take];rfl)) ?_
              with_reducible refine (value_Fits.calls kj6 (rd l0_0 ((rd_T39 l1 x9_1).f0)) ((rd_T39 l1 x9_1).f2.f0) ((rd_T39 l1 x9_1).f2.f1) true _ A21.out).mono ?_
              rintro e w27 ⟨rfl,hb⟩
              refine ⟨_,rfl,?_⟩
              have n0_:=Aside0.mk (blk_below (blk_up BK371.out) hb)
              have n1_:=Aside0.mk (blk_below (blk_up BK373.out) hb)
              have n2_:=Aside0.mk (below_step (below_go HB.out) hb)
              clear BK371
              clear BK373
              clear HB
              have BK371:=n0_
              have BK373:=n1_
              have HB:=n2_
              clear n0_ n1_ n2_
              (try clear hb)
              (try clear hb2)
              (try clear hk)
              (try clear hi)
              refine hK.out _ _ ⟨(blk_cell BK371.out 0).trans rfl,(blk_cell BK371.out 1).trans rfl,(blk_cell BK371.out 2).trans rfl,(blk_cell BK371.out 3).trans rfl,(blk_cell BK373.out 0).trans rfl,(blk_cell BK373.out 1).trans rfl,(blk_cell BK373.out 2).trans rfl,(blk_cell BK373.out 3).trans rfl,((HB.out.cell (World.block_lt_of_cell? w _ hw374_0)).trans hw374_0)⟩ (fun hHeld=>?_)
              clear hK K
              refine norm_ (a':=?_) ?_ ?_
              rotate_left
              ·show Act.put _ (some 34) _=_
               simp only [Act.put,List.setIfInBounds_toArray,List.set_cons_zero,List.set_cons_succ,i64_w,i32_w]
               rfl
              refine pure_ (i:=9) (N:=some 35) (v:=?_) (a':=?_) #[true,true,true,true,true,true,true,true,true,true,false,false,false,false,false,false,false,false,false,false,false] rfl rfl (any_of HT_.out (by kernel_rfl)) (fun _ _ _ h=>h) (Or.inl ⟨by rfl,?_⟩) ?_ ?_
              rotate_left;(intro w';go_simp;with_reducible rfl);rotate_left;(simp only [Act.put,List.setIfInBounds_toArray,List.set_cons_zero,List.set_cons_succ,i64_w,i32_w];rfl)
              refine pure_ (i:=10) (N:=some 36) (v:=?_) (a':=?_) #[true,true,true,true,true,true,true,true,true,true,true,false,false,false,false,false,false,false,false,false,false] rfl rfl (any_of HT_.out (by kernel_rfl)) (fun _ _ _ h=>h) (Or.inl ⟨by rfl,?_⟩) ?_ ?_
              rotate_left;(intro w';go_simp;with_reducible rfl);rotate_left;(simp only [Act.put,List.setIfInBounds_toArray,List.set_cons_zero,List.set_cons_succ,i64_w,i32_w];rfl)
              refine pure_ (i:=11) (N:=some 37) (v:=?_) (a':=?_) #[true,true,true,true,true,true,true,true,true,true,true,true,false,false,false,false,false,false,false,false,false] rfl rfl (any_of HT_.out (by kernel_rfl)) (fun _ _ _ h=>h) (Or.inl ⟨by rfl,?_⟩) ?_ ?_
              rotate_left;(intro w';go_simp;with_reducible rfl);rotate_left;(simp only [Act.put,List.setIfInBounds_toArray,List.set_cons_zero,List.set_cons_succ,i64_w,i32_w];rfl)
              refine take_ (i:=12) (N:=some 38) (v:=?_) (a':=?_) #[true,true,true,true,true,true,true,true,true,true,true,true,true,false,false,false,false,false,false,false,false] rfl rfl (take_ofW HT_.out HW_.out (by kernel_rfl)) (fun _ _ _ h=>h) (Or.inl ⟨by rfl,?_⟩) hHeld ?_ ?_
              rotate_left;(rintro w' ⟨s0,s1,s2,s3,s4,s5,s6,s7,s8⟩;go_simp;with_reducible rfl);rotate_left;(simp only [Act.put,List.setIfInBounds_toArray,List.set_cons_zero,List.set_cons_succ,i64_w,i32_w];rfl)
              refine pure_ (i:=13) (N:=some 39) (v:=?_) (a':=?_) #[true,true,true,true,true,true,true,true,true,true,true,true,true,true,false,false,false,false,false,false,false] rfl rfl (any_of HT_.out (by kernel_rfl)) (fun _ _ _ h=>h) (Or.inl ⟨by rfl,?_⟩) ?_ ?_
              rotate_left;(intro w';go_simp;with_reducible rfl);rotate_left;(simp only [Act.put,List.setIfInBounds_toArray,List.set_cons_zero,List.set_cons_succ,i64_w,i32_w];rfl)
              refine pure_ (i:=14) (N:=some 40) (v:=?_) (a':=?_) #[true,true,true,true,true,true,true,true,true,true,true,true,true,true,true,false,false,false,false,false,false] rfl rfl (any_of HT_.out (by kernel_rfl)) (fun _ _ _ h=>h) (Or.inl ⟨by rfl,?_⟩) ?_ ?_
              rotate_left;(intro w';go_simp;with_reducible rfl);rotate_left;(simp only [Act.put,List.setIfInBounds_toArray,List.set_cons_zero,List.set_cons_succ,i64_w,i32_w];rfl)
              refine pure_ (i:=15) (N:=some 41) (v:=?_) (a':=?_) #[true,true,true,true,true,true,true,true,true,true,true,true,true,true,true,true,false,false,false,false,false] rfl rfl (any_of HT_.out (by kernel_rfl)) (fun _ _ _ h=>h) (Or.inl ⟨by rfl,?_⟩) ?_ ?_
              rotate_left;(intro w';go_simp;with_reducible rfl);rotate_left;(simp only [Act.put,List.setIfInBounds_toArray,List.set_cons_zero,List.set_cons_succ,i64_w,i32_w];rfl)
              refine pure_ (i:=16) (N:=some 42) (v:=?_) (a':=?_) #[true,true,true,true,true,true,true,true,true,true,true,true,true,true,true,true,true,false,false,false,false] rfl rfl (any_of HT_.out (by kernel_rfl)) (fun _ _ _ h=>h) (Or.inl ⟨by rfl,?_⟩) ?_ ?_
              rotate_left;(intro w';go_simp;with_reducible rfl);rotate_left;(simp only [Act.put,List.setIfInBounds_toArray,List.set_cons_zero,List.set_cons_succ,i64_w,i32_w];rfl)
              refine take_ (i:=17) (N:=some 43) (v:=?_) (a':=?_) #[true,true,true,true,true,true,true,true,true,true,true,true,true,true,true,true,true,true,false,false,false] rfl rfl (take_ofW HT_.out HW_.out (by kernel_rfl)) (fun _ _ _ h=>h) (Or.inl ⟨by rfl,?_⟩) hHeld ?_ ?_
              rotate_left;(rintro w' ⟨s0,s1,s2,s3,s4,s5,s6,s7,s8⟩;go_simp;with_reducible rfl);rotate_left;(simp only [Act.put,List.setIfInBounds_toArray,List.set_cons_zero,List.set_cons_succ,i64_w,i32_w];rfl)
              refine pure_ (i:=18) (N:=some 44) (v:=?_) (a':=?_) #[true,true,true,true,true,true,true,true,true,true,true,true,true,true,true,true,true,true,true,false,false] rfl rfl (any_of HT_.out (by kernel_rfl)) (fun _ _ _ h=>h) (Or.inl ⟨by rfl,?_⟩) ?_ ?_
              rotate_left;(intro w';go_simp;with_reducible rfl);rotate_left;(simp only [Act.put,List.setIfInBounds_toArray,List.set_cons_zero,List.set_cons_succ,i64_w,i32_w];rfl)
              refine pure_ (i:=19) (N:=some 45) (v:=?_) (a':=?_) #[true,true,true,true,true,true,true,true,true,true,true,true,true,true,true,true,true,true,true,true,false] rfl rfl (any_of HT_.out (by kernel_rfl)) (fun _ _ _ h=>h) (Or.inl ⟨by rfl,?_⟩) ?_ ?_
              rotate_left;(intro w';go_simp;with_reducible rfl);rotate_left;(simp only [Act.put,List.setIfInBounds_toArray,List.set_cons_zero,List.set_cons_succ,i64_w,i32_w];rfl)
              refine pure_ (i:=20) (N:=some 25) (v:=?_) (a':=?_) #[true,true,true,true,true,true,true,true,true,true,true,true,true,true,true,true,true,true,true,true,true] rfl rfl (any_of HT_.out (by kernel_rfl)) (fun _ _ _ h=>h) (Or.inl ⟨by rfl,?_⟩) ?_ ?_
              rotate_left;(intro w';go_simp;with_reducible rfl);rotate_left;(simp only [Act.put,List.setIfInBounds_toArray,List.set_cons_zero,List.set_cons_succ,i64_w,i32_w];rfl)
              refine done_ (done_of HT_.out (by kernel_rfl)) ?_
              (try clear hHeld)
              try go_wp2
              go_meet
              case rel=>exact ⟨_,(decide (((rd_T39 l1 x9_1).f1) > 7)),(by first|rfl|(simp;done)|(simp [*];done)),(by first|exact H'|(subst_vars;exact H')),⟨by have:=HK1.out;have:=HJ6.out;first|omega|exact Nat.le_refl _⟩,⟨by (with_reducible repeat (first|refine blk_drewN ?_ _|refine blk_drew ?_|refine blk_alloc ?_ _));exact BK371.out⟩,⟨by (with_reducible repeat (first|refine blk_drewN ?_ _|refine blk_drew ?_|refine blk_alloc ?_ _));exact BK373.out⟩,⟨by repeat (first|(with_reducible first|exact HB.out|apply below_alloc|apply pw_below_drewN|apply below_drew1|refine below_set ?_ GE371.out|refine below_set ?_ GE373.out)|exact HB.out)⟩⟩
            ·replace c22:=Bool.eq_false_iff.mpr c22
             subst c22
             have H1 : (filter_May.j2 kj6 l1 l1 (l1.length : Int) x9_1 true l0_0 a0_1 a0_2 a0_3 ((rd_T39 l1 x9_1).f0) ((rd_T39 l1 x9_1).f1) ((rd_T39 l1 x9_1).f2.f0) ((rd_T39 l1 x9_1).f2.f1))=some r:=by rw [if_neg (show ¬ (false=true) by decide)] at H;exact H
             clear H
             have H:=H1
             clear H1
             have H':=Aside0.mk H
             clear H
             try go_wp2
             have n0_:=Aside0.mk (blk_drew BK371.out)
             have n1_:=Aside0.mk (blk_drew BK373.out)
             have n2_:=Aside0.mk (below_drew1 HB.out)
             clear BK371
             clear BK373
             clear HB
             have BK371:=n0_
             have BK373:=n1_
             have HB:=n2_
             clear n0_ n1_ n2_
             have p374 : 0≤(((rd_T39 l1 x9_1).f0) : Int):=of_decide_eq_true (by first|(with_reducible assumption)|assumption)
             have q374 : ((rd_T39 l1 x9_1).f0) < (l0_0.length : Int):=of_decide_eq_true (by first|(with_reducible assumption)|assumption)
             obtain ⟨ad374,e374,hx374_0⟩:=Kd.at_int HR0_0.out ((rd_T39 l1 x9_1).f0) p374 q374
             have hw374_0:=hx374_0
             cases e374
             replace hx374_0:=(HB.out.cell (World.block_lt_of_cell? w _ hx374_0)).trans hx374_0
             replace p374:=eq_true p374
             replace q374:=eq_true q374
             refine start_ (n:=21) (S:=fun w'=>w'.cell? ⟨gb371,0,none⟩=some (.slice (some ad374) l0_0.length c0_0)∧w'.cell? ⟨gb371,1,none⟩=some (.int .i64 a0_1)∧w'.cell? ⟨gb371,2,none⟩=some (.int .i64 a0_2)∧w'.cell? ⟨gb371,3,none⟩=some (.int .i64 a0_3)∧w'.cell? ⟨gb373,0,none⟩=some (.int .i64 ((rd_T39 l1 x9_1).f0))∧w'.cell? ⟨gb373,1,none⟩=some (.int .i64 ((rd_T39 l1 x9_1).f1))∧w'.cell? ⟨gb373,2,none⟩=some (.int .i64 ((rd_T39 l1 x9_1).f2.f0))∧w'.cell? ⟨gb373,3,none⟩=some (.string ((rd_T39 l1 x9_1).f2.f1))∧w'.cell? (ad374.add (((rd_T39 l1 x9_1).f0)).toNat)=some (.int .i64 (rd l0_0 ((rd_T39 l1 x9_1).f0)))) (ds:=[]) #[false,false,false,false,false,false,false,false,false,false,false,false,false,false,false,false,false,false,false,false,false] (by kernel_rfl) rfl rfl ⟨(blk_cell BK371.out 0).trans rfl,(blk_cell BK371.out 1).trans rfl,(blk_cell BK371.out 2).trans rfl,(blk_cell BK371.out 3).trans rfl,(blk_cell BK373.out 0).trans rfl,(blk_cell BK373.out 1).trans rfl,(blk_cell BK373.out 2).trans rfl,(blk_cell BK373.out 3).trans rfl,((HB.out.cell (World.block_lt_of_cell? w _ hw374_0)).trans hw374_0)⟩ (fun hHeld=>?_);refine with_tabW filter_May.tab6 filter_May.bits6 (fun HT_ HW_=>?_)
             generalize wc.drew=w28 at BK371 BK373 HB hx374_0 hHeld ⊢
             refine pure_ (i:=0) (N:=some 26) (v:=?_) (a':=?_) #[true,false,false,false,false,false,false,false,false,false,false,false,false,false,false,false,false,false,false,false,false] rfl rfl (any_of HT_.out (by kernel_rfl)) (fun _ _ _ h=>h) (Or.inl ⟨by rfl,?_⟩) ?_ ?_
             rotate_left;(intro w';go_simp;with_reducible rfl);rotate_left;(simp only [Act.put,List.setIfInBounds_toArray,List.set_cons_zero,List.set_cons_succ,i64_w,i32_w];rfl)
             refine pure_ (i:=2) (N:=some 28) (v:=?_) (a':=?_) #[true,false,true,false,false,false,false,false,false,false,false,false,false,false,false,false,false,false,false,false,false] rfl rfl (any_of HT_.out (by kernel_rfl)) (fun _ _ _ h=>h) (Or.inl ⟨by rfl,?_⟩) ?_ ?_
             rotate_left;(intro w';go_simp;with_reducible rfl);rotate_left;(simp only [Act.put,List.setIfInBounds_toArray,List.set_cons_zero,List.set_cons_succ,i64_w,i32_w];rfl)
             refine pure_ (i:=6) (N:=some 32) (v:=?_) (a':=?_) #[true,false,true,false,false,false,true,false,false,false,false,false,false,false,false,false,false,false,false,false,false] rfl rfl (any_of HT_.out (by kernel_rfl)) (fun _ _ _ h=>h) (Or.inl ⟨by rfl,?_⟩) ?_ ?_
             rotate_left;(intro w';go_simp;with_reducible rfl);rotate_left;(simp only [Act.put,List.setIfInBounds_toArray,List.set_cons_zero,List.set_cons_succ,i64_w,i32_w];rfl)
             refine take_ (i:=1) (N:=some 27) (v:=?_) (a':=?_) #[true,true,true,false,false,false,true,false,false,false,false,false,false,false,false,false,false,false,false,false,false] rfl rfl (take_ofW HT_.out HW_.out (by kernel_rfl)) (fun _ _ _ h=>h) (Or.inl ⟨by rfl,?_⟩) hHeld ?_ ?_
             rotate_left;(rintro w' ⟨s0,s1,s2,s3,s4,s5,s6,s7,s8⟩;go_simp;with_reducible rfl);rotate_left;(simp only [Act.put,List.setIfInBounds_toArray,List.set_cons_zero,List.set_cons_succ,i64_w,i32_w];rfl)
             refine take_ (i:=3) (N:=some 29) (v:=?_) (a':=?_) #[true,true,true,true,false,false,true,false,false,false,false,false,false,false,false,false,false,false,false,false,false] rfl rfl (take_ofW HT_.out HW_.out (by kernel_rfl)) (fun _ _ _ h=>h) (Or.inl ⟨by rfl,?_⟩) hHeld ?_ ?_
             rotate_left;(rintro w' ⟨s0,s1,s2,s3,s4,s5,s6,s7,s8⟩;go_simp;with_reducible rfl);rotate_left;(simp only [Act.put,List.setIfInBounds_toArray,List.set_cons_zero,List.set_cons_succ,i64_w,i32_w];rfl)
             refine pure_ (i:=4) (N:=some 30) (v:=?_) (a':=?_) #[true,true,true,true,true,false,true,false,false,false,false,false,false,false,false,false,false,false,false,false,false] rfl rfl (any_of HT_.out (by kernel_rfl)) (fun _ _ _ h=>h) (Or.inl ⟨by rfl,?_⟩) ?_ ?_
             rotate_left;(intro w';go_simp;with_reducible rfl);rotate_left;(simp only [Act.put,List.setIfInBounds_toArray,List.set_cons_zero,List.set_cons_succ,i64_w,i32_w];rfl)
             refine take_ (i:=5) (N:=some 31) (v:=?_) (a':=?_) #[true,true,true,true,true,true,true,false,false,false,false,false,false,false,false,false,false,false,false,false,false] rfl rfl (take_ofW HT_.out HW_.out (by kernel_rfl)) (fun _ _ _ h=>h) (Or.inl ⟨by rfl,?_⟩) hHeld ?_ ?_
             rotate_left;(rintro w' ⟨s0,s1,s2,s3,s4,s5,s6,s7,s8⟩;go_simp;with_reducible rfl);rotate_left;(simp only [Act.put,List.setIfInBounds_toArray,List.set_cons_zero,List.set_cons_succ,i64_w,i32_w];rfl)
             refine take_ (i:=7) (N:=some 33) (v:=?_) (a':=?_) #[true,true,true,true,true,true,true,true,false,false,false,false,false,false,false,false,false,false,false,false,false] rfl rfl (take_ofW HT_.out HW_.out (by kernel_rfl)) (fun _ _ _ h=>h) (Or.inl ⟨by rfl,?_⟩) hHeld ?_ ?_
             rotate_left;(rintro w' ⟨s0,s1,s2,s3,s4,s5,s6,s7,s8⟩;go_simp;with_reducible rfl);rotate_left;(simp only [Act.put,List.setIfInBounds_toArray,List.set_cons_zero,List.set_cons_succ,i64_w,i32_w];rfl)
             refine one_ (i:=8) (N:=some 34) #[true,true,true,true,true,true,true,true,true,false,false,false,false,false,false,false,false,false,false,false,false] rfl rfl (one_of HT_.out (by kernel_rfl)) (by decide) (fun K hK=>?_)
             refine goes_ Try.func27 (by kernel_rfl) rfl #[.int .i64 (rd l0_0 ((rd_T39 l1 x9_1).f0)),.agg #[.int .i64 ((rd_T39 l1 x9_1).f2.f0),.string ((rd_T39 l1 x9_1).f2.f1)]] (by rfl) rfl rfl (by (try simp only [List.map_toArray,List.map_cons,List.map_nil]);first|done|rfl|(simp only [List.length_drop,List.length_take];rfl)) ?_
             with_reducible refine (value_Fits.calls kj6 (rd l0_0 ((rd_T39 l1 x9_1).f0)) ((rd_T39 l1 x9_1).f2.f0) ((rd_T39 l1 x9_1).f2.f1) false _ A21.out).mono ?_
             rintro e w29 ⟨rfl,hb⟩
             refine ⟨_,rfl,?_⟩
             have n0_:=Aside0.mk (blk_below (blk_up BK371.out) hb)
             have n1_:=Aside0.mk (blk_below (blk_up BK373.out) hb)
             have n2_:=Aside0.mk (below_step (below_go HB.out) hb)
             clear BK371
             clear BK373
             clear HB
             have BK371:=n0_
             have BK373:=n1_
             have HB:=n2_
             clear n0_ n1_ n2_
             (try clear hb)
             (try clear hb2)
             (try clear hk)
             (try clear hi)
             refine hK.out _ _ ⟨(blk_cell BK371.out 0).trans rfl,(blk_cell BK371.out 1).trans rfl,(blk_cell BK371.out 2).trans rfl,(blk_cell BK371.out 3).trans rfl,(blk_cell BK373.out 0).trans rfl,(blk_cell BK373.out 1).trans rfl,(blk_cell BK373.out 2).trans rfl,(blk_cell BK373.out 3).trans rfl,((HB.out.cell (World.block_lt_of_cell? w _ hw374_0)).trans hw374_0)⟩ (fun hHeld=>?_)
             clear hK K
             refine norm_ (a':=?_) ?_ ?_
             rotate_left
             ·show Act.put _ (some 34) _=_
              simp only [Act.put,List.setIfInBounds_toArray,List.set_cons_zero,List.set_cons_succ,i64_w,i32_w]
              rfl
             refine pure_ (i:=9) (N:=some 35) (v:=?_) (a':=?_) #[true,true,true,true,true,true,true,true,true,true,false,false,false,false,false,false,false,false,false,false,false] rfl rfl (any_of HT_.out (by kernel_rfl)) (fun _ _ _ h=>h) (Or.inl ⟨by rfl,?_⟩) ?_ ?_
             rotate_left;(intro w';go_simp;with_reducible rfl);rotate_left;(simp only [Act.put,List.setIfInBounds_toArray,List.set_cons_zero,List.set_cons_succ,i64_w,i32_w];rfl)
             refine pure_ (i:=10) (N:=some 36) (v:=?_) (a':=?_) #[true,true,true,true,true,true,true,true,true,true,true,false,false,false,false,false,false,false,false,false,false] rfl rfl (any_of HT_.out (by kernel_rfl)) (fun _ _ _ h=>h) (Or.inl ⟨by rfl,?_⟩) ?_ ?_
             rotate_left;(intro w';go_simp;with_reducible rfl);rotate_left;(simp only [Act.put,List.setIfInBounds_toArray,List.set_cons_zero,List.set_cons_succ,i64_w,i32_w];rfl)
             refine pure_ (i:=11) (N:=some 37) (v:=undef) (a':=?_) #[true,true,true,true,true,true,true,true,true,true,true,true,false,false,false,false,false,false,false,false,false] rfl rfl (any_of HT_.out (by kernel_rfl)) (fun _ _ _ h=>h) (Or.inr ⟨by rfl,rfl⟩) ?_ ?_
             rotate_left
             ·simp only [Act.put,List.setIfInBounds_toArray,List.set_cons_zero,List.set_cons_succ,i64_w,i32_w]
              rfl
             refine pure_ (i:=12) (N:=some 38) (v:=undef) (a':=?_) #[true,true,true,true,true,true,true,true,true,true,true,true,true,false,false,false,false,false,false,false,false] rfl rfl (any_of HT_.out (by kernel_rfl)) (fun _ _ _ h=>h) (Or.inr ⟨by rfl,rfl⟩) ?_ ?_
             rotate_left
             ·simp only [Act.put,List.setIfInBounds_toArray,List.set_cons_zero,List.set_cons_succ,i64_w,i32_w]
              rfl
             refine pure_ (i:=13) (N:=some 39) (v:=undef) (a':=?_) #[true,true,true,true,true,true,true,true,true,true,true,true,true,true,false,false,false,false,false,false,false] rfl rfl (any_of HT_.out (by kernel_rfl)) (fun _ _ _ h=>h) (Or.inr ⟨by rfl,rfl⟩) ?_ ?_
             rotate_left
             ·simp only [Act.put,List.setIfInBounds_toArray,List.set_cons_zero,List.set_cons_succ,i64_w,i32_w]
              rfl
             refine pure_ (i:=14) (N:=some 40) (v:=?_) (a':=?_) #[true,true,true,true,true,true,true,true,true,true,true,true,true,true,true,false,false,false,false,false,false] rfl rfl (any_of HT_.out (by kernel_rfl)) (fun _ _ _ h=>h) (Or.inl ⟨by rfl,?_⟩) ?_ ?_
             rotate_left;(intro w';go_simp;with_reducible rfl);rotate_left;(simp only [Act.put,List.setIfInBounds_toArray,List.set_cons_zero,List.set_cons_succ,i64_w,i32_w];rfl)
             refine pure_ (i:=15) (N:=some 41) (v:=?_) (a':=?_) #[true,true,true,true,true,true,true,true,true,true,true,true,true,true,true,true,false,false,false,false,false] rfl rfl (any_of HT_.out (by kernel_rfl)) (fun _ _ _ h=>h) (Or.inl ⟨by rfl,?_⟩) ?_ ?_
             rotate_left;(intro w';go_simp;with_reducible rfl);rotate_left;(simp only [Act.put,List.setIfInBounds_toArray,List.set_cons_zero,List.set_cons_succ,i64_w,i32_w];rfl)
             refine pure_ (i:=16) (N:=some 42) (v:=undef) (a':=?_) #[true,true,true,true,true,true,true,true,true,true,true,true,true,true,true,true,true,false,false,false,false] rfl rfl (any_of HT_.out (by kernel_rfl)) (fun _ _ _ h=>h) (Or.inr ⟨by rfl,rfl⟩) ?_ ?_
             rotate_left
             ·simp only [Act.put,List.setIfInBounds_toArray,List.set_cons_zero,List.set_cons_succ,i64_w,i32_w]
              rfl
             refine pure_ (i:=17) (N:=some 43) (v:=undef) (a':=?_) #[true,true,true,true,true,true,true,true,true,true,true,true,true,true,true,true,true,true,false,false,false] rfl rfl (any_of HT_.out (by kernel_rfl)) (fun _ _ _ h=>h) (Or.inr ⟨by rfl,rfl⟩) ?_ ?_
             rotate_left
             ·simp only [Act.put,List.setIfInBounds_toArray,List.set_cons_zero,List.set_cons_succ,i64_w,i32_w]
              rfl
             refine pure_ (i:=18) (N:=some 44) (v:=undef) (a':=?_) #[true,true,true,true,true,true,true,true,true,true,true,true,true,true,true,true,true,true,true,false,false] rfl rfl (any_of HT_.out (by kernel_rfl)) (fun _ _ _ h=>h) (Or.inr ⟨by rfl,rfl⟩) ?_ ?_
             rotate_left
             ·simp only [Act.put,List.setIfInBounds_toArray,List.set_cons_zero,List.set_cons_succ,i64_w,i32_w]
              rfl
             refine pure_ (i:=19) (N:=some 45) (v:=?_) (a':=?_) #[true,true,true,true,true,true,true,true,true,true,true,true,true,true,true,true,true,true,true,true,false] rfl rfl (any_of HT_.out (by kernel_rfl)) (fun _ _ _ h=>h) (Or.inl ⟨by rfl,?_⟩) ?_ ?_
             rotate_left;(intro w';go_simp;with_reducible rfl);rotate_left;(simp only [Act.put,List.setIfInBounds_toArray,List.set_cons_zero,List.set_cons_succ,i64_w,i32_w];rfl)
             refine pure_ (i:=20) (N:=some 25) (v:=?_) (a':=?_) #[true,true,true,true,true,true,true,true,true,true,true,true,true,true,true,true,true,true,true,true,true] rfl rfl (any_of HT_.out (by kernel_rfl)) (fun _ _ _ h=>h) (Or.inl ⟨by rfl,?_⟩) ?_ ?_
             rotate_left;(intro w';go_simp;with_reducible rfl);rotate_left;(simp only [Act.put,List.setIfInBounds_toArray,List.set_cons_zero,List.set_cons_succ,i64_w,i32_w];rfl)
             refine done_ (done_of HT_.out (by kernel_rfl)) ?_
             (try clear hHeld)
             try go_wp2
             go_meet
             case rel=>exact ⟨_,(true),(by first|rfl|(simp;done)|(simp [*];done)),(by first|exact H'|(subst_vars;exact H')),⟨by have:=HK1.out;have:=HJ6.out;first|omega|exact Nat.le_refl _⟩,⟨by (with_reducible repeat (first|refine blk_drewN ?_ _|refine blk_drew ?_|refine blk_alloc ?_ _));exact BK371.out⟩,⟨by (with_reducible repeat (first|refine blk_drewN ?_ _|refine blk_drew ?_|refine blk_alloc ?_ _));exact BK373.out⟩,⟨by repeat (first|(with_reducible first|exact HB.out|apply below_alloc|apply pw_below_drewN|apply below_drew1|refine below_set ?_ GE371.out|refine below_set ?_ GE373.out)|exact HB.out)⟩⟩
           ·rw [if_neg c20] at H
            exact absurd H (by simp)
          ·rw [if_neg c19] at H
           exact absurd H (by simp)
         case rest =>
          clear HC18
          try clear c1
          try clear c2
          try clear p2
          try clear p3
          try clear q3
          try clear hx3
          try clear c19
          try clear c20
          try clear c22
          try clear c23
          try clear c23b0
          try clear c27
          try clear hx374_0
          try clear p374
          try clear q374
          obtain ⟨kq,x25_17,rfl,HA,HJ17,BK371,BK373,HB⟩:=hcut
          cases kq with
          | zero=>exact absurd HA.out (by simp [filter_May.j2])
          | succ kj17 =>
           have H:=HA.out
           clear HA
           simp only [filter_May.j2] at H
           by_cases c30 : x25_17=true
           ·subst c30
            have H1 : (some false)=some r:=by rw [if_pos rfl] at H;exact H
            clear H
            have H:=H1
            clear H1
            obtain rfl:=Option.some.inj H
            go_wp2
            go_ret
            exact ⟨by first|rfl|(simp [errW_none,errW_some] <;> rfl)|(simp [*,errW_none,errW_some] <;> rfl),by repeat (first|(with_reducible first|exact HB.out|apply below_alloc|apply pw_below_drewN|apply below_drew1|refine below_set ?_ GE371.out|refine below_set ?_ GE373.out)|exact HB.out)⟩
           ·replace c30:=Bool.eq_false_iff.mpr c30
            subst c30
            have H1 : (if ((rd_T39 l1 x9_1).f1)=7 then (if 0≤((rd_T39 l1 x9_1).f0) then (if ((rd_T39 l1 x9_1).f0) < (l0_0.length : Int) then (if (rd l0_0 ((rd_T39 l1 x9_1).f0))=3 then (filter_May.l0 kj17 l1 l1 (l1.length : Int) (wrap64 (x9_1 + 1)) l0_0 a0_1 a0_2 a0_3) else (some false)) else (none)) else (none)) else (filter_May.l0 kj17 l1 l1 (l1.length : Int) (wrap64 (x9_1 + 1)) l0_0 a0_1 a0_2 a0_3))=some r:=by rw [if_neg (show ¬ (false=true) by decide)] at H;exact H
            clear H
            have H:=H1
            clear H1
            by_cases c31 : ((rd_T39 l1 x9_1).f1)=7
            ·rw [if_pos c31] at H
             have c31b0 : (((rd_T39 l1 x9_1).f1) == 7)=true:=beq_iff_eq.mpr c31
             have c31b1 : (((rd_T39 l1 x9_1).f1) != 7)=false:=bne_eq_false_iff_eq.mpr c31
             clear c31
             by_cases c32 : 0≤((rd_T39 l1 x9_1).f0)
             ·rw [if_pos c32] at H
              have c32b0 : decide (0≤((rd_T39 l1 x9_1).f0))=true:=decide_eq_true c32
              clear c32
              by_cases c33 : ((rd_T39 l1 x9_1).f0) < (l0_0.length : Int)
              ·rw [if_pos c33] at H
               have c33b0 : decide (((rd_T39 l1 x9_1).f0) < (l0_0.length : Int))=true:=decide_eq_true c33
               clear c33
               by_cases c34 : (rd l0_0 ((rd_T39 l1 x9_1).f0))=3
               ·rw [if_pos c34] at H
                have c34b0 : ((rd l0_0 ((rd_T39 l1 x9_1).f0)) == 3)=true:=beq_iff_eq.mpr c34
                have c34b1 : ((rd l0_0 ((rd_T39 l1 x9_1).f0)) != 3)=false:=bne_eq_false_iff_eq.mpr c34
                clear c34
                have H':=Aside0.mk H
                clear H
                have hnb35:=NB373_371.out
                have hnc35:=NB371_373.out
                have hcz36_0 : wc.cell? ⟨gb373,0,none⟩=some (.int .i64 ((rd_T39 l1 x9_1).f0)):=(blk_cell BK373.out 0).trans rfl
                have hcz36_1 : wc.cell? ⟨gb373,1,none⟩=some (.int .i64 ((rd_T39 l1 x9_1).f1)):=(blk_cell BK373.out 1).trans rfl
                have hcz36_2 : wc.cell? ⟨gb373,2,none⟩=some (.int .i64 ((rd_T39 l1 x9_1).f2.f0)):=(blk_cell BK373.out 2).trans rfl
                have hcz36_3 : wc.cell? ⟨gb373,3,none⟩=some (.string ((rd_T39 l1 x9_1).f2.f1)):=(blk_cell BK373.out 3).trans rfl
                have hfz36_0:=blk_frozen BK373.out 0
                have hfz36_1:=blk_frozen BK373.out 1
                have hfz36_2:=blk_frozen BK373.out 2
                have hfz36_3:=blk_frozen BK373.out 3
                have hcz37_0 : wc.cell? ⟨gb371,0,none⟩=some (.slice A0_0 l0_0.length c0_0):=(blk_cell BK371.out 0).trans rfl
                have hcz37_1 : wc.cell? ⟨gb371,1,none⟩=some (.int .i64 a0_1):=(blk_cell BK371.out 1).trans rfl
                have hcz37_2 : wc.cell? ⟨gb371,2,none⟩=some (.int .i64 a0_2):=(blk_cell BK371.out 2).trans rfl
                have hcz37_3 : wc.cell? ⟨gb371,3,none⟩=some (.int .i64 a0_3):=(blk_cell BK371.out 3).trans rfl
                have hfz37_0:=blk_frozen BK371.out 0
                have hfz37_1:=blk_frozen BK371.out 1
                have hfz37_2:=blk_frozen BK371.out 2
                have hfz37_3:=blk_frozen BK371.out 3
                have p376 : 0≤(((rd_T39 l1 x9_1).f0) : Int):=of_decide_eq_true (by first|(with_reducible assumption)|assumption)
                have q376 : ((rd_T39 l1 x9_1).f0) < (l0_0.length : Int):=of_decide_eq_true (by first|(with_reducible assumption)|assumption)
                obtain ⟨ad376,e376,hx376_0⟩:=Kd.at_int HR0_0.out ((rd_T39 l1 x9_1).f0) p376 q376
                cases e376
                replace hx376_0:=(HB.out.cell (World.block_lt_of_cell? w _ hx376_0)).trans hx376_0
                replace p376:=eq_true p376
                replace q376:=eq_true q376
                go_wp2
                go_roundg kj17
                case measure=>have:=HK1.out;have:=HJ6.out;have:=HJ17.out;omega
                case rel=>exact ⟨(wrap64 (x9_1 + 1)),(by first|rfl|(simp;done)|(simp [*];done)),(by first|exact H'|(subst_vars;exact H')),⟨by have:=HK1.out;have:=HJ6.out;have:=HJ17.out;omega⟩,⟨by (with_reducible repeat (first|refine blk_drewN ?_ _|refine blk_drew ?_|refine blk_alloc ?_ _));exact BK371.out⟩,⟨by repeat (first|(with_reducible first|exact HB.out|apply below_alloc|apply pw_below_drewN|apply below_drew1|refine below_set ?_ GE371.out|refine below_set ?_ GE373.out)|exact HB.out)⟩⟩
               ·rw [if_neg c34] at H
                have c34b0 : ((rd l0_0 ((rd_T39 l1 x9_1).f0)) == 3)=false:=beq_eq_false_iff_ne.mpr c34
                have c34b1 : ((rd l0_0 ((rd_T39 l1 x9_1).f0)) != 3)=true:=bne_iff_ne.mpr c34
                obtain rfl:=Option.some.inj H
                have hnb38:=NB373_371.out
                have hnc38:=NB371_373.out
                have hcz39_0 : wc.cell? ⟨gb373,0,none⟩=some (.int .i64 ((rd_T39 l1 x9_1).f0)):=(blk_cell BK373.out 0).trans rfl
                have hcz39_1 : wc.cell? ⟨gb373,1,none⟩=some (.int .i64 ((rd_T39 l1 x9_1).f1)):=(blk_cell BK373.out 1).trans rfl
                have hcz39_2 : wc.cell? ⟨gb373,2,none⟩=some (.int .i64 ((rd_T39 l1 x9_1).f2.f0)):=(blk_cell BK373.out 2).trans rfl
                have hcz39_3 : wc.cell? ⟨gb373,3,none⟩=some (.string ((rd_T39 l1 x9_1).f2.f1)):=(blk_cell BK373.out 3).trans rfl
                have hfz39_0:=blk_frozen BK373.out 0
                have hfz39_1:=blk_frozen BK373.out 1
                have hfz39_2:=blk_frozen BK373.out 2
                have hfz39_3:=blk_frozen BK373.out 3
                have hcz40_0 : wc.cell? ⟨gb371,0,none⟩=some (.slice A0_0 l0_0.length c0_0):=(blk_cell BK371.out 0).trans rfl
                have hcz40_1 : wc.cell? ⟨gb371,1,none⟩=some (.int .i64 a0_1):=(blk_cell BK371.out 1).trans rfl
                have hcz40_2 : wc.cell? ⟨gb371,2,none⟩=some (.int .i64 a0_2):=(blk_cell BK371.out 2).trans rfl
                have hcz40_3 : wc.cell? ⟨gb371,3,none⟩=some (.int .i64 a0_3):=(blk_cell BK371.out 3).trans rfl
                have hfz40_0:=blk_frozen BK371.out 0
                have hfz40_1:=blk_frozen BK371.out 1
                have hfz40_2:=blk_frozen BK371.out 2
                have hfz40_3:=blk_frozen BK371.out 3
                have p376 : 0≤(((rd_T39 l1 x9_1).f0) : Int):=of_decide_eq_true (by first|(with_reducible assumption)|assumption)
                have q376 : ((rd_T39 l1 x9_1).f0) < (l0_0.length : Int):=of_decide_eq_true (by first|(with_reducible assumption)|assumption)
                obtain ⟨ad376,e376,hx376_0⟩:=Kd.at_int HR0_0.out ((rd_T39 l1 x9_1).f0) p376 q376
                cases e376
                replace hx376_0:=(HB.out.cell (World.block_lt_of_cell? w _ hx376_0)).trans hx376_0
                replace p376:=eq_true p376
                replace q376:=eq_true q376
                go_wp2
                go_ret
                exact ⟨by first|rfl|(simp [errW_none,errW_some] <;> rfl)|(simp [*,errW_none,errW_some] <;> rfl),by repeat (first|(with_reducible first|exact HB.out|apply below_alloc|apply pw_below_drewN|apply below_drew1|refine below_set ?_ GE371.out|refine below_set ?_ GE373.out)|exact HB.out)⟩
              ·rw [if_neg c33] at H
               exact absurd H (by simp)
             ·rw [if_neg c32] at H
              exact absurd H (by simp)
            ·rw [if_neg c31] at H
             have c31b0 : (((rd_T39 l1 x9_1).f1) == 7)=false:=beq_eq_false_iff_ne.mpr c31
             have c31b1 : (((rd_T39 l1 x9_1).f1) != 7)=true:=bne_iff_ne.mpr c31
             have H':=Aside0.mk H
             clear H
             have hnb41:=NB373_371.out
             have hnc41:=NB371_373.out
             have hcz42_0 : wc.cell? ⟨gb373,0,none⟩=some (.int .i64 ((rd_T39 l1 x9_1).f0)):=(blk_cell BK373.out 0).trans rfl
             have hcz42_1 : wc.cell? ⟨gb373,1,none⟩=some (.int .i64 ((rd_T39 l1 x9_1).f1)):=(blk_cell BK373.out 1).trans rfl
             have hcz42_2 : wc.cell? ⟨gb373,2,none⟩=some (.int .i64 ((rd_T39 l1 x9_1).f2.f0)):=(blk_cell BK373.out 2).trans rfl
             have hcz42_3 : wc.cell? ⟨gb373,3,none⟩=some (.string ((rd_T39 l1 x9_1).f2.f1)):=(blk_cell BK373.out 3).trans rfl
             have hfz42_0:=blk_frozen BK373.out 0
             have hfz42_1:=blk_frozen BK373.out 1
             have hfz42_2:=blk_frozen BK373.out 2
             have hfz42_3:=blk_frozen BK373.out 3
             go_wp2
             go_roundg kj17
             case measure=>have:=HK1.out;have:=HJ6.out;have:=HJ17.out;omega
             case rel=>exact ⟨(wrap64 (x9_1 + 1)),(by first|rfl|(simp;done)|(simp [*];done)),(by first|exact H'|(subst_vars;exact H')),⟨by have:=HK1.out;have:=HJ6.out;have:=HJ17.out;omega⟩,⟨by (with_reducible repeat (first|refine blk_drewN ?_ _|refine blk_drew ?_|refine blk_alloc ?_ _));exact BK371.out⟩,⟨by repeat (first|(with_reducible first|exact HB.out|apply below_alloc|apply pw_below_drewN|apply below_drew1|refine below_set ?_ GE371.out|refine below_set ?_ GE373.out)|exact HB.out)⟩⟩
     ·rw [if_neg c6] at H
      exact absurd H (by simp)
    ·rw [if_neg c5] at H
     exact absurd H (by simp)
   ·rw [if_neg c4] at H
    have c4b0 : decide (x9_1 < (l1.length : Int))=false:=decide_eq_false c4
    clear c4
    obtain rfl:=Option.some.inj H
    go_wp2
    go_ret
    exact ⟨by first|rfl|(simp [errW_none,errW_some] <;> rfl)|(simp [*,errW_none,errW_some] <;> rfl),by repeat (first|(with_reducible first|exact HB.out|apply below_alloc|apply pw_below_drewN|apply below_drew1|refine below_set ?_ GE371.out)|exact HB.out)⟩
end Go.Proofs.Ytbkpifcjgedjaaa.P

