/- Texts of MergeFirst. Merged: Px6. -/
import Derived.Test.YtfiandejapgkoaaQMergeFirstPx0
import Derived.Test.YtfiandejapgkoaaQMergeFirstPx5
namespace Go.Proofs.Ytfiandejapgkoaa.P
open Go.RowKit Go.Proofs.YtfiandejapgkoaaW.PrintWords Go.Proofs.YtfiandejapgkoaaW.PrintLast Go.Proofs.YtfiandejapgkoaaW.PrintMore
attribute [local go_sem] max2_int min2_int max_two min_two max_three min_three max_four min_four   -- for this text's walks alone
set_option linter.unusedVariables false
set_option linter.unusedSimpArgs false
def thresherref03_Compare.j0 : Nat→Bool→Bool→Option (Int)
 | 0,_,_=>none
 | k + 1,x8,x9=>if x8=true then (some (-1)) else (if x9=true then (some 1) else (some 0))
def thresherref03_Compare.f (k : Nat) (a0 : Int) (a1_0 : Int) (a1_1 : ByteArray) (a2_0 : Int) (a2_1 : ByteArray) : Option (Int):=(thresherref03_both.f k a0 a1_0 a1_1 a2_0 a2_1).bind fun t204=>(if t204=true then (if a0=2 then (if ((decide (a1_0 < 0)) != (decide (a2_0 < 0)))=true then (thresherref03_Compare.j0 k (decide (a2_0 < 0)) (decide (a1_0 < 0))) else (thresherref03_Compare.j0 k (decide (a1_0 < a2_0)) (decide (a1_0 > a2_0)))) else (if a0=3 then ((thresherref03_texts.f k a1_1 a2_1).bind fun t205=>(some t205)) else (thresherref03_Compare.j0 k (decide (a1_0 < a2_0)) (decide (a1_0 > a2_0))))) else (some 0))
theorem thresherref03_Compare.mono_l : ∀ k,(∀ y0 y1,LeO (thresherref03_Compare.j0 k y0 y1) (thresherref03_Compare.j0 (k + 1) y0 y1))
 | 0=>fun _ _ r h=>by simp [thresherref03_Compare.j0] at h
 | k + 1=>by
  have ih0:=thresherref03_Compare.mono_l k
  ·intro y0 y1
   unfold thresherref03_Compare.j0
   repeat' first
   | (with_reducible exact ih0 _ _)
   | (with_reducible exact thresherref03_both.mono _ _ _ _ _ _)
   | (with_reducible exact thresherref03_texts.mono _ _ _)
   | (with_reducible exact LeO.refl _)
   | (with_reducible exact LeO.none _)
   | (with_reducible refine LeO.ite ?_ ?_)
   | (with_reducible refine LeO.bind ?_ (fun _=>?_))
   | exact ih0 _ _
   | exact thresherref03_both.mono _ _ _ _ _ _
   | exact thresherref03_texts.mono _ _ _
   | exact LeO.none _
   | refine LeO.ite ?_ ?_
   | refine LeO.bind ?_ (fun _=>?_)
theorem thresherref03_Compare.mono : ∀ a0 a1 a2 a3 a4 k,LeO (thresherref03_Compare.f k a0 a1 a2 a3 a4) (thresherref03_Compare.f (k + 1) a0 a1 a2 a3 a4):=by
 intro a0 a1 a2 a3 a4 k
 have ih0:=thresherref03_Compare.mono_l k
 unfold thresherref03_Compare.f
 repeat' first
   | (with_reducible exact ih0 _ _)
   | (with_reducible exact thresherref03_both.mono _ _ _ _ _ _)
   | (with_reducible exact thresherref03_texts.mono _ _ _)
   | (with_reducible exact LeO.refl _)
   | (with_reducible exact LeO.none _)
   | (with_reducible refine LeO.ite ?_ ?_)
   | (with_reducible refine LeO.bind ?_ (fun _=>?_))
   | exact ih0 _ _
   | exact thresherref03_both.mono _ _ _ _ _ _
   | exact thresherref03_texts.mono _ _ _
   | exact LeO.none _
   | refine LeO.ite ?_ ?_
   | refine LeO.bind ?_ (fun _=>?_)
set_option maxHeartbeats 8000000 in
set_option maxRecDepth 100000 in
theorem thresherref03_Compare.calls (k : Nat) (a0 : Int) (a1_0 : Int) (a1_1 : ByteArray) (a2_0 : Int) (a2_1 : ByteArray) (r : Int) (w : World) (h : thresherref03_Compare.f k a0 a1_0 a1_1 a2_0 a2_1=some r) :
  Calls Try.prog 35 #[.int .i64 a0,.agg #[.int .i64 a1_0,.string a1_1],.agg #[.int .i64 a2_0,.string a2_1]] w fun e w'=>e=.returned (.int .i64 r)∧Below w.heap.size w w':=by
 have hu31:=Try.underlying31
 have HB:=Aside0.mk (Below.refl w.heap.size w)
 have H : ((thresherref03_both.f k a0 a1_0 a1_1 a2_0 a2_1).bind fun t204=>(if t204=true then (if a0=2 then (if ((decide (a1_0 < 0)) != (decide (a2_0 < 0)))=true then (thresherref03_Compare.j0 k (decide (a2_0 < 0)) (decide (a1_0 < 0))) else (thresherref03_Compare.j0 k (decide (a1_0 < a2_0)) (decide (a1_0 > a2_0)))) else (if a0=3 then ((thresherref03_texts.f k a1_1 a2_1).bind fun t205=>(some t205)) else (thresherref03_Compare.j0 k (decide (a1_0 < a2_0)) (decide (a1_0 > a2_0))))) else (some 0)))=some r:=h
 clear h
 replace H:=Option.bind_eq_some_iff.mp H
 obtain ⟨t204,A40,H⟩:=H
 replace H : (if t204=true then (if a0=2 then (if ((decide (a1_0 < 0)) != (decide (a2_0 < 0)))=true then (thresherref03_Compare.j0 k (decide (a2_0 < 0)) (decide (a1_0 < 0))) else (thresherref03_Compare.j0 k (decide (a1_0 < a2_0)) (decide (a1_0 > a2_0)))) else (if a0=3 then ((thresherref03_texts.f k a1_1 a2_1).bind fun t205=>(some t205)) else (thresherref03_Compare.j0 k (decide (a1_0 < a2_0)) (decide (a1_0 > a2_0))))) else (some 0))=some r:=H
 have A4:=Aside0.mk A40
 clear A40
 by_cases c5 : t204=true
 ·subst c5
  have H1 : (if a0=2 then (if ((decide (a1_0 < 0)) != (decide (a2_0 < 0)))=true then (thresherref03_Compare.j0 k (decide (a2_0 < 0)) (decide (a1_0 < 0))) else (thresherref03_Compare.j0 k (decide (a1_0 < a2_0)) (decide (a1_0 > a2_0)))) else (if a0=3 then ((thresherref03_texts.f k a1_1 a2_1).bind fun t205=>(some t205)) else (thresherref03_Compare.j0 k (decide (a1_0 < a2_0)) (decide (a1_0 > a2_0)))))=some r:=by rw [if_pos rfl] at H;exact H
  clear H
  have H:=H1
  clear H1
  have HC6:=Aside0.mk H
  clear H
  go_enter Try.func35,Try.ntmps35
  go_upto_block 0 with (first|((with_reducible refine gate_dst (N:=4) rfl ?_);refine box_event ?hg (N:=4) ?hd (cs:=#[.int .i64 a1_0,.string a1_1]) (t:=31) ?hr ?_;(case hd=>rfl);(case hg=>rfl);(case hr=>first|(go_simp;done)|(go_simp;rfl));intro gb202 hg w7 hbox hb;have n0_:=Aside0.mk (below_step (below_up HB.out) hb);have n1_:=Aside0.mk (hbox);have n2_:=Aside0.mk ((by rw [hg];exact (below_size (below_up HB.out)) : w.heap.size≤gb202));have n3_:=Aside0.mk ((by rw [hg];exact (below_size (below_up HB.out)) : w.heap.size≤gb202));clear HB;have HB:=n0_;have BK202:=n1_;have GW202:=n2_;have GE202:=n3_;clear n0_ n1_ n2_ n3_;clear hb hbox hg)|((with_reducible refine gate_dst (N:=5) rfl ?_);refine box_event ?hg (N:=5) ?hd (cs:=#[.int .i64 a2_0,.string a2_1]) (t:=31) ?hr ?_;(case hd=>rfl);(case hg=>rfl);(case hr=>first|(go_simp;done)|(go_simp;rfl));intro gb203 hg w8 hbox hb;have n0_:=Aside0.mk (blk_below (blk_up BK202.out) hb);have n1_:=Aside0.mk (below_step (below_go HB.out) hb);have n2_:=Aside0.mk (hbox);have n3_:=Aside0.mk ((by rw [hg];exact (below_size (below_go HB.out)) : w.heap.size≤gb203));have n4_:=Aside0.mk ((by rw [hg];exact (below_size (below_go HB.out)) : w.heap.size≤gb203));have n5_:=Aside0.mk ((by rw [hg];exact Nat.ne_of_lt (blk_lt (blk_up BK202.out)) : gb202≠gb203));have n6_:=Aside0.mk ((by rw [hg];exact Nat.ne_of_gt (blk_lt (blk_up BK202.out)) : gb203≠gb202));clear BK202;clear HB;have BK202:=n0_;have HB:=n1_;have BK203:=n2_;have GW203:=n3_;have GE203:=n4_;have NB202_203:=n5_;have NB203_202:=n6_;clear n0_ n1_ n2_ n3_ n4_ n5_ n6_;clear hb hbox hg;have hnb9:=NB202_203.out;have hnc9:=NB203_202.out;have hcz10_0 : w8.cell? ⟨gb202,0,none⟩=some (.int .i64 a1_0):=(blk_cell BK202.out 0).trans rfl;have hcz10_1 : w8.cell? ⟨gb202,1,none⟩=some (.string a1_1):=(blk_cell BK202.out 1).trans rfl;have hfz10_0:=blk_frozen BK202.out 0;have hfz10_1:=blk_frozen BK202.out 1;have hcz11_0 : w8.cell? ⟨gb203,0,none⟩=some (.int .i64 a2_0):=(blk_cell BK203.out 0).trans rfl;have hcz11_1 : w8.cell? ⟨gb203,1,none⟩=some (.string a2_1):=(blk_cell BK203.out 1).trans rfl;have hfz11_0:=blk_frozen BK203.out 0;have hfz11_1:=blk_frozen BK203.out 1)|((with_reducible refine gate_callee (f:=39) rfl ?_);refine goesL_ (some 13) rfl rfl Try.func39 (by kernel_rfl) rfl #[.int .i64 a0,.agg #[.int .i64 a1_0,.string a1_1],.agg #[.int .i64 a2_0,.string a2_1]] rfl (by (try simp only [List.map_toArray,List.map_cons,List.map_nil]);first|done|rfl|(simp only [List.length_drop,List.length_take];rfl)) ?_;(with_reducible refine (thresherref03_both.calls k a0 a1_0 a1_1 a2_0 a2_1 true _ A4.out).mono ?_);rintro e w12 ⟨rfl,hb⟩;refine ⟨_,rfl,?_⟩;have n0_:=Aside0.mk (blk_below (blk_up BK202.out) hb);have n1_:=Aside0.mk (blk_below (blk_up BK203.out) hb);have n2_:=Aside0.mk (below_step (below_go HB.out) hb);clear BK202;clear BK203;clear HB;have BK202:=n0_;have BK203:=n1_;have HB:=n2_;clear n0_ n1_ n2_;(try clear hb);(try clear hb2);(try clear hk);(try clear hi);have hcz13_0 : w12.cell? ⟨gb202,0,none⟩=some (.int .i64 a1_0):=(blk_cell BK202.out 0).trans rfl;have hcz13_1 : w12.cell? ⟨gb202,1,none⟩=some (.string a1_1):=(blk_cell BK202.out 1).trans rfl;have hfz13_0:=blk_frozen BK202.out 0;have hfz13_1:=blk_frozen BK202.out 1;have hcz14_0 : w12.cell? ⟨gb203,0,none⟩=some (.int .i64 a2_0):=(blk_cell BK203.out 0).trans rfl;have hcz14_1 : w12.cell? ⟨gb203,1,none⟩=some (.string a2_1):=(blk_cell BK203.out 1).trans rfl;have hfz14_0:=blk_frozen BK203.out 0;have hfz14_1:=blk_frozen BK203.out 1))
  (try simp only [Act.put,List.setIfInBounds_toArray,List.set_cons_zero,List.set_cons_succ])
  go_cut [8,9] (fun v8 v9 wc=>∃ (kq : Nat) (x8_5 : Bool) (x9_5 : Bool),v8=.bool x8_5∧v9=.bool x9_5∧Aside0 (thresherref03_Compare.j0 kq x8_5 x9_5=some r)∧Aside0 (kq≤k)∧Aside0 (wc.heap[gb202]?=some (.cells #[.int .i64 a1_0,.string a1_1] 31 (0,0)))∧Aside0 (wc.heap[gb203]?=some (.cells #[.int .i64 a2_0,.string a2_1] 31 (0,0)))∧Aside0 (Below w.heap.size w wc))
  case first =>
   have H:=HC6.out
   clear HC6
   by_cases c15 : a0=2
   ·rw [if_pos c15] at H
    have c15b0 : (a0 == 2)=true:=beq_iff_eq.mpr c15
    have c15b1 : (a0 != 2)=false:=bne_eq_false_iff_eq.mpr c15
    clear c15
    (first|rw [c15b0]|(simp only [i64_w,i32_w];rw [c15b0])|skip)
    by_cases c16 : ((decide (a1_0 < 0)) != (decide (a2_0 < 0)))=true
    ·rw [if_pos c16] at H
     have c16b0 : ((decide (a1_0 < 0)) != (decide (a2_0 < 0)))=true:=c16
     (try (have c16b1 : decide ((decide (a1_0 < 0))=(decide (a2_0 < 0)))=false:=by simpa using c16))
     (try (have c16b2 : ((decide (a1_0 < 0)) == (decide (a2_0 < 0)))=false:=by simpa using c16))
     (try (have c16b3 : ¬ ((decide (a1_0 < 0))=(decide (a2_0 < 0))):=by simpa using c16))
     clear c16
     have H':=Aside0.mk H
     clear H
     have hnb17:=NB202_203.out
     have hnc17:=NB203_202.out
     have hcz18_0 : w12.cell? ⟨gb202,0,none⟩=some (.int .i64 a1_0):=(blk_cell BK202.out 0).trans rfl
     have hcz18_1 : w12.cell? ⟨gb202,1,none⟩=some (.string a1_1):=(blk_cell BK202.out 1).trans rfl
     have hfz18_0:=blk_frozen BK202.out 0
     have hfz18_1:=blk_frozen BK202.out 1
     have hcz19_0 : w12.cell? ⟨gb203,0,none⟩=some (.int .i64 a2_0):=(blk_cell BK203.out 0).trans rfl
     have hcz19_1 : w12.cell? ⟨gb203,1,none⟩=some (.string a2_1):=(blk_cell BK203.out 1).trans rfl
     have hfz19_0:=blk_frozen BK203.out 0
     have hfz19_1:=blk_frozen BK203.out 1
     go_wp2
     go_meet
     case rel=>exact ⟨_,(decide (a2_0 < 0)),(decide (a1_0 < 0)),(by first|rfl|(simp;done)|(simp [*];done)),(by first|rfl|(simp;done)|(simp [*];done)),(by first|exact H'|(subst_vars;exact H')),⟨by first|omega|exact Nat.le_refl _⟩,⟨by (with_reducible repeat (first|refine blk_drewN ?_ _|refine blk_drew ?_|refine blk_alloc ?_ _));exact BK202.out⟩,⟨by (with_reducible repeat (first|refine blk_drewN ?_ _|refine blk_drew ?_|refine blk_alloc ?_ _));exact BK203.out⟩,⟨by repeat (first|(with_reducible first|exact HB.out|apply below_alloc|apply pw_below_drewN|apply below_drew1|refine below_set ?_ GE202.out|refine below_set ?_ GE203.out)|exact HB.out)⟩⟩
    ·rw [if_neg c16] at H
     have c16b0 : ((decide (a1_0 < 0)) != (decide (a2_0 < 0)))=false:=by simpa using c16
     (try (have c16b1 : decide ((decide (a1_0 < 0))=(decide (a2_0 < 0)))=true:=by simpa using c16))
     (try (have c16b2 : ((decide (a1_0 < 0)) == (decide (a2_0 < 0)))=true:=by simpa using c16))
     clear c16
     have H':=Aside0.mk H
     clear H
     have hnb20:=NB202_203.out
     have hnc20:=NB203_202.out
     have hcz21_0 : w12.cell? ⟨gb202,0,none⟩=some (.int .i64 a1_0):=(blk_cell BK202.out 0).trans rfl
     have hcz21_1 : w12.cell? ⟨gb202,1,none⟩=some (.string a1_1):=(blk_cell BK202.out 1).trans rfl
     have hfz21_0:=blk_frozen BK202.out 0
     have hfz21_1:=blk_frozen BK202.out 1
     have hcz22_0 : w12.cell? ⟨gb203,0,none⟩=some (.int .i64 a2_0):=(blk_cell BK203.out 0).trans rfl
     have hcz22_1 : w12.cell? ⟨gb203,1,none⟩=some (.string a2_1):=(blk_cell BK203.out 1).trans rfl
     have hfz22_0:=blk_frozen BK203.out 0
     have hfz22_1:=blk_frozen BK203.out 1
     go_wp2
     go_meet
     case rel=>exact ⟨_,(decide (a1_0 < a2_0)),(decide (a1_0 > a2_0)),(by first|rfl|(simp;done)|(simp [*];done)),(by first|rfl|(simp;done)|(simp [*];done)),(by first|exact H'|(subst_vars;exact H')),⟨by first|omega|exact Nat.le_refl _⟩,⟨by (with_reducible repeat (first|refine blk_drewN ?_ _|refine blk_drew ?_|refine blk_alloc ?_ _));exact BK202.out⟩,⟨by (with_reducible repeat (first|refine blk_drewN ?_ _|refine blk_drew ?_|refine blk_alloc ?_ _));exact BK203.out⟩,⟨by repeat (first|(with_reducible first|exact HB.out|apply below_alloc|apply pw_below_drewN|apply below_drew1|refine below_set ?_ GE202.out|refine below_set ?_ GE203.out)|exact HB.out)⟩⟩
   ·rw [if_neg c15] at H
    have c15b0 : (a0 == 2)=false:=beq_eq_false_iff_ne.mpr c15
    have c15b1 : (a0 != 2)=true:=bne_iff_ne.mpr c15
    (first|rw [c15b0]|(simp only [i64_w,i32_w];rw [c15b0])|skip)
    by_cases c23 : a0=3
    ·rw [if_pos c23] at H
     have c23b0 : (a0 == 3)=true:=beq_iff_eq.mpr c23
     have c23b1 : (a0 != 3)=false:=bne_eq_false_iff_eq.mpr c23
     clear c23
     replace H:=Option.bind_eq_some_iff.mp H
     obtain ⟨t205,A240,H⟩:=H
     replace H : (some t205)=some r:=H
     have A24:=Aside0.mk A240
     clear A240
     obtain rfl:=Option.some.inj H
     have hnb25:=NB202_203.out
     have hnc25:=NB203_202.out
     have hcz26_0 : w12.cell? ⟨gb202,0,none⟩=some (.int .i64 a1_0):=(blk_cell BK202.out 0).trans rfl
     have hcz26_1 : w12.cell? ⟨gb202,1,none⟩=some (.string a1_1):=(blk_cell BK202.out 1).trans rfl
     have hfz26_0:=blk_frozen BK202.out 0
     have hfz26_1:=blk_frozen BK202.out 1
     have hcz27_0 : w12.cell? ⟨gb203,0,none⟩=some (.int .i64 a2_0):=(blk_cell BK203.out 0).trans rfl
     have hcz27_1 : w12.cell? ⟨gb203,1,none⟩=some (.string a2_1):=(blk_cell BK203.out 1).trans rfl
     have hfz27_0:=blk_frozen BK203.out 0
     have hfz27_1:=blk_frozen BK203.out 1
     go_wp2_with (first|((with_reducible refine gate_callee (f:=40) rfl ?_);refine goesL_ (some 48) rfl rfl Try.func40 (by kernel_rfl) rfl #[.string a1_1,.string a2_1] rfl (by (try simp only [List.map_toArray,List.map_cons,List.map_nil]);first|done|rfl|(simp only [List.length_drop,List.length_take];rfl)) ?_;(with_reducible refine (thresherref03_texts.calls k a1_1 a2_1 t205 _ A24.out).mono ?_);rintro e w' ⟨rfl,⟨nd,rfl⟩⟩;refine ⟨_,rfl,?_⟩))
     go_ret
     exact ⟨by first|rfl|(simp [errW_none,errW_some] <;> rfl)|(simp [*,errW_none,errW_some] <;> rfl),by repeat (first|(with_reducible first|exact HB.out|apply below_alloc|apply pw_below_drewN|apply below_drew1|refine below_set ?_ GE202.out|refine below_set ?_ GE203.out)|exact HB.out)⟩
    ·rw [if_neg c23] at H
     have c23b0 : (a0 == 3)=false:=beq_eq_false_iff_ne.mpr c23
     have c23b1 : (a0 != 3)=true:=bne_iff_ne.mpr c23
     have H':=Aside0.mk H
     clear H
     go_wp2
     go_meet
     case rel=>exact ⟨_,(decide (a1_0 < a2_0)),(decide (a1_0 > a2_0)),(by first|rfl|(simp;done)|(simp [*];done)),(by first|rfl|(simp;done)|(simp [*];done)),(by first|exact H'|(subst_vars;exact H')),⟨by first|omega|exact Nat.le_refl _⟩,⟨by (with_reducible repeat (first|refine blk_drewN ?_ _|refine blk_drew ?_|refine blk_alloc ?_ _));exact BK202.out⟩,⟨by (with_reducible repeat (first|refine blk_drewN ?_ _|refine blk_drew ?_|refine blk_alloc ?_ _));exact BK203.out⟩,⟨by repeat (first|(with_reducible first|exact HB.out|apply below_alloc|apply pw_below_drewN|apply below_drew1|refine below_set ?_ GE202.out|refine below_set ?_ GE203.out)|exact HB.out)⟩⟩
  case rest =>
   clear HC6
   try clear c1
   try clear c2
   try clear p2
   try clear c3
   try clear c4
   try clear c5
   try clear c9
   try clear c15
   try clear c15b0
   try clear c15b1
   try clear c16
   try clear c16b0
   try clear c16b1
   try clear c16b2
   try clear c17
   try clear c20
   try clear c23
   try clear c23b0
   try clear c23b1
   try clear c25
   try clear hcz10_0
   try clear hcz10_1
   try clear hcz11_0
   try clear hcz11_1
   try clear hcz13_0
   try clear hcz13_1
   try clear hcz14_0
   try clear hcz14_1
   try clear hcz18_0
   try clear hcz18_1
   try clear hcz19_0
   try clear hcz19_1
   try clear hcz21_0
   try clear hcz21_1
   try clear hcz22_0
   try clear hcz22_1
   try clear hcz26_0
   try clear hcz26_1
   try clear hcz27_0
   try clear hcz27_1
   try clear hfz10_0
   try clear hfz10_1
   try clear hfz11_0
   try clear hfz11_1
   try clear hfz13_0
   try clear hfz13_1
   try clear hfz14_0
   try clear hfz14_1
   try clear hfz18_0
   try clear hfz18_1
   try clear hfz19_0
   try clear hfz19_1
   try clear hfz21_0
   try clear hfz21_1
   try clear hfz22_0
   try clear hfz22_1
   try clear hfz26_0
   try clear hfz26_1
   try clear hfz27_0
   try clear hfz27_1
   obtain ⟨kq,x8_5,x9_5,rfl,rfl,HA,HJ5,BK202,BK203,HB⟩:=hcut
   cases kq with
   | zero=>exact absurd HA.out (by simp [thresherref03_Compare.j0])
   | succ kj5 =>
    have H:=HA.out
    clear HA
    simp only [thresherref03_Compare.j0] at H
    by_cases c28 : x8_5=true
    ·subst c28
     have H1 : (some (-1))=some r:=by rw [if_pos rfl] at H;exact H
     clear H
     have H:=H1
     clear H1
     obtain rfl:=Option.some.inj H
     go_wp2
     go_ret
     exact ⟨by first|rfl|(simp [errW_none,errW_some] <;> rfl)|(simp [*,errW_none,errW_some] <;> rfl),by repeat (first|(with_reducible first|exact HB.out|apply below_alloc|apply pw_below_drewN|apply below_drew1|refine below_set ?_ GE202.out|refine below_set ?_ GE203.out)|exact HB.out)⟩
    ·replace c28:=Bool.eq_false_iff.mpr c28
     subst c28
     have H1 : (if x9_5=true then (some 1) else (some 0))=some r:=by rw [if_neg (show ¬ (false=true) by decide)] at H;exact H
     clear H
     have H:=H1
     clear H1
     by_cases c29 : x9_5=true
     ·subst c29
      have H1 : (some 1)=some r:=by rw [if_pos rfl] at H;exact H
      clear H
      have H:=H1
      clear H1
      obtain rfl:=Option.some.inj H
      go_wp2
      go_ret
      exact ⟨by first|rfl|(simp [errW_none,errW_some] <;> rfl)|(simp [*,errW_none,errW_some] <;> rfl),by repeat (first|(with_reducible first|exact HB.out|apply below_alloc|apply pw_below_drewN|apply below_drew1|refine below_set ?_ GE202.out|refine below_set ?_ GE203.out)|exact HB.out)⟩
     ·replace c29:=Bool.eq_false_iff.mpr c29
      subst c29
      have H1 : (some 0)=some r:=by rw [if_neg (show ¬ (false=true) by decide)] at H;exact H
      clear H
      have H:=H1
      clear H1
      obtain rfl:=Option.some.inj H
      go_wp2
      go_ret
      exact ⟨by first|rfl|(simp [errW_none,errW_some] <;> rfl)|(simp [*,errW_none,errW_some] <;> rfl),by repeat (first|(with_reducible first|exact HB.out|apply below_alloc|apply pw_below_drewN|apply below_drew1|refine below_set ?_ GE202.out|refine below_set ?_ GE203.out)|exact HB.out)⟩
 ·replace c5:=Bool.eq_false_iff.mpr c5
  subst c5
  have H1 : (some 0)=some r:=by rw [if_neg (show ¬ (false=true) by decide)] at H;exact H
  clear H
  have H:=H1
  clear H1
  obtain rfl:=Option.some.inj H
  go_enter Try.func35,Try.ntmps35
  go_wp2_with (first|((with_reducible refine gate_dst (N:=4) rfl ?_);refine box_event ?hg (N:=4) ?hd (cs:=#[.int .i64 a1_0,.string a1_1]) (t:=31) ?hr ?_;(case hd=>rfl);(case hg=>rfl);(case hr=>first|(go_simp;done)|(go_simp;rfl));intro gb202 hg w30 hbox hb;have n0_:=Aside0.mk (below_step (below_up HB.out) hb);have n1_:=Aside0.mk (hbox);have n2_:=Aside0.mk ((by rw [hg];exact (below_size (below_up HB.out)) : w.heap.size≤gb202));have n3_:=Aside0.mk ((by rw [hg];exact (below_size (below_up HB.out)) : w.heap.size≤gb202));clear HB;have HB:=n0_;have BK202:=n1_;have GW202:=n2_;have GE202:=n3_;clear n0_ n1_ n2_ n3_;clear hb hbox hg)|((with_reducible refine gate_dst (N:=5) rfl ?_);refine box_event ?hg (N:=5) ?hd (cs:=#[.int .i64 a2_0,.string a2_1]) (t:=31) ?hr ?_;(case hd=>rfl);(case hg=>rfl);(case hr=>first|(go_simp;done)|(go_simp;rfl));intro gb203 hg w31 hbox hb;have n0_:=Aside0.mk (blk_below (blk_up BK202.out) hb);have n1_:=Aside0.mk (below_step (below_go HB.out) hb);have n2_:=Aside0.mk (hbox);have n3_:=Aside0.mk ((by rw [hg];exact (below_size (below_go HB.out)) : w.heap.size≤gb203));have n4_:=Aside0.mk ((by rw [hg];exact (below_size (below_go HB.out)) : w.heap.size≤gb203));have n5_:=Aside0.mk ((by rw [hg];exact Nat.ne_of_lt (blk_lt (blk_up BK202.out)) : gb202≠gb203));have n6_:=Aside0.mk ((by rw [hg];exact Nat.ne_of_gt (blk_lt (blk_up BK202.out)) : gb203≠gb202));clear BK202;clear HB;have BK202:=n0_;have HB:=n1_;have BK203:=n2_;have GW203:=n3_;have GE203:=n4_;have NB202_203:=n5_;have NB203_202:=n6_;clear n0_ n1_ n2_ n3_ n4_ n5_ n6_;clear hb hbox hg;have hnb32:=NB202_203.out;have hnc32:=NB203_202.out;have hcz33_0 : w31.cell? ⟨gb202,0,none⟩=some (.int .i64 a1_0):=(blk_cell BK202.out 0).trans rfl;have hcz33_1 : w31.cell? ⟨gb202,1,none⟩=some (.string a1_1):=(blk_cell BK202.out 1).trans rfl;have hfz33_0:=blk_frozen BK202.out 0;have hfz33_1:=blk_frozen BK202.out 1;have hcz34_0 : w31.cell? ⟨gb203,0,none⟩=some (.int .i64 a2_0):=(blk_cell BK203.out 0).trans rfl;have hcz34_1 : w31.cell? ⟨gb203,1,none⟩=some (.string a2_1):=(blk_cell BK203.out 1).trans rfl;have hfz34_0:=blk_frozen BK203.out 0;have hfz34_1:=blk_frozen BK203.out 1)|((with_reducible refine gate_callee (f:=39) rfl ?_);refine goesL_ (some 13) rfl rfl Try.func39 (by kernel_rfl) rfl #[.int .i64 a0,.agg #[.int .i64 a1_0,.string a1_1],.agg #[.int .i64 a2_0,.string a2_1]] rfl (by (try simp only [List.map_toArray,List.map_cons,List.map_nil]);first|done|rfl|(simp only [List.length_drop,List.length_take];rfl)) ?_;(with_reducible refine (thresherref03_both.calls k a0 a1_0 a1_1 a2_0 a2_1 false _ A4.out).mono ?_);rintro e w35 ⟨rfl,hb⟩;refine ⟨_,rfl,?_⟩;have n0_:=Aside0.mk (blk_below (blk_up BK202.out) hb);have n1_:=Aside0.mk (blk_below (blk_up BK203.out) hb);have n2_:=Aside0.mk (below_step (below_go HB.out) hb);clear BK202;clear BK203;clear HB;have BK202:=n0_;have BK203:=n1_;have HB:=n2_;clear n0_ n1_ n2_;(try clear hb);(try clear hb2);(try clear hk);(try clear hi)))
  go_ret
  exact ⟨by first|rfl|(simp [errW_none,errW_some] <;> rfl)|(simp [*,errW_none,errW_some] <;> rfl),by repeat (first|(with_reducible first|exact HB.out|apply below_alloc|apply pw_below_drewN|apply below_drew1|refine below_set ?_ GE202.out|refine below_set ?_ GE203.out)|exact HB.out)⟩
end Go.Proofs.Ytfiandejapgkoaa.P

