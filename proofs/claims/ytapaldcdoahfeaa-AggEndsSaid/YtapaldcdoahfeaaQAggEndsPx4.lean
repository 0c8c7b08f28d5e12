/- Texts of AggEnds. Merged: Px4. -/
import Derived.Test.YtapaldcdoahfeaaQAggEndsPx0
import Derived.Test.YtapaldcdoahfeaaQAggEndsPx3
import Derived.Test.YtapaldcdoahfeaaQAggEndsHCmp
namespace Go.Proofs.Ytapaldcdoahfeaa.P
open Go.RowKit Go.Proofs.YtapaldcdoahfeaaW.PrintWords Go.Proofs.YtapaldcdoahfeaaW.PrintLast Go.Proofs.YtapaldcdoahfeaaW.PrintMore
attribute [local go_sem] max2_int min2_int max_two min_two max_three min_three max_four min_four   -- for this text's walks alone
set_option linter.unusedVariables false
set_option linter.unusedSimpArgs false
def value_Compare.j0 : Nat→Int→Bool→Int→ByteArray→Int→ByteArray→Option (Int)
 | 0,_,_,_,_,_,_=>none
 | k + 1,x0,x7,x114000,x114001,x115000,x115001=>if x7=true then (some 0) else (if x0=3 then ((strings_Compare.f x114001 x115001).bind fun t117=>(some t117)) else (if x0=2 then ((cmp_Compare_uint64.f (IntKind.u64.wrap (x114000)) (IntKind.u64.wrap (x115000))).bind fun t118=>(some t118)) else ((cmp_Compare_int64.f x114000 x115000).bind fun t119=>(some t119))))
def value_Compare.f (k : Nat) (a0 : Int) (a1_0 : Int) (a1_1 : ByteArray) (a2_0 : Int) (a2_1 : ByteArray) : Option (Int):=(value_Fits.f k a0 a1_0 a1_1).bind fun t115=>(if t115=true then ((value_Fits.f k a0 a2_0 a2_1).bind fun t116=>(value_Compare.j0 k a0 (!t116) a1_0 a1_1 a2_0 a2_1)) else (value_Compare.j0 k a0 true a1_0 a1_1 a2_0 a2_1))
theorem value_Compare.mono_l : ∀ k,(∀ y0 y1 y2 y3 y4 y5,LeO (value_Compare.j0 k y0 y1 y2 y3 y4 y5) (value_Compare.j0 (k + 1) y0 y1 y2 y3 y4 y5))
 | 0=>fun _ _ _ _ _ _ r h=>by simp [value_Compare.j0] at h
 | k + 1=>by
  have ih0:=value_Compare.mono_l k
  ·intro y0 y1 y2 y3 y4 y5
   unfold value_Compare.j0
   repeat' first
   | (with_reducible exact ih0 _ _ _ _ _ _)
   | (with_reducible exact value_Fits.mono _ _ _ _)
   | (with_reducible exact LeO.refl _)
   | (with_reducible exact LeO.none _)
   | (with_reducible refine LeO.ite ?_ ?_)
   | (with_reducible refine LeO.bind ?_ (fun _=>?_))
   | exact ih0 _ _ _ _ _ _
   | exact value_Fits.mono _ _ _ _
   | exact LeO.none _
   | refine LeO.ite ?_ ?_
   | refine LeO.bind ?_ (fun _=>?_)
theorem value_Compare.mono : ∀ a0 a1 a2 a3 a4 k,LeO (value_Compare.f k a0 a1 a2 a3 a4) (value_Compare.f (k + 1) a0 a1 a2 a3 a4):=by
 intro a0 a1 a2 a3 a4 k
 have ih0:=value_Compare.mono_l k
 unfold value_Compare.f
 repeat' first
   | (with_reducible exact ih0 _ _ _ _ _ _)
   | (with_reducible exact value_Fits.mono _ _ _ _)
   | (with_reducible exact LeO.refl _)
   | (with_reducible exact LeO.none _)
   | (with_reducible refine LeO.ite ?_ ?_)
   | (with_reducible refine LeO.bind ?_ (fun _=>?_))
   | exact ih0 _ _ _ _ _ _
   | exact value_Fits.mono _ _ _ _
   | exact LeO.none _
   | refine LeO.ite ?_ ?_
   | refine LeO.bind ?_ (fun _=>?_)
set_option maxHeartbeats 8000000 in
set_option maxRecDepth 100000 in
theorem value_Compare.calls (k : Nat) (a0 : Int) (a1_0 : Int) (a1_1 : ByteArray) (a2_0 : Int) (a2_1 : ByteArray) (r : Int) (w : World) (h : value_Compare.f k a0 a1_0 a1_1 a2_0 a2_1=some r) :
  Calls Try.prog 32 #[.int .i64 a0,.agg #[.int .i64 a1_0,.string a1_1],.agg #[.int .i64 a2_0,.string a2_1]] w fun e w'=>e=.returned (.int .i64 r)∧Below w.heap.size w w':=by
 have hu40:=Try.underlying40
 have HB:=Aside0.mk (Below.refl w.heap.size w)
 have H : ((value_Fits.f k a0 a1_0 a1_1).bind fun t115=>(if t115=true then ((value_Fits.f k a0 a2_0 a2_1).bind fun t116=>(value_Compare.j0 k a0 (!t116) a1_0 a1_1 a2_0 a2_1)) else (value_Compare.j0 k a0 true a1_0 a1_1 a2_0 a2_1)))=some r:=h
 clear h
 have HC4:=Aside0.mk H
 clear H
 go_enter Try.func32,Try.ntmps32
 go_upto_region 1 with (first|((with_reducible refine gate_dst (N:=4) rfl ?_);refine box_event ?hg (N:=4) ?hd (cs:=#[.int .i64 a1_0,.string a1_1]) (t:=40) ?hr ?_;(case hd=>rfl);(case hg=>rfl);(case hr=>first|(go_simp;done)|(go_simp;rfl));intro gb113 hg w5 hbox hb;have n0_:=Aside0.mk (below_step (below_up HB.out) hb);have n1_:=Aside0.mk (hbox);have n2_:=Aside0.mk ((by rw [hg];exact (below_size (below_up HB.out)) : w.heap.size≤gb113));have n3_:=Aside0.mk ((by rw [hg];exact (below_size (below_up HB.out)) : w.heap.size≤gb113));clear HB;have HB:=n0_;have BK113:=n1_;have GW113:=n2_;have GE113:=n3_;clear n0_ n1_ n2_ n3_;clear hb hbox hg)|((with_reducible refine gate_dst (N:=5) rfl ?_);refine box_event ?hg (N:=5) ?hd (cs:=#[.int .i64 a2_0,.string a2_1]) (t:=40) ?hr ?_;(case hd=>rfl);(case hg=>rfl);(case hr=>first|(go_simp;done)|(go_simp;rfl));intro gb114 hg w6 hbox hb;have n0_:=Aside0.mk (blk_below (blk_up BK113.out) hb);have n1_:=Aside0.mk (below_step (below_go HB.out) hb);have n2_:=Aside0.mk (hbox);have n3_:=Aside0.mk ((by rw [hg];exact (below_size (below_go HB.out)) : w.heap.size≤gb114));have n4_:=Aside0.mk ((by rw [hg];exact (below_size (below_go HB.out)) : w.heap.size≤gb114));have n5_:=Aside0.mk ((by rw [hg];exact Nat.ne_of_lt (blk_lt (blk_up BK113.out)) : gb113≠gb114));have n6_:=Aside0.mk ((by rw [hg];exact Nat.ne_of_gt (blk_lt (blk_up BK113.out)) : gb114≠gb113));clear BK113;clear HB;have BK113:=n0_;have HB:=n1_;have BK114:=n2_;have GW114:=n3_;have GE114:=n4_;have NB113_114:=n5_;have NB114_113:=n6_;clear n0_ n1_ n2_ n3_ n4_ n5_ n6_;clear hb hbox hg))
 (try simp only [Act.put,List.setIfInBounds_toArray,List.set_cons_zero,List.set_cons_succ])
 go_cut [7] (fun v7 wc=>∃ (kq : Nat) (x7_3 : Bool),v7=.bool x7_3∧Aside0 (value_Compare.j0 kq a0 x7_3 a1_0 a1_1 a2_0 a2_1=some r)∧Aside0 (kq≤k)∧Aside0 (wc.heap[gb113]?=some (.cells #[.int .i64 a1_0,.string a1_1] 40 (0,0)))∧Aside0 (wc.heap[gb114]?=some (.cells #[.int .i64 a2_0,.string a2_1] 40 (0,0)))∧Aside0 (Below w.heap.size w wc))
 case first =>
  have H:=HC4.out
  clear HC4
  replace H:=Option.bind_eq_some_iff.mp H
  obtain ⟨t115,A70,H⟩:=H
  replace H : (if t115=true then ((value_Fits.f k a0 a2_0 a2_1).bind fun t116=>(value_Compare.j0 k a0 (!t116) a1_0 a1_1 a2_0 a2_1)) else (value_Compare.j0 k a0 true a1_0 a1_1 a2_0 a2_1))=some r:=H
  have A7:=Aside0.mk A70
  clear A70
  by_cases c8 : t115=true
  ·subst c8
   have H1 : ((value_Fits.f k a0 a2_0 a2_1).bind fun t116=>(value_Compare.j0 k a0 (!t116) a1_0 a1_1 a2_0 a2_1))=some r:=by rw [if_pos rfl] at H;exact H
   clear H
   have H:=H1
   clear H1
   replace H:=Option.bind_eq_some_iff.mp H
   obtain ⟨t116,A90,H⟩:=H
   replace H : (value_Compare.j0 k a0 (!t116) a1_0 a1_1 a2_0 a2_1)=some r:=H
   have A9:=Aside0.mk A90
   clear A90
   have H':=Aside0.mk H
   clear H
   have hnb10:=NB113_114.out
   have hnc10:=NB114_113.out
   have hcz11_0 : w6.cell? ⟨gb113,0,none⟩=some (.int .i64 a1_0):=(blk_cell BK113.out 0).trans rfl
   have hcz11_1 : w6.cell? ⟨gb113,1,none⟩=some (.string a1_1):=(blk_cell BK113.out 1).trans rfl
   have hfz11_0:=blk_frozen BK113.out 0
   have hfz11_1:=blk_frozen BK113.out 1
   go_wp2_with (first|((with_reducible refine gate_callee (f:=35) rfl ?_);refine goesL_ (some 10) rfl rfl Try.func35 (by kernel_rfl) rfl #[.int .i64 a0,.agg #[.int .i64 a1_0,.string a1_1]] rfl (by (try simp only [List.map_toArray,List.map_cons,List.map_nil]);first|done|rfl|(simp only [List.length_drop,List.length_take];rfl)) ?_;(with_reducible refine (value_Fits.calls k a0 a1_0 a1_1 true _ A7.out).mono ?_);rintro e w12 ⟨rfl,hb⟩;refine ⟨_,rfl,?_⟩;have n0_:=Aside0.mk (blk_below (blk_up BK113.out) hb);have n1_:=Aside0.mk (blk_below (blk_up BK114.out) hb);have n2_:=Aside0.mk (below_step (below_go HB.out) hb);clear BK113;clear BK114;clear HB;have BK113:=n0_;have BK114:=n1_;have HB:=n2_;clear n0_ n1_ n2_;(try clear hb);(try clear hb2);(try clear hk);(try clear hi);have hcz13_0 : w12.cell? ⟨gb114,0,none⟩=some (.int .i64 a2_0):=(blk_cell BK114.out 0).trans rfl;have hcz13_1 : w12.cell? ⟨gb114,1,none⟩=some (.string a2_1):=(blk_cell BK114.out 1).trans rfl;have hfz13_0:=blk_frozen BK114.out 0;have hfz13_1:=blk_frozen BK114.out 1)|(go_at_call 35;(with_reducible refine (value_Fits.calls k a0 a2_0 a2_1 t116 _ A9.out).mono ?_);rintro e w14 ⟨rfl,hb⟩;have n0_:=Aside0.mk (blk_below (blk_up BK113.out) hb);have n1_:=Aside0.mk (blk_below (blk_up BK114.out) hb);have n2_:=Aside0.mk (below_step (below_go HB.out) hb);clear BK113;clear BK114;clear HB;have BK113:=n0_;have BK114:=n1_;have HB:=n2_;clear n0_ n1_ n2_;(try clear hb);(try clear hb2);(try clear hk);(try clear hi)))
   go_meet
   case rel=>exact ⟨_,(!t116),(by first|rfl|(simp;done)|(simp [*];done)),(by first|exact H'|(subst_vars;exact H')),⟨by first|omega|exact Nat.le_refl _⟩,⟨by (with_reducible repeat (first|refine blk_drewN ?_ _|refine blk_drew ?_|refine blk_alloc ?_ _));exact BK113.out⟩,⟨by (with_reducible repeat (first|refine blk_drewN ?_ _|refine blk_drew ?_|refine blk_alloc ?_ _));exact BK114.out⟩,⟨by repeat (first|(with_reducible first|exact HB.out|apply below_alloc|apply pw_below_drewN|apply below_drew1|refine below_set ?_ GE113.out|refine below_set ?_ GE114.out)|exact HB.out)⟩⟩
  ·replace c8:=Bool.eq_false_iff.mpr c8
   subst c8
   have H1 : (value_Compare.j0 k a0 true a1_0 a1_1 a2_0 a2_1)=some r:=by rw [if_neg (show ¬ (false=true) by decide)] at H;exact H
   clear H
   have H:=H1
   clear H1
   have H':=Aside0.mk H
   clear H
   have hnb15:=NB113_114.out
   have hnc15:=NB114_113.out
   have hcz16_0 : w6.cell? ⟨gb113,0,none⟩=some (.int .i64 a1_0):=(blk_cell BK113.out 0).trans rfl
   have hcz16_1 : w6.cell? ⟨gb113,1,none⟩=some (.string a1_1):=(blk_cell BK113.out 1).trans rfl
   have hfz16_0:=blk_frozen BK113.out 0
   have hfz16_1:=blk_frozen BK113.out 1
   go_wp2_with (first|((with_reducible refine gate_callee (f:=35) rfl ?_);refine goesL_ (some 10) rfl rfl Try.func35 (by kernel_rfl) rfl #[.int .i64 a0,.agg #[.int .i64 a1_0,.string a1_1]] rfl (by (try simp only [List.map_toArray,List.map_cons,List.map_nil]);first|done|rfl|(simp only [List.length_drop,List.length_take];rfl)) ?_;(with_reducible refine (value_Fits.calls k a0 a1_0 a1_1 false _ A7.out).mono ?_);rintro e w17 ⟨rfl,hb⟩;refine ⟨_,rfl,?_⟩;have n0_:=Aside0.mk (blk_below (blk_up BK113.out) hb);have n1_:=Aside0.mk (blk_below (blk_up BK114.out) hb);have n2_:=Aside0.mk (below_step (below_go HB.out) hb);clear BK113;clear BK114;clear HB;have BK113:=n0_;have BK114:=n1_;have HB:=n2_;clear n0_ n1_ n2_;(try clear hb);(try clear hb2);(try clear hk);(try clear hi)))
   go_meet
   case rel=>exact ⟨_,(true),(by first|rfl|(simp;done)|(simp [*];done)),(by first|exact H'|(subst_vars;exact H')),⟨by first|omega|exact Nat.le_refl _⟩,⟨by (with_reducible repeat (first|refine blk_drewN ?_ _|refine blk_drew ?_|refine blk_alloc ?_ _));exact BK113.out⟩,⟨by (with_reducible repeat (first|refine blk_drewN ?_ _|refine blk_drew ?_|refine blk_alloc ?_ _));exact BK114.out⟩,⟨by repeat (first|(with_reducible first|exact HB.out|apply below_alloc|apply pw_below_drewN|apply below_drew1|refine below_set ?_ GE113.out|refine below_set ?_ GE114.out)|exact HB.out)⟩⟩
 case rest =>
  clear HC4
  try clear c1
  try clear p2
  try clear c3
  try clear c8
  try clear c10
  try clear c15
  try clear hcz11_0
  try clear hcz11_1
  try clear hcz13_0
  try clear hcz13_1
  try clear hcz16_0
  try clear hcz16_1
  try clear hfz11_0
  try clear hfz11_1
  try clear hfz13_0
  try clear hfz13_1
  try clear hfz16_0
  try clear hfz16_1
  obtain ⟨kq,x7_3,rfl,HA,HJ3,BK113,BK114,HB⟩:=hcut
  cases kq with
  | zero=>exact absurd HA.out (by simp [value_Compare.j0])
  | succ kj3 =>
   have H:=HA.out
   clear HA
   simp only [value_Compare.j0] at H
   by_cases c18 : x7_3=true
   ·subst c18
    have H1 : (some 0)=some r:=by rw [if_pos rfl] at H;exact H
    clear H
    have H:=H1
    clear H1
    obtain rfl:=Option.some.inj H
    go_wp2
    go_ret
    exact ⟨by first|rfl|(simp [errW_none,errW_some] <;> rfl)|(simp [*,errW_none,errW_some] <;> rfl),by repeat (first|(with_reducible first|exact HB.out|apply below_alloc|apply pw_below_drewN|apply below_drew1|refine below_set ?_ GE113.out|refine below_set ?_ GE114.out)|exact HB.out)⟩
   ·replace c18:=Bool.eq_false_iff.mpr c18
    subst c18
    have H1 : (if a0=3 then ((strings_Compare.f a1_1 a2_1).bind fun t117=>(some t117)) else (if a0=2 then ((cmp_Compare_uint64.f (IntKind.u64.wrap (a1_0)) (IntKind.u64.wrap (a2_0))).bind fun t118=>(some t118)) else ((cmp_Compare_int64.f a1_0 a2_0).bind fun t119=>(some t119))))=some r:=by rw [if_neg (show ¬ (false=true) by decide)] at H;exact H
    clear H
    have H:=H1
    clear H1
    by_cases c19 : a0=3
    ·rw [if_pos c19] at H
     have c19b0 : (a0 == 3)=true:=beq_iff_eq.mpr c19
     have c19b1 : (a0 != 3)=false:=bne_eq_false_iff_eq.mpr c19
     clear c19
     replace H:=Option.bind_eq_some_iff.mp H
     obtain ⟨t117,A200,H⟩:=H
     replace H : (some t117)=some r:=H
     have A20:=Aside0.mk A200
     clear A200
     obtain rfl:=Option.some.inj H
     have hnb21:=NB113_114.out
     have hnc21:=NB114_113.out
     have hcz22_0 : wc.cell? ⟨gb113,0,none⟩=some (.int .i64 a1_0):=(blk_cell BK113.out 0).trans rfl
     have hcz22_1 : wc.cell? ⟨gb113,1,none⟩=some (.string a1_1):=(blk_cell BK113.out 1).trans rfl
     have hfz22_0:=blk_frozen BK113.out 0
     have hfz22_1:=blk_frozen BK113.out 1
     have hcz23_0 : wc.cell? ⟨gb114,0,none⟩=some (.int .i64 a2_0):=(blk_cell BK114.out 0).trans rfl
     have hcz23_1 : wc.cell? ⟨gb114,1,none⟩=some (.string a2_1):=(blk_cell BK114.out 1).trans rfl
     have hfz23_0:=blk_frozen BK114.out 0
     have hfz23_1:=blk_frozen BK114.out 1
     go_wp2_with (first|((with_reducible refine gate_callee (f:=36) rfl ?_);refine goesL_ (some 25) rfl rfl Try.func36 (by kernel_rfl) rfl #[.string a1_1,.string a2_1] rfl (by (try simp only [List.map_toArray,List.map_cons,List.map_nil]);first|done|rfl|(simp only [List.length_drop,List.length_take];rfl)) ?_;(with_reducible refine (strings_Compare.calls a1_1 a2_1 t117 _ A20.out).mono ?_);rintro e w' ⟨rfl,⟨nd,rfl⟩⟩;refine ⟨_,rfl,?_⟩))
     go_ret
     exact ⟨by first|rfl|(simp [errW_none,errW_some] <;> rfl)|(simp [*,errW_none,errW_some] <;> rfl),by repeat (first|(with_reducible first|exact HB.out|apply below_alloc|apply pw_below_drewN|apply below_drew1|refine below_set ?_ GE113.out|refine below_set ?_ GE114.out)|exact HB.out)⟩
    ·rw [if_neg c19] at H
     have c19b0 : (a0 == 3)=false:=beq_eq_false_iff_ne.mpr c19
     have c19b1 : (a0 != 3)=true:=bne_iff_ne.mpr c19
     by_cases c24 : a0=2
     ·rw [if_pos c24] at H
      have c24b0 : (a0 == 2)=true:=beq_iff_eq.mpr c24
      have c24b1 : (a0 != 2)=false:=bne_eq_false_iff_eq.mpr c24
      clear c24
      replace H:=Option.bind_eq_some_iff.mp H
      obtain ⟨t118,A250,H⟩:=H
      replace H : (some t118)=some r:=H
      have A25:=Aside0.mk A250
      clear A250
      obtain rfl:=Option.some.inj H
      have hnb26:=NB113_114.out
      have hnc26:=NB114_113.out
      have hcz27_0 : wc.cell? ⟨gb113,0,none⟩=some (.int .i64 a1_0):=(blk_cell BK113.out 0).trans rfl
      have hcz27_1 : wc.cell? ⟨gb113,1,none⟩=some (.string a1_1):=(blk_cell BK113.out 1).trans rfl
      have hfz27_0:=blk_frozen BK113.out 0
      have hfz27_1:=blk_frozen BK113.out 1
      have hcz28_0 : wc.cell? ⟨gb114,0,none⟩=some (.int .i64 a2_0):=(blk_cell BK114.out 0).trans rfl
      have hcz28_1 : wc.cell? ⟨gb114,1,none⟩=some (.string a2_1):=(blk_cell BK114.out 1).trans rfl
      have hfz28_0:=blk_frozen BK114.out 0
      have hfz28_1:=blk_frozen BK114.out 1
      go_wp2_with (first|((with_reducible refine gate_callee (f:=37) rfl ?_);refine goesL_ (some 35) rfl rfl Try.func37 (by kernel_rfl) rfl #[.int .u64 (IntKind.u64.wrap (a1_0)),.int .u64 (IntKind.u64.wrap (a2_0))] rfl (by (try simp only [List.map_toArray,List.map_cons,List.map_nil]);first|done|rfl|(simp only [List.length_drop,List.length_take];rfl)) ?_;(with_reducible refine (cmp_Compare_uint64.calls (IntKind.u64.wrap (a1_0)) (IntKind.u64.wrap (a2_0)) t118 _ A25.out).mono ?_);rintro e w' ⟨rfl,⟨nd,rfl⟩⟩;refine ⟨_,rfl,?_⟩))
      go_ret
      exact ⟨by first|rfl|(simp [errW_none,errW_some] <;> rfl)|(simp [*,errW_none,errW_some] <;> rfl),by repeat (first|(with_reducible first|exact HB.out|apply below_alloc|apply pw_below_drewN|apply below_drew1|refine below_set ?_ GE113.out|refine below_set ?_ GE114.out)|exact HB.out)⟩
     ·rw [if_neg c24] at H
      have c24b0 : (a0 == 2)=false:=beq_eq_false_iff_ne.mpr c24
      have c24b1 : (a0 != 2)=true:=bne_iff_ne.mpr c24
      replace H:=Option.bind_eq_some_iff.mp H
      obtain ⟨t119,A290,H⟩:=H
      replace H : (some t119)=some r:=H
      have A29:=Aside0.mk A290
      clear A290
      obtain rfl:=Option.some.inj H
      have hnb30:=NB113_114.out
      have hnc30:=NB114_113.out
      have hcz31_0 : wc.cell? ⟨gb113,0,none⟩=some (.int .i64 a1_0):=(blk_cell BK113.out 0).trans rfl
      have hcz31_1 : wc.cell? ⟨gb113,1,none⟩=some (.string a1_1):=(blk_cell BK113.out 1).trans rfl
      have hfz31_0:=blk_frozen BK113.out 0
      have hfz31_1:=blk_frozen BK113.out 1
      have hcz32_0 : wc.cell? ⟨gb114,0,none⟩=some (.int .i64 a2_0):=(blk_cell BK114.out 0).trans rfl
      have hcz32_1 : wc.cell? ⟨gb114,1,none⟩=some (.string a2_1):=(blk_cell BK114.out 1).trans rfl
      have hfz32_0:=blk_frozen BK114.out 0
      have hfz32_1:=blk_frozen BK114.out 1
      go_wp2_with (first|((with_reducible refine gate_callee (f:=38) rfl ?_);refine goesL_ (some 40) rfl rfl Try.func38 (by kernel_rfl) rfl #[.int .i64 a1_0,.int .i64 a2_0] rfl (by (try simp only [List.map_toArray,List.map_cons,List.map_nil]);first|done|rfl|(simp only [List.length_drop,List.length_take];rfl)) ?_;(with_reducible refine (cmp_Compare_int64.calls a1_0 a2_0 t119 _ A29.out).mono ?_);rintro e w' ⟨rfl,⟨nd,rfl⟩⟩;refine ⟨_,rfl,?_⟩))
      go_ret
      exact ⟨by first|rfl|(simp [errW_none,errW_some] <;> rfl)|(simp [*,errW_none,errW_some] <;> rfl),by repeat (first|(with_reducible first|exact HB.out|apply below_alloc|apply pw_below_drewN|apply below_drew1|refine below_set ?_ GE113.out|refine below_set ?_ GE114.out)|exact HB.out)⟩
def agg_least.f (k : Nat) (a0 : Int) (a1_0 : Int) (a1_1 : ByteArray) (a2_0 : Int) (a2_1 : ByteArray) : Option (Int × ByteArray):=(value_Compare.f k a0 a2_0 a2_1 a1_0 a1_1).bind fun t123=>(if t123 < 0 then (some (a2_0,a2_1)) else (some (a1_0,a1_1)))
theorem agg_least.mono : ∀ a0 a1 a2 a3 a4 k,LeO (agg_least.f k a0 a1 a2 a3 a4) (agg_least.f (k + 1) a0 a1 a2 a3 a4):=by
 intro a0 a1 a2 a3 a4 k
 unfold agg_least.f
 repeat' first
   | (with_reducible exact value_Compare.mono _ _ _ _ _ _)
   | (with_reducible exact LeO.refl _)
   | (with_reducible exact LeO.none _)
   | (with_reducible refine LeO.ite ?_ ?_)
   | (with_reducible refine LeO.bind ?_ (fun _=>?_))
   | exact value_Compare.mono _ _ _ _ _ _
   | exact LeO.none _
   | refine LeO.ite ?_ ?_
   | refine LeO.bind ?_ (fun _=>?_)
set_option maxHeartbeats 8000000 in
set_option maxRecDepth 100000 in
theorem agg_least.calls (k : Nat) (a0 : Int) (a1_0 : Int) (a1_1 : ByteArray) (a2_0 : Int) (a2_1 : ByteArray) (r1 : Int) (r2 : ByteArray) (w : World) (h : agg_least.f k a0 a1_0 a1_1 a2_0 a2_1=some (r1,r2)) :
  Calls Try.prog 28 #[.int .i64 a0,.agg #[.int .i64 a1_0,.string a1_1],.agg #[.int .i64 a2_0,.string a2_1]] w fun e w'=>e=.returned (.agg #[.int .i64 r1,.string r2])∧Below w.heap.size w w':=by
 have hu40:=Try.underlying40
 have HB:=Aside0.mk (Below.refl w.heap.size w)
 have H : ((value_Compare.f k a0 a2_0 a2_1 a1_0 a1_1).bind fun t123=>(if t123 < 0 then (some (a2_0,a2_1)) else (some (a1_0,a1_1))))=some (r1,r2):=h
 clear h
 replace H:=Option.bind_eq_some_iff.mp H
 obtain ⟨t123,A40,H⟩:=H
 replace H : (if t123 < 0 then (some (a2_0,a2_1)) else (some (a1_0,a1_1)))=some (r1,r2):=H
 have A4:=Aside0.mk A40
 clear A40
 by_cases c5 : t123 < 0
 ·rw [if_pos c5] at H
  have c5b0 : decide (t123 < 0)=true:=decide_eq_true c5
  clear c5
  simp only [Option.some.injEq,Prod.mk.injEq] at H
  obtain ⟨rfl,rfl⟩:=H
  go_enter Try.func28,Try.ntmps28
  go_wp2_with (first|((with_reducible refine gate_dst (N:=4) rfl ?_);refine box_event ?hg (N:=4) ?hd (cs:=#[.int .i64 a1_0,.string a1_1]) (t:=40) ?hr ?_;(case hd=>rfl);(case hg=>rfl);(case hr=>first|(go_simp;done)|(go_simp;rfl));intro gb120 hg w6 hbox hb;have n0_:=Aside0.mk (below_step (below_up HB.out) hb);have n1_:=Aside0.mk (hbox);have n2_:=Aside0.mk ((by rw [hg];exact (below_size (below_up HB.out)) : w.heap.size≤gb120));have n3_:=Aside0.mk ((by rw [hg];exact (below_size (below_up HB.out)) : w.heap.size≤gb120));clear HB;have HB:=n0_;have BK120:=n1_;have GW120:=n2_;have GE120:=n3_;clear n0_ n1_ n2_ n3_;clear hb hbox hg)|((with_reducible refine gate_dst (N:=5) rfl ?_);refine box_event ?hg (N:=5) ?hd (cs:=#[.int .i64 a2_0,.string a2_1]) (t:=40) ?hr ?_;(case hd=>rfl);(case hg=>rfl);(case hr=>first|(go_simp;done)|(go_simp;rfl));intro gb121 hg w7 hbox hb;have n0_:=Aside0.mk (blk_below (blk_up BK120.out) hb);have n1_:=Aside0.mk (below_step (below_go HB.out) hb);have n2_:=Aside0.mk (hbox);have n3_:=Aside0.mk ((by rw [hg];exact (below_size (below_go HB.out)) : w.heap.size≤gb121));have n4_:=Aside0.mk ((by rw [hg];exact (below_size (below_go HB.out)) : w.heap.size≤gb121));have n5_:=Aside0.mk ((by rw [hg];exact Nat.ne_of_lt (blk_lt (blk_up BK120.out)) : gb120≠gb121));have n6_:=Aside0.mk ((by rw [hg];exact Nat.ne_of_gt (blk_lt (blk_up BK120.out)) : gb121≠gb120));clear BK120;clear HB;have BK120:=n0_;have HB:=n1_;have BK121:=n2_;have GW121:=n3_;have GE121:=n4_;have NB120_121:=n5_;have NB121_120:=n6_;clear n0_ n1_ n2_ n3_ n4_ n5_ n6_;clear hb hbox hg)|((with_reducible refine gate_dst (N:=6) rfl ?_);refine box_event ?hg (N:=6) ?hd (cs:=#[.int .i64 0,.string (⟨#[]⟩ : ByteArray)]) (t:=40) ?hr ?_;(case hd=>rfl);(case hg=>rfl);(case hr=>first|(go_simp;done)|(go_simp;rfl));intro gb122 hg w8 hbox hb;have n0_:=Aside0.mk (blk_below (blk_up BK120.out) hb);have n1_:=Aside0.mk (blk_below (blk_up BK121.out) hb);have n2_:=Aside0.mk (below_step (below_go HB.out) hb);have n3_:=Aside0.mk (hbox);have n4_:=Aside0.mk ((by rw [hg];exact (below_size (below_go HB.out)) : w.heap.size≤gb122));have n5_:=Aside0.mk ((by rw [hg];exact (below_size (below_go HB.out)) : w.heap.size≤gb122));have n6_:=Aside0.mk ((by rw [hg];exact Nat.ne_of_lt (blk_lt (blk_up BK120.out)) : gb120≠gb122));have n7_:=Aside0.mk ((by rw [hg];exact Nat.ne_of_gt (blk_lt (blk_up BK120.out)) : gb122≠gb120));have n8_:=Aside0.mk ((by rw [hg];exact Nat.ne_of_lt (blk_lt (blk_up BK121.out)) : gb121≠gb122));have n9_:=Aside0.mk ((by rw [hg];exact Nat.ne_of_gt (blk_lt (blk_up BK121.out)) : gb122≠gb121));clear BK120;clear BK121;clear HB;have BK120:=n0_;have BK121:=n1_;have HB:=n2_;have BK122:=n3_;have GW122:=n4_;have GE122:=n5_;have NB120_122:=n6_;have NB122_120:=n7_;have NB121_122:=n8_;have NB122_121:=n9_;clear n0_ n1_ n2_ n3_ n4_ n5_ n6_ n7_ n8_ n9_;clear hb hbox hg;have hnb9:=NB121_120.out;have hnc9:=NB120_121.out;have hnb10:=NB121_122.out;have hnc10:=NB122_121.out;have hcz11_0 : w8.cell? ⟨gb121,0,none⟩=some (.int .i64 a2_0):=(blk_cell BK121.out 0).trans rfl;have hcz11_1 : w8.cell? ⟨gb121,1,none⟩=some (.string a2_1):=(blk_cell BK121.out 1).trans rfl;have hfz11_0:=blk_frozen BK121.out 0;have hfz11_1:=blk_frozen BK121.out 1;have hnb12:=NB120_122.out;have hnc12:=NB122_120.out;have hcz13_0 : w8.cell? ⟨gb120,0,none⟩=some (.int .i64 a1_0):=(blk_cell BK120.out 0).trans rfl;have hcz13_1 : w8.cell? ⟨gb120,1,none⟩=some (.string a1_1):=(blk_cell BK120.out 1).trans rfl;have hfz13_0:=blk_frozen BK120.out 0;have hfz13_1:=blk_frozen BK120.out 1)|((with_reducible refine gate_callee (f:=32) rfl ?_);refine goesL_ (some 10) rfl rfl Try.func32 (by kernel_rfl) rfl #[.int .i64 a0,.agg #[.int .i64 a2_0,.string a2_1],.agg #[.int .i64 a1_0,.string a1_1]] rfl (by (try simp only [List.map_toArray,List.map_cons,List.map_nil]);first|done|rfl|(simp only [List.length_drop,List.length_take];rfl)) ?_;(with_reducible refine (value_Compare.calls k a0 a2_0 a2_1 a1_0 a1_1 t123 _ A4.out).mono ?_);rintro e w14 ⟨rfl,hb⟩;refine ⟨_,rfl,?_⟩;have n0_:=Aside0.mk (blk_below (blk_up BK120.out) hb);have n1_:=Aside0.mk (blk_below (blk_up BK121.out) hb);have n2_:=Aside0.mk (blk_below (g:=gb122) (o:=.cells #[.int .i64 0,.string (⟨#[]⟩ : ByteArray)] 40 (0,0)) (blk_up BK122.out) hb);have n3_:=Aside0.mk (below_step (below_go HB.out) hb);clear BK120;clear BK121;clear BK122;clear HB;have BK120:=n0_;have BK121:=n1_;have BK122:=n2_;have HB:=n3_;clear n0_ n1_ n2_ n3_;(try clear hb);(try clear hb2);(try clear hk);(try clear hi);have hcz15_0 : w14.cell? ⟨gb121,0,none⟩=some (.int .i64 a2_0):=(blk_cell BK121.out 0).trans rfl;have hcz15_1 : w14.cell? ⟨gb121,1,none⟩=some (.string a2_1):=(blk_cell BK121.out 1).trans rfl;have hfz15_0:=blk_frozen BK121.out 0;have hfz15_1:=blk_frozen BK121.out 1;have hcz16_0 : w14.cell? ⟨gb122,0,none⟩=some (.int .i64 0):=(blk_cell BK122.out 0).trans rfl;have hcz16_1 : w14.cell? ⟨gb122,1,none⟩=some (.string (⟨#[]⟩ : ByteArray)):=(blk_cell BK122.out 1).trans rfl;have hfz16_0:=blk_frozen BK122.out 0;have hfz16_1:=blk_frozen BK122.out 1))
  refine bodyPost_ret (results_cell_row rfl _ _ gb122 40 #[.int .i64 a2_0,.string a2_1] (0,0) _ rfl (by (with_reducible repeat (first|refine blk_drewN ?_ _|refine blk_drew ?_|refine blk_alloc ?_ _));refine blk_put (cs:=#[.int .i64 a2_0,.string (⟨#[]⟩ : ByteArray)]) ?_ 1 _ rfl;(with_reducible repeat (first|refine blk_drewN ?_ _|refine blk_drew ?_|refine blk_alloc ?_ _));refine blk_put (cs:=#[.int .i64 0,.string (⟨#[]⟩ : ByteArray)]) ?_ 0 _ rfl;(with_reducible repeat (first|refine blk_drewN ?_ _|refine blk_drew ?_|refine blk_alloc ?_ _));exact BK122.out) Try.underlying40 rfl (by kernel_rfl)) rfl ?_
  exact ⟨by first|rfl|(simp [errW_none,errW_some] <;> rfl)|(simp [*,errW_none,errW_some] <;> rfl),by repeat (first|(with_reducible first|exact HB.out|apply below_alloc|apply pw_below_drewN|apply below_drew1|refine below_set ?_ GE120.out|refine below_set ?_ GE121.out|refine below_set ?_ GE122.out)|exact HB.out)⟩
 ·rw [if_neg c5] at H
  have c5b0 : decide (t123 < 0)=false:=decide_eq_false c5
  clear c5
  simp only [Option.some.injEq,Prod.mk.injEq] at H
  obtain ⟨rfl,rfl⟩:=H
  go_enter Try.func28,Try.ntmps28
  go_wp2_with (first|((with_reducible refine gate_dst (N:=4) rfl ?_);refine box_event ?hg (N:=4) ?hd (cs:=#[.int .i64 a1_0,.string a1_1]) (t:=40) ?hr ?_;(case hd=>rfl);(case hg=>rfl);(case hr=>first|(go_simp;done)|(go_simp;rfl));intro gb120 hg w17 hbox hb;have n0_:=Aside0.mk (below_step (below_up HB.out) hb);have n1_:=Aside0.mk (hbox);have n2_:=Aside0.mk ((by rw [hg];exact (below_size (below_up HB.out)) : w.heap.size≤gb120));have n3_:=Aside0.mk ((by rw [hg];exact (below_size (below_up HB.out)) : w.heap.size≤gb120));clear HB;have HB:=n0_;have BK120:=n1_;have GW120:=n2_;have GE120:=n3_;clear n0_ n1_ n2_ n3_;clear hb hbox hg)|((with_reducible refine gate_dst (N:=5) rfl ?_);refine box_event ?hg (N:=5) ?hd (cs:=#[.int .i64 a2_0,.string a2_1]) (t:=40) ?hr ?_;(case hd=>rfl);(case hg=>rfl);(case hr=>first|(go_simp;done)|(go_simp;rfl));intro gb121 hg w18 hbox hb;have n0_:=Aside0.mk (blk_below (blk_up BK120.out) hb);have n1_:=Aside0.mk (below_step (below_go HB.out) hb);have n2_:=Aside0.mk (hbox);have n3_:=Aside0.mk ((by rw [hg];exact (below_size (below_go HB.out)) : w.heap.size≤gb121));have n4_:=Aside0.mk ((by rw [hg];exact (below_size (below_go HB.out)) : w.heap.size≤gb121));have n5_:=Aside0.mk ((by rw [hg];exact Nat.ne_of_lt (blk_lt (blk_up BK120.out)) : gb120≠gb121));have n6_:=Aside0.mk ((by rw [hg];exact Nat.ne_of_gt (blk_lt (blk_up BK120.out)) : gb121≠gb120));clear BK120;clear HB;have BK120:=n0_;have HB:=n1_;have BK121:=n2_;have GW121:=n3_;have GE121:=n4_;have NB120_121:=n5_;have NB121_120:=n6_;clear n0_ n1_ n2_ n3_ n4_ n5_ n6_;clear hb hbox hg)|((with_reducible refine gate_dst (N:=6) rfl ?_);refine box_event ?hg (N:=6) ?hd (cs:=#[.int .i64 0,.string (⟨#[]⟩ : ByteArray)]) (t:=40) ?hr ?_;(case hd=>rfl);(case hg=>rfl);(case hr=>first|(go_simp;done)|(go_simp;rfl));intro gb122 hg w19 hbox hb;have n0_:=Aside0.mk (blk_below (blk_up BK120.out) hb);have n1_:=Aside0.mk (blk_below (blk_up BK121.out) hb);have n2_:=Aside0.mk (below_step (below_go HB.out) hb);have n3_:=Aside0.mk (hbox);have n4_:=Aside0.mk ((by rw [hg];exact (below_size (below_go HB.out)) : w.heap.size≤gb122));have n5_:=Aside0.mk ((by rw [hg];exact (below_size (below_go HB.out)) : w.heap.size≤gb122));have n6_:=Aside0.mk ((by rw [hg];exact Nat.ne_of_lt (blk_lt (blk_up BK120.out)) : gb120≠gb122));have n7_:=Aside0.mk ((by rw [hg];exact Nat.ne_of_gt (blk_lt (blk_up BK120.out)) : gb122≠gb120));have n8_:=Aside0.mk ((by rw [hg];exact Nat.ne_of_lt (blk_lt (blk_up BK121.out)) : gb121≠gb122));have n9_:=Aside0.mk ((by rw [hg];exact Nat.ne_of_gt (blk_lt (blk_up BK121.out)) : gb122≠gb121));clear BK120;clear BK121;clear HB;have BK120:=n0_;have BK121:=n1_;have HB:=n2_;have BK122:=n3_;have GW122:=n4_;have GE122:=n5_;have NB120_122:=n6_;have NB122_120:=n7_;have NB121_122:=n8_;have NB122_121:=n9_;clear n0_ n1_ n2_ n3_ n4_ n5_ n6_ n7_ n8_ n9_;clear hb hbox hg;have hnb20:=NB121_120.out;have hnc20:=NB120_121.out;have hnb21:=NB121_122.out;have hnc21:=NB122_121.out;have hcz22_0 : w19.cell? ⟨gb121,0,none⟩=some (.int .i64 a2_0):=(blk_cell BK121.out 0).trans rfl;have hcz22_1 : w19.cell? ⟨gb121,1,none⟩=some (.string a2_1):=(blk_cell BK121.out 1).trans rfl;have hfz22_0:=blk_frozen BK121.out 0;have hfz22_1:=blk_frozen BK121.out 1;have hnb23:=NB120_122.out;have hnc23:=NB122_120.out;have hcz24_0 : w19.cell? ⟨gb120,0,none⟩=some (.int .i64 a1_0):=(blk_cell BK120.out 0).trans rfl;have hcz24_1 : w19.cell? ⟨gb120,1,none⟩=some (.string a1_1):=(blk_cell BK120.out 1).trans rfl;have hfz24_0:=blk_frozen BK120.out 0;have hfz24_1:=blk_frozen BK120.out 1)|((with_reducible refine gate_callee (f:=32) rfl ?_);refine goesL_ (some 10) rfl rfl Try.func32 (by kernel_rfl) rfl #[.int .i64 a0,.agg #[.int .i64 a2_0,.string a2_1],.agg #[.int .i64 a1_0,.string a1_1]] rfl (by (try simp only [List.map_toArray,List.map_cons,List.map_nil]);first|done|rfl|(simp only [List.length_drop,List.length_take];rfl)) ?_;(with_reducible refine (value_Compare.calls k a0 a2_0 a2_1 a1_0 a1_1 t123 _ A4.out).mono ?_);rintro e w25 ⟨rfl,hb⟩;refine ⟨_,rfl,?_⟩;have n0_:=Aside0.mk (blk_below (blk_up BK120.out) hb);have n1_:=Aside0.mk (blk_below (blk_up BK121.out) hb);have n2_:=Aside0.mk (blk_below (g:=gb122) (o:=.cells #[.int .i64 0,.string (⟨#[]⟩ : ByteArray)] 40 (0,0)) (blk_up BK122.out) hb);have n3_:=Aside0.mk (below_step (below_go HB.out) hb);clear BK120;clear BK121;clear BK122;clear HB;have BK120:=n0_;have BK121:=n1_;have BK122:=n2_;have HB:=n3_;clear n0_ n1_ n2_ n3_;(try clear hb);(try clear hb2);(try clear hk);(try clear hi);have hcz26_0 : w25.cell? ⟨gb120,0,none⟩=some (.int .i64 a1_0):=(blk_cell BK120.out 0).trans rfl;have hcz26_1 : w25.cell? ⟨gb120,1,none⟩=some (.string a1_1):=(blk_cell BK120.out 1).trans rfl;have hfz26_0:=blk_frozen BK120.out 0;have hfz26_1:=blk_frozen BK120.out 1;have hcz27_0 : w25.cell? ⟨gb122,0,none⟩=some (.int .i64 0):=(blk_cell BK122.out 0).trans rfl;have hcz27_1 : w25.cell? ⟨gb122,1,none⟩=some (.string (⟨#[]⟩ : ByteArray)):=(blk_cell BK122.out 1).trans rfl;have hfz27_0:=blk_frozen BK122.out 0;have hfz27_1:=blk_frozen BK122.out 1))
  refine bodyPost_ret (results_cell_row rfl _ _ gb122 40 #[.int .i64 a1_0,.string a1_1] (0,0) _ rfl (by (with_reducible repeat (first|refine blk_drewN ?_ _|refine blk_drew ?_|refine blk_alloc ?_ _));refine blk_put (cs:=#[.int .i64 a1_0,.string (⟨#[]⟩ : ByteArray)]) ?_ 1 _ rfl;(with_reducible repeat (first|refine blk_drewN ?_ _|refine blk_drew ?_|refine blk_alloc ?_ _));refine blk_put (cs:=#[.int .i64 0,.string (⟨#[]⟩ : ByteArray)]) ?_ 0 _ rfl;(with_reducible repeat (first|refine blk_drewN ?_ _|refine blk_drew ?_|refine blk_alloc ?_ _));exact BK122.out) Try.underlying40 rfl (by kernel_rfl)) rfl ?_
  exact ⟨by first|rfl|(simp [errW_none,errW_some] <;> rfl)|(simp [*,errW_none,errW_some] <;> rfl),by repeat (first|(with_reducible first|exact HB.out|apply below_alloc|apply pw_below_drewN|apply below_drew1|refine below_set ?_ GE120.out|refine below_set ?_ GE121.out|refine below_set ?_ GE122.out)|exact HB.out)⟩
def agg_most.f (k : Nat) (a0 : Int) (a1_0 : Int) (a1_1 : ByteArray) (a2_0 : Int) (a2_1 : ByteArray) : Option (Int × ByteArray):=(value_Compare.f k a0 a2_0 a2_1 a1_0 a1_1).bind fun t127=>(if t127 > 0 then (some (a2_0,a2_1)) else (some (a1_0,a1_1)))
theorem agg_most.mono : ∀ a0 a1 a2 a3 a4 k,LeO (agg_most.f k a0 a1 a2 a3 a4) (agg_most.f (k + 1) a0 a1 a2 a3 a4):=by
 intro a0 a1 a2 a3 a4 k
 unfold agg_most.f
 repeat' first
   | (with_reducible exact value_Compare.mono _ _ _ _ _ _)
   | (with_reducible exact LeO.refl _)
   | (with_reducible exact LeO.none _)
   | (with_reducible refine LeO.ite ?_ ?_)
   | (with_reducible refine LeO.bind ?_ (fun _=>?_))
   | exact value_Compare.mono _ _ _ _ _ _
   | exact LeO.none _
   | refine LeO.ite ?_ ?_
   | refine LeO.bind ?_ (fun _=>?_)
set_option maxHeartbeats 8000000 in
set_option maxRecDepth 100000 in
theorem agg_most.calls (k : Nat) (a0 : Int) (a1_0 : Int) (a1_1 : ByteArray) (a2_0 : Int) (a2_1 : ByteArray) (r1 : Int) (r2 : ByteArray) (w : World) (h : agg_most.f k a0 a1_0 a1_1 a2_0 a2_1=some (r1,r2)) :
  Calls Try.prog 29 #[.int .i64 a0,.agg #[.int .i64 a1_0,.string a1_1],.agg #[.int .i64 a2_0,.string a2_1]] w fun e w'=>e=.returned (.agg #[.int .i64 r1,.string r2])∧Below w.heap.size w w':=by
 have hu40:=Try.underlying40
 have HB:=Aside0.mk (Below.refl w.heap.size w)
 have H : ((value_Compare.f k a0 a2_0 a2_1 a1_0 a1_1).bind fun t127=>(if t127 > 0 then (some (a2_0,a2_1)) else (some (a1_0,a1_1))))=some (r1,r2):=h
 clear h
 replace H:=Option.bind_eq_some_iff.mp H
 obtain ⟨t127,A40,H⟩:=H
 replace H : (if t127 > 0 then (some (a2_0,a2_1)) else (some (a1_0,a1_1)))=some (r1,r2):=H
 have A4:=Aside0.mk A40
 clear A40
 by_cases c5 : t127 > 0
 ·rw [if_pos c5] at H
  have c5b0 : decide (0 < t127)=true:=decide_eq_true c5
  clear c5
  simp only [Option.some.injEq,Prod.mk.injEq] at H
  obtain ⟨rfl,rfl⟩:=H
  go_enter Try.func29,Try.ntmps29
  go_wp2_with (first|((with_reducible refine gate_dst (N:=4) rfl ?_);refine box_event ?hg (N:=4) ?hd (cs:=#[.int .i64 a1_0,.string a1_1]) (t:=40) ?hr ?_;(case hd=>rfl);(case hg=>rfl);(case hr=>first|(go_simp;done)|(go_simp;rfl));intro gb124 hg w6 hbox hb;have n0_:=Aside0.mk (below_step (below_up HB.out) hb);have n1_:=Aside0.mk (hbox);have n2_:=Aside0.mk ((by rw [hg];exact (below_size (below_up HB.out)) : w.heap.size≤gb124));have n3_:=Aside0.mk ((by rw [hg];exact (below_size (below_up HB.out)) : w.heap.size≤gb124));clear HB;have HB:=n0_;have BK124:=n1_;have GW124:=n2_;have GE124:=n3_;clear n0_ n1_ n2_ n3_;clear hb hbox hg)|((with_reducible refine gate_dst (N:=5) rfl ?_);refine box_event ?hg (N:=5) ?hd (cs:=#[.int .i64 a2_0,.string a2_1]) (t:=40) ?hr ?_;(case hd=>rfl);(case hg=>rfl);(case hr=>first|(go_simp;done)|(go_simp;rfl));intro gb125 hg w7 hbox hb;have n0_:=Aside0.mk (blk_below (blk_up BK124.out) hb);have n1_:=Aside0.mk (below_step (below_go HB.out) hb);have n2_:=Aside0.mk (hbox);have n3_:=Aside0.mk ((by rw [hg];exact (below_size (below_go HB.out)) : w.heap.size≤gb125));have n4_:=Aside0.mk ((by rw [hg];exact (below_size (below_go HB.out)) : w.heap.size≤gb125));have n5_:=Aside0.mk ((by rw [hg];exact Nat.ne_of_lt (blk_lt (blk_up BK124.out)) : gb124≠gb125));have n6_:=Aside0.mk ((by rw [hg];exact Nat.ne_of_gt (blk_lt (blk_up BK124.out)) : gb125≠gb124));clear BK124;clear HB;have BK124:=n0_;have HB:=n1_;have BK125:=n2_;have GW125:=n3_;have GE125:=n4_;have NB124_125:=n5_;have NB125_124:=n6_;clear n0_ n1_ n2_ n3_ n4_ n5_ n6_;clear hb hbox hg)|((with_reducible refine gate_dst (N:=6) rfl ?_);refine box_event ?hg (N:=6) ?hd (cs:=#[.int .i64 0,.string (⟨#[]⟩ : ByteArray)]) (t:=40) ?hr ?_;(case hd=>rfl);(case hg=>rfl);(case hr=>first|(go_simp;done)|(go_simp;rfl));intro gb126 hg w8 hbox hb;have n0_:=Aside0.mk (blk_below (blk_up BK124.out) hb);have n1_:=Aside0.mk (blk_below (blk_up BK125.out) hb);have n2_:=Aside0.mk (below_step (below_go HB.out) hb);have n3_:=Aside0.mk (hbox);have n4_:=Aside0.mk ((by rw [hg];exact (below_size (below_go HB.out)) : w.heap.size≤gb126));have n5_:=Aside0.mk ((by rw [hg];exact (below_size (below_go HB.out)) : w.heap.size≤gb126));have n6_:=Aside0.mk ((by rw [hg];exact Nat.ne_of_lt (blk_lt (blk_up BK124.out)) : gb124≠gb126));have n7_:=Aside0.mk ((by rw [hg];exact Nat.ne_of_gt (blk_lt (blk_up BK124.out)) : gb126≠gb124));have n8_:=Aside0.mk ((by rw [hg];exact Nat.ne_of_lt (blk_lt (blk_up BK125.out)) : gb125≠gb126));have n9_:=Aside0.mk ((by rw [hg];exact Nat.ne_of_gt (blk_lt (blk_up BK125.out)) : gb126≠gb125));clear BK124;clear BK125;clear HB;have BK124:=n0_;have BK125:=n1_;have HB:=n2_;have BK126:=n3_;have GW126:=n4_;have GE126:=n5_;have NB124_126:=n6_;have NB126_124:=n7_;have NB125_126:=n8_;have NB126_125:=n9_;clear n0_ n1_ n2_ n3_ n4_ n5_ n6_ n7_ n8_ n9_;clear hb hbox hg;have hnb9:=NB125_124.out;have hnc9:=NB124_125.out;have hnb10:=NB125_126.out;have hnc10:=NB126_125.out;have hcz11_0 : w8.cell? ⟨gb125,0,none⟩=some (.int .i64 a2_0):=(blk_cell BK125.out 0).trans rfl;have hcz11_1 : w8.cell? ⟨gb125,1,none⟩=some (.string a2_1):=(blk_cell BK125.out 1).trans rfl;have hfz11_0:=blk_frozen BK125.out 0;have hfz11_1:=blk_frozen BK125.out 1;have hnb12:=NB124_126.out;have hnc12:=NB126_124.out;have hcz13_0 : w8.cell? ⟨gb124,0,none⟩=some (.int .i64 a1_0):=(blk_cell BK124.out 0).trans rfl;have hcz13_1 : w8.cell? ⟨gb124,1,none⟩=some (.string a1_1):=(blk_cell BK124.out 1).trans rfl;have hfz13_0:=blk_frozen BK124.out 0;have hfz13_1:=blk_frozen BK124.out 1)|((with_reducible refine gate_callee (f:=32) rfl ?_);refine goesL_ (some 10) rfl rfl Try.func32 (by kernel_rfl) rfl #[.int .i64 a0,.agg #[.int .i64 a2_0,.string a2_1],.agg #[.int .i64 a1_0,.string a1_1]] rfl (by (try simp only [List.map_toArray,List.map_cons,List.map_nil]);first|done|rfl|(simp only [List.length_drop,List.length_take];rfl)) ?_;(with_reducible refine (value_Compare.calls k a0 a2_0 a2_1 a1_0 a1_1 t127 _ A4.out).mono ?_);rintro e w14 ⟨rfl,hb⟩;refine ⟨_,rfl,?_⟩;have n0_:=Aside0.mk (blk_below (blk_up BK124.out) hb);have n1_:=Aside0.mk (blk_below (blk_up BK125.out) hb);have n2_:=Aside0.mk (blk_below (g:=gb126) (o:=.cells #[.int .i64 0,.string (⟨#[]⟩ : ByteArray)] 40 (0,0)) (blk_up BK126.out) hb);have n3_:=Aside0.mk (below_step (below_go HB.out) hb);clear BK124;clear BK125;clear BK126;clear HB;have BK124:=n0_;have BK125:=n1_;have BK126:=n2_;have HB:=n3_;clear n0_ n1_ n2_ n3_;(try clear hb);(try clear hb2);(try clear hk);(try clear hi);have hcz15_0 : w14.cell? ⟨gb125,0,none⟩=some (.int .i64 a2_0):=(blk_cell BK125.out 0).trans rfl;have hcz15_1 : w14.cell? ⟨gb125,1,none⟩=some (.string a2_1):=(blk_cell BK125.out 1).trans rfl;have hfz15_0:=blk_frozen BK125.out 0;have hfz15_1:=blk_frozen BK125.out 1;have hcz16_0 : w14.cell? ⟨gb126,0,none⟩=some (.int .i64 0):=(blk_cell BK126.out 0).trans rfl;have hcz16_1 : w14.cell? ⟨gb126,1,none⟩=some (.string (⟨#[]⟩ : ByteArray)):=(blk_cell BK126.out 1).trans rfl;have hfz16_0:=blk_frozen BK126.out 0;have hfz16_1:=blk_frozen BK126.out 1))
  refine bodyPost_ret (results_cell_row rfl _ _ gb126 40 #[.int .i64 a2_0,.string a2_1] (0,0) _ rfl (by (with_reducible repeat (first|refine blk_drewN ?_ _|refine blk_drew ?_|refine blk_alloc ?_ _));refine blk_put (cs:=#[.int .i64 a2_0,.string (⟨#[]⟩ : ByteArray)]) ?_ 1 _ rfl;(with_reducible repeat (first|refine blk_drewN ?_ _|refine blk_drew ?_|refine blk_alloc ?_ _));refine blk_put (cs:=#[.int .i64 0,.string (⟨#[]⟩ : ByteArray)]) ?_ 0 _ rfl;(with_reducible repeat (first|refine blk_drewN ?_ _|refine blk_drew ?_|refine blk_alloc ?_ _));exact BK126.out) Try.underlying40 rfl (by kernel_rfl)) rfl ?_
  exact ⟨by first|rfl|(simp [errW_none,errW_some] <;> rfl)|(simp [*,errW_none,errW_some] <;> rfl),by repeat (first|(with_reducible first|exact HB.out|apply below_alloc|apply pw_below_drewN|apply below_drew1|refine below_set ?_ GE124.out|refine below_set ?_ GE125.out|refine below_set ?_ GE126.out)|exact HB.out)⟩
 ·rw [if_neg c5] at H
  have c5b0 : decide (0 < t127)=false:=decide_eq_false c5
  clear c5
  simp only [Option.some.injEq,Prod.mk.injEq] at H
  obtain ⟨rfl,rfl⟩:=H
  go_enter Try.func29,Try.ntmps29
  go_wp2_with (first|((with_reducible refine gate_dst (N:=4) rfl ?_);refine box_event ?hg (N:=4) ?hd (cs:=#[.int .i64 a1_0,.string a1_1]) (t:=40) ?hr ?_;(case hd=>rfl);(case hg=>rfl);(case hr=>first|(go_simp;done)|(go_simp;rfl));intro gb124 hg w17 hbox hb;have n0_:=Aside0.mk (below_step (below_up HB.out) hb);have n1_:=Aside0.mk (hbox);have n2_:=Aside0.mk ((by rw [hg];exact (below_size (below_up HB.out)) : w.heap.size≤gb124));have n3_:=Aside0.mk ((by rw [hg];exact (below_size (below_up HB.out)) : w.heap.size≤gb124));clear HB;have HB:=n0_;have BK124:=n1_;have GW124:=n2_;have GE124:=n3_;clear n0_ n1_ n2_ n3_;clear hb hbox hg)|((with_reducible refine gate_dst (N:=5) rfl ?_);refine box_event ?hg (N:=5) ?hd (cs:=#[.int .i64 a2_0,.string a2_1]) (t:=40) ?hr ?_;(case hd=>rfl);(case hg=>rfl);(case hr=>first|(go_simp;done)|(go_simp;rfl));intro gb125 hg w18 hbox hb;have n0_:=Aside0.mk (blk_below (blk_up BK124.out) hb);have n1_:=Aside0.mk (below_step (below_go HB.out) hb);have n2_:=Aside0.mk (hbox);have n3_:=Aside0.mk ((by rw [hg];exact (below_size (below_go HB.out)) : w.heap.size≤gb125));have n4_:=Aside0.mk ((by rw [hg];exact (below_size (below_go HB.out)) : w.heap.size≤gb125));have n5_:=Aside0.mk ((by rw [hg];exact Nat.ne_of_lt (blk_lt (blk_up BK124.out)) : gb124≠gb125));have n6_:=Aside0.mk ((by rw [hg];exact Nat.ne_of_gt (blk_lt (blk_up BK124.out)) : gb125≠gb124));clear BK124;clear HB;have BK124:=n0_;have HB:=n1_;have BK125:=n2_;have GW125:=n3_;have GE125:=n4_;have NB124_125:=n5_;have NB125_124:=n6_;clear n0_ n1_ n2_ n3_ n4_ n5_ n6_;clear hb hbox hg)|((with_reducible refine gate_dst (N:=6) rfl ?_);refine box_event ?hg (N:=6) ?hd (cs:=#[.int .i64 0,.string (⟨#[]⟩ : ByteArray)]) (t:=40) ?hr ?_;(case hd=>rfl);(case hg=>rfl);(case hr=>first|(go_simp;done)|(go_simp;rfl));intro gb126 hg w19 hbox hb;have n0_:=Aside0.mk (blk_below (blk_up BK124.out) hb);have n1_:=Aside0.mk (blk_below (blk_up BK125.out) hb);have n2_:=Aside0.mk (below_step (below_go HB.out) hb);have n3_:=Aside0.mk (hbox);have n4_:=Aside0.mk ((by rw [hg];exact (below_size (below_go HB.out)) : w.heap.size≤gb126));have n5_:=Aside0.mk ((by rw [hg];exact (below_size (below_go HB.out)) : w.heap.size≤gb126));have n6_:=Aside0.mk ((by rw [hg];exact Nat.ne_of_lt (blk_lt (blk_up BK124.out)) : gb124≠gb126));have n7_:=Aside0.mk ((by rw [hg];exact Nat.ne_of_gt (blk_lt (blk_up BK124.out)) : gb126≠gb124));have n8_:=Aside0.mk ((by rw [hg];exact Nat.ne_of_lt (blk_lt (blk_up BK125.out)) : gb125≠gb126));have n9_:=Aside0.mk ((by rw [hg];exact Nat.ne_of_gt (blk_lt (blk_up BK125.out)) : gb126≠gb125));clear BK124;clear BK125;clear HB;have BK124:=n0_;have BK125:=n1_;have HB:=n2_;have BK126:=n3_;have GW126:=n4_;have GE126:=n5_;have NB124_126:=n6_;have NB126_124:=n7_;have NB125_126:=n8_;have NB126_125:=n9_;clear n0_ n1_ n2_ n3_ n4_ n5_ n6_ n7_ n8_ n9_;clear hb hbox hg;have hnb20:=NB125_124.out;have hnc20:=NB124_125.out;have hnb21:=NB125_126.out;have hnc21:=NB126_125.out;have hcz22_0 : w19.cell? ⟨gb125,0,none⟩=some (.int .i64 a2_0):=(blk_cell BK125.out 0).trans rfl;have hcz22_1 : w19.cell? ⟨gb125,1,none⟩=some (.string a2_1):=(blk_cell BK125.out 1).trans rfl;have hfz22_0:=blk_frozen BK125.out 0;have hfz22_1:=blk_frozen BK125.out 1;have hnb23:=NB124_126.out;have hnc23:=NB126_124.out;have hcz24_0 : w19.cell? ⟨gb124,0,none⟩=some (.int .i64 a1_0):=(blk_cell BK124.out 0).trans rfl;have hcz24_1 : w19.cell? ⟨gb124,1,none⟩=some (.string a1_1):=(blk_cell BK124.out 1).trans rfl;have hfz24_0:=blk_frozen BK124.out 0;have hfz24_1:=blk_frozen BK124.out 1)|((with_reducible refine gate_callee (f:=32) rfl ?_);refine goesL_ (some 10) rfl rfl Try.func32 (by kernel_rfl) rfl #[.int .i64 a0,.agg #[.int .i64 a2_0,.string a2_1],.agg #[.int .i64 a1_0,.string a1_1]] rfl (by (try simp only [List.map_toArray,List.map_cons,List.map_nil]);first|done|rfl|(simp only [List.length_drop,List.length_take];rfl)) ?_;(with_reducible refine (value_Compare.calls k a0 a2_0 a2_1 a1_0 a1_1 t127 _ A4.out).mono ?_);rintro e w25 ⟨rfl,hb⟩;refine ⟨_,rfl,?_⟩;have n0_:=Aside0.mk (blk_below (blk_up BK124.out) hb);have n1_:=Aside0.mk (blk_below (blk_up BK125.out) hb);have n2_:=Aside0.mk (blk_below (g:=gb126) (o:=.cells #[.int .i64 0,.string (⟨#[]⟩ : ByteArray)] 40 (0,0)) (blk_up BK126.out) hb);have n3_:=Aside0.mk (below_step (below_go HB.out) hb);clear BK124;clear BK125;clear BK126;clear HB;have BK124:=n0_;have BK125:=n1_;have BK126:=n2_;have HB:=n3_;clear n0_ n1_ n2_ n3_;(try clear hb);(try clear hb2);(try clear hk);(try clear hi);have hcz26_0 : w25.cell? ⟨gb124,0,none⟩=some (.int .i64 a1_0):=(blk_cell BK124.out 0).trans rfl;have hcz26_1 : w25.cell? ⟨gb124,1,none⟩=some (.string a1_1):=(blk_cell BK124.out 1).trans rfl;have hfz26_0:=blk_frozen BK124.out 0;have hfz26_1:=blk_frozen BK124.out 1;have hcz27_0 : w25.cell? ⟨gb126,0,none⟩=some (.int .i64 0):=(blk_cell BK126.out 0).trans rfl;have hcz27_1 : w25.cell? ⟨gb126,1,none⟩=some (.string (⟨#[]⟩ : ByteArray)):=(blk_cell BK126.out 1).trans rfl;have hfz27_0:=blk_frozen BK126.out 0;have hfz27_1:=blk_frozen BK126.out 1))
  refine bodyPost_ret (results_cell_row rfl _ _ gb126 40 #[.int .i64 a1_0,.string a1_1] (0,0) _ rfl (by (with_reducible repeat (first|refine blk_drewN ?_ _|refine blk_drew ?_|refine blk_alloc ?_ _));refine blk_put (cs:=#[.int .i64 a1_0,.string (⟨#[]⟩ : ByteArray)]) ?_ 1 _ rfl;(with_reducible repeat (first|refine blk_drewN ?_ _|refine blk_drew ?_|refine blk_alloc ?_ _));refine blk_put (cs:=#[.int .i64 0,.string (⟨#[]⟩ : ByteArray)]) ?_ 0 _ rfl;(with_reducible repeat (first|refine blk_drewN ?_ _|refine blk_drew ?_|refine blk_alloc ?_ _));exact BK126.out) Try.underlying40 rfl (by kernel_rfl)) rfl ?_
  exact ⟨by first|rfl|(simp [errW_none,errW_some] <;> rfl)|(simp [*,errW_none,errW_some] <;> rfl),by repeat (first|(with_reducible first|exact HB.out|apply below_alloc|apply pw_below_drewN|apply below_drew1|refine below_set ?_ GE124.out|refine below_set ?_ GE125.out|refine below_set ?_ GE126.out)|exact HB.out)⟩
end Go.Proofs.Ytapaldcdoahfeaa.P

