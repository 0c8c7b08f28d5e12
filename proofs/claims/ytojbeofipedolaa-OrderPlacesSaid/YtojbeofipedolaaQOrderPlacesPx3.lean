/- Texts of OrderPlaces. Merged: Px3. -/
import Derived.Test.YtojbeofipedolaaQOrderPlacesPx0
import Derived.Test.YtojbeofipedolaaQOrderPlacesPx2
import Derived.Test.YtojbeofipedolaaQOrderPlacesHCmp
namespace Go.Proofs.Ytojbeofipedolaa.P
open Go.RowKit Go.Proofs.YtojbeofipedolaaW.PrintWords Go.Proofs.YtojbeofipedolaaW.PrintLast Go.Proofs.YtojbeofipedolaaW.PrintMore
attribute [local go_sem] max2_int min2_int max_two min_two max_three min_three max_four min_four   -- for this text's walks alone
set_option linter.unusedVariables false
set_option linter.unusedSimpArgs false
def value_Compare.j0 : Nat→Int→Bool→Int→ByteArray→Int→ByteArray→Option (Int)
 | 0,_,_,_,_,_,_=>none
 | k + 1,x0,x7,x107000,x107001,x108000,x108001=>if x7=true then (some 0) else (if x0=3 then ((strings_Compare.f x107001 x108001).bind fun t110=>(some t110)) else (if x0=2 then ((cmp_Compare_uint64.f (IntKind.u64.wrap (x107000)) (IntKind.u64.wrap (x108000))).bind fun t111=>(some t111)) else ((cmp_Compare_int64.f x107000 x108000).bind fun t112=>(some t112))))
def value_Compare.f (k : Nat) (a0 : Int) (a1_0 : Int) (a1_1 : ByteArray) (a2_0 : Int) (a2_1 : ByteArray) : Option (Int):=(value_Fits.f k a0 a1_0 a1_1).bind fun t108=>(if t108=true then ((value_Fits.f k a0 a2_0 a2_1).bind fun t109=>(value_Compare.j0 k a0 (!t109) a1_0 a1_1 a2_0 a2_1)) else (value_Compare.j0 k a0 true a1_0 a1_1 a2_0 a2_1))
theorem value_Compare.mono_l : ∀ k,(∀ y0 y1 y2 y3 y4 y5,LeO (value_Compare.j0 k y0 y1 y2 y3 y4 y5) (value_Compare.j0 (k + 1) y0 y1 y2 y3 y4 y5))
 | 0=>fun _ _ _ _ _ _ r h=>by simp [value_Compare.j0] at h
 | k + 1=>by
  have ih0:=value_Compare.mono_l k
  ·intro y0 y1 y2 y3 y4 y5
   unfold value_Compare.j0
   repeat' first
   | (with_reducible exact ih0 _ _ _ _ _ _)
   | (with_reducible exact value_Fits.mono _ _ _ _)
   | (with_reducible exact LeO.refl _)
   | (with_reducible exact LeO.none _)
   | (with_reducible refine LeO.ite ?_ ?_)
   | (with_reducible refine LeO.bind ?_ (fun _=>?_))
   | exact ih0 _ _ _ _ _ _
   | exact value_Fits.mono _ _ _ _
   | exact LeO.none _
   | refine LeO.ite ?_ ?_
   | refine LeO.bind ?_ (fun _=>?_)
theorem value_Compare.mono : ∀ a0 a1 a2 a3 a4 k,LeO (value_Compare.f k a0 a1 a2 a3 a4) (value_Compare.f (k + 1) a0 a1 a2 a3 a4):=by
 intro a0 a1 a2 a3 a4 k
 have ih0:=value_Compare.mono_l k
 unfold value_Compare.f
 repeat' first
   | (with_reducible exact ih0 _ _ _ _ _ _)
   | (with_reducible exact value_Fits.mono _ _ _ _)
   | (with_reducible exact LeO.refl _)
   | (with_reducible exact LeO.none _)
   | (with_reducible refine LeO.ite ?_ ?_)
   | (with_reducible refine LeO.bind ?_ (fun _=>?_))
   | exact ih0 _ _ _ _ _ _
   | exact value_Fits.mono _ _ _ _
   | exact LeO.none _
   | refine LeO.ite ?_ ?_
   | refine LeO.bind ?_ (fun _=>?_)
set_option maxHeartbeats 8000000 in
set_option maxRecDepth 100000 in
theorem value_Compare.calls (k : Nat) (a0 : Int) (a1_0 : Int) (a1_1 : ByteArray) (a2_0 : Int) (a2_1 : ByteArray) (r : Int) (w : World) (h : value_Compare.f k a0 a1_0 a1_1 a2_0 a2_1=some r) :
  Calls Try.prog 34 #[.int .i64 a0,.agg #[.int .i64 a1_0,.string a1_1],.agg #[.int .i64 a2_0,.string a2_1]] w fun e w'=>e=.returned (.int .i64 r)∧Below w.heap.size w w':=by
 have hu41:=Try.underlying41
 have HB:=Aside0.mk (Below.refl w.heap.size w)
 have H : ((value_Fits.f k a0 a1_0 a1_1).bind fun t108=>(if t108=true then ((value_Fits.f k a0 a2_0 a2_1).bind fun t109=>(value_Compare.j0 k a0 (!t109) a1_0 a1_1 a2_0 a2_1)) else (value_Compare.j0 k a0 true a1_0 a1_1 a2_0 a2_1)))=some r:=h
 clear h
 have HC4:=Aside0.mk H
 clear H
 go_enter Try.func34,Try.ntmps34
 go_upto_region 1 with (first|((with_reducible refine gate_dst (N:=4) rfl ?_);refine box_event ?hg (N:=4) ?hd (cs:=#[.int .i64 a1_0,.string a1_1]) (t:=41) ?hr ?_;(case hd=>rfl);(case hg=>rfl);(case hr=>first|(go_simp;done)|(go_simp;rfl));intro gb106 hg w5 hbox hb;have n0_:=Aside0.mk (below_step (below_up HB.out) hb);have n1_:=Aside0.mk (hbox);have n2_:=Aside0.mk ((by rw [hg];exact (below_size (below_up HB.out)) : w.heap.size≤gb106));have n3_:=Aside0.mk ((by rw [hg];exact (below_size (below_up HB.out)) : w.heap.size≤gb106));clear HB;have HB:=n0_;have BK106:=n1_;have GW106:=n2_;have GE106:=n3_;clear n0_ n1_ n2_ n3_;clear hb hbox hg)|((with_reducible refine gate_dst (N:=5) rfl ?_);refine box_event ?hg (N:=5) ?hd (cs:=#[.int .i64 a2_0,.string a2_1]) (t:=41) ?hr ?_;(case hd=>rfl);(case hg=>rfl);(case hr=>first|(go_simp;done)|(go_simp;rfl));intro gb107 hg w6 hbox hb;have n0_:=Aside0.mk (blk_below (blk_up BK106.out) hb);have n1_:=Aside0.mk (below_step (below_go HB.out) hb);have n2_:=Aside0.mk (hbox);have n3_:=Aside0.mk ((by rw [hg];exact (below_size (below_go HB.out)) : w.heap.size≤gb107));have n4_:=Aside0.mk ((by rw [hg];exact (below_size (below_go HB.out)) : w.heap.size≤gb107));have n5_:=Aside0.mk ((by rw [hg];exact Nat.ne_of_lt (blk_lt (blk_up BK106.out)) : gb106≠gb107));have n6_:=Aside0.mk ((by rw [hg];exact Nat.ne_of_gt (blk_lt (blk_up BK106.out)) : gb107≠gb106));clear BK106;clear HB;have BK106:=n0_;have HB:=n1_;have BK107:=n2_;have GW107:=n3_;have GE107:=n4_;have NB106_107:=n5_;have NB107_106:=n6_;clear n0_ n1_ n2_ n3_ n4_ n5_ n6_;clear hb hbox hg))
 (try simp only [Act.put,List.setIfInBounds_toArray,List.set_cons_zero,List.set_cons_succ])
 go_cut [7] (fun v7 wc=>∃ (kq : Nat) (x7_3 : Bool),v7=.bool x7_3∧Aside0 (value_Compare.j0 kq a0 x7_3 a1_0 a1_1 a2_0 a2_1=some r)∧Aside0 (kq≤k)∧Aside0 (wc.heap[gb106]?=some (.cells #[.int .i64 a1_0,.string a1_1] 41 (0,0)))∧Aside0 (wc.heap[gb107]?=some (.cells #[.int .i64 a2_0,.string a2_1] 41 (0,0)))∧Aside0 (Below w.heap.size w wc))
 case first =>
  have H:=HC4.out
  clear HC4
  replace H:=Option.bind_eq_some_iff.mp H
  obtain ⟨t108,A70,H⟩:=H
  replace H : (if t108=true then ((value_Fits.f k a0 a2_0 a2_1).bind fun t109=>(value_Compare.j0 k a0 (!t109) a1_0 a1_1 a2_0 a2_1)) else (value_Compare.j0 k a0 true a1_0 a1_1 a2_0 a2_1))=some r:=H
  have A7:=Aside0.mk A70
  clear A70
  by_cases c8 : t108=true
  ·subst c8
   have H1 : ((value_Fits.f k a0 a2_0 a2_1).bind fun t109=>(value_Compare.j0 k a0 (!t109) a1_0 a1_1 a2_0 a2_1))=some r:=by rw [if_pos rfl] at H;exact H
   clear H
   have H:=H1
   clear H1
   replace H:=Option.bind_eq_some_iff.mp H
   obtain ⟨t109,A90,H⟩:=H
   replace H : (value_Compare.j0 k a0 (!t109) a1_0 a1_1 a2_0 a2_1)=some r:=H
   have A9:=Aside0.mk A90
   clear A90
   have H':=Aside0.mk H
   clear H
   have hnb10:=NB106_107.out
   have hnc10:=NB107_106.out
   have hcz11_0 : w6.cell? ⟨gb106,0,none⟩=some (.int .i64 a1_0):=(blk_cell BK106.out 0).trans rfl
   have hcz11_1 : w6.cell? ⟨gb106,1,none⟩=some (.string a1_1):=(blk_cell BK106.out 1).trans rfl
   have hfz11_0:=blk_frozen BK106.out 0
   have hfz11_1:=blk_frozen BK106.out 1
   go_wp2_with (first|((with_reducible refine gate_callee (f:=39) rfl ?_);refine goesL_ (some 10) rfl rfl Try.func39 (by kernel_rfl) rfl #[.int .i64 a0,.agg #[.int .i64 a1_0,.string a1_1]] rfl (by (try simp only [List.map_toArray,List.map_cons,List.map_nil]);first|done|rfl|(simp only [List.length_drop,List.length_take];rfl)) ?_;(with_reducible refine (value_Fits.calls k a0 a1_0 a1_1 true _ A7.out).mono ?_);rintro e w12 ⟨rfl,hb⟩;refine ⟨_,rfl,?_⟩;have n0_:=Aside0.mk (blk_below (blk_up BK106.out) hb);have n1_:=Aside0.mk (blk_below (blk_up BK107.out) hb);have n2_:=Aside0.mk (below_step (below_go HB.out) hb);clear BK106;clear BK107;clear HB;have BK106:=n0_;have BK107:=n1_;have HB:=n2_;clear n0_ n1_ n2_;(try clear hb);(try clear hb2);(try clear hk);(try clear hi);have hcz13_0 : w12.cell? ⟨gb107,0,none⟩=some (.int .i64 a2_0):=(blk_cell BK107.out 0).trans rfl;have hcz13_1 : w12.cell? ⟨gb107,1,none⟩=some (.string a2_1):=(blk_cell BK107.out 1).trans rfl;have hfz13_0:=blk_frozen BK107.out 0;have hfz13_1:=blk_frozen BK107.out 1)|(go_at_call 39;(with_reducible refine (value_Fits.calls k a0 a2_0 a2_1 t109 _ A9.out).mono ?_);rintro e w14 ⟨rfl,hb⟩;have n0_:=Aside0.mk (blk_below (blk_up BK106.out) hb);have n1_:=Aside0.mk (blk_below (blk_up BK107.out) hb);have n2_:=Aside0.mk (below_step (below_go HB.out) hb);clear BK106;clear BK107;clear HB;have BK106:=n0_;have BK107:=n1_;have HB:=n2_;clear n0_ n1_ n2_;(try clear hb);(try clear hb2);(try clear hk);(try clear hi)))
   go_meet
   case rel=>exact ⟨_,(!t109),(by first|rfl|(simp;done)|(simp [*];done)),(by first|exact H'|(subst_vars;exact H')),⟨by first|omega|exact Nat.le_refl _⟩,⟨by (with_reducible repeat (first|refine blk_drewN ?_ _|refine blk_drew ?_|refine blk_alloc ?_ _));exact BK106.out⟩,⟨by (with_reducible repeat (first|refine blk_drewN ?_ _|refine blk_drew ?_|refine blk_alloc ?_ _));exact BK107.out⟩,⟨by repeat (first|(with_reducible first|exact HB.out|apply below_alloc|apply pw_below_drewN|apply below_drew1|refine below_set ?_ GE106.out|refine below_set ?_ GE107.out)|exact HB.out)⟩⟩
  ·replace c8:=Bool.eq_false_iff.mpr c8
   subst c8
   have H1 : (value_Compare.j0 k a0 true a1_0 a1_1 a2_0 a2_1)=some r:=by rw [if_neg (show ¬ (false=true) by decide)] at H;exact H
   clear H
   have H:=H1
   clear H1
   have H':=Aside0.mk H
   clear H
   have hnb15:=NB106_107.out
   have hnc15:=NB107_106.out
   have hcz16_0 : w6.cell? ⟨gb106,0,none⟩=some (.int .i64 a1_0):=(blk_cell BK106.out 0).trans rfl
   have hcz16_1 : w6.cell? ⟨gb106,1,none⟩=some (.string a1_1):=(blk_cell BK106.out 1).trans rfl
   have hfz16_0:=blk_frozen BK106.out 0
   have hfz16_1:=blk_frozen BK106.out 1
   go_wp2_with (first|((with_reducible refine gate_callee (f:=39) rfl ?_);refine goesL_ (some 10) rfl rfl Try.func39 (by kernel_rfl) rfl #[.int .i64 a0,.agg #[.int .i64 a1_0,.string a1_1]] rfl (by (try simp only [List.map_toArray,List.map_cons,List.map_nil]);first|done|rfl|(simp only [List.length_drop,List.length_take];rfl)) ?_;(with_reducible refine (value_Fits.calls k a0 a1_0 a1_1 false _ A7.out).mono ?_);rintro e w17 ⟨rfl,hb⟩;refine ⟨_,rfl,?_⟩;have n0_:=Aside0.mk (blk_below (blk_up BK106.out) hb);have n1_:=Aside0.mk (blk_below (blk_up BK107.out) hb);have n2_:=Aside0.mk (below_step (below_go HB.out) hb);clear BK106;clear BK107;clear HB;have BK106:=n0_;have BK107:=n1_;have HB:=n2_;clear n0_ n1_ n2_;(try clear hb);(try clear hb2);(try clear hk);(try clear hi)))
   go_meet
   case rel=>exact ⟨_,(true),(by first|rfl|(simp;done)|(simp [*];done)),(by first|exact H'|(subst_vars;exact H')),⟨by first|omega|exact Nat.le_refl _⟩,⟨by (with_reducible repeat (first|refine blk_drewN ?_ _|refine blk_drew ?_|refine blk_alloc ?_ _));exact BK106.out⟩,⟨by (with_reducible repeat (first|refine blk_drewN ?_ _|refine blk_drew ?_|refine blk_alloc ?_ _));exact BK107.out⟩,⟨by repeat (first|(with_reducible first|exact HB.out|apply below_alloc|apply pw_below_drewN|apply below_drew1|refine below_set ?_ GE106.out|refine below_set ?_ GE107.out)|exact HB.out)⟩⟩
 case rest =>
  clear HC4
  try clear c1
  try clear p2
  try clear c3
  try clear c8
  try clear c10
  try clear c15
  try clear hcz11_0
  try clear hcz11_1
  try clear hcz13_0
  try clear hcz13_1
  try clear hcz16_0
  try clear hcz16_1
  try clear hfz11_0
  try clear hfz11_1
  try clear hfz13_0
  try clear hfz13_1
  try clear hfz16_0
  try clear hfz16_1
  obtain ⟨kq,x7_3,rfl,HA,HJ3,BK106,BK107,HB⟩:=hcut
  cases kq with
  | zero=>exact absurd HA.out (by simp [value_Compare.j0])
  | succ kj3 =>
   have H:=HA.out
   clear HA
   simp only [value_Compare.j0] at H
   by_cases c18 : x7_3=true
   ·subst c18
    have H1 : (some 0)=some r:=by rw [if_pos rfl] at H;exact H
    clear H
    have H:=H1
    clear H1
    obtain rfl:=Option.some.inj H
    go_wp2
    go_ret
    exact ⟨by first|rfl|(simp [errW_none,errW_some] <;> rfl)|(simp [*,errW_none,errW_some] <;> rfl),by repeat (first|(with_reducible first|exact HB.out|apply below_alloc|apply pw_below_drewN|apply below_drew1|refine below_set ?_ GE106.out|refine below_set ?_ GE107.out)|exact HB.out)⟩
   ·replace c18:=Bool.eq_false_iff.mpr c18
    subst c18
    have H1 : (if a0=3 then ((strings_Compare.f a1_1 a2_1).bind fun t110=>(some t110)) else (if a0=2 then ((cmp_Compare_uint64.f (IntKind.u64.wrap (a1_0)) (IntKind.u64.wrap (a2_0))).bind fun t111=>(some t111)) else ((cmp_Compare_int64.f a1_0 a2_0).bind fun t112=>(some t112))))=some r:=by rw [if_neg (show ¬ (false=true) by decide)] at H;exact H
    clear H
    have H:=H1
    clear H1
    by_cases c19 : a0=3
    ·rw [if_pos c19] at H
     have c19b0 : (a0 == 3)=true:=beq_iff_eq.mpr c19
     have c19b1 : (a0 != 3)=false:=bne_eq_false_iff_eq.mpr c19
     clear c19
     replace H:=Option.bind_eq_some_iff.mp H
     obtain ⟨t110,A200,H⟩:=H
     replace H : (some t110)=some r:=H
     have A20:=Aside0.mk A200
     clear A200
     obtain rfl:=Option.some.inj H
     have hnb21:=NB106_107.out
     have hnc21:=NB107_106.out
     have hcz22_0 : wc.cell? ⟨gb106,0,none⟩=some (.int .i64 a1_0):=(blk_cell BK106.out 0).trans rfl
     have hcz22_1 : wc.cell? ⟨gb106,1,none⟩=some (.string a1_1):=(blk_cell BK106.out 1).trans rfl
     have hfz22_0:=blk_frozen BK106.out 0
     have hfz22_1:=blk_frozen BK106.out 1
     have hcz23_0 : wc.cell? ⟨gb107,0,none⟩=some (.int .i64 a2_0):=(blk_cell BK107.out 0).trans rfl
     have hcz23_1 : wc.cell? ⟨gb107,1,none⟩=some (.string a2_1):=(blk_cell BK107.out 1).trans rfl
     have hfz23_0:=blk_frozen BK107.out 0
     have hfz23_1:=blk_frozen BK107.out 1
     go_wp2_with (first|((with_reducible refine gate_callee (f:=40) rfl ?_);refine goesL_ (some 25) rfl rfl Try.func40 (by kernel_rfl) rfl #[.string a1_1,.string a2_1] rfl (by (try simp only [List.map_toArray,List.map_cons,List.map_nil]);first|done|rfl|(simp only [List.length_drop,List.length_take];rfl)) ?_;(with_reducible refine (strings_Compare.calls a1_1 a2_1 t110 _ A20.out).mono ?_);rintro e w' ⟨rfl,⟨nd,rfl⟩⟩;refine ⟨_,rfl,?_⟩))
     go_ret
     exact ⟨by first|rfl|(simp [errW_none,errW_some] <;> rfl)|(simp [*,errW_none,errW_some] <;> rfl),by repeat (first|(with_reducible first|exact HB.out|apply below_alloc|apply pw_below_drewN|apply below_drew1|refine below_set ?_ GE106.out|refine below_set ?_ GE107.out)|exact HB.out)⟩
    ·rw [if_neg c19] at H
     have c19b0 : (a0 == 3)=false:=beq_eq_false_iff_ne.mpr c19
     have c19b1 : (a0 != 3)=true:=bne_iff_ne.mpr c19
     by_cases c24 : a0=2
     ·rw [if_pos c24] at H
      have c24b0 : (a0 == 2)=true:=beq_iff_eq.mpr c24
      have c24b1 : (a0 != 2)=false:=bne_eq_false_iff_eq.mpr c24
      clear c24
      replace H:=Option.bind_eq_some_iff.mp H
      obtain ⟨t111,A250,H⟩:=H
      replace H : (some t111)=some r:=H
      have A25:=Aside0.mk A250
      clear A250
      obtain rfl:=Option.some.inj H
      have hnb26:=NB106_107.out
      have hnc26:=NB107_106.out
      have hcz27_0 : wc.cell? ⟨gb106,0,none⟩=some (.int .i64 a1_0):=(blk_cell BK106.out 0).trans rfl
      have hcz27_1 : wc.cell? ⟨gb106,1,none⟩=some (.string a1_1):=(blk_cell BK106.out 1).trans rfl
      have hfz27_0:=blk_frozen BK106.out 0
      have hfz27_1:=blk_frozen BK106.out 1
      have hcz28_0 : wc.cell? ⟨gb107,0,none⟩=some (.int .i64 a2_0):=(blk_cell BK107.out 0).trans rfl
      have hcz28_1 : wc.cell? ⟨gb107,1,none⟩=some (.string a2_1):=(blk_cell BK107.out 1).trans rfl
      have hfz28_0:=blk_frozen BK107.out 0
      have hfz28_1:=blk_frozen BK107.out 1
      go_wp2_with (first|((with_reducible refine gate_callee (f:=41) rfl ?_);refine goesL_ (some 35) rfl rfl Try.func41 (by kernel_rfl) rfl #[.int .u64 (IntKind.u64.wrap (a1_0)),.int .u64 (IntKind.u64.wrap (a2_0))] rfl (by (try simp only [List.map_toArray,List.map_cons,List.map_nil]);first|done|rfl|(simp only [List.length_drop,List.length_take];rfl)) ?_;(with_reducible refine (cmp_Compare_uint64.calls (IntKind.u64.wrap (a1_0)) (IntKind.u64.wrap (a2_0)) t111 _ A25.out).mono ?_);rintro e w' ⟨rfl,⟨nd,rfl⟩⟩;refine ⟨_,rfl,?_⟩))
      go_ret
      exact ⟨by first|rfl|(simp [errW_none,errW_some] <;> rfl)|(simp [*,errW_none,errW_some] <;> rfl),by repeat (first|(with_reducible first|exact HB.out|apply below_alloc|apply pw_below_drewN|apply below_drew1|refine below_set ?_ GE106.out|refine below_set ?_ GE107.out)|exact HB.out)⟩
     ·rw [if_neg c24] at H
      have c24b0 : (a0 == 2)=false:=beq_eq_false_iff_ne.mpr c24
      have c24b1 : (a0 != 2)=true:=bne_iff_ne.mpr c24
      replace H:=Option.bind_eq_some_iff.mp H
      obtain ⟨t112,A290,H⟩:=H
      replace H : (some t112)=some r:=H
      have A29:=Aside0.mk A290
      clear A290
      obtain rfl:=Option.some.inj H
      have hnb30:=NB106_107.out
      have hnc30:=NB107_106.out
      have hcz31_0 : wc.cell? ⟨gb106,0,none⟩=some (.int .i64 a1_0):=(blk_cell BK106.out 0).trans rfl
      have hcz31_1 : wc.cell? ⟨gb106,1,none⟩=some (.string a1_1):=(blk_cell BK106.out 1).trans rfl
      have hfz31_0:=blk_frozen BK106.out 0
      have hfz31_1:=blk_frozen BK106.out 1
      have hcz32_0 : wc.cell? ⟨gb107,0,none⟩=some (.int .i64 a2_0):=(blk_cell BK107.out 0).trans rfl
      have hcz32_1 : wc.cell? ⟨gb107,1,none⟩=some (.string a2_1):=(blk_cell BK107.out 1).trans rfl
      have hfz32_0:=blk_frozen BK107.out 0
      have hfz32_1:=blk_frozen BK107.out 1
      go_wp2_with (first|((with_reducible refine gate_callee (f:=42) rfl ?_);refine goesL_ (some 40) rfl rfl Try.func42 (by kernel_rfl) rfl #[.int .i64 a1_0,.int .i64 a2_0] rfl (by (try simp only [List.map_toArray,List.map_cons,List.map_nil]);first|done|rfl|(simp only [List.length_drop,List.length_take];rfl)) ?_;(with_reducible refine (cmp_Compare_int64.calls a1_0 a2_0 t112 _ A29.out).mono ?_);rintro e w' ⟨rfl,⟨nd,rfl⟩⟩;refine ⟨_,rfl,?_⟩))
      go_ret
      exact ⟨by first|rfl|(simp [errW_none,errW_some] <;> rfl)|(simp [*,errW_none,errW_some] <;> rfl),by repeat (first|(with_reducible first|exact HB.out|apply below_alloc|apply pw_below_drewN|apply below_drew1|refine below_set ?_ GE106.out|refine below_set ?_ GE107.out)|exact HB.out)⟩
def schema_Compare.l0 : Nat→List (S41)→List (S41)→List Int→Int→Int→Option (Int)
 | 0,_,_,_,_,_=>none
 | k + 1,x1,x2,x23,x24,x25=>if x25 < x24 then (if 0≤x25 then (if x25 < (x23.length : Int) then (if x25 < (x1.length : Int) then (if x25 < (x2.length : Int) then ((value_Compare.f k (rd x23 x25) ((rd_T41 x1 x25).f0) ((rd_T41 x1 x25).f1) ((rd_T41 x2 x25).f0) ((rd_T41 x2 x25).f1)).bind fun t118=>(if t118=0 then (schema_Compare.l0 k x1 x2 x23 x24 (wrap64 (x25 + 1))) else (some t118))) else (none)) else (none)) else (none)) else (none)) else (some 0)
def schema_Compare.f (k : Nat) (l0_0 : List Int) (a0_1 : Int) (a0_2 : Int) (a0_3 : Int) (l1 : List (S41)) (l2 : List (S41)) : Option (Int):=if 0≤(mn (mn (mn (mx a0_1 0) (l0_0.length : Int)) (l1.length : Int)) (l2.length : Int)) then (if (mn (mn (mn (mx a0_1 0) (l0_0.length : Int)) (l1.length : Int)) (l2.length : Int))≤(l0_0.length : Int) then (schema_Compare.l0 k l1 l2 (l0_0.take ((mn (mn (mn (mx a0_1 0) (l0_0.length : Int)) (l1.length : Int)) (l2.length : Int)) : Int).toNat) ((l0_0.take ((mn (mn (mn (mx a0_1 0) (l0_0.length : Int)) (l1.length : Int)) (l2.length : Int)) : Int).toNat).length : Int) 0) else (none)) else (none)
theorem schema_Compare.mono_l : ∀ k,(∀ y0 y1 y2 y3 y4,LeO (schema_Compare.l0 k y0 y1 y2 y3 y4) (schema_Compare.l0 (k + 1) y0 y1 y2 y3 y4))
 | 0=>fun _ _ _ _ _ r h=>by simp [schema_Compare.l0] at h
 | k + 1=>by
  have ih0:=schema_Compare.mono_l k
  ·intro y0 y1 y2 y3 y4
   unfold schema_Compare.l0
   repeat' first
   | (with_reducible exact ih0 _ _ _ _ _)
   | (with_reducible exact value_Compare.mono _ _ _ _ _ _)
   | (with_reducible exact LeO.refl _)
   | (with_reducible exact LeO.none _)
   | (with_reducible refine LeO.ite ?_ ?_)
   | (with_reducible refine LeO.bind ?_ (fun _=>?_))
   | exact ih0 _ _ _ _ _
   | exact value_Compare.mono _ _ _ _ _ _
   | exact LeO.none _
   | refine LeO.ite ?_ ?_
   | refine LeO.bind ?_ (fun _=>?_)
theorem schema_Compare.mono : ∀ a0 a1 a2 a3 a4 a5 k,LeO (schema_Compare.f k a0 a1 a2 a3 a4 a5) (schema_Compare.f (k + 1) a0 a1 a2 a3 a4 a5):=by
 intro a0 a1 a2 a3 a4 a5 k
 have ih0:=schema_Compare.mono_l k
 unfold schema_Compare.f
 repeat' first
   | (with_reducible exact ih0 _ _ _ _ _)
   | (with_reducible exact value_Compare.mono _ _ _ _ _ _)
   | (with_reducible exact LeO.refl _)
   | (with_reducible exact LeO.none _)
   | (with_reducible refine LeO.ite ?_ ?_)
   | (with_reducible refine LeO.bind ?_ (fun _=>?_))
   | exact ih0 _ _ _ _ _
   | exact value_Compare.mono _ _ _ _ _ _
   | exact LeO.none _
   | refine LeO.ite ?_ ?_
   | refine LeO.bind ?_ (fun _=>?_)
def schema_Compare.T4 : Bool × List (List Nat × List Nat):=(true,[([],[]),([],[]),([],[]),([1,2],[1,2]),([3],[3]),([],[]),([],[]),([5,6],[5,6]),([7],[7]),([0,4,8],[0,4,8]),([9,9,0,1,2,3,4,5,6,7,8,9],[9])])
def schema_Compare.B4 : List Nat:=[0,0,0,6,14,0,0,96,224,511,1023]
theorem schema_Compare.tab4 : rtab .any (opsOf Try.f26 4)=schema_Compare.T4:=by kernel_rfl
theorem schema_Compare.bits4 : waitsOk schema_Compare.T4.2 schema_Compare.B4=true:=by kernel_rfl
set_option maxHeartbeats 8000000 in
set_option maxRecDepth 100000 in
theorem schema_Compare.calls (k : Nat) (A0_0 : Option Addr) (c0_0 : Nat) (l0_0 : List Int) (a0_1 : Int) (a0_2 : Int) (a0_3 : Int) (A1 : Option Addr) (c1 : Nat) (l1 : List (S41)) (A2 : Option Addr) (c2 : Nat) (l2 : List (S41)) (r : Int) (w : World) (hr0_0 : Kd.C (Kd.int .i64) w A0_0 l0_0.length l0_0) (hc0_0 : l0_0.length≤c0_0) (hr1 : Kd.C k41 w A1 l1.length l1) (hc1 : l1.length≤c1) (hr2 : Kd.C k41 w A2 l2.length l2) (hc2 : l2.length≤c2) (h : schema_Compare.f k l0_0 a0_1 a0_2 a0_3 l1 l2=some r) :
  Calls Try.prog 26 #[.agg #[.slice A0_0 l0_0.length c0_0,.int .i64 a0_1,.int .i64 a0_2,.int .i64 a0_3],.slice A1 l1.length c1,.slice A2 l2.length c2] w fun e w'=>e=.returned (.int .i64 r)∧Below w.heap.size w w':=by
 have hu31:=Try.underlying31
 have hu41:=Try.underlying41
 have HR0_0:=Aside0.mk hr0_0
 have HC0_0:=Aside0.mk hc0_0
 clear hr0_0 hc0_0
 have HR1:=Aside0.mk hr1
 have HC1:=Aside0.mk hc1
 clear hr1 hc1
 have HR2:=Aside0.mk hr2
 have HC2:=Aside0.mk hc2
 clear hr2 hc2
 have HB:=Aside0.mk (Below.refl w.heap.size w)
 have H : (if 0≤(mn (mn (mn (mx a0_1 0) (l0_0.length : Int)) (l1.length : Int)) (l2.length : Int)) then (if (mn (mn (mn (mx a0_1 0) (l0_0.length : Int)) (l1.length : Int)) (l2.length : Int))≤(l0_0.length : Int) then (schema_Compare.l0 k l1 l2 (l0_0.take ((mn (mn (mn (mx a0_1 0) (l0_0.length : Int)) (l1.length : Int)) (l2.length : Int)) : Int).toNat) ((l0_0.take ((mn (mn (mn (mx a0_1 0) (l0_0.length : Int)) (l1.length : Int)) (l2.length : Int)) : Int).toNat).length : Int) 0) else (none)) else (none))=some r:=h
 clear h
 obtain ⟨ji4,hji4⟩ : ∃ j_ : Int,(mx a0_1 0)=j_:=⟨_,rfl⟩
 replace H : (if 0≤(mn (mn (mn (ji4) (l0_0.length : Int)) (l1.length : Int)) (l2.length : Int)) then (if (mn (mn (mn (ji4) (l0_0.length : Int)) (l1.length : Int)) (l2.length : Int))≤(l0_0.length : Int) then (schema_Compare.l0 k l1 l2 (l0_0.take ((mn (mn (mn (ji4) (l0_0.length : Int)) (l1.length : Int)) (l2.length : Int)) : Int).toNat) ((l0_0.take ((mn (mn (mn (ji4) (l0_0.length : Int)) (l1.length : Int)) (l2.length : Int)) : Int).toNat).length : Int) 0) else (none)) else (none))=some r:=by first|(rw [hji4] at H;exact H)|(simp only [hji4] at H ⊢;exact H)
 (try (have hji4l : 0≤ji4:=by (rw [← hji4];unfold mx;(repeat' split) <;> omega)))
 (try (have hji4m : 0≤ji4:=by omega))
 have hji4_ : (if a0_1 < 0 then 0 else a0_1)=ji4:=hji4
 obtain ⟨ji5,hji5⟩ : ∃ j_ : Int,(mn (ji4) (l0_0.length : Int))=j_:=⟨_,rfl⟩
 replace H : (if 0≤(mn (mn (ji5) (l1.length : Int)) (l2.length : Int)) then (if (mn (mn (ji5) (l1.length : Int)) (l2.length : Int))≤(l0_0.length : Int) then (schema_Compare.l0 k l1 l2 (l0_0.take ((mn (mn (ji5) (l1.length : Int)) (l2.length : Int)) : Int).toNat) ((l0_0.take ((mn (mn (ji5) (l1.length : Int)) (l2.length : Int)) : Int).toNat).length : Int) 0) else (none)) else (none))=some r:=by first|(rw [hji5] at H;exact H)|(simp only [hji5] at H ⊢;exact H)
 have hji5_ : (if (l0_0.length : Int) < (ji4) then (l0_0.length : Int) else (ji4))=ji5:=hji5
 obtain ⟨ji6,hji6⟩ : ∃ j_ : Int,(mn (ji5) (l1.length : Int))=j_:=⟨_,rfl⟩
 replace H : (if 0≤(mn (ji6) (l2.length : Int)) then (if (mn (ji6) (l2.length : Int))≤(l0_0.length : Int) then (schema_Compare.l0 k l1 l2 (l0_0.take ((mn (ji6) (l2.length : Int)) : Int).toNat) ((l0_0.take ((mn (ji6) (l2.length : Int)) : Int).toNat).length : Int) 0) else (none)) else (none))=some r:=by first|(rw [hji6] at H;exact H)|(simp only [hji6] at H ⊢;exact H)
 have hji6_ : (if (l1.length : Int) < (ji5) then (l1.length : Int) else (ji5))=ji6:=hji6
 obtain ⟨ji7,hji7⟩ : ∃ j_ : Int,(mn (ji6) (l2.length : Int))=j_:=⟨_,rfl⟩
 replace H : (if 0≤(ji7) then (if (ji7)≤(l0_0.length : Int) then (schema_Compare.l0 k l1 l2 (l0_0.take ((ji7) : Int).toNat) ((l0_0.take ((ji7) : Int).toNat).length : Int) 0) else (none)) else (none))=some r:=by first|(rw [hji7] at H;exact H)|(simp only [hji7] at H ⊢;exact H)
 have hji7_ : (if (l2.length : Int) < (ji6) then (l2.length : Int) else (ji6))=ji7:=hji7
 by_cases c8 : 0≤(ji7)
 ·rw [if_pos c8] at H
  have c8b0:=eq_true c8
  have c8b1 : decide (0≤(ji7))=true:=decide_eq_true c8
  clear c8
  by_cases c9 : (ji7)≤(l0_0.length : Int)
  ·rw [if_pos c9] at H
   have c9b0:=eq_true c9
   have c9b1 : decide ((ji7)≤(l0_0.length : Int))=true:=decide_eq_true c9
   clear c9
   have H':=Aside0.mk H
   clear H
   go_enter Try.func26,Try.ntmps26
   go_wp2_with (first|((with_reducible refine gate_dst (N:=3) rfl ?_);refine box_event ?hg (N:=3) ?hd (cs:=#[.slice A0_0 l0_0.length c0_0,.int .i64 a0_1,.int .i64 a0_2,.int .i64 a0_3]) (t:=31) ?hr ?_;(case hd=>rfl);(case hg=>rfl);(case hr=>first|(go_simp;done)|(go_simp;rfl));intro gb113 hg w10 hbox hb;have n0_:=Aside0.mk (below_step (below_up HB.out) hb);have n1_:=Aside0.mk (hbox);have n2_:=Aside0.mk ((by rw [hg];exact (below_size (below_up HB.out)) : w.heap.size≤gb113));have n3_:=Aside0.mk ((by rw [hg];exact (below_size (below_up HB.out)) : w.heap.size≤gb113));clear HB;have HB:=n0_;have BK113:=n1_;have GW113:=n2_;have GE113:=n3_;clear n0_ n1_ n2_ n3_;clear hb hbox hg;have hcz11_0 : w10.cell? ⟨gb113,0,none⟩=some (.slice A0_0 l0_0.length c0_0):=(blk_cell BK113.out 0).trans rfl;have hcz11_1 : w10.cell? ⟨gb113,1,none⟩=some (.int .i64 a0_1):=(blk_cell BK113.out 1).trans rfl;have hcz11_2 : w10.cell? ⟨gb113,2,none⟩=some (.int .i64 a0_2):=(blk_cell BK113.out 2).trans rfl;have hcz11_3 : w10.cell? ⟨gb113,3,none⟩=some (.int .i64 a0_3):=(blk_cell BK113.out 3).trans rfl;have hfz11_0:=blk_frozen BK113.out 0;have hfz11_1:=blk_frozen BK113.out 1;have hfz11_2:=blk_frozen BK113.out 2;have hfz11_3:=blk_frozen BK113.out 3;obtain ⟨i012,hi012,_,hsz12,_⟩:=info_parts info3;obtain ⟨hcut12,hA12,hC12⟩:=print_take_of (P:=Try.prog) (Value.int .i64) 0 29 3 .i64 Try.underlying29 hi012 hsz12 A0_0 c0_0 l0_0 (ji7) (of_decide_eq_true (by first|(with_reducible assumption)|assumption)) (of_decide_eq_true (by first|(with_reducible assumption)|assumption)) HC0_0.out;have HR114:=Aside0.mk (Kd.C_of_reads (h1:=fun _=>rfl) (hA12 _ (Kd.reads_of_C HR0_0.out)));have HC114:=Aside0.mk hC12;clear hA12 hC12 hi012 hsz12))
   (try (have HM_ji7:=Aside0.mk (show ((l0_0.take ((ji7) : Int).toNat).length : Int)=ji7 from by (have e1_:=of_decide_eq_true ‹decide (0≤(ji7))=true›;have e2_:=of_decide_eq_true ‹decide ((ji7)≤(l0_0.length : Int))=true›;simp only [List.length_take];omega))))
   go_loopg [25] k (fun kq v25 w'=>∃ (x25_1 : Int),v25=.int .i64 x25_1∧Aside0 (schema_Compare.l0 kq l1 l2 (l0_0.take ((ji7) : Int).toNat) ((l0_0.take ((ji7) : Int).toNat).length : Int) x25_1=some r)∧Aside0 (kq≤k)∧Aside0 (w'.heap[gb113]?=some (.cells #[(.slice A0_0 l0_0.length c0_0),.int .i64 a0_1,.int .i64 a0_2,.int .i64 a0_3] 31 (0,0)))∧Aside0 (Below w.heap.size w w'))
   case atStart=>exact ⟨(0),(by first|rfl|(simp;done)|(simp [*];done)),H',⟨Nat.le_refl _⟩,⟨by (with_reducible repeat (first|refine blk_drewN ?_ _|refine blk_drew ?_|refine blk_alloc ?_ _));exact BK113.out⟩,⟨by repeat (first|(with_reducible first|exact HB.out|apply below_alloc|apply pw_below_drewN|apply below_drew1|refine below_set ?_ GE113.out)|exact HB.out)⟩⟩
   case round =>
    clear H'
    try clear c1
    try clear c2
    try clear p2
    try clear c8
    try clear c8b0
    try clear c8b1
    try clear c9
    try clear c9b0
    try clear c9b1
    try clear hcz11_0
    try clear hcz11_1
    try clear hcz11_2
    try clear hcz11_3
    try clear hfz11_0
    try clear hfz11_1
    try clear hfz11_2
    try clear hfz11_3
    obtain ⟨x25_1,rfl,HA,HK1,BK113,HB⟩:=hrel
    cases gk with
    | zero=>exact absurd HA.out (by simp [schema_Compare.l0])
    | succ k1 =>
     have H:=HA.out
     clear HA
     simp only [schema_Compare.l0] at H
     by_cases c13 : x25_1 < ((l0_0.take ((ji7) : Int).toNat).length : Int)
     ·rw [if_pos c13] at H
      have c13b0 : decide (x25_1 < ((l0_0.take ((ji7) : Int).toNat).length : Int))=true:=decide_eq_true c13
      (try (have c13bm : decide (x25_1 < max ji7 0)=true:=by (rw [show (max ji7 0 : Int)=((l0_0.take ((ji7) : Int).toNat).length : Int) from by (have:=HM_ji7.out;omega)];exact c13b0)))
      clear c13
      by_cases c14 : 0≤x25_1
      ·rw [if_pos c14] at H
       have c14b0 : decide (0≤x25_1)=true:=decide_eq_true c14
       clear c14
       by_cases c15 : x25_1 < ((l0_0.take ((ji7) : Int).toNat).length : Int)
       ·rw [if_pos c15] at H
        have c15b0 : decide (x25_1 < ((l0_0.take ((ji7) : Int).toNat).length : Int))=true:=decide_eq_true c15
        (try (have c15bm : decide (x25_1 < max ji7 0)=true:=by (rw [show (max ji7 0 : Int)=((l0_0.take ((ji7) : Int).toNat).length : Int) from by (have:=HM_ji7.out;omega)];exact c15b0)))
        clear c15
        by_cases c16 : x25_1 < (l1.length : Int)
        ·rw [if_pos c16] at H
         have c16b0 : decide (x25_1 < (l1.length : Int))=true:=decide_eq_true c16
         clear c16
         by_cases c17 : x25_1 < (l2.length : Int)
         ·rw [if_pos c17] at H
          have c17b0 : decide (x25_1 < (l2.length : Int))=true:=decide_eq_true c17
          clear c17
          replace H:=Option.bind_eq_some_iff.mp H
          obtain ⟨t118,A180,H⟩:=H
          replace H : (if t118=0 then (schema_Compare.l0 k1 l1 l2 (l0_0.take ((ji7) : Int).toNat) ((l0_0.take ((ji7) : Int).toNat).length : Int) (wrap64 (x25_1 + 1))) else (some t118))=some r:=H
          have A18:=Aside0.mk A180
          clear A180
          by_cases c19 : t118=0
          ·rw [if_pos c19] at H
           have c19b0 : (t118 == 0)=true:=beq_iff_eq.mpr c19
           have c19b1 : (t118 != 0)=false:=bne_eq_false_iff_eq.mpr c19
           clear c19
           have H':=Aside0.mk H
           clear H
           have p115 : 0≤(x25_1 : Int):=of_decide_eq_true (by first|(with_reducible assumption)|assumption)
           have q115 : x25_1 < ((l0_0.take ((ji7) : Int).toNat).length : Int):=of_decide_eq_true (by first|(with_reducible assumption)|assumption)
           obtain ⟨ad115,e115,hx115_0⟩:=Kd.at_int HR114.out x25_1 p115 q115
           cases e115
           replace hx115_0:=(HB.out.cell (World.block_lt_of_cell? w _ hx115_0)).trans hx115_0
           replace p115:=eq_true p115
           replace q115:=eq_true q115
           (try (have q115m : (x25_1 < max ji7 0)=True:=eq_true (by (have e1_:=of_eq_true q115;have e2_:=HM_ji7.out;omega))))
           try go_wp2
           have n0_:=Aside0.mk (blk_drew BK113.out)
           have n1_:=Aside0.mk (below_drew1 HB.out)
           clear BK113
           clear HB
           have BK113:=n0_
           have HB:=n1_
           clear n0_ n1_
           have p116 : 0≤(x25_1 : Int):=of_decide_eq_true (by first|(with_reducible assumption)|assumption)
           have q116 : x25_1 < (l1.length : Int):=of_decide_eq_true (by first|(with_reducible assumption)|assumption)
           obtain ⟨ad116,e116,hx116_0,hx116_1⟩:=at_T41 HR1.out x25_1 p116 q116
           have hw116_1:=hx116_1
           have hw116_0:=hx116_0
           cases e116
           replace hx116_0:=(HB.out.cell (World.block_lt_of_cell? w _ hx116_0)).trans hx116_0
           replace hx116_1:=(HB.out.cell (World.block_lt_of_cell? w _ hx116_1)).trans hx116_1
           replace p116:=eq_true p116
           replace q116:=eq_true q116
           have p117 : 0≤(x25_1 : Int):=of_decide_eq_true (by first|(with_reducible assumption)|assumption)
           have q117 : x25_1 < (l2.length : Int):=of_decide_eq_true (by first|(with_reducible assumption)|assumption)
           obtain ⟨ad117,e117,hx117_0,hx117_1⟩:=at_T41 HR2.out x25_1 p117 q117
           have hw117_1:=hx117_1
           have hw117_0:=hx117_0
           cases e117
           replace hx117_0:=(HB.out.cell (World.block_lt_of_cell? w _ hx117_0)).trans hx117_0
           replace hx117_1:=(HB.out.cell (World.block_lt_of_cell? w _ hx117_1)).trans hx117_1
           replace p117:=eq_true p117
           replace q117:=eq_true q117
           refine start_ (n:=11) (S:=fun w'=>w'.cell? (ad116.add ((x25_1).toNat * 2))=some (.int .i64 ((rd_T41 l1 x25_1).f0))∧w'.cell? ⟨(ad116.add ((x25_1).toNat * 2)).block,(ad116.add ((x25_1).toNat * 2)).off + 1,none⟩=some (.string ((rd_T41 l1 x25_1).f1))∧w'.cell? (ad117.add ((x25_1).toNat * 2))=some (.int .i64 ((rd_T41 l2 x25_1).f0))∧w'.cell? ⟨(ad117.add ((x25_1).toNat * 2)).block,(ad117.add ((x25_1).toNat * 2)).off + 1,none⟩=some (.string ((rd_T41 l2 x25_1).f1))) (ds:=[]) #[false,false,false,false,false,false,false,false,false,false,false] (by kernel_rfl) rfl rfl ⟨((HB.out.cell (World.block_lt_of_cell? w _ hw116_0)).trans hw116_0),((HB.out.cell (World.block_lt_of_cell? w _ hw116_1)).trans hw116_1),((HB.out.cell (World.block_lt_of_cell? w _ hw117_0)).trans hw117_0),((HB.out.cell (World.block_lt_of_cell? w _ hw117_1)).trans hw117_1)⟩ (fun hHeld=>?_);refine with_tabW schema_Compare.tab4 schema_Compare.bits4 (fun HT_ HW_=>?_)
           generalize wr.drew=w20 at BK113 HB hx116_0 hx116_1 hx117_0 hx117_1 hHeld ⊢
           refine pure_ (i:=0) (N:=some 30) (v:=?_) (a':=?_) #[true,false,false,false,false,false,false,false,false,false,false] rfl rfl (any_of HT_.out (by kernel_rfl)) (fun _ _ _ h=>h) (Or.inl ⟨by rfl,?_⟩) ?_ ?_
           rotate_left;(intro w';go_simp;with_reducible rfl);rotate_left;(simp only [Act.put,List.setIfInBounds_toArray,List.set_cons_zero,List.set_cons_succ,i64_w,i32_w];rfl)
           refine pure_ (i:=1) (N:=some 31) (v:=?_) (a':=?_) #[true,true,false,false,false,false,false,false,false,false,false] rfl rfl (any_of HT_.out (by kernel_rfl)) (fun _ _ _ h=>h) (Or.inl ⟨by rfl,?_⟩) ?_ ?_
           rotate_left;(intro w';go_simp;with_reducible rfl);rotate_left;(simp only [Act.put,List.setIfInBounds_toArray,List.set_cons_zero,List.set_cons_succ,i64_w,i32_w];rfl)
           refine pure_ (i:=2) (N:=some 32) (v:=?_) (a':=?_) #[true,true,true,false,false,false,false,false,false,false,false] rfl rfl (any_of HT_.out (by kernel_rfl)) (fun _ _ _ h=>h) (Or.inl ⟨by rfl,?_⟩) ?_ ?_
           rotate_left;(intro w';go_simp;with_reducible rfl);rotate_left;(simp only [Act.put,List.setIfInBounds_toArray,List.set_cons_zero,List.set_cons_succ,i64_w,i32_w];rfl)
           refine pure_ (i:=3) (N:=some 33) (v:=?_) (a':=?_) #[true,true,true,true,false,false,false,false,false,false,false] rfl rfl (any_of HT_.out (by kernel_rfl)) (fun _ _ _ h=>h) (Or.inl ⟨by rfl,?_⟩) ?_ ?_
           rotate_left;(intro w';go_simp;with_reducible rfl);rotate_left;(simp only [Act.put,List.setIfInBounds_toArray,List.set_cons_zero,List.set_cons_succ,i64_w,i32_w];rfl)
           refine pure_ (i:=5) (N:=some 35) (v:=?_) (a':=?_) #[true,true,true,true,false,true,false,false,false,false,false] rfl rfl (any_of HT_.out (by kernel_rfl)) (fun _ _ _ h=>h) (Or.inl ⟨by rfl,?_⟩) ?_ ?_
           rotate_left;(intro w';go_simp;with_reducible rfl);rotate_left;(simp only [Act.put,List.setIfInBounds_toArray,List.set_cons_zero,List.set_cons_succ,i64_w,i32_w];rfl)
           refine pure_ (i:=6) (N:=some 36) (v:=?_) (a':=?_) #[true,true,true,true,false,true,true,false,false,false,false] rfl rfl (any_of HT_.out (by kernel_rfl)) (fun _ _ _ h=>h) (Or.inl ⟨by rfl,?_⟩) ?_ ?_
           rotate_left;(intro w';go_simp;with_reducible rfl);rotate_left;(simp only [Act.put,List.setIfInBounds_toArray,List.set_cons_zero,List.set_cons_succ,i64_w,i32_w];rfl)
           refine pure_ (i:=7) (N:=some 37) (v:=?_) (a':=?_) #[true,true,true,true,false,true,true,true,false,false,false] rfl rfl (any_of HT_.out (by kernel_rfl)) (fun _ _ _ h=>h) (Or.inl ⟨by rfl,?_⟩) ?_ ?_
           rotate_left;(intro w';go_simp;with_reducible rfl);rotate_left;(simp only [Act.put,List.setIfInBounds_toArray,List.set_cons_zero,List.set_cons_succ,i64_w,i32_w];rfl)
           refine take_ (i:=4) (N:=some 34) (v:=?_) (a':=?_) #[true,true,true,true,true,true,true,true,false,false,false] rfl rfl (take_ofW HT_.out HW_.out (by kernel_rfl)) (fun _ _ _ h=>h) (Or.inl ⟨by rfl,?_⟩) hHeld ?_ ?_
           rotate_left;(rintro w' ⟨s0,s1,s2,s3⟩;go_simp;with_reducible rfl);rotate_left;(simp only [Act.put,List.setIfInBounds_toArray,List.set_cons_zero,List.set_cons_succ,i64_w,i32_w];rfl)
           refine take_ (i:=8) (N:=some 38) (v:=?_) (a':=?_) #[true,true,true,true,true,true,true,true,true,false,false] rfl rfl (take_ofW HT_.out HW_.out (by kernel_rfl)) (fun _ _ _ h=>h) (Or.inl ⟨by rfl,?_⟩) hHeld ?_ ?_
           rotate_left;(rintro w' ⟨s0,s1,s2,s3⟩;go_simp;with_reducible rfl);rotate_left;(simp only [Act.put,List.setIfInBounds_toArray,List.set_cons_zero,List.set_cons_succ,i64_w,i32_w];rfl)
           refine one_ (i:=9) (N:=some 39) #[true,true,true,true,true,true,true,true,true,true,false] rfl rfl (one_of HT_.out (by kernel_rfl)) (by decide) (fun K hK=>?_)
           refine goes_ Try.func34 (by kernel_rfl) rfl #[.int .i64 (rd (l0_0.take ((ji7) : Int).toNat) x25_1),.agg #[.int .i64 ((rd_T41 l1 x25_1).f0),.string ((rd_T41 l1 x25_1).f1)],.agg #[.int .i64 ((rd_T41 l2 x25_1).f0),.string ((rd_T41 l2 x25_1).f1)]] (by rfl) rfl rfl (by (try simp only [List.map_toArray,List.map_cons,List.map_nil]);first|done|(simp only [hji7];rfl)|rfl|(simp only [List.length_drop,List.length_take];rfl)) ?_
           with_reducible refine (value_Compare.calls k1 (rd (l0_0.take ((ji7) : Int).toNat) x25_1) ((rd_T41 l1 x25_1).f0) ((rd_T41 l1 x25_1).f1) ((rd_T41 l2 x25_1).f0) ((rd_T41 l2 x25_1).f1) t118 _ A18.out).mono ?_
           rintro e w21 ⟨rfl,hb⟩
           refine ⟨_,rfl,?_⟩
           have n0_:=Aside0.mk (blk_below (blk_up BK113.out) hb)
           have n1_:=Aside0.mk (below_step (below_go HB.out) hb)
           clear BK113
           clear HB
           have BK113:=n0_
           have HB:=n1_
           clear n0_ n1_
           (try clear hb)
           (try clear hb2)
           (try clear hk)
           (try clear hi)
           refine hK.out _ _ ⟨((HB.out.cell (World.block_lt_of_cell? w _ hw116_0)).trans hw116_0),((HB.out.cell (World.block_lt_of_cell? w _ hw116_1)).trans hw116_1),((HB.out.cell (World.block_lt_of_cell? w _ hw117_0)).trans hw117_0),((HB.out.cell (World.block_lt_of_cell? w _ hw117_1)).trans hw117_1)⟩ (fun hHeld=>?_)
           clear hK K
           refine norm_ (a':=?_) ?_ ?_
           rotate_left
           ·show Act.put _ (some 39) _=_
            simp only [Act.put,List.setIfInBounds_toArray,List.set_cons_zero,List.set_cons_succ,i64_w,i32_w]
            rfl
           refine pure_ (i:=10) (N:=some 9) (v:=?_) (a':=?_) #[true,true,true,true,true,true,true,true,true,true,true] rfl rfl (any_of HT_.out (by kernel_rfl)) (fun _ _ _ h=>h) (Or.inl ⟨by rfl,?_⟩) ?_ ?_
           rotate_left;(intro w';go_simp;with_reducible rfl);rotate_left;(simp only [Act.put,List.setIfInBounds_toArray,List.set_cons_zero,List.set_cons_succ,i64_w,i32_w];rfl)
           refine done_ (done_of HT_.out (by kernel_rfl)) ?_
           (try clear hHeld)
           try go_wp2
           go_roundg k1
           case measure=>have:=HK1.out;omega
           case rel=>exact ⟨(wrap64 (x25_1 + 1)),(by first|rfl|(simp;done)|(simp [*];done)),(by first|exact H'|(subst_vars;exact H')),⟨by have:=HK1.out;omega⟩,⟨by (with_reducible repeat (first|refine blk_drewN ?_ _|refine blk_drew ?_|refine blk_alloc ?_ _));exact BK113.out⟩,⟨by repeat (first|(with_reducible first|exact HB.out|apply below_alloc|apply pw_below_drewN|apply below_drew1|refine below_set ?_ GE113.out)|exact HB.out)⟩⟩
          ·rw [if_neg c19] at H
           have c19b0 : (t118 == 0)=false:=beq_eq_false_iff_ne.mpr c19
           have c19b1 : (t118 != 0)=true:=bne_iff_ne.mpr c19
           obtain rfl:=Option.some.inj H
           have p115 : 0≤(x25_1 : Int):=of_decide_eq_true (by first|(with_reducible assumption)|assumption)
           have q115 : x25_1 < ((l0_0.take ((ji7) : Int).toNat).length : Int):=of_decide_eq_true (by first|(with_reducible assumption)|assumption)
           obtain ⟨ad115,e115,hx115_0⟩:=Kd.at_int HR114.out x25_1 p115 q115
           cases e115
           replace hx115_0:=(HB.out.cell (World.block_lt_of_cell? w _ hx115_0)).trans hx115_0
           replace p115:=eq_true p115
           replace q115:=eq_true q115
           (try (have q115m : (x25_1 < max ji7 0)=True:=eq_true (by (have e1_:=of_eq_true q115;have e2_:=HM_ji7.out;omega))))
           try go_wp2
           have n0_:=Aside0.mk (blk_drew BK113.out)
           have n1_:=Aside0.mk (below_drew1 HB.out)
           clear BK113
           clear HB
           have BK113:=n0_
           have HB:=n1_
           clear n0_ n1_
           have p116 : 0≤(x25_1 : Int):=of_decide_eq_true (by first|(with_reducible assumption)|assumption)
           have q116 : x25_1 < (l1.length : Int):=of_decide_eq_true (by first|(with_reducible assumption)|assumption)
           obtain ⟨ad116,e116,hx116_0,hx116_1⟩:=at_T41 HR1.out x25_1 p116 q116
           have hw116_1:=hx116_1
           have hw116_0:=hx116_0
           cases e116
           replace hx116_0:=(HB.out.cell (World.block_lt_of_cell? w _ hx116_0)).trans hx116_0
           replace hx116_1:=(HB.out.cell (World.block_lt_of_cell? w _ hx116_1)).trans hx116_1
           replace p116:=eq_true p116
           replace q116:=eq_true q116
           have p117 : 0≤(x25_1 : Int):=of_decide_eq_true (by first|(with_reducible assumption)|assumption)
           have q117 : x25_1 < (l2.length : Int):=of_decide_eq_true (by first|(with_reducible assumption)|assumption)
           obtain ⟨ad117,e117,hx117_0,hx117_1⟩:=at_T41 HR2.out x25_1 p117 q117
           have hw117_1:=hx117_1
           have hw117_0:=hx117_0
           cases e117
           replace hx117_0:=(HB.out.cell (World.block_lt_of_cell? w _ hx117_0)).trans hx117_0
           replace hx117_1:=(HB.out.cell (World.block_lt_of_cell? w _ hx117_1)).trans hx117_1
           replace p117:=eq_true p117
           replace q117:=eq_true q117
           refine start_ (n:=11) (S:=fun w'=>w'.cell? (ad116.add ((x25_1).toNat * 2))=some (.int .i64 ((rd_T41 l1 x25_1).f0))∧w'.cell? ⟨(ad116.add ((x25_1).toNat * 2)).block,(ad116.add ((x25_1).toNat * 2)).off + 1,none⟩=some (.string ((rd_T41 l1 x25_1).f1))∧w'.cell? (ad117.add ((x25_1).toNat * 2))=some (.int .i64 ((rd_T41 l2 x25_1).f0))∧w'.cell? ⟨(ad117.add ((x25_1).toNat * 2)).block,(ad117.add ((x25_1).toNat * 2)).off + 1,none⟩=some (.string ((rd_T41 l2 x25_1).f1))) (ds:=[]) #[false,false,false,false,false,false,false,false,false,false,false] (by kernel_rfl) rfl rfl ⟨((HB.out.cell (World.block_lt_of_cell? w _ hw116_0)).trans hw116_0),((HB.out.cell (World.block_lt_of_cell? w _ hw116_1)).trans hw116_1),((HB.out.cell (World.block_lt_of_cell? w _ hw117_0)).trans hw117_0),((HB.out.cell (World.block_lt_of_cell? w _ hw117_1)).trans hw117_1)⟩ (fun hHeld=>?_);refine with_tabW schema_Compare.tab4 schema_Compare.bits4 (fun HT_ HW_=>?_)
           generalize wr.drew=w22 at BK113 HB hx116_0 hx116_1 hx117_0 hx117_1 hHeld ⊢
           refine pure_ (i:=0) (N:=some 30) (v:=?_) (a':=?_) #[true,false,false,false,false,false,false,false,false,false,false] rfl rfl (any_of HT_.out (by kernel_rfl)) (fun _ _ _ h=>h) (Or.inl ⟨by rfl,?_⟩) ?_ ?_
           rotate_left;(intro w';go_simp;with_reducible rfl);rotate_left;(simp only [Act.put,List.setIfInBounds_toArray,List.set_cons_zero,List.set_cons_succ,i64_w,i32_w];rfl)
           refine pure_ (i:=1) (N:=some 31) (v:=?_) (a':=?_) #[true,true,false,false,false,false,false,false,false,false,false] rfl rfl (any_of HT_.out (by kernel_rfl)) (fun _ _ _ h=>h) (Or.inl ⟨by rfl,?_⟩) ?_ ?_
           rotate_left;(intro w';go_simp;with_reducible rfl);rotate_left;(simp only [Act.put,List.setIfInBounds_toArray,List.set_cons_zero,List.set_cons_succ,i64_w,i32_w];rfl)
           refine pure_ (i:=2) (N:=some 32) (v:=?_) (a':=?_) #[true,true,true,false,false,false,false,false,false,false,false] rfl rfl (any_of HT_.out (by kernel_rfl)) (fun _ _ _ h=>h) (Or.inl ⟨by rfl,?_⟩) ?_ ?_
           rotate_left;(intro w';go_simp;with_reducible rfl);rotate_left;(simp only [Act.put,List.setIfInBounds_toArray,List.set_cons_zero,List.set_cons_succ,i64_w,i32_w];rfl)
           refine pure_ (i:=3) (N:=some 33) (v:=?_) (a':=?_) #[true,true,true,true,false,false,false,false,false,false,false] rfl rfl (any_of HT_.out (by kernel_rfl)) (fun _ _ _ h=>h) (Or.inl ⟨by rfl,?_⟩) ?_ ?_
           rotate_left;(intro w';go_simp;with_reducible rfl);rotate_left;(simp only [Act.put,List.setIfInBounds_toArray,List.set_cons_zero,List.set_cons_succ,i64_w,i32_w];rfl)
           refine pure_ (i:=5) (N:=some 35) (v:=?_) (a':=?_) #[true,true,true,true,false,true,false,false,false,false,false] rfl rfl (any_of HT_.out (by kernel_rfl)) (fun _ _ _ h=>h) (Or.inl ⟨by rfl,?_⟩) ?_ ?_
           rotate_left;(intro w';go_simp;with_reducible rfl);rotate_left;(simp only [Act.put,List.setIfInBounds_toArray,List.set_cons_zero,List.set_cons_succ,i64_w,i32_w];rfl)
           refine pure_ (i:=6) (N:=some 36) (v:=?_) (a':=?_) #[true,true,true,true,false,true,true,false,false,false,false] rfl rfl (any_of HT_.out (by kernel_rfl)) (fun _ _ _ h=>h) (Or.inl ⟨by rfl,?_⟩) ?_ ?_
           rotate_left;(intro w';go_simp;with_reducible rfl);rotate_left;(simp only [Act.put,List.setIfInBounds_toArray,List.set_cons_zero,List.set_cons_succ,i64_w,i32_w];rfl)
           refine pure_ (i:=7) (N:=some 37) (v:=?_) (a':=?_) #[true,true,true,true,false,true,true,true,false,false,false] rfl rfl (any_of HT_.out (by kernel_rfl)) (fun _ _ _ h=>h) (Or.inl ⟨by rfl,?_⟩) ?_ ?_
           rotate_left;(intro w';go_simp;with_reducible rfl);rotate_left;(simp only [Act.put,List.setIfInBounds_toArray,List.set_cons_zero,List.set_cons_succ,i64_w,i32_w];rfl)
           refine take_ (i:=4) (N:=some 34) (v:=?_) (a':=?_) #[true,true,true,true,true,true,true,true,false,false,false] rfl rfl (take_ofW HT_.out HW_.out (by kernel_rfl)) (fun _ _ _ h=>h) (Or.inl ⟨by rfl,?_⟩) hHeld ?_ ?_
           rotate_left;(rintro w' ⟨s0,s1,s2,s3⟩;go_simp;with_reducible rfl);rotate_left;(simp only [Act.put,List.setIfInBounds_toArray,List.set_cons_zero,List.set_cons_succ,i64_w,i32_w];rfl)
           refine take_ (i:=8) (N:=some 38) (v:=?_) (a':=?_) #[true,true,true,true,true,true,true,true,true,false,false] rfl rfl (take_ofW HT_.out HW_.out (by kernel_rfl)) (fun _ _ _ h=>h) (Or.inl ⟨by rfl,?_⟩) hHeld ?_ ?_
           rotate_left;(rintro w' ⟨s0,s1,s2,s3⟩;go_simp;with_reducible rfl);rotate_left;(simp only [Act.put,List.setIfInBounds_toArray,List.set_cons_zero,List.set_cons_succ,i64_w,i32_w];rfl)
           refine one_ (i:=9) (N:=some 39) #[true,true,true,true,true,true,true,true,true,true,false] rfl rfl (one_of HT_.out (by kernel_rfl)) (by decide) (fun K hK=>?_)
           refine goes_ Try.func34 (by kernel_rfl) rfl #[.int .i64 (rd (l0_0.take ((ji7) : Int).toNat) x25_1),.agg #[.int .i64 ((rd_T41 l1 x25_1).f0),.string ((rd_T41 l1 x25_1).f1)],.agg #[.int .i64 ((rd_T41 l2 x25_1).f0),.string ((rd_T41 l2 x25_1).f1)]] (by rfl) rfl rfl (by (try simp only [List.map_toArray,List.map_cons,List.map_nil]);first|done|(simp only [hji7];rfl)|rfl|(simp only [List.length_drop,List.length_take];rfl)) ?_
           with_reducible refine (value_Compare.calls k1 (rd (l0_0.take ((ji7) : Int).toNat) x25_1) ((rd_T41 l1 x25_1).f0) ((rd_T41 l1 x25_1).f1) ((rd_T41 l2 x25_1).f0) ((rd_T41 l2 x25_1).f1) t118 _ A18.out).mono ?_
           rintro e w23 ⟨rfl,hb⟩
           refine ⟨_,rfl,?_⟩
           have n0_:=Aside0.mk (blk_below (blk_up BK113.out) hb)
           have n1_:=Aside0.mk (below_step (below_go HB.out) hb)
           clear BK113
           clear HB
           have BK113:=n0_
           have HB:=n1_
           clear n0_ n1_
           (try clear hb)
           (try clear hb2)
           (try clear hk)
           (try clear hi)
           refine hK.out _ _ ⟨((HB.out.cell (World.block_lt_of_cell? w _ hw116_0)).trans hw116_0),((HB.out.cell (World.block_lt_of_cell? w _ hw116_1)).trans hw116_1),((HB.out.cell (World.block_lt_of_cell? w _ hw117_0)).trans hw117_0),((HB.out.cell (World.block_lt_of_cell? w _ hw117_1)).trans hw117_1)⟩ (fun hHeld=>?_)
           clear hK K
           refine norm_ (a':=?_) ?_ ?_
           rotate_left
           ·show Act.put _ (some 39) _=_
            simp only [Act.put,List.setIfInBounds_toArray,List.set_cons_zero,List.set_cons_succ,i64_w,i32_w]
            rfl
           refine pure_ (i:=10) (N:=some 9) (v:=?_) (a':=?_) #[true,true,true,true,true,true,true,true,true,true,true] rfl rfl (any_of HT_.out (by kernel_rfl)) (fun _ _ _ h=>h) (Or.inl ⟨by rfl,?_⟩) ?_ ?_
           rotate_left;(intro w';go_simp;with_reducible rfl);rotate_left;(simp only [Act.put,List.setIfInBounds_toArray,List.set_cons_zero,List.set_cons_succ,i64_w,i32_w];rfl)
           refine done_ (done_of HT_.out (by kernel_rfl)) ?_
           (try clear hHeld)
           try go_wp2
           go_ret
           exact ⟨by first|rfl|(simp [errW_none,errW_some] <;> rfl)|(simp only [← hji4,← hji5,← hji6,← hji7];first|rfl|(simp [errW_none,errW_some] <;> rfl))|(simp [*,errW_none,errW_some] <;> rfl),by repeat (first|(with_reducible first|exact HB.out|apply below_alloc|apply pw_below_drewN|apply below_drew1|refine below_set ?_ GE113.out)|exact HB.out)⟩
         ·rw [if_neg c17] at H
          exact absurd H (by simp)
        ·rw [if_neg c16] at H
         exact absurd H (by simp)
       ·rw [if_neg c15] at H
        exact absurd H (by simp)
      ·rw [if_neg c14] at H
       exact absurd H (by simp)
     ·rw [if_neg c13] at H
      have c13b0 : decide (x25_1 < ((l0_0.take ((ji7) : Int).toNat).length : Int))=false:=decide_eq_false c13
      (try (have c13bm : decide (x25_1 < max ji7 0)=false:=by (rw [show (max ji7 0 : Int)=((l0_0.take ((ji7) : Int).toNat).length : Int) from by (have:=HM_ji7.out;omega)];exact c13b0)))
      clear c13
      obtain rfl:=Option.some.inj H
      go_wp2
      go_ret
      exact ⟨by first|rfl|(simp [errW_none,errW_some] <;> rfl)|(simp only [← hji4,← hji5,← hji6,← hji7];first|rfl|(simp [errW_none,errW_some] <;> rfl))|(simp [*,errW_none,errW_some] <;> rfl),by repeat (first|(with_reducible first|exact HB.out|apply below_alloc|apply pw_below_drewN|apply below_drew1|refine below_set ?_ GE113.out)|exact HB.out)⟩
  ·rw [if_neg c9] at H
   exact absurd H (by simp)
 ·rw [if_neg c8] at H
  exact absurd H (by simp)
end Go.Proofs.Ytojbeofipedolaa.P

