/- Texts of FilterMay. Merged: Px3. -/
import Derived.Test.YtbkpifcjgedjaaaQFilterMayPx0
import Derived.Test.YtbkpifcjgedjaaaQFilterMayPx2
import Derived.Test.YtbkpifcjgedjaaaQFilterMayHCmp
namespace Go.Proofs.Ytbkpifcjgedjaaa.P
open Go.RowKit Go.Proofs.YtbkpifcjgedjaaaW.PrintWords Go.Proofs.YtbkpifcjgedjaaaW.PrintLast Go.Proofs.YtbkpifcjgedjaaaW.PrintMore
attribute [local go_sem] max2_int min2_int max_two min_two max_three min_three max_four min_four   -- for this text's walks alone
set_option linter.unusedVariables false
set_option linter.unusedSimpArgs false
def value_Compare.j0 : Nat→Int→Bool→Int→ByteArray→Int→ByteArray→Option (Int)
 | 0,_,_,_,_,_,_=>none
 | k + 1,x0,x7,x107000,x107001,x108000,x108001=>if x7=true then (some 0) else (if x0=3 then ((strings_Compare.f x107001 x108001).bind fun t110=>(some t110)) else (if x0=2 then ((cmp_Compare_uint64.f (IntKind.u64.wrap (x107000)) (IntKind.u64.wrap (x108000))).bind fun t111=>(some t111)) else ((cmp_Compare_int64.f x107000 x108000).bind fun t112=>(some t112))))
def value_Compare.f (k : Nat) (a0 : Int) (a1_0 : Int) (a1_1 : ByteArray) (a2_0 : Int) (a2_1 : ByteArray) : Option (Int):=(value_Fits.f k a0 a1_0 a1_1).bind fun t108=>(if t108=true then ((value_Fits.f k a0 a2_0 a2_1).bind fun t109=>(value_Compare.j0 k a0 (!t109) a1_0 a1_1 a2_0 a2_1)) else (value_Compare.j0 k a0 true a1_0 a1_1 a2_0 a2_1))
theorem value_Compare.mono_l : ∀ k,(∀ y0 y1 y2 y3 y4 y5,LeO (value_Compare.j0 k y0 y1 y2 y3 y4 y5) (value_Compare.j0 (k + 1) y0 y1 y2 y3 y4 y5))
 | 0=>fun _ _ _ _ _ _ r h=>by simp [value_Compare.j0] at h
 | k + 1=>by
  have ih0:=value_Compare.mono_l k
  ·intro y0 y1 y2 y3 y4 y5
   unfold value_Compare.j0
   repeat' first
   | (with_reducible exact ih0 _ _ _ _ _ _)
   | (with_reducible exact value_Fits.mono _ _ _ _)
   | (with_reducible exact LeO.refl _)
   | (with_reducible exact LeO.none _)
   | (with_reducible refine LeO.ite ?_ ?_)
   | (with_reducible refine LeO.bind ?_ (fun _=>?_))
   | exact ih0 _ _ _ _ _ _
   | exact value_Fits.mono _ _ _ _
   | exact LeO.none _
   | refine LeO.ite ?_ ?_
   | refine LeO.bind ?_ (fun _=>?_)
theorem value_Compare.mono : ∀ a0 a1 a2 a3 a4 k,LeO (value_Compare.f k a0 a1 a2 a3 a4) (value_Compare.f (k + 1) a0 a1 a2 a3 a4):=by
 intro a0 a1 a2 a3 a4 k
 have ih0:=value_Compare.mono_l k
 unfold value_Compare.f
 repeat' first
   | (with_reducible exact ih0 _ _ _ _ _ _)
   | (with_reducible exact value_Fits.mono _ _ _ _)
   | (with_reducible exact LeO.refl _)
   | (with_reducible exact LeO.none _)
   | (with_reducible refine LeO.ite ?_ ?_)
   | (with_reducible refine LeO.bind ?_ (fun _=>?_))
   | exact ih0 _ _ _ _ _ _
   | exact value_Fits.mono _ _ _ _
   | exact LeO.none _
   | refine LeO.ite ?_ ?_
   | refine LeO.bind ?_ (fun _=>?_)
set_option maxHeartbeats 8000000 in
set_option maxRecDepth 100000 in
theorem value_Compare.calls (k : Nat) (a0 : Int) (a1_0 : Int) (a1_1 : ByteArray) (a2_0 : Int) (a2_1 : ByteArray) (r : Int) (w : World) (h : value_Compare.f k a0 a1_0 a1_1 a2_0 a2_1=some r) :
  Calls Try.prog 29 #[.int .i64 a0,.agg #[.int .i64 a1_0,.string a1_1],.agg #[.int .i64 a2_0,.string a2_1]] w fun e w'=>e=.returned (.int .i64 r)∧Below w.heap.size w w':=by
 have hu37:=Try.underlying37
 have HB:=Aside0.mk (Below.refl w.heap.size w)
 have H : ((value_Fits.f k a0 a1_0 a1_1).bind fun t108=>(if t108=true then ((value_Fits.f k a0 a2_0 a2_1).bind fun t109=>(value_Compare.j0 k a0 (!t109) a1_0 a1_1 a2_0 a2_1)) else (value_Compare.j0 k a0 true a1_0 a1_1 a2_0 a2_1)))=some r:=h
 clear h
 have HC4:=Aside0.mk H
 clear H
 go_enter Try.func29,Try.ntmps29
 go_upto_region 1 with (first|((with_reducible refine gate_dst (N:=4) rfl ?_);refine box_event ?hg (N:=4) ?hd (cs:=#[.int .i64 a1_0,.string a1_1]) (t:=37) ?hr ?_;(case hd=>rfl);(case hg=>rfl);(case hr=>first|(go_simp;done)|(go_simp;rfl));intro gb106 hg w5 hbox hb;have n0_:=Aside0.mk (below_step (below_up HB.out) hb);have n1_:=Aside0.mk (hbox);have n2_:=Aside0.mk ((by rw [hg];exact (below_size (below_up HB.out)) : w.heap.size≤gb106));have n3_:=Aside0.mk ((by rw [hg];exact (below_size (below_up HB.out)) : w.heap.size≤gb106));clear HB;have HB:=n0_;have BK106:=n1_;have GW106:=n2_;have GE106:=n3_;clear n0_ n1_ n2_ n3_;clear hb hbox hg)|((with_reducible refine gate_dst (N:=5) rfl ?_);refine box_event ?hg (N:=5) ?hd (cs:=#[.int .i64 a2_0,.string a2_1]) (t:=37) ?hr ?_;(case hd=>rfl);(case hg=>rfl);(case hr=>first|(go_simp;done)|(go_simp;rfl));intro gb107 hg w6 hbox hb;have n0_:=Aside0.mk (blk_below (blk_up BK106.out) hb);have n1_:=Aside0.mk (below_step (below_go HB.out) hb);have n2_:=Aside0.mk (hbox);have n3_:=Aside0.mk ((by rw [hg];exact (below_size (below_go HB.out)) : w.heap.size≤gb107));have n4_:=Aside0.mk ((by rw [hg];exact (below_size (below_go HB.out)) : w.heap.size≤gb107));have n5_:=Aside0.mk ((by rw [hg];exact Nat.ne_of_lt (blk_lt (blk_up BK106.out)) : gb106≠gb107));have n6_:=Aside0.mk ((by rw [hg];exact Nat.ne_of_gt (blk_lt (blk_up BK106.out)) : gb107≠gb106));clear BK106;clear HB;have BK106:=n0_;have HB:=n1_;have BK107:=n2_;have GW107:=n3_;have GE107:=n4_;have NB106_107:=n5_;have NB107_106:=n6_;clear n0_ n1_ n2_ n3_ n4_ n5_ n6_;clear hb hbox hg))
 (try simp only [Act.put,List.setIfInBounds_toArray,List.set_cons_zero,List.set_cons_succ])
 go_cut [7] (fun v7 wc=>∃ (kq : Nat) (x7_3 : Bool),v7=.bool x7_3∧Aside0 (value_Compare.j0 kq a0 x7_3 a1_0 a1_1 a2_0 a2_1=some r)∧Aside0 (kq≤k)∧Aside0 (wc.heap[gb106]?=some (.cells #[.int .i64 a1_0,.string a1_1] 37 (0,0)))∧Aside0 (wc.heap[gb107]?=some (.cells #[.int .i64 a2_0,.string a2_1] 37 (0,0)))∧Aside0 (Below w.heap.size w wc))
 case first =>
  have H:=HC4.out
  clear HC4
  replace H:=Option.bind_eq_some_iff.mp H
  obtain ⟨t108,A70,H⟩:=H
  replace H : (if t108=true then ((value_Fits.f k a0 a2_0 a2_1).bind fun t109=>(value_Compare.j0 k a0 (!t109) a1_0 a1_1 a2_0 a2_1)) else (value_Compare.j0 k a0 true a1_0 a1_1 a2_0 a2_1))=some r:=H
  have A7:=Aside0.mk A70
  clear A70
  by_cases c8 : t108=true
  ·subst c8
   have H1 : ((value_Fits.f k a0 a2_0 a2_1).bind fun t109=>(value_Compare.j0 k a0 (!t109) a1_0 a1_1 a2_0 a2_1))=some r:=by rw [if_pos rfl] at H;exact H
   clear H
   have H:=H1
   clear H1
   replace H:=Option.bind_eq_some_iff.mp H
   obtain ⟨t109,A90,H⟩:=H
   replace H : (value_Compare.j0 k a0 (!t109) a1_0 a1_1 a2_0 a2_1)=some r:=H
   have A9:=Aside0.mk A90
   clear A90
   have H':=Aside0.mk H
   clear H
   have hnb10:=NB106_107.out
   have hnc10:=NB107_106.out
   have hcz11_0 : w6.cell? ⟨gb106,0,none⟩=some (.int .i64 a1_0):=(blk_cell BK106.out 0).trans rfl
   have hcz11_1 : w6.cell? ⟨gb106,1,none⟩=some (.string a1_1):=(blk_cell BK106.out 1).trans rfl
   have hfz11_0:=blk_frozen BK106.out 0
   have hfz11_1:=blk_frozen BK106.out 1
   go_wp2_with (first|((with_reducible refine gate_callee (f:=27) rfl ?_);refine goesL_ (some 10) rfl rfl Try.func27 (by kernel_rfl) rfl #[.int .i64 a0,.agg #[.int .i64 a1_0,.string a1_1]] rfl (by (try simp only [List.map_toArray,List.map_cons,List.map_nil]);first|done|rfl|(simp only [List.length_drop,List.length_take];rfl)) ?_;(with_reducible refine (value_Fits.calls k a0 a1_0 a1_1 true _ A7.out).mono ?_);rintro e w12 ⟨rfl,hb⟩;refine ⟨_,rfl,?_⟩;have n0_:=Aside0.mk (blk_below (blk_up BK106.out) hb);have n1_:=Aside0.mk (blk_below (blk_up BK107.out) hb);have n2_:=Aside0.mk (below_step (below_go HB.out) hb);clear BK106;clear BK107;clear HB;have BK106:=n0_;have BK107:=n1_;have HB:=n2_;clear n0_ n1_ n2_;(try clear hb);(try clear hb2);(try clear hk);(try clear hi);have hcz13_0 : w12.cell? ⟨gb107,0,none⟩=some (.int .i64 a2_0):=(blk_cell BK107.out 0).trans rfl;have hcz13_1 : w12.cell? ⟨gb107,1,none⟩=some (.string a2_1):=(blk_cell BK107.out 1).trans rfl;have hfz13_0:=blk_frozen BK107.out 0;have hfz13_1:=blk_frozen BK107.out 1)|(go_at_call 27;(with_reducible refine (value_Fits.calls k a0 a2_0 a2_1 t109 _ A9.out).mono ?_);rintro e w14 ⟨rfl,hb⟩;have n0_:=Aside0.mk (blk_below (blk_up BK106.out) hb);have n1_:=Aside0.mk (blk_below (blk_up BK107.out) hb);have n2_:=Aside0.mk (below_step (below_go HB.out) hb);clear BK106;clear BK107;clear HB;have BK106:=n0_;have BK107:=n1_;have HB:=n2_;clear n0_ n1_ n2_;(try clear hb);(try clear hb2);(try clear hk);(try clear hi)))
   go_meet
   case rel=>exact ⟨_,(!t109),(by first|rfl|(simp;done)|(simp [*];done)),(by first|exact H'|(subst_vars;exact H')),⟨by first|omega|exact Nat.le_refl _⟩,⟨by (with_reducible repeat (first|refine blk_drewN ?_ _|refine blk_drew ?_|refine blk_alloc ?_ _));exact BK106.out⟩,⟨by (with_reducible repeat (first|refine blk_drewN ?_ _|refine blk_drew ?_|refine blk_alloc ?_ _));exact BK107.out⟩,⟨by repeat (first|(with_reducible first|exact HB.out|apply below_alloc|apply pw_below_drewN|apply below_drew1|refine below_set ?_ GE106.out|refine below_set ?_ GE107.out)|exact HB.out)⟩⟩
  ·replace c8:=Bool.eq_false_iff.mpr c8
   subst c8
   have H1 : (value_Compare.j0 k a0 true a1_0 a1_1 a2_0 a2_1)=some r:=by rw [if_neg (show ¬ (false=true) by decide)] at H;exact H
   clear H
   have H:=H1
   clear H1
   have H':=Aside0.mk H
   clear H
   have hnb15:=NB106_107.out
   have hnc15:=NB107_106.out
   have hcz16_0 : w6.cell? ⟨gb106,0,none⟩=some (.int .i64 a1_0):=(blk_cell BK106.out 0).trans rfl
   have hcz16_1 : w6.cell? ⟨gb106,1,none⟩=some (.string a1_1):=(blk_cell BK106.out 1).trans rfl
   have hfz16_0:=blk_frozen BK106.out 0
   have hfz16_1:=blk_frozen BK106.out 1
   go_wp2_with (first|((with_reducible refine gate_callee (f:=27) rfl ?_);refine goesL_ (some 10) rfl rfl Try.func27 (by kernel_rfl) rfl #[.int .i64 a0,.agg #[.int .i64 a1_0,.string a1_1]] rfl (by (try simp only [List.map_toArray,List.map_cons,List.map_nil]);first|done|rfl|(simp only [List.length_drop,List.length_take];rfl)) ?_;(with_reducible refine (value_Fits.calls k a0 a1_0 a1_1 false _ A7.out).mono ?_);rintro e w17 ⟨rfl,hb⟩;refine ⟨_,rfl,?_⟩;have n0_:=Aside0.mk (blk_below (blk_up BK106.out) hb);have n1_:=Aside0.mk (blk_below (blk_up BK107.out) hb);have n2_:=Aside0.mk (below_step (below_go HB.out) hb);clear BK106;clear BK107;clear HB;have BK106:=n0_;have BK107:=n1_;have HB:=n2_;clear n0_ n1_ n2_;(try clear hb);(try clear hb2);(try clear hk);(try clear hi)))
   go_meet
   case rel=>exact ⟨_,(true),(by first|rfl|(simp;done)|(simp [*];done)),(by first|exact H'|(subst_vars;exact H')),⟨by first|omega|exact Nat.le_refl _⟩,⟨by (with_reducible repeat (first|refine blk_drewN ?_ _|refine blk_drew ?_|refine blk_alloc ?_ _));exact BK106.out⟩,⟨by (with_reducible repeat (first|refine blk_drewN ?_ _|refine blk_drew ?_|refine blk_alloc ?_ _));exact BK107.out⟩,⟨by repeat (first|(with_reducible first|exact HB.out|apply below_alloc|apply pw_below_drewN|apply below_drew1|refine below_set ?_ GE106.out|refine below_set ?_ GE107.out)|exact HB.out)⟩⟩
 case rest =>
  clear HC4
  try clear c1
  try clear c2
  try clear p2
  try clear c8
  try clear c10
  try clear c15
  try clear hcz11_0
  try clear hcz11_1
  try clear hcz13_0
  try clear hcz13_1
  try clear hcz16_0
  try clear hcz16_1
  try clear hfz11_0
  try clear hfz11_1
  try clear hfz13_0
  try clear hfz13_1
  try clear hfz16_0
  try clear hfz16_1
  obtain ⟨kq,x7_3,rfl,HA,HJ3,BK106,BK107,HB⟩:=hcut
  cases kq with
  | zero=>exact absurd HA.out (by simp [value_Compare.j0])
  | succ kj3 =>
   have H:=HA.out
   clear HA
   simp only [value_Compare.j0] at H
   by_cases c18 : x7_3=true
   ·subst c18
    have H1 : (some 0)=some r:=by rw [if_pos rfl] at H;exact H
    clear H
    have H:=H1
    clear H1
    obtain rfl:=Option.some.inj H
    go_wp2
    go_ret
    exact ⟨by first|rfl|(simp [errW_none,errW_some] <;> rfl)|(simp [*,errW_none,errW_some] <;> rfl),by repeat (first|(with_reducible first|exact HB.out|apply below_alloc|apply pw_below_drewN|apply below_drew1|refine below_set ?_ GE106.out|refine below_set ?_ GE107.out)|exact HB.out)⟩
   ·replace c18:=Bool.eq_false_iff.mpr c18
    subst c18
    have H1 : (if a0=3 then ((strings_Compare.f a1_1 a2_1).bind fun t110=>(some t110)) else (if a0=2 then ((cmp_Compare_uint64.f (IntKind.u64.wrap (a1_0)) (IntKind.u64.wrap (a2_0))).bind fun t111=>(some t111)) else ((cmp_Compare_int64.f a1_0 a2_0).bind fun t112=>(some t112))))=some r:=by rw [if_neg (show ¬ (false=true) by decide)] at H;exact H
    clear H
    have H:=H1
    clear H1
    by_cases c19 : a0=3
    ·rw [if_pos c19] at H
     have c19b0 : (a0 == 3)=true:=beq_iff_eq.mpr c19
     have c19b1 : (a0 != 3)=false:=bne_eq_false_iff_eq.mpr c19
     clear c19
     replace H:=Option.bind_eq_some_iff.mp H
     obtain ⟨t110,A200,H⟩:=H
     replace H : (some t110)=some r:=H
     have A20:=Aside0.mk A200
     clear A200
     obtain rfl:=Option.some.inj H
     have hnb21:=NB106_107.out
     have hnc21:=NB107_106.out
     have hcz22_0 : wc.cell? ⟨gb106,0,none⟩=some (.int .i64 a1_0):=(blk_cell BK106.out 0).trans rfl
     have hcz22_1 : wc.cell? ⟨gb106,1,none⟩=some (.string a1_1):=(blk_cell BK106.out 1).trans rfl
     have hfz22_0:=blk_frozen BK106.out 0
     have hfz22_1:=blk_frozen BK106.out 1
     have hcz23_0 : wc.cell? ⟨gb107,0,none⟩=some (.int .i64 a2_0):=(blk_cell BK107.out 0).trans rfl
     have hcz23_1 : wc.cell? ⟨gb107,1,none⟩=some (.string a2_1):=(blk_cell BK107.out 1).trans rfl
     have hfz23_0:=blk_frozen BK107.out 0
     have hfz23_1:=blk_frozen BK107.out 1
     go_wp2_with (first|((with_reducible refine gate_callee (f:=32) rfl ?_);refine goesL_ (some 25) rfl rfl Try.func32 (by kernel_rfl) rfl #[.string a1_1,.string a2_1] rfl (by (try simp only [List.map_toArray,List.map_cons,List.map_nil]);first|done|rfl|(simp only [List.length_drop,List.length_take];rfl)) ?_;(with_reducible refine (strings_Compare.calls a1_1 a2_1 t110 _ A20.out).mono ?_);rintro e w' ⟨rfl,⟨nd,rfl⟩⟩;refine ⟨_,rfl,?_⟩))
     go_ret
     exact ⟨by first|rfl|(simp [errW_none,errW_some] <;> rfl)|(simp [*,errW_none,errW_some] <;> rfl),by repeat (first|(with_reducible first|exact HB.out|apply below_alloc|apply pw_below_drewN|apply below_drew1|refine below_set ?_ GE106.out|refine below_set ?_ GE107.out)|exact HB.out)⟩
    ·rw [if_neg c19] at H
     have c19b0 : (a0 == 3)=false:=beq_eq_false_iff_ne.mpr c19
     have c19b1 : (a0 != 3)=true:=bne_iff_ne.mpr c19
     by_cases c24 : a0=2
     ·rw [if_pos c24] at H
      have c24b0 : (a0 == 2)=true:=beq_iff_eq.mpr c24
      have c24b1 : (a0 != 2)=false:=bne_eq_false_iff_eq.mpr c24
      clear c24
      replace H:=Option.bind_eq_some_iff.mp H
      obtain ⟨t111,A250,H⟩:=H
      replace H : (some t111)=some r:=H
      have A25:=Aside0.mk A250
      clear A250
      obtain rfl:=Option.some.inj H
      have hnb26:=NB106_107.out
      have hnc26:=NB107_106.out
      have hcz27_0 : wc.cell? ⟨gb106,0,none⟩=some (.int .i64 a1_0):=(blk_cell BK106.out 0).trans rfl
      have hcz27_1 : wc.cell? ⟨gb106,1,none⟩=some (.string a1_1):=(blk_cell BK106.out 1).trans rfl
      have hfz27_0:=blk_frozen BK106.out 0
      have hfz27_1:=blk_frozen BK106.out 1
      have hcz28_0 : wc.cell? ⟨gb107,0,none⟩=some (.int .i64 a2_0):=(blk_cell BK107.out 0).trans rfl
      have hcz28_1 : wc.cell? ⟨gb107,1,none⟩=some (.string a2_1):=(blk_cell BK107.out 1).trans rfl
      have hfz28_0:=blk_frozen BK107.out 0
      have hfz28_1:=blk_frozen BK107.out 1
      go_wp2_with (first|((with_reducible refine gate_callee (f:=33) rfl ?_);refine goesL_ (some 35) rfl rfl Try.func33 (by kernel_rfl) rfl #[.int .u64 (IntKind.u64.wrap (a1_0)),.int .u64 (IntKind.u64.wrap (a2_0))] rfl (by (try simp only [List.map_toArray,List.map_cons,List.map_nil]);first|done|rfl|(simp only [List.length_drop,List.length_take];rfl)) ?_;(with_reducible refine (cmp_Compare_uint64.calls (IntKind.u64.wrap (a1_0)) (IntKind.u64.wrap (a2_0)) t111 _ A25.out).mono ?_);rintro e w' ⟨rfl,⟨nd,rfl⟩⟩;refine ⟨_,rfl,?_⟩))
      go_ret
      exact ⟨by first|rfl|(simp [errW_none,errW_some] <;> rfl)|(simp [*,errW_none,errW_some] <;> rfl),by repeat (first|(with_reducible first|exact HB.out|apply below_alloc|apply pw_below_drewN|apply below_drew1|refine below_set ?_ GE106.out|refine below_set ?_ GE107.out)|exact HB.out)⟩
     ·rw [if_neg c24] at H
      have c24b0 : (a0 == 2)=false:=beq_eq_false_iff_ne.mpr c24
      have c24b1 : (a0 != 2)=true:=bne_iff_ne.mpr c24
      replace H:=Option.bind_eq_some_iff.mp H
      obtain ⟨t112,A290,H⟩:=H
      replace H : (some t112)=some r:=H
      have A29:=Aside0.mk A290
      clear A290
      obtain rfl:=Option.some.inj H
      have hnb30:=NB106_107.out
      have hnc30:=NB107_106.out
      have hcz31_0 : wc.cell? ⟨gb106,0,none⟩=some (.int .i64 a1_0):=(blk_cell BK106.out 0).trans rfl
      have hcz31_1 : wc.cell? ⟨gb106,1,none⟩=some (.string a1_1):=(blk_cell BK106.out 1).trans rfl
      have hfz31_0:=blk_frozen BK106.out 0
      have hfz31_1:=blk_frozen BK106.out 1
      have hcz32_0 : wc.cell? ⟨gb107,0,none⟩=some (.int .i64 a2_0):=(blk_cell BK107.out 0).trans rfl
      have hcz32_1 : wc.cell? ⟨gb107,1,none⟩=some (.string a2_1):=(blk_cell BK107.out 1).trans rfl
      have hfz32_0:=blk_frozen BK107.out 0
      have hfz32_1:=blk_frozen BK107.out 1
      go_wp2_with (first|((with_reducible refine gate_callee (f:=34) rfl ?_);refine goesL_ (some 40) rfl rfl Try.func34 (by kernel_rfl) rfl #[.int .i64 a1_0,.int .i64 a2_0] rfl (by (try simp only [List.map_toArray,List.map_cons,List.map_nil]);first|done|rfl|(simp only [List.length_drop,List.length_take];rfl)) ?_;(with_reducible refine (cmp_Compare_int64.calls a1_0 a2_0 t112 _ A29.out).mono ?_);rintro e w' ⟨rfl,⟨nd,rfl⟩⟩;refine ⟨_,rfl,?_⟩))
      go_ret
      exact ⟨by first|rfl|(simp [errW_none,errW_some] <;> rfl)|(simp [*,errW_none,errW_some] <;> rfl),by repeat (first|(with_reducible first|exact HB.out|apply below_alloc|apply pw_below_drewN|apply below_drew1|refine below_set ?_ GE106.out|refine below_set ?_ GE107.out)|exact HB.out)⟩
def stringslite_HasPrefix.f (a0 : ByteArray) (a1 : ByteArray) : Option (Bool):=if (a0.size : Int) ≥ (a1.size : Int) then (if 0≤(a1.size : Int) then (if (a1.size : Int)≤(a0.size : Int) then (some ((a0.extract 0 ((a1.size : Int) : Int).toNat).toList == a1.toList)) else (none)) else (none)) else (some false)
set_option maxHeartbeats 8000000 in
set_option maxRecDepth 100000 in
theorem stringslite_HasPrefix.calls (a0 : ByteArray) (a1 : ByteArray) (r : Bool) (w : World) (h : stringslite_HasPrefix.f a0 a1=some r) :
  Calls Try.prog 35 #[.string a0,.string a1] w fun e w'=>e=.returned (.bool r)∧Drawn0 w w':=by
 have H : (if (a0.size : Int) ≥ (a1.size : Int) then (if 0≤(a1.size : Int) then (if (a1.size : Int)≤(a0.size : Int) then (some ((a0.extract 0 ((a1.size : Int) : Int).toNat).toList == a1.toList)) else (none)) else (none)) else (some false))=some r:=h
 clear h
 by_cases c3 : (a0.size : Int) ≥ (a1.size : Int)
 ·rw [if_pos c3] at H
  have c3b0 : decide ((a1.size : Int)≤(a0.size : Int))=true:=decide_eq_true c3
  have c3b1 : decide (a1.size≤a0.size)=true:=decide_eq_true (Int.ofNat_le.mp c3)
  clear c3
  by_cases c4 : 0≤(a1.size : Int)
  ·rw [if_pos c4] at H
   have c4b0:=eq_true c4
   have c4b1 : decide (0≤(a1.size : Int))=true:=decide_eq_true c4
   clear c4
   by_cases c5 : (a1.size : Int)≤(a0.size : Int)
   ·rw [if_pos c5] at H
    have c5b0:=eq_true c5
    have c5b1 : decide ((a1.size : Int)≤(a0.size : Int))=true:=decide_eq_true c5
    clear c5
    obtain rfl:=Option.some.inj H
    go_enter Try.func35,Try.ntmps35
    go_wp2
    go_ret
    exact ⟨by first|rfl|(simp;done)|(simp [*];done),by repeat (first|exact Drawn0.refl _|apply Drawn0.step)⟩
   ·rw [if_neg c5] at H
    exact absurd H (by simp)
  ·rw [if_neg c4] at H
   exact absurd H (by simp)
 ·rw [if_neg c3] at H
  have c3b0 : decide ((a1.size : Int)≤(a0.size : Int))=false:=decide_eq_false c3
  have c3b1 : decide (a1.size≤a0.size)=false:=decide_eq_false (fun h=>c3 (Int.ofNat_le.mpr h))
  clear c3
  obtain rfl:=Option.some.inj H
  go_enter Try.func35,Try.ntmps35
  go_wp2
  go_ret
  exact ⟨by first|rfl|(simp;done)|(simp [*];done),by repeat (first|exact Drawn0.refl _|apply Drawn0.step)⟩
def strings_HasPrefix.f (a0 : ByteArray) (a1 : ByteArray) : Option (Bool):=(stringslite_HasPrefix.f a0 a1).bind fun t113=>(some t113)
set_option maxHeartbeats 8000000 in
set_option maxRecDepth 100000 in
theorem strings_HasPrefix.calls (a0 : ByteArray) (a1 : ByteArray) (r : Bool) (w : World) (h : strings_HasPrefix.f a0 a1=some r) :
  Calls Try.prog 30 #[.string a0,.string a1] w fun e w'=>e=.returned (.bool r)∧Drawn0 w w':=by
 have H : ((stringslite_HasPrefix.f a0 a1).bind fun t113=>(some t113))=some r:=h
 clear h
 replace H:=Option.bind_eq_some_iff.mp H
 obtain ⟨t113,A30,H⟩:=H
 replace H : (some t113)=some r:=H
 have A3:=Aside0.mk A30
 clear A30
 obtain rfl:=Option.some.inj H
 go_enter Try.func30,Try.ntmps30
 go_wp2_with (first|((with_reducible refine gate_callee (f:=35) rfl ?_);refine goesL_ (some 7) rfl rfl Try.func35 (by kernel_rfl) rfl #[.string a0,.string a1] rfl (by (try simp only [List.map_toArray,List.map_cons,List.map_nil]);first|done|rfl|(simp only [List.length_drop,List.length_take];rfl)) ?_;(with_reducible refine (stringslite_HasPrefix.calls a0 a1 t113 _ A3.out).mono ?_);rintro e w' ⟨rfl,⟨nd,rfl⟩⟩;refine ⟨_,rfl,?_⟩))
 go_ret
 exact ⟨by first|rfl|(simp;done)|(simp [*];done),by repeat (first|exact Drawn0.refl _|apply Drawn0.step)⟩
def filter_holds.j0 : Nat→Int→Option (Bool)
 | 0,_=>none
 | k + 1,x7=>some (x7 == 0)
def filter_holds.f (k : Nat) (a0 : Int) (a1_0 : Int) (a1_1 : Int) (a1_2 : Int) (a1_3 : ByteArray) (a2_0 : Int) (a2_1 : ByteArray) : Option (Bool):=(value_Compare.f k a0 a2_0 a2_1 a1_2 a1_3).bind fun t116=>(if a1_1=3 then (some (decide (t116 < 0))) else (if a1_1=5 then (some (decide (t116 > 0))) else (if a1_1=2 then (some (t116 != 0)) else (if a1_1=7 then ((strings_HasPrefix.f a2_1 a1_3).bind fun t117=>(some t117)) else (if a1_1=4 then (if t116 < 0 then (some true) else (filter_holds.j0 k t116)) else (if a1_1=1 then (filter_holds.j0 k t116) else (if a1_1=6 then (some (decide (t116 ≥ 0))) else (some false))))))))
theorem filter_holds.mono_l : ∀ k,(∀ y0,LeO (filter_holds.j0 k y0) (filter_holds.j0 (k + 1) y0))
 | 0=>fun _ r h=>by simp [filter_holds.j0] at h
 | k + 1=>by
  have ih0:=filter_holds.mono_l k
  ·intro y0
   unfold filter_holds.j0
   repeat' first
   | (with_reducible exact ih0 _)
   | (with_reducible exact value_Compare.mono _ _ _ _ _ _)
   | (with_reducible exact LeO.refl _)
   | (with_reducible exact LeO.none _)
   | (with_reducible refine LeO.ite ?_ ?_)
   | (with_reducible refine LeO.bind ?_ (fun _=>?_))
   | exact ih0 _
   | exact value_Compare.mono _ _ _ _ _ _
   | exact LeO.none _
   | refine LeO.ite ?_ ?_
   | refine LeO.bind ?_ (fun _=>?_)
theorem filter_holds.mono : ∀ a0 a1 a2 a3 a4 a5 a6 k,LeO (filter_holds.f k a0 a1 a2 a3 a4 a5 a6) (filter_holds.f (k + 1) a0 a1 a2 a3 a4 a5 a6):=by
 intro a0 a1 a2 a3 a4 a5 a6 k
 have ih0:=filter_holds.mono_l k
 unfold filter_holds.f
 repeat' first
   | (with_reducible exact ih0 _)
   | (with_reducible exact value_Compare.mono _ _ _ _ _ _)
   | (with_reducible exact LeO.refl _)
   | (with_reducible exact LeO.none _)
   | (with_reducible refine LeO.ite ?_ ?_)
   | (with_reducible refine LeO.bind ?_ (fun _=>?_))
   | exact ih0 _
   | exact value_Compare.mono _ _ _ _ _ _
   | exact LeO.none _
   | refine LeO.ite ?_ ?_
   | refine LeO.bind ?_ (fun _=>?_)
set_option maxHeartbeats 8000000 in
set_option maxRecDepth 100000 in
theorem filter_holds.calls (k : Nat) (a0 : Int) (a1_0 : Int) (a1_1 : Int) (a1_2 : Int) (a1_3 : ByteArray) (a2_0 : Int) (a2_1 : ByteArray) (r : Bool) (w : World) (h : filter_holds.f k a0 a1_0 a1_1 a1_2 a1_3 a2_0 a2_1=some r) :
  Calls Try.prog 25 #[.int .i64 a0,.agg #[.int .i64 a1_0,.int .i64 a1_1,.int .i64 a1_2,.string a1_3],.agg #[.int .i64 a2_0,.string a2_1]] w fun e w'=>e=.returned (.bool r)∧Below w.heap.size w w':=by
 have hu39:=Try.underlying39
 have hu37:=Try.underlying37
 have HB:=Aside0.mk (Below.refl w.heap.size w)
 have H : ((value_Compare.f k a0 a2_0 a2_1 a1_2 a1_3).bind fun t116=>(if a1_1=3 then (some (decide (t116 < 0))) else (if a1_1=5 then (some (decide (t116 > 0))) else (if a1_1=2 then (some (t116 != 0)) else (if a1_1=7 then ((strings_HasPrefix.f a2_1 a1_3).bind fun t117=>(some t117)) else (if a1_1=4 then (if t116 < 0 then (some true) else (filter_holds.j0 k t116)) else (if a1_1=1 then (filter_holds.j0 k t116) else (if a1_1=6 then (some (decide (t116 ≥ 0))) else (some false)))))))))=some r:=h
 clear h
 replace H:=Option.bind_eq_some_iff.mp H
 obtain ⟨t116,A40,H⟩:=H
 replace H : (if a1_1=3 then (some (decide (t116 < 0))) else (if a1_1=5 then (some (decide (t116 > 0))) else (if a1_1=2 then (some (t116 != 0)) else (if a1_1=7 then ((strings_HasPrefix.f a2_1 a1_3).bind fun t117=>(some t117)) else (if a1_1=4 then (if t116 < 0 then (some true) else (filter_holds.j0 k t116)) else (if a1_1=1 then (filter_holds.j0 k t116) else (if a1_1=6 then (some (decide (t116 ≥ 0))) else (some false))))))))=some r:=H
 have A4:=Aside0.mk A40
 clear A40
 have HC5:=Aside0.mk H
 clear H
 go_enter Try.func25,Try.ntmps25
 go_upto_block 6 with (first|((with_reducible refine gate_dst (N:=4) rfl ?_);refine box_event ?hg (N:=4) ?hd (cs:=#[.int .i64 a1_0,.int .i64 a1_1,.int .i64 a1_2,.string a1_3]) (t:=39) ?hr ?_;(case hd=>rfl);(case hg=>rfl);(case hr=>first|(go_simp;done)|(go_simp;rfl));intro gb114 hg w6 hbox hb;have n0_:=Aside0.mk (below_step (below_up HB.out) hb);have n1_:=Aside0.mk (hbox);have n2_:=Aside0.mk ((by rw [hg];exact (below_size (below_up HB.out)) : w.heap.size≤gb114));have n3_:=Aside0.mk ((by rw [hg];exact (below_size (below_up HB.out)) : w.heap.size≤gb114));clear HB;have HB:=n0_;have BK114:=n1_;have GW114:=n2_;have GE114:=n3_;clear n0_ n1_ n2_ n3_;clear hb hbox hg)|((with_reducible refine gate_dst (N:=5) rfl ?_);refine box_event ?hg (N:=5) ?hd (cs:=#[.int .i64 a2_0,.string a2_1]) (t:=37) ?hr ?_;(case hd=>rfl);(case hg=>rfl);(case hr=>first|(go_simp;done)|(go_simp;rfl));intro gb115 hg w7 hbox hb;have n0_:=Aside0.mk (blk_below (blk_up BK114.out) hb);have n1_:=Aside0.mk (below_step (below_go HB.out) hb);have n2_:=Aside0.mk (hbox);have n3_:=Aside0.mk ((by rw [hg];exact (below_size (below_go HB.out)) : w.heap.size≤gb115));have n4_:=Aside0.mk ((by rw [hg];exact (below_size (below_go HB.out)) : w.heap.size≤gb115));have n5_:=Aside0.mk ((by rw [hg];exact Nat.ne_of_lt (blk_lt (blk_up BK114.out)) : gb114≠gb115));have n6_:=Aside0.mk ((by rw [hg];exact Nat.ne_of_gt (blk_lt (blk_up BK114.out)) : gb115≠gb114));clear BK114;clear HB;have BK114:=n0_;have HB:=n1_;have BK115:=n2_;have GW115:=n3_;have GE115:=n4_;have NB114_115:=n5_;have NB115_114:=n6_;clear n0_ n1_ n2_ n3_ n4_ n5_ n6_;clear hb hbox hg;have hnb8:=NB115_114.out;have hnc8:=NB114_115.out;have hcz9_0 : w7.cell? ⟨gb115,0,none⟩=some (.int .i64 a2_0):=(blk_cell BK115.out 0).trans rfl;have hcz9_1 : w7.cell? ⟨gb115,1,none⟩=some (.string a2_1):=(blk_cell BK115.out 1).trans rfl;have hfz9_0:=blk_frozen BK115.out 0;have hfz9_1:=blk_frozen BK115.out 1;have hcz10_0 : w7.cell? ⟨gb114,0,none⟩=some (.int .i64 a1_0):=(blk_cell BK114.out 0).trans rfl;have hcz10_1 : w7.cell? ⟨gb114,1,none⟩=some (.int .i64 a1_1):=(blk_cell BK114.out 1).trans rfl;have hcz10_2 : w7.cell? ⟨gb114,2,none⟩=some (.int .i64 a1_2):=(blk_cell BK114.out 2).trans rfl;have hcz10_3 : w7.cell? ⟨gb114,3,none⟩=some (.string a1_3):=(blk_cell BK114.out 3).trans rfl;have hfz10_0:=blk_frozen BK114.out 0;have hfz10_1:=blk_frozen BK114.out 1;have hfz10_2:=blk_frozen BK114.out 2;have hfz10_3:=blk_frozen BK114.out 3)|((with_reducible refine gate_callee (f:=29) rfl ?_);refine goesL_ (some 12) rfl rfl Try.func29 (by kernel_rfl) rfl #[.int .i64 a0,.agg #[.int .i64 a2_0,.string a2_1],.agg #[.int .i64 a1_2,.string a1_3]] rfl (by (try simp only [List.map_toArray,List.map_cons,List.map_nil]);first|done|rfl|(simp only [List.length_drop,List.length_take];rfl)) ?_;(with_reducible refine (value_Compare.calls k a0 a2_0 a2_1 a1_2 a1_3 t116 _ A4.out).mono ?_);rintro e w11 ⟨rfl,hb⟩;refine ⟨_,rfl,?_⟩;have n0_:=Aside0.mk (blk_below (blk_up BK114.out) hb);have n1_:=Aside0.mk (blk_below (blk_up BK115.out) hb);have n2_:=Aside0.mk (below_step (below_go HB.out) hb);clear BK114;clear BK115;clear HB;have BK114:=n0_;have BK115:=n1_;have HB:=n2_;clear n0_ n1_ n2_;(try clear hb);(try clear hb2);(try clear hk);(try clear hi);have hcz12_0 : w11.cell? ⟨gb114,0,none⟩=some (.int .i64 a1_0):=(blk_cell BK114.out 0).trans rfl;have hcz12_1 : w11.cell? ⟨gb114,1,none⟩=some (.int .i64 a1_1):=(blk_cell BK114.out 1).trans rfl;have hcz12_2 : w11.cell? ⟨gb114,2,none⟩=some (.int .i64 a1_2):=(blk_cell BK114.out 2).trans rfl;have hcz12_3 : w11.cell? ⟨gb114,3,none⟩=some (.string a1_3):=(blk_cell BK114.out 3).trans rfl;have hfz12_0:=blk_frozen BK114.out 0;have hfz12_1:=blk_frozen BK114.out 1;have hfz12_2:=blk_frozen BK114.out 2;have hfz12_3:=blk_frozen BK114.out 3))
 (try simp only [Act.put,List.setIfInBounds_toArray,List.set_cons_zero,List.set_cons_succ])
 go_cut [] (fun wc=>∃ (kq : Nat),Aside0 (filter_holds.j0 kq t116=some r)∧Aside0 (kq≤k)∧Aside0 (wc.heap[gb114]?=some (.cells #[.int .i64 a1_0,.int .i64 a1_1,.int .i64 a1_2,.string a1_3] 39 (0,0)))∧Aside0 (wc.heap[gb115]?=some (.cells #[.int .i64 a2_0,.string a2_1] 37 (0,0)))∧Aside0 (Below w.heap.size w wc))
 case first =>
  have H:=HC5.out
  clear HC5
  by_cases c13 : a1_1=3
  ·rw [if_pos c13] at H
   have c13b0 : (a1_1 == 3)=true:=beq_iff_eq.mpr c13
   have c13b1 : (a1_1 != 3)=false:=bne_eq_false_iff_eq.mpr c13
   clear c13
   (first|rw [c13b0]|(simp only [i64_w,i32_w];rw [c13b0])|skip)
   obtain rfl:=Option.some.inj H
   go_wp2
   go_ret
   exact ⟨by first|rfl|(simp [errW_none,errW_some] <;> rfl)|(simp [*,errW_none,errW_some] <;> rfl),by repeat (first|(with_reducible first|exact HB.out|apply below_alloc|apply pw_below_drewN|apply below_drew1|refine below_set ?_ GE114.out|refine below_set ?_ GE115.out)|exact HB.out)⟩
  ·rw [if_neg c13] at H
   have c13b0 : (a1_1 == 3)=false:=beq_eq_false_iff_ne.mpr c13
   have c13b1 : (a1_1 != 3)=true:=bne_iff_ne.mpr c13
   (first|rw [c13b0]|(simp only [i64_w,i32_w];rw [c13b0])|skip)
   by_cases c14 : a1_1=5
   ·rw [if_pos c14] at H
    have c14b0 : (a1_1 == 5)=true:=beq_iff_eq.mpr c14
    have c14b1 : (a1_1 != 5)=false:=bne_eq_false_iff_eq.mpr c14
    clear c14
    obtain rfl:=Option.some.inj H
    go_wp2
    go_ret
    exact ⟨by first|rfl|(simp [errW_none,errW_some] <;> rfl)|(simp [*,errW_none,errW_some] <;> rfl),by repeat (first|(with_reducible first|exact HB.out|apply below_alloc|apply pw_below_drewN|apply below_drew1|refine below_set ?_ GE114.out|refine below_set ?_ GE115.out)|exact HB.out)⟩
   ·rw [if_neg c14] at H
    have c14b0 : (a1_1 == 5)=false:=beq_eq_false_iff_ne.mpr c14
    have c14b1 : (a1_1 != 5)=true:=bne_iff_ne.mpr c14
    by_cases c15 : a1_1=2
    ·rw [if_pos c15] at H
     have c15b0 : (a1_1 == 2)=true:=beq_iff_eq.mpr c15
     have c15b1 : (a1_1 != 2)=false:=bne_eq_false_iff_eq.mpr c15
     clear c15
     obtain rfl:=Option.some.inj H
     go_wp2
     go_ret
     exact ⟨by first|rfl|(simp [errW_none,errW_some] <;> rfl)|(simp [*,errW_none,errW_some] <;> rfl),by repeat (first|(with_reducible first|exact HB.out|apply below_alloc|apply pw_below_drewN|apply below_drew1|refine below_set ?_ GE114.out|refine below_set ?_ GE115.out)|exact HB.out)⟩
    ·rw [if_neg c15] at H
     have c15b0 : (a1_1 == 2)=false:=beq_eq_false_iff_ne.mpr c15
     have c15b1 : (a1_1 != 2)=true:=bne_iff_ne.mpr c15
     by_cases c16 : a1_1=7
     ·rw [if_pos c16] at H
      have c16b0 : (a1_1 == 7)=true:=beq_iff_eq.mpr c16
      have c16b1 : (a1_1 != 7)=false:=bne_eq_false_iff_eq.mpr c16
      clear c16
      replace H:=Option.bind_eq_some_iff.mp H
      obtain ⟨t117,A170,H⟩:=H
      replace H : (some t117)=some r:=H
      have A17:=Aside0.mk A170
      clear A170
      obtain rfl:=Option.some.inj H
      have hnb18:=NB115_114.out
      have hnc18:=NB114_115.out
      have hcz19_0 : w11.cell? ⟨gb115,0,none⟩=some (.int .i64 a2_0):=(blk_cell BK115.out 0).trans rfl
      have hcz19_1 : w11.cell? ⟨gb115,1,none⟩=some (.string a2_1):=(blk_cell BK115.out 1).trans rfl
      have hfz19_0:=blk_frozen BK115.out 0
      have hfz19_1:=blk_frozen BK115.out 1
      have hcz20_0 : w11.cell? ⟨gb114,0,none⟩=some (.int .i64 a1_0):=(blk_cell BK114.out 0).trans rfl
      have hcz20_1 : w11.cell? ⟨gb114,1,none⟩=some (.int .i64 a1_1):=(blk_cell BK114.out 1).trans rfl
      have hcz20_2 : w11.cell? ⟨gb114,2,none⟩=some (.int .i64 a1_2):=(blk_cell BK114.out 2).trans rfl
      have hcz20_3 : w11.cell? ⟨gb114,3,none⟩=some (.string a1_3):=(blk_cell BK114.out 3).trans rfl
      have hfz20_0:=blk_frozen BK114.out 0
      have hfz20_1:=blk_frozen BK114.out 1
      have hfz20_2:=blk_frozen BK114.out 2
      have hfz20_3:=blk_frozen BK114.out 3
      go_wp2_with (first|((with_reducible refine gate_callee (f:=30) rfl ?_);refine goesL_ (some 40) rfl rfl Try.func30 (by kernel_rfl) rfl #[.string a2_1,.string a1_3] rfl (by (try simp only [List.map_toArray,List.map_cons,List.map_nil]);first|done|rfl|(simp only [List.length_drop,List.length_take];rfl)) ?_;(with_reducible refine (strings_HasPrefix.calls a2_1 a1_3 t117 _ A17.out).mono ?_);rintro e w' ⟨rfl,⟨nd,rfl⟩⟩;refine ⟨_,rfl,?_⟩))
      go_ret
      exact ⟨by first|rfl|(simp [errW_none,errW_some] <;> rfl)|(simp [*,errW_none,errW_some] <;> rfl),by repeat (first|(with_reducible first|exact HB.out|apply below_alloc|apply pw_below_drewN|apply below_drew1|refine below_set ?_ GE114.out|refine below_set ?_ GE115.out)|exact HB.out)⟩
     ·rw [if_neg c16] at H
      have c16b0 : (a1_1 == 7)=false:=beq_eq_false_iff_ne.mpr c16
      have c16b1 : (a1_1 != 7)=true:=bne_iff_ne.mpr c16
      by_cases c21 : a1_1=4
      ·rw [if_pos c21] at H
       have c21b0 : (a1_1 == 4)=true:=beq_iff_eq.mpr c21
       have c21b1 : (a1_1 != 4)=false:=bne_eq_false_iff_eq.mpr c21
       clear c21
       by_cases c22 : t116 < 0
       ·rw [if_pos c22] at H
        have c22b0 : decide (t116 < 0)=true:=decide_eq_true c22
        clear c22
        obtain rfl:=Option.some.inj H
        go_wp2
        go_ret
        exact ⟨by first|rfl|(simp [errW_none,errW_some] <;> rfl)|(simp [*,errW_none,errW_some] <;> rfl),by repeat (first|(with_reducible first|exact HB.out|apply below_alloc|apply pw_below_drewN|apply below_drew1|refine below_set ?_ GE114.out|refine below_set ?_ GE115.out)|exact HB.out)⟩
       ·rw [if_neg c22] at H
        have c22b0 : decide (t116 < 0)=false:=decide_eq_false c22
        clear c22
        have H':=Aside0.mk H
        clear H
        go_wp2
        go_meet
        case rel=>exact ⟨_,(by first|exact H'|(subst_vars;exact H')),⟨by first|omega|exact Nat.le_refl _⟩,⟨by (with_reducible repeat (first|refine blk_drewN ?_ _|refine blk_drew ?_|refine blk_alloc ?_ _));exact BK114.out⟩,⟨by (with_reducible repeat (first|refine blk_drewN ?_ _|refine blk_drew ?_|refine blk_alloc ?_ _));exact BK115.out⟩,⟨by repeat (first|(with_reducible first|exact HB.out|apply below_alloc|apply pw_below_drewN|apply below_drew1|refine below_set ?_ GE114.out|refine below_set ?_ GE115.out)|exact HB.out)⟩⟩
      ·rw [if_neg c21] at H
       have c21b0 : (a1_1 == 4)=false:=beq_eq_false_iff_ne.mpr c21
       have c21b1 : (a1_1 != 4)=true:=bne_iff_ne.mpr c21
       by_cases c23 : a1_1=1
       ·rw [if_pos c23] at H
        have c23b0 : (a1_1 == 1)=true:=beq_iff_eq.mpr c23
        have c23b1 : (a1_1 != 1)=false:=bne_eq_false_iff_eq.mpr c23
        clear c23
        have H':=Aside0.mk H
        clear H
        go_wp2
        go_meet
        case rel=>exact ⟨_,(by first|exact H'|(subst_vars;exact H')),⟨by first|omega|exact Nat.le_refl _⟩,⟨by (with_reducible repeat (first|refine blk_drewN ?_ _|refine blk_drew ?_|refine blk_alloc ?_ _));exact BK114.out⟩,⟨by (with_reducible repeat (first|refine blk_drewN ?_ _|refine blk_drew ?_|refine blk_alloc ?_ _));exact BK115.out⟩,⟨by repeat (first|(with_reducible first|exact HB.out|apply below_alloc|apply pw_below_drewN|apply below_drew1|refine below_set ?_ GE114.out|refine below_set ?_ GE115.out)|exact HB.out)⟩⟩
       ·rw [if_neg c23] at H
        have c23b0 : (a1_1 == 1)=false:=beq_eq_false_iff_ne.mpr c23
        have c23b1 : (a1_1 != 1)=true:=bne_iff_ne.mpr c23
        by_cases c24 : a1_1=6
        ·rw [if_pos c24] at H
         have c24b0 : (a1_1 == 6)=true:=beq_iff_eq.mpr c24
         have c24b1 : (a1_1 != 6)=false:=bne_eq_false_iff_eq.mpr c24
         clear c24
         obtain rfl:=Option.some.inj H
         go_wp2
         go_ret
         exact ⟨by first|rfl|(simp [errW_none,errW_some] <;> rfl)|(simp [*,errW_none,errW_some] <;> rfl),by repeat (first|(with_reducible first|exact HB.out|apply below_alloc|apply pw_below_drewN|apply below_drew1|refine below_set ?_ GE114.out|refine below_set ?_ GE115.out)|exact HB.out)⟩
        ·rw [if_neg c24] at H
         have c24b0 : (a1_1 == 6)=false:=beq_eq_false_iff_ne.mpr c24
         have c24b1 : (a1_1 != 6)=true:=bne_iff_ne.mpr c24
         obtain rfl:=Option.some.inj H
         go_wp2
         go_ret
         exact ⟨by first|rfl|(simp [errW_none,errW_some] <;> rfl)|(simp [*,errW_none,errW_some] <;> rfl),by repeat (first|(with_reducible first|exact HB.out|apply below_alloc|apply pw_below_drewN|apply below_drew1|refine below_set ?_ GE114.out|refine below_set ?_ GE115.out)|exact HB.out)⟩
 case rest =>
  clear HC5
  try clear c1
  try clear c2
  try clear p2
  try clear c3
  try clear c8
  try clear c13
  try clear c13b0
  try clear c13b1
  try clear c14
  try clear c14b0
  try clear c14b1
  try clear c15
  try clear c15b0
  try clear c15b1
  try clear c16
  try clear c16b0
  try clear c16b1
  try clear c18
  try clear c21
  try clear c21b0
  try clear c21b1
  try clear c22
  try clear c22b0
  try clear c23
  try clear c23b0
  try clear c23b1
  try clear c24
  try clear c24b0
  try clear c24b1
  try clear hcz10_0
  try clear hcz10_1
  try clear hcz10_2
  try clear hcz10_3
  try clear hcz12_0
  try clear hcz12_1
  try clear hcz12_2
  try clear hcz12_3
  try clear hcz19_0
  try clear hcz19_1
  try clear hcz20_0
  try clear hcz20_1
  try clear hcz20_2
  try clear hcz20_3
  try clear hcz9_0
  try clear hcz9_1
  try clear hfz10_0
  try clear hfz10_1
  try clear hfz10_2
  try clear hfz10_3
  try clear hfz12_0
  try clear hfz12_1
  try clear hfz12_2
  try clear hfz12_3
  try clear hfz19_0
  try clear hfz19_1
  try clear hfz20_0
  try clear hfz20_1
  try clear hfz20_2
  try clear hfz20_3
  try clear hfz9_0
  try clear hfz9_1
  obtain ⟨kq,HA,HJ4,BK114,BK115,HB⟩:=hcut
  cases kq with
  | zero=>exact absurd HA.out (by simp [filter_holds.j0])
  | succ kj4 =>
   have H:=HA.out
   clear HA
   simp only [filter_holds.j0] at H
   obtain rfl:=Option.some.inj H
   go_wp2
   go_ret
   exact ⟨by first|rfl|(simp [errW_none,errW_some] <;> rfl)|(simp [*,errW_none,errW_some] <;> rfl),by repeat (first|(with_reducible first|exact HB.out|apply below_alloc|apply pw_below_drewN|apply below_drew1|refine below_set ?_ GE114.out|refine below_set ?_ GE115.out)|exact HB.out)⟩
end Go.Proofs.Ytbkpifcjgedjaaa.P

