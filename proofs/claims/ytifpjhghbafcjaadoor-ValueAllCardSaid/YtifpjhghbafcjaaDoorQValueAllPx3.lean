/- Texts of ValueAll. Merged: Px3. -/
import Derived.Test.YtifpjhghbafcjaaDoorQValueAllPx0
import Derived.Test.YtifpjhghbafcjaaDoorQValueAllPx2
import Derived.Test.YtifpjhghbafcjaaDoorQValueAllHCmp
namespace Go.Proofs.YtifpjhghbafcjaaDoor.P
open Go.RowKit Go.Proofs.YtifpjhghbafcjaaDoorW.PrintWords Go.Proofs.YtifpjhghbafcjaaDoorW.PrintLast Go.Proofs.YtifpjhghbafcjaaDoorW.PrintMore
attribute [local go_sem] max2_int min2_int max_two min_two max_three min_three max_four min_four   -- for this text's walks alone
set_option linter.unusedVariables false
set_option linter.unusedSimpArgs false
def value_Compare.j0 : Nat→Int→Bool→Int→ByteArray→Int→ByteArray→Option (Int)
 | 0,_,_,_,_,_,_=>none
 | k + 1,x0,x7,x107000,x107001,x108000,x108001=>if x7=true then (some 0) else (if x0=3 then ((strings_Compare.f x107001 x108001).bind fun t110=>(some t110)) else (if x0=2 then ((cmp_Compare_uint64.f (IntKind.u64.wrap (x107000)) (IntKind.u64.wrap (x108000))).bind fun t111=>(some t111)) else ((cmp_Compare_int64.f x107000 x108000).bind fun t112=>(some t112))))
def value_Compare.f (k : Nat) (a0 : Int) (a1_0 : Int) (a1_1 : ByteArray) (a2_0 : Int) (a2_1 : ByteArray) : Option (Int):=(value_Fits.f k a0 a1_0 a1_1).bind fun t108=>(if t108=true then ((value_Fits.f k a0 a2_0 a2_1).bind fun t109=>(value_Compare.j0 k a0 (!t109) a1_0 a1_1 a2_0 a2_1)) else (value_Compare.j0 k a0 true a1_0 a1_1 a2_0 a2_1))
theorem value_Compare.mono_l : ∀ k,(∀ y0 y1 y2 y3 y4 y5,LeO (value_Compare.j0 k y0 y1 y2 y3 y4 y5) (value_Compare.j0 (k + 1) y0 y1 y2 y3 y4 y5))
 | 0=>fun _ _ _ _ _ _ r h=>by simp [value_Compare.j0] at h
 | k + 1=>by
  have ih0:=value_Compare.mono_l k
  ·intro y0 y1 y2 y3 y4 y5
   unfold value_Compare.j0
   repeat' first
   | (with_reducible exact ih0 _ _ _ _ _ _)
   | (with_reducible exact value_Fits.mono _ _ _ _)
   | (with_reducible exact LeO.refl _)
   | (with_reducible exact LeO.none _)
   | (with_reducible refine LeO.ite ?_ ?_)
   | (with_reducible refine LeO.bind ?_ (fun _=>?_))
   | exact ih0 _ _ _ _ _ _
   | exact value_Fits.mono _ _ _ _
   | exact LeO.none _
   | refine LeO.ite ?_ ?_
   | refine LeO.bind ?_ (fun _=>?_)
theorem value_Compare.mono : ∀ a0 a1 a2 a3 a4 k,LeO (value_Compare.f k a0 a1 a2 a3 a4) (value_Compare.f (k + 1) a0 a1 a2 a3 a4):=by
 intro a0 a1 a2 a3 a4 k
 have ih0:=value_Compare.mono_l k
 unfold value_Compare.f
 repeat' first
   | (with_reducible exact ih0 _ _ _ _ _ _)
   | (with_reducible exact value_Fits.mono _ _ _ _)
   | (with_reducible exact LeO.refl _)
   | (with_reducible exact LeO.none _)
   | (with_reducible refine LeO.ite ?_ ?_)
   | (with_reducible refine LeO.bind ?_ (fun _=>?_))
   | exact ih0 _ _ _ _ _ _
   | exact value_Fits.mono _ _ _ _
   | exact LeO.none _
   | refine LeO.ite ?_ ?_
   | refine LeO.bind ?_ (fun _=>?_)
set_option maxHeartbeats 8000000 in
set_option maxRecDepth 100000 in
theorem value_Compare.calls (k : Nat) (a0 : Int) (a1_0 : Int) (a1_1 : ByteArray) (a2_0 : Int) (a2_1 : ByteArray) (r : Int) (w : World) (h : value_Compare.f k a0 a1_0 a1_1 a2_0 a2_1=some r) :
  Calls Tryd.prog 12 #[.int .i64 a0,.agg #[.int .i64 a1_0,.string a1_1],.agg #[.int .i64 a2_0,.string a2_1]] w fun e w'=>e=.returned (.int .i64 r)∧Below w.heap.size w w':=by
 have hu23:=Tryd.underlying23
 have HB:=Aside0.mk (Below.refl w.heap.size w)
 have H : ((value_Fits.f k a0 a1_0 a1_1).bind fun t108=>(if t108=true then ((value_Fits.f k a0 a2_0 a2_1).bind fun t109=>(value_Compare.j0 k a0 (!t109) a1_0 a1_1 a2_0 a2_1)) else (value_Compare.j0 k a0 true a1_0 a1_1 a2_0 a2_1)))=some r:=h
 clear h
 have HC4:=Aside0.mk H
 clear H
 go_enter Tryd.func12,Tryd.ntmps12
 go_upto_region 1 with (first|((with_reducible refine gate_dst (N:=4) rfl ?_);refine box_event ?hg (N:=4) ?hd (cs:=#[.int .i64 a1_0,.string a1_1]) (t:=23) ?hr ?_;(case hd=>rfl);(case hg=>rfl);(case hr=>first|(go_simp;done)|(go_simp;rfl));intro gb106 hg w5 hbox hb;have n0_:=Aside0.mk (below_step (below_up HB.out) hb);have n1_:=Aside0.mk (hbox);have n2_:=Aside0.mk ((by rw [hg];exact (below_size (below_up HB.out)) : w.heap.size≤gb106));have n3_:=Aside0.mk ((by rw [hg];exact (below_size (below_up HB.out)) : w.heap.size≤gb106));clear HB;have HB:=n0_;have BK106:=n1_;have GW106:=n2_;have GE106:=n3_;clear n0_ n1_ n2_ n3_;clear hb hbox hg)|((with_reducible refine gate_dst (N:=5) rfl ?_);refine box_event ?hg (N:=5) ?hd (cs:=#[.int .i64 a2_0,.string a2_1]) (t:=23) ?hr ?_;(case hd=>rfl);(case hg=>rfl);(case hr=>first|(go_simp;done)|(go_simp;rfl));intro gb107 hg w6 hbox hb;have n0_:=Aside0.mk (blk_below (blk_up BK106.out) hb);have n1_:=Aside0.mk (below_step (below_go HB.out) hb);have n2_:=Aside0.mk (hbox);have n3_:=Aside0.mk ((by rw [hg];exact (below_size (below_go HB.out)) : w.heap.size≤gb107));have n4_:=Aside0.mk ((by rw [hg];exact (below_size (below_go HB.out)) : w.heap.size≤gb107));have n5_:=Aside0.mk ((by rw [hg];exact Nat.ne_of_lt (blk_lt (blk_up BK106.out)) : gb106≠gb107));have n6_:=Aside0.mk ((by rw [hg];exact Nat.ne_of_gt (blk_lt (blk_up BK106.out)) : gb107≠gb106));clear BK106;clear HB;have BK106:=n0_;have HB:=n1_;have BK107:=n2_;have GW107:=n3_;have GE107:=n4_;have NB106_107:=n5_;have NB107_106:=n6_;clear n0_ n1_ n2_ n3_ n4_ n5_ n6_;clear hb hbox hg))
 (try simp only [Act.put,List.setIfInBounds_toArray,List.set_cons_zero,List.set_cons_succ])
 go_cut [7] (fun v7 wc=>∃ (kq : Nat) (x7_3 : Bool),v7=.bool x7_3∧Aside0 (value_Compare.j0 kq a0 x7_3 a1_0 a1_1 a2_0 a2_1=some r)∧Aside0 (kq≤k)∧Aside0 (wc.heap[gb106]?=some (.cells #[.int .i64 a1_0,.string a1_1] 23 (0,0)))∧Aside0 (wc.heap[gb107]?=some (.cells #[.int .i64 a2_0,.string a2_1] 23 (0,0)))∧Aside0 (Below w.heap.size w wc))
 case first =>
  have H:=HC4.out
  clear HC4
  replace H:=Option.bind_eq_some_iff.mp H
  obtain ⟨t108,A70,H⟩:=H
  replace H : (if t108=true then ((value_Fits.f k a0 a2_0 a2_1).bind fun t109=>(value_Compare.j0 k a0 (!t109) a1_0 a1_1 a2_0 a2_1)) else (value_Compare.j0 k a0 true a1_0 a1_1 a2_0 a2_1))=some r:=H
  have A7:=Aside0.mk A70
  clear A70
  by_cases c8 : t108=true
  ·subst c8
   have H1 : ((value_Fits.f k a0 a2_0 a2_1).bind fun t109=>(value_Compare.j0 k a0 (!t109) a1_0 a1_1 a2_0 a2_1))=some r:=by rw [if_pos rfl] at H;exact H
   clear H
   have H:=H1
   clear H1
   replace H:=Option.bind_eq_some_iff.mp H
   obtain ⟨t109,A90,H⟩:=H
   replace H : (value_Compare.j0 k a0 (!t109) a1_0 a1_1 a2_0 a2_1)=some r:=H
   have A9:=Aside0.mk A90
   clear A90
   have H':=Aside0.mk H
   clear H
   have hnb10:=NB106_107.out
   have hnc10:=NB107_106.out
   have hcz11_0 : w6.cell? ⟨gb106,0,none⟩=some (.int .i64 a1_0):=(blk_cell BK106.out 0).trans rfl
   have hcz11_1 : w6.cell? ⟨gb106,1,none⟩=some (.string a1_1):=(blk_cell BK106.out 1).trans rfl
   have hfz11_0:=blk_frozen BK106.out 0
   have hfz11_1:=blk_frozen BK106.out 1
   go_wp2_with (first|((with_reducible refine gate_callee (f:=17) rfl ?_);refine goesL_ (some 10) rfl rfl Tryd.func17 (by kernel_rfl) rfl #[.int .i64 a0,.agg #[.int .i64 a1_0,.string a1_1]] rfl (by (try simp only [List.map_toArray,List.map_cons,List.map_nil]);first|done|rfl|(simp only [List.length_drop,List.length_take];rfl)) ?_;(with_reducible refine (value_Fits.calls k a0 a1_0 a1_1 true _ A7.out).mono ?_);rintro e w12 ⟨rfl,hb⟩;refine ⟨_,rfl,?_⟩;have n0_:=Aside0.mk (blk_below (blk_up BK106.out) hb);have n1_:=Aside0.mk (blk_below (blk_up BK107.out) hb);have n2_:=Aside0.mk (below_step (below_go HB.out) hb);clear BK106;clear BK107;clear HB;have BK106:=n0_;have BK107:=n1_;have HB:=n2_;clear n0_ n1_ n2_;(try clear hb);(try clear hb2);(try clear hk);(try clear hi);have hcz13_0 : w12.cell? ⟨gb107,0,none⟩=some (.int .i64 a2_0):=(blk_cell BK107.out 0).trans rfl;have hcz13_1 : w12.cell? ⟨gb107,1,none⟩=some (.string a2_1):=(blk_cell BK107.out 1).trans rfl;have hfz13_0:=blk_frozen BK107.out 0;have hfz13_1:=blk_frozen BK107.out 1)|(go_at_call 17;(with_reducible refine (value_Fits.calls k a0 a2_0 a2_1 t109 _ A9.out).mono ?_);rintro e w14 ⟨rfl,hb⟩;have n0_:=Aside0.mk (blk_below (blk_up BK106.out) hb);have n1_:=Aside0.mk (blk_below (blk_up BK107.out) hb);have n2_:=Aside0.mk (below_step (below_go HB.out) hb);clear BK106;clear BK107;clear HB;have BK106:=n0_;have BK107:=n1_;have HB:=n2_;clear n0_ n1_ n2_;(try clear hb);(try clear hb2);(try clear hk);(try clear hi)))
   go_meet
   case rel=>exact ⟨_,(!t109),(by first|rfl|(simp;done)|(simp [*];done)),(by first|exact H'|(subst_vars;exact H')),⟨by first|omega|exact Nat.le_refl _⟩,⟨by (with_reducible repeat (first|refine blk_drewN ?_ _|refine blk_drew ?_|refine blk_alloc ?_ _));exact BK106.out⟩,⟨by (with_reducible repeat (first|refine blk_drewN ?_ _|refine blk_drew ?_|refine blk_alloc ?_ _));exact BK107.out⟩,⟨by repeat (first|(with_reducible first|exact HB.out|apply below_alloc|apply pw_below_drewN|apply below_drew1|refine below_set ?_ GE106.out|refine below_set ?_ GE107.out)|exact HB.out)⟩⟩
  ·replace c8:=Bool.eq_false_iff.mpr c8
   subst c8
   have H1 : (value_Compare.j0 k a0 true a1_0 a1_1 a2_0 a2_1)=some r:=by rw [if_neg (show ¬ (false=true) by decide)] at H;exact H
   clear H
   have H:=H1
   clear H1
   have H':=Aside0.mk H
   clear H
   have hnb15:=NB106_107.out
   have hnc15:=NB107_106.out
   have hcz16_0 : w6.cell? ⟨gb106,0,none⟩=some (.int .i64 a1_0):=(blk_cell BK106.out 0).trans rfl
   have hcz16_1 : w6.cell? ⟨gb106,1,none⟩=some (.string a1_1):=(blk_cell BK106.out 1).trans rfl
   have hfz16_0:=blk_frozen BK106.out 0
   have hfz16_1:=blk_frozen BK106.out 1
   go_wp2_with (first|((with_reducible refine gate_callee (f:=17) rfl ?_);refine goesL_ (some 10) rfl rfl Tryd.func17 (by kernel_rfl) rfl #[.int .i64 a0,.agg #[.int .i64 a1_0,.string a1_1]] rfl (by (try simp only [List.map_toArray,List.map_cons,List.map_nil]);first|done|rfl|(simp only [List.length_drop,List.length_take];rfl)) ?_;(with_reducible refine (value_Fits.calls k a0 a1_0 a1_1 false _ A7.out).mono ?_);rintro e w17 ⟨rfl,hb⟩;refine ⟨_,rfl,?_⟩;have n0_:=Aside0.mk (blk_below (blk_up BK106.out) hb);have n1_:=Aside0.mk (blk_below (blk_up BK107.out) hb);have n2_:=Aside0.mk (below_step (below_go HB.out) hb);clear BK106;clear BK107;clear HB;have BK106:=n0_;have BK107:=n1_;have HB:=n2_;clear n0_ n1_ n2_;(try clear hb);(try clear hb2);(try clear hk);(try clear hi)))
   go_meet
   case rel=>exact ⟨_,(true),(by first|rfl|(simp;done)|(simp [*];done)),(by first|exact H'|(subst_vars;exact H')),⟨by first|omega|exact Nat.le_refl _⟩,⟨by (with_reducible repeat (first|refine blk_drewN ?_ _|refine blk_drew ?_|refine blk_alloc ?_ _));exact BK106.out⟩,⟨by (with_reducible repeat (first|refine blk_drewN ?_ _|refine blk_drew ?_|refine blk_alloc ?_ _));exact BK107.out⟩,⟨by repeat (first|(with_reducible first|exact HB.out|apply below_alloc|apply pw_below_drewN|apply below_drew1|refine below_set ?_ GE106.out|refine below_set ?_ GE107.out)|exact HB.out)⟩⟩
 case rest =>
  clear HC4
  try clear c1
  try clear p2
  try clear c8
  try clear c10
  try clear c12
  try clear c15
  try clear c17
  try clear hcz11_0
  try clear hcz11_1
  try clear hcz13_0
  try clear hcz13_1
  try clear hcz16_0
  try clear hcz16_1
  try clear hfz11_0
  try clear hfz11_1
  try clear hfz13_0
  try clear hfz13_1
  try clear hfz16_0
  try clear hfz16_1
  obtain ⟨kq,x7_3,rfl,HA,HJ3,BK106,BK107,HB⟩:=hcut
  cases kq with
  | zero=>exact absurd HA.out (by simp [value_Compare.j0])
  | succ kj3 =>
   have H:=HA.out
   clear HA
   simp only [value_Compare.j0] at H
   by_cases c18 : x7_3=true
   ·subst c18
    have H1 : (some 0)=some r:=by rw [if_pos rfl] at H;exact H
    clear H
    have H:=H1
    clear H1
    obtain rfl:=Option.some.inj H
    go_wp2
    go_ret
    exact ⟨by first|rfl|(simp [errW_none,errW_some] <;> rfl)|(simp [*,errW_none,errW_some] <;> rfl),by repeat (first|(with_reducible first|exact HB.out|apply below_alloc|apply pw_below_drewN|apply below_drew1|refine below_set ?_ GE106.out|refine below_set ?_ GE107.out)|exact HB.out)⟩
   ·replace c18:=Bool.eq_false_iff.mpr c18
    subst c18
    have H1 : (if a0=3 then ((strings_Compare.f a1_1 a2_1).bind fun t110=>(some t110)) else (if a0=2 then ((cmp_Compare_uint64.f (IntKind.u64.wrap (a1_0)) (IntKind.u64.wrap (a2_0))).bind fun t111=>(some t111)) else ((cmp_Compare_int64.f a1_0 a2_0).bind fun t112=>(some t112))))=some r:=by rw [if_neg (show ¬ (false=true) by decide)] at H;exact H
    clear H
    have H:=H1
    clear H1
    by_cases c19 : a0=3
    ·rw [if_pos c19] at H
     have c19b0 : (a0 == 3)=true:=beq_iff_eq.mpr c19
     have c19b1 : (a0 != 3)=false:=bne_eq_false_iff_eq.mpr c19
     clear c19
     replace H:=Option.bind_eq_some_iff.mp H
     obtain ⟨t110,A200,H⟩:=H
     replace H : (some t110)=some r:=H
     have A20:=Aside0.mk A200
     clear A200
     obtain rfl:=Option.some.inj H
     have hnb21:=NB106_107.out
     have hnc21:=NB107_106.out
     have hcz22_0 : wc.cell? ⟨gb106,0,none⟩=some (.int .i64 a1_0):=(blk_cell BK106.out 0).trans rfl
     have hcz22_1 : wc.cell? ⟨gb106,1,none⟩=some (.string a1_1):=(blk_cell BK106.out 1).trans rfl
     have hfz22_0:=blk_frozen BK106.out 0
     have hfz22_1:=blk_frozen BK106.out 1
     have hcz23_0 : wc.cell? ⟨gb107,0,none⟩=some (.int .i64 a2_0):=(blk_cell BK107.out 0).trans rfl
     have hcz23_1 : wc.cell? ⟨gb107,1,none⟩=some (.string a2_1):=(blk_cell BK107.out 1).trans rfl
     have hfz23_0:=blk_frozen BK107.out 0
     have hfz23_1:=blk_frozen BK107.out 1
     go_wp2_with (first|((with_reducible refine gate_callee (f:=24) rfl ?_);refine goesL_ (some 25) rfl rfl Tryd.func24 (by kernel_rfl) rfl #[.string a1_1,.string a2_1] rfl (by (try simp only [List.map_toArray,List.map_cons,List.map_nil]);first|done|rfl|(simp only [List.length_drop,List.length_take];rfl)) ?_;(with_reducible refine (strings_Compare.calls a1_1 a2_1 t110 _ A20.out).mono ?_);rintro e w' ⟨rfl,⟨nd,rfl⟩⟩;refine ⟨_,rfl,?_⟩))
     go_ret
     exact ⟨by first|rfl|(simp [errW_none,errW_some] <;> rfl)|(simp [*,errW_none,errW_some] <;> rfl),by repeat (first|(with_reducible first|exact HB.out|apply below_alloc|apply pw_below_drewN|apply below_drew1|refine below_set ?_ GE106.out|refine below_set ?_ GE107.out)|exact HB.out)⟩
    ·rw [if_neg c19] at H
     have c19b0 : (a0 == 3)=false:=beq_eq_false_iff_ne.mpr c19
     have c19b1 : (a0 != 3)=true:=bne_iff_ne.mpr c19
     by_cases c24 : a0=2
     ·rw [if_pos c24] at H
      have c24b0 : (a0 == 2)=true:=beq_iff_eq.mpr c24
      have c24b1 : (a0 != 2)=false:=bne_eq_false_iff_eq.mpr c24
      clear c24
      replace H:=Option.bind_eq_some_iff.mp H
      obtain ⟨t111,A250,H⟩:=H
      replace H : (some t111)=some r:=H
      have A25:=Aside0.mk A250
      clear A250
      obtain rfl:=Option.some.inj H
      have hnb26:=NB106_107.out
      have hnc26:=NB107_106.out
      have hcz27_0 : wc.cell? ⟨gb106,0,none⟩=some (.int .i64 a1_0):=(blk_cell BK106.out 0).trans rfl
      have hcz27_1 : wc.cell? ⟨gb106,1,none⟩=some (.string a1_1):=(blk_cell BK106.out 1).trans rfl
      have hfz27_0:=blk_frozen BK106.out 0
      have hfz27_1:=blk_frozen BK106.out 1
      have hcz28_0 : wc.cell? ⟨gb107,0,none⟩=some (.int .i64 a2_0):=(blk_cell BK107.out 0).trans rfl
      have hcz28_1 : wc.cell? ⟨gb107,1,none⟩=some (.string a2_1):=(blk_cell BK107.out 1).trans rfl
      have hfz28_0:=blk_frozen BK107.out 0
      have hfz28_1:=blk_frozen BK107.out 1
      go_wp2_with (first|((with_reducible refine gate_callee (f:=25) rfl ?_);refine goesL_ (some 35) rfl rfl Tryd.func25 (by kernel_rfl) rfl #[.int .u64 (IntKind.u64.wrap (a1_0)),.int .u64 (IntKind.u64.wrap (a2_0))] rfl (by (try simp only [List.map_toArray,List.map_cons,List.map_nil]);first|done|rfl|(simp only [List.length_drop,List.length_take];rfl)) ?_;(with_reducible refine (cmp_Compare_uint64.calls (IntKind.u64.wrap (a1_0)) (IntKind.u64.wrap (a2_0)) t111 _ A25.out).mono ?_);rintro e w' ⟨rfl,⟨nd,rfl⟩⟩;refine ⟨_,rfl,?_⟩))
      go_ret
      exact ⟨by first|rfl|(simp [errW_none,errW_some] <;> rfl)|(simp [*,errW_none,errW_some] <;> rfl),by repeat (first|(with_reducible first|exact HB.out|apply below_alloc|apply pw_below_drewN|apply below_drew1|refine below_set ?_ GE106.out|refine below_set ?_ GE107.out)|exact HB.out)⟩
     ·rw [if_neg c24] at H
      have c24b0 : (a0 == 2)=false:=beq_eq_false_iff_ne.mpr c24
      have c24b1 : (a0 != 2)=true:=bne_iff_ne.mpr c24
      replace H:=Option.bind_eq_some_iff.mp H
      obtain ⟨t112,A290,H⟩:=H
      replace H : (some t112)=some r:=H
      have A29:=Aside0.mk A290
      clear A290
      obtain rfl:=Option.some.inj H
      have hnb30:=NB106_107.out
      have hnc30:=NB107_106.out
      have hcz31_0 : wc.cell? ⟨gb106,0,none⟩=some (.int .i64 a1_0):=(blk_cell BK106.out 0).trans rfl
      have hcz31_1 : wc.cell? ⟨gb106,1,none⟩=some (.string a1_1):=(blk_cell BK106.out 1).trans rfl
      have hfz31_0:=blk_frozen BK106.out 0
      have hfz31_1:=blk_frozen BK106.out 1
      have hcz32_0 : wc.cell? ⟨gb107,0,none⟩=some (.int .i64 a2_0):=(blk_cell BK107.out 0).trans rfl
      have hcz32_1 : wc.cell? ⟨gb107,1,none⟩=some (.string a2_1):=(blk_cell BK107.out 1).trans rfl
      have hfz32_0:=blk_frozen BK107.out 0
      have hfz32_1:=blk_frozen BK107.out 1
      go_wp2_with (first|((with_reducible refine gate_callee (f:=26) rfl ?_);refine goesL_ (some 40) rfl rfl Tryd.func26 (by kernel_rfl) rfl #[.int .i64 a1_0,.int .i64 a2_0] rfl (by (try simp only [List.map_toArray,List.map_cons,List.map_nil]);first|done|rfl|(simp only [List.length_drop,List.length_take];rfl)) ?_;(with_reducible refine (cmp_Compare_int64.calls a1_0 a2_0 t112 _ A29.out).mono ?_);rintro e w' ⟨rfl,⟨nd,rfl⟩⟩;refine ⟨_,rfl,?_⟩))
      go_ret
      exact ⟨by first|rfl|(simp [errW_none,errW_some] <;> rfl)|(simp [*,errW_none,errW_some] <;> rfl),by repeat (first|(with_reducible first|exact HB.out|apply below_alloc|apply pw_below_drewN|apply below_drew1|refine below_set ?_ GE106.out|refine below_set ?_ GE107.out)|exact HB.out)⟩
def strconv_small.f (a0 : Int) : Option (ByteArray):=if a0 < 10 then (if 0≤a0 then (if a0≤(wrap64 (a0 + 1)) then (if (wrap64 (a0 + 1))≤36 then (some ((⟨#[48,49,50,51,52,53,54,55,56,57,97,98,99,100,101,102,103,104,105,106,107,108,109,110,111,112,113,114,115,116,117,118,119,120,121,122]⟩ : ByteArray).extract (a0 : Int).toNat ((wrap64 (a0 + 1)) : Int).toNat)) else (none)) else (none)) else (none)) else (if 0≤(wrap64 (a0 * 2)) then (if (wrap64 (a0 * 2))≤(wrap64 ((wrap64 (a0 * 2)) + 2)) then (if (wrap64 ((wrap64 (a0 * 2)) + 2))≤200 then (some ((⟨#[48,48,48,49,48,50,48,51,48,52,48,53,48,54,48,55,48,56,48,57,49,48,49,49,49,50,49,51,49,52,49,53,49,54,49,55,49,56,49,57,50,48,50,49,50,50,50,51,50,52,50,53,50,54,50,55,50,56,50,57,51,48,51,49,51,50,51,51,51,52,51,53,51,54,51,55,51,56,51,57,52,48,52,49,52,50,52,51,52,52,52,53,52,54,52,55,52,56,52,57,53,48,53,49,53,50,53,51,53,52,53,53,53,54,53,55,53,56,53,57,54,48,54,49,54,50,54,51,54,52,54,53,54,54,54,55,54,56,54,57,55,48,55,49,55,50,55,51,55,52,55,53,55,54,55,55,55,56,55,57,56,48,56,49,56,50,56,51,56,52,56,53,56,54,56,55,56,56,56,57,57,48,57,49,57,50,57,51,57,52,57,53,57,54,57,55,57,56,57,57]⟩ : ByteArray).extract ((wrap64 (a0 * 2)) : Int).toNat ((wrap64 ((wrap64 (a0 * 2)) + 2)) : Int).toNat)) else (none)) else (none)) else (none))
set_option maxHeartbeats 8000000 in
set_option maxRecDepth 100000 in
theorem strconv_small.calls (a0 : Int) (r : ByteArray) (w : World) (h : strconv_small.f a0=some r) :
  Calls Tryd.prog 52 #[.int .i64 a0] w fun e w'=>e=.returned (.string r)∧Drawn0 w w':=by
 have H : (if a0 < 10 then (if 0≤a0 then (if a0≤(wrap64 (a0 + 1)) then (if (wrap64 (a0 + 1))≤36 then (some ((⟨#[48,49,50,51,52,53,54,55,56,57,97,98,99,100,101,102,103,104,105,106,107,108,109,110,111,112,113,114,115,116,117,118,119,120,121,122]⟩ : ByteArray).extract (a0 : Int).toNat ((wrap64 (a0 + 1)) : Int).toNat)) else (none)) else (none)) else (none)) else (if 0≤(wrap64 (a0 * 2)) then (if (wrap64 (a0 * 2))≤(wrap64 ((wrap64 (a0 * 2)) + 2)) then (if (wrap64 ((wrap64 (a0 * 2)) + 2))≤200 then (some ((⟨#[48,48,48,49,48,50,48,51,48,52,48,53,48,54,48,55,48,56,48,57,49,48,49,49,49,50,49,51,49,52,49,53,49,54,49,55,49,56,49,57,50,48,50,49,50,50,50,51,50,52,50,53,50,54,50,55,50,56,50,57,51,48,51,49,51,50,51,51,51,52,51,53,51,54,51,55,51,56,51,57,52,48,52,49,52,50,52,51,52,52,52,53,52,54,52,55,52,56,52,57,53,48,53,49,53,50,53,51,53,52,53,53,53,54,53,55,53,56,53,57,54,48,54,49,54,50,54,51,54,52,54,53,54,54,54,55,54,56,54,57,55,48,55,49,55,50,55,51,55,52,55,53,55,54,55,55,55,56,55,57,56,48,56,49,56,50,56,51,56,52,56,53,56,54,56,55,56,56,56,57,57,48,57,49,57,50,57,51,57,52,57,53,57,54,57,55,57,56,57,57]⟩ : ByteArray).extract ((wrap64 (a0 * 2)) : Int).toNat ((wrap64 ((wrap64 (a0 * 2)) + 2)) : Int).toNat)) else (none)) else (none)) else (none)))=some r:=h
 clear h
 by_cases c2 : a0 < 10
 ·rw [if_pos c2] at H
  have c2b0 : decide (a0 < 10)=true:=decide_eq_true c2
  clear c2
  by_cases c3 : 0≤a0
  ·rw [if_pos c3] at H
   have c3b0:=eq_true c3
   have c3b1 : decide (0≤a0)=true:=decide_eq_true c3
   clear c3
   by_cases c4 : a0≤(wrap64 (a0 + 1))
   ·rw [if_pos c4] at H
    have c4b0:=eq_true c4
    have c4b1 : decide (a0≤(wrap64 (a0 + 1)))=true:=decide_eq_true c4
    by_cases c5 : (wrap64 (a0 + 1))≤36
    ·rw [if_pos c5] at H
     have c5b0:=eq_true c5
     have c5b1 : decide ((wrap64 (a0 + 1))≤36)=true:=decide_eq_true c5
     obtain rfl:=Option.some.inj H
     go_enter Tryd.func52,Tryd.ntmps52
     go_wp2
     go_ret
     exact ⟨by first|rfl|(simp;done)|(simp [*];done),by repeat (first|exact Drawn0.refl _|apply Drawn0.step)⟩
    ·rw [if_neg c5] at H
     exact absurd H (by simp)
   ·rw [if_neg c4] at H
    exact absurd H (by simp)
  ·rw [if_neg c3] at H
   exact absurd H (by simp)
 ·rw [if_neg c2] at H
  have c2b0 : decide (a0 < 10)=false:=decide_eq_false c2
  clear c2
  obtain ⟨ji6,hji6⟩ : ∃ j_ : Int,(wrap64 (a0 * 2))=j_:=⟨_,rfl⟩
  replace H : (if 0≤(ji6) then (if (ji6)≤(wrap64 ((ji6) + 2)) then (if (wrap64 ((ji6) + 2))≤200 then (some ((⟨#[48,48,48,49,48,50,48,51,48,52,48,53,48,54,48,55,48,56,48,57,49,48,49,49,49,50,49,51,49,52,49,53,49,54,49,55,49,56,49,57,50,48,50,49,50,50,50,51,50,52,50,53,50,54,50,55,50,56,50,57,51,48,51,49,51,50,51,51,51,52,51,53,51,54,51,55,51,56,51,57,52,48,52,49,52,50,52,51,52,52,52,53,52,54,52,55,52,56,52,57,53,48,53,49,53,50,53,51,53,52,53,53,53,54,53,55,53,56,53,57,54,48,54,49,54,50,54,51,54,52,54,53,54,54,54,55,54,56,54,57,55,48,55,49,55,50,55,51,55,52,55,53,55,54,55,55,55,56,55,57,56,48,56,49,56,50,56,51,56,52,56,53,56,54,56,55,56,56,56,57,57,48,57,49,57,50,57,51,57,52,57,53,57,54,57,55,57,56,57,57]⟩ : ByteArray).extract ((ji6) : Int).toNat ((wrap64 ((ji6) + 2)) : Int).toNat)) else (none)) else (none)) else (none))=some r:=by first|(rw [hji6] at H;exact H)|(simp only [hji6] at H ⊢;exact H)
  have hji6w : (IntKind.i64.wrap (a0 * 2))=ji6:=(i64_w _).trans hji6
  by_cases c7 : 0≤(ji6)
  ·rw [if_pos c7] at H
   have c7b0:=eq_true c7
   have c7b1 : decide (0≤(ji6))=true:=decide_eq_true c7
   clear c7
   by_cases c8 : (ji6)≤(wrap64 ((ji6) + 2))
   ·rw [if_pos c8] at H
    have c8b0:=eq_true c8
    have c8b1 : decide ((ji6)≤(wrap64 ((ji6) + 2)))=true:=decide_eq_true c8
    by_cases c9 : (wrap64 ((ji6) + 2))≤200
    ·rw [if_pos c9] at H
     have c9b0:=eq_true c9
     have c9b1 : decide ((wrap64 ((ji6) + 2))≤200)=true:=decide_eq_true c9
     obtain rfl:=Option.some.inj H
     go_enter Tryd.func52,Tryd.ntmps52
     go_wp2
     go_ret
     exact ⟨by first|rfl|(simp;done)|(simp only [← hji6] <;> (first|rfl|simp))|(simp [*];done),by repeat (first|exact Drawn0.refl _|apply Drawn0.step)⟩
    ·rw [if_neg c9] at H
     exact absurd H (by simp)
   ·rw [if_neg c8] at H
    exact absurd H (by simp)
  ·rw [if_neg c7] at H
   exact absurd H (by simp)
def strconv_log10Pow2.f (a0 : Int) : Option (Int):=some ((wrap64 (a0 * 78913)) / 262144)
set_option maxHeartbeats 8000000 in
set_option maxRecDepth 100000 in
theorem strconv_log10Pow2.calls (a0 : Int) (r : Int) (w : World) (h : strconv_log10Pow2.f a0=some r) :
  Calls Tryd.prog 65 #[.int .i64 a0] w fun e w'=>e=.returned (.int .i64 r)∧Drawn0 w w':=by
 have H : (some ((wrap64 (a0 * 78913)) / 262144))=some r:=h
 clear h
 obtain rfl:=Option.some.inj H
 go_enter Tryd.func65,Tryd.ntmps65
 go_wp2
 go_ret
 exact ⟨by first|rfl|(simp;done)|(simp [*];done),by repeat (first|exact Drawn0.refl _|apply Drawn0.step)⟩
mutual
def bits_Len64.j0 : Nat→Int→Int→Option (Int)
 | 0,_,_=>none
 | k + 1,x0,x2=>if x0 ≥ 65536 then (bits_Len64.j1 k (x0 / 65536) (wrap64 (x2 + 16))) else (bits_Len64.j1 k x0 x2)
def bits_Len64.j1 : Nat→Int→Int→Option (Int)
 | 0,_,_=>none
 | k + 1,x0,x2=>if x0 ≥ 256 then (if 0≤((x0 / 256) % 256) then (if ((x0 / 256) % 256) < 256 then (some (wrap64 ((wrap64 (x2 + 8)) + (wrap64 (bt (⟨#[0,1,2,2,3,3,3,3,4,4,4,4,4,4,4,4,5,5,5,5,5,5,5,5,5,5,5,5,5,5,5,5,6,6,6,6,6,6,6,6,6,6,6,6,6,6,6,6,6,6,6,6,6,6,6,6,6,6,6,6,6,6,6,6,7,7,7,7,7,7,7,7,7,7,7,7,7,7,7,7,7,7,7,7,7,7,7,7,7,7,7,7,7,7,7,7,7,7,7,7,7,7,7,7,7,7,7,7,7,7,7,7,7,7,7,7,7,7,7,7,7,7,7,7,7,7,7,7,8,8,8,8,8,8,8,8,8,8,8,8,8,8,8,8,8,8,8,8,8,8,8,8,8,8,8,8,8,8,8,8,8,8,8,8,8,8,8,8,8,8,8,8,8,8,8,8,8,8,8,8,8,8,8,8,8,8,8,8,8,8,8,8,8,8,8,8,8,8,8,8,8,8,8,8,8,8,8,8,8,8,8,8,8,8,8,8,8,8,8,8,8,8,8,8,8,8,8,8,8,8,8,8,8,8,8,8,8,8,8,8,8,8,8,8,8,8,8,8,8,8,8,8,8,8,8,8]⟩ : ByteArray) ((x0 / 256) % 256)))))) else (none)) else (none)) else (if 0≤((x0) % 256) then (if ((x0) % 256) < 256 then (some (wrap64 (x2 + (wrap64 (bt (⟨#[0,1,2,2,3,3,3,3,4,4,4,4,4,4,4,4,5,5,5,5,5,5,5,5,5,5,5,5,5,5,5,5,6,6,6,6,6,6,6,6,6,6,6,6,6,6,6,6,6,6,6,6,6,6,6,6,6,6,6,6,6,6,6,6,7,7,7,7,7,7,7,7,7,7,7,7,7,7,7,7,7,7,7,7,7,7,7,7,7,7,7,7,7,7,7,7,7,7,7,7,7,7,7,7,7,7,7,7,7,7,7,7,7,7,7,7,7,7,7,7,7,7,7,7,7,7,7,7,8,8,8,8,8,8,8,8,8,8,8,8,8,8,8,8,8,8,8,8,8,8,8,8,8,8,8,8,8,8,8,8,8,8,8,8,8,8,8,8,8,8,8,8,8,8,8,8,8,8,8,8,8,8,8,8,8,8,8,8,8,8,8,8,8,8,8,8,8,8,8,8,8,8,8,8,8,8,8,8,8,8,8,8,8,8,8,8,8,8,8,8,8,8,8,8,8,8,8,8,8,8,8,8,8,8,8,8,8,8,8,8,8,8,8,8,8,8,8,8,8,8,8,8,8,8,8,8]⟩ : ByteArray) ((x0) % 256)))))) else (none)) else (none))
end
def bits_Len64.f (k : Nat) (a0 : Int) : Option (Int):=if a0 ≥ 4294967296 then (bits_Len64.j0 k (a0 / 4294967296) 32) else (bits_Len64.j0 k a0 0)
theorem bits_Len64.mono_l : ∀ k,(∀ y0 y1,LeO (bits_Len64.j0 k y0 y1) (bits_Len64.j0 (k + 1) y0 y1))∧(∀ y0 y1,LeO (bits_Len64.j1 k y0 y1) (bits_Len64.j1 (k + 1) y0 y1))
 | 0=>⟨fun _ _ r h=>by simp [bits_Len64.j0] at h,fun _ _ r h=>by simp [bits_Len64.j1] at h⟩
 | k + 1=>by
  obtain ⟨ih0,ih1⟩:=bits_Len64.mono_l k
  refine ⟨?_,?_⟩
  ·intro y0 y1
   unfold bits_Len64.j0
   repeat' first
   | (with_reducible exact ih0 _ _)
   | (with_reducible exact ih1 _ _)
   | (with_reducible exact LeO.refl _)
   | (with_reducible exact LeO.none _)
   | (with_reducible refine LeO.ite ?_ ?_)
   | (with_reducible refine LeO.bind ?_ (fun _=>?_))
   | exact ih0 _ _
   | exact ih1 _ _
   | exact LeO.none _
   | refine LeO.ite ?_ ?_
   | refine LeO.bind ?_ (fun _=>?_)
  ·intro y0 y1
   unfold bits_Len64.j1
   repeat' first
   | (with_reducible exact ih0 _ _)
   | (with_reducible exact ih1 _ _)
   | (with_reducible exact LeO.refl _)
   | (with_reducible exact LeO.none _)
   | (with_reducible refine LeO.ite ?_ ?_)
   | (with_reducible refine LeO.bind ?_ (fun _=>?_))
   | exact ih0 _ _
   | exact ih1 _ _
   | exact LeO.none _
   | refine LeO.ite ?_ ?_
   | refine LeO.bind ?_ (fun _=>?_)
theorem bits_Len64.mono : ∀ a0 k,LeO (bits_Len64.f k a0) (bits_Len64.f (k + 1) a0):=by
 intro a0 k
 obtain ⟨ih0,ih1⟩:=bits_Len64.mono_l k
 unfold bits_Len64.f
 repeat' first
   | (with_reducible exact ih0 _ _)
   | (with_reducible exact ih1 _ _)
   | (with_reducible exact LeO.refl _)
   | (with_reducible exact LeO.none _)
   | (with_reducible refine LeO.ite ?_ ?_)
   | (with_reducible refine LeO.bind ?_ (fun _=>?_))
   | exact ih0 _ _
   | exact ih1 _ _
   | exact LeO.none _
   | refine LeO.ite ?_ ?_
   | refine LeO.bind ?_ (fun _=>?_)
set_option maxHeartbeats 8000000 in
set_option maxRecDepth 100000 in
theorem bits_Len64.calls (k : Nat) (a0 : Int) (r : Int) (w : World) (h : bits_Len64.f k a0=some r) :
  Calls Tryd.prog 66 #[.int .u64 a0] w fun e w'=>e=.returned (.int .i64 r)∧Drawn0 w w':=by
 have H : (if a0 ≥ 4294967296 then (bits_Len64.j0 k (a0 / 4294967296) 32) else (bits_Len64.j0 k a0 0))=some r:=h
 clear h
 have HC2:=Aside0.mk H
 clear H
 go_enter Tryd.func66,Tryd.ntmps66
 go_upto_if 4 with (fail)
 go_cut [0,2] (fun v0 v2 wc=>∃ (kq : Nat) (x0_1 : Int) (x2_1 : Int),v0=.int .u64 x0_1∧v2=.int .i64 x2_1∧Aside0 (bits_Len64.j0 kq x0_1 x2_1=some r)∧Aside0 (kq≤k)∧Drawn0 w wc)
 case first =>
  have H:=HC2.out
  clear HC2
  by_cases c3 : a0 ≥ 4294967296
  ·rw [if_pos c3] at H
   have c3b0 : decide (4294967296≤a0)=true:=decide_eq_true c3
   clear c3
   (first|rw [c3b0]|(simp only [i64_w,i32_w];rw [c3b0])|skip)
   have H':=Aside0.mk H
   clear H
   go_wp2
   go_meet
   case rel=>exact ⟨_,(a0 / 4294967296),(32),(by first|rfl|(simp;done)|(simp [*];done)),(by first|rfl|(simp;done)|(simp [*];done)),(by first|exact H'|(subst_vars;exact H')),⟨by first|omega|exact Nat.le_refl _⟩,by repeat (first|exact Drawn0.refl _|apply Drawn0.step)⟩
  ·rw [if_neg c3] at H
   have c3b0 : decide (4294967296≤a0)=false:=decide_eq_false c3
   clear c3
   (first|rw [c3b0]|(simp only [i64_w,i32_w];rw [c3b0])|skip)
   have H':=Aside0.mk H
   clear H
   go_wp2
   go_meet
   case rel=>exact ⟨_,(a0),(0),(by first|rfl|(simp;done)|(simp [*];done)),(by first|rfl|(simp;done)|(simp [*];done)),(by first|exact H'|(subst_vars;exact H')),⟨by first|omega|exact Nat.le_refl _⟩,by repeat (first|exact Drawn0.refl _|apply Drawn0.step)⟩
 case rest =>
  clear HC2
  try clear p2
  try clear c3
  try clear c3b0
  obtain ⟨kq,x0_1,x2_1,rfl,rfl,HA,HJ1,⟨mc1,rfl⟩⟩:=hcut
  cases kq with
  | zero=>exact absurd HA.out (by simp [bits_Len64.j0])
  | succ kj1 =>
   have H:=HA.out
   clear HA
   simp only [bits_Len64.j0] at H
   have HC4:=Aside0.mk H
   clear H
   go_upto_if 8 with (fail)
   go_cut [0,2] (fun v0 v2 wc=>∃ (kq : Nat) (x0_3 : Int) (x2_3 : Int),v0=.int .u64 x0_3∧v2=.int .i64 x2_3∧Aside0 (bits_Len64.j1 kq x0_3 x2_3=some r)∧Aside0 (kq≤kj1)∧Drawn0 w wc)
   case first =>
    have H:=HC4.out
    clear HC4
    by_cases c5 : x0_1 ≥ 65536
    ·rw [if_pos c5] at H
     have c5b0 : decide (65536≤x0_1)=true:=decide_eq_true c5
     clear c5
     (first|rw [c5b0]|(simp only [i64_w,i32_w];rw [c5b0])|skip)
     have H':=Aside0.mk H
     clear H
     go_wp2
     go_meet
     case rel=>exact ⟨_,(x0_1 / 65536),(wrap64 (x2_1 + 16)),(by first|rfl|(simp;done)|(simp [*];done)),(by first|rfl|(simp;done)|(simp [*];done)),(by first|exact H'|(subst_vars;exact H')),⟨by have:=HJ1.out;first|omega|exact Nat.le_refl _⟩,by repeat (first|exact Drawn0.refl _|apply Drawn0.step)⟩
    ·rw [if_neg c5] at H
     have c5b0 : decide (65536≤x0_1)=false:=decide_eq_false c5
     clear c5
     (first|rw [c5b0]|(simp only [i64_w,i32_w];rw [c5b0])|skip)
     have H':=Aside0.mk H
     clear H
     go_wp2
     go_meet
     case rel=>exact ⟨_,(x0_1),(x2_1),(by first|rfl|(simp;done)|(simp [*];done)),(by first|rfl|(simp;done)|(simp [*];done)),(by first|exact H'|(subst_vars;exact H')),⟨by have:=HJ1.out;first|omega|exact Nat.le_refl _⟩,by repeat (first|exact Drawn0.refl _|apply Drawn0.step)⟩
   case rest =>
    clear HC4
    try clear c1
    try clear p2
    try clear c3
    try clear c3b0
    try clear c5
    try clear c5b0
    try clear p2
    obtain ⟨kq,x0_3,x2_3,rfl,rfl,HA,HJ3,⟨mc3,rfl⟩⟩:=hcut
    cases kq with
    | zero=>exact absurd HA.out (by simp [bits_Len64.j1])
    | succ kj3 =>
     have H:=HA.out
     clear HA
     simp only [bits_Len64.j1] at H
     by_cases c6 : x0_3 ≥ 256
     ·rw [if_pos c6] at H
      have c6b0 : decide (256≤x0_3)=true:=decide_eq_true c6
      clear c6
      obtain ⟨ji7,hji7⟩ : ∃ j_ : Int,((x0_3 / 256) % 256)=j_:=⟨_,rfl⟩
      replace H : (if 0≤(ji7) then (if (ji7) < 256 then (some (wrap64 ((wrap64 (x2_3 + 8)) + (wrap64 (bt (⟨#[0,1,2,2,3,3,3,3,4,4,4,4,4,4,4,4,5,5,5,5,5,5,5,5,5,5,5,5,5,5,5,5,6,6,6,6,6,6,6,6,6,6,6,6,6,6,6,6,6,6,6,6,6,6,6,6,6,6,6,6,6,6,6,6,7,7,7,7,7,7,7,7,7,7,7,7,7,7,7,7,7,7,7,7,7,7,7,7,7,7,7,7,7,7,7,7,7,7,7,7,7,7,7,7,7,7,7,7,7,7,7,7,7,7,7,7,7,7,7,7,7,7,7,7,7,7,7,7,8,8,8,8,8,8,8,8,8,8,8,8,8,8,8,8,8,8,8,8,8,8,8,8,8,8,8,8,8,8,8,8,8,8,8,8,8,8,8,8,8,8,8,8,8,8,8,8,8,8,8,8,8,8,8,8,8,8,8,8,8,8,8,8,8,8,8,8,8,8,8,8,8,8,8,8,8,8,8,8,8,8,8,8,8,8,8,8,8,8,8,8,8,8,8,8,8,8,8,8,8,8,8,8,8,8,8,8,8,8,8,8,8,8,8,8,8,8,8,8,8,8,8,8,8,8,8,8]⟩ : ByteArray) (ji7)))))) else (none)) else (none))=some r:=by first|(rw [hji7] at H;exact H)|(simp only [hji7] at H ⊢;exact H)
      by_cases c8 : 0≤(ji7)
      ·rw [if_pos c8] at H
       have c8b0 : decide (0≤(ji7))=true:=decide_eq_true c8
       clear c8
       by_cases c9 : (ji7) < 256
       ·rw [if_pos c9] at H
        have c9b0 : decide ((ji7) < 256)=true:=decide_eq_true c9
        clear c9
        obtain rfl:=Option.some.inj H
        have p10 : 0≤((ji7) : Int):=of_decide_eq_true (by first|(with_reducible assumption)|assumption)
        have q10 : (ji7) < (256 : Int):=of_decide_eq_true (by first|(with_reducible assumption)|assumption)
        have hx10:=bt_at (⟨#[0,1,2,2,3,3,3,3,4,4,4,4,4,4,4,4,5,5,5,5,5,5,5,5,5,5,5,5,5,5,5,5,6,6,6,6,6,6,6,6,6,6,6,6,6,6,6,6,6,6,6,6,6,6,6,6,6,6,6,6,6,6,6,6,7,7,7,7,7,7,7,7,7,7,7,7,7,7,7,7,7,7,7,7,7,7,7,7,7,7,7,7,7,7,7,7,7,7,7,7,7,7,7,7,7,7,7,7,7,7,7,7,7,7,7,7,7,7,7,7,7,7,7,7,7,7,7,7,8,8,8,8,8,8,8,8,8,8,8,8,8,8,8,8,8,8,8,8,8,8,8,8,8,8,8,8,8,8,8,8,8,8,8,8,8,8,8,8,8,8,8,8,8,8,8,8,8,8,8,8,8,8,8,8,8,8,8,8,8,8,8,8,8,8,8,8,8,8,8,8,8,8,8,8,8,8,8,8,8,8,8,8,8,8,8,8,8,8,8,8,8,8,8,8,8,8,8,8,8,8,8,8,8,8,8,8,8,8,8,8,8,8,8,8,8,8,8,8,8,8,8,8,8,8,8,8]⟩ : ByteArray) (ji7)
        replace p10:=eq_true p10
        replace q10:=eq_true q10
        go_wp2
        go_ret
        exact ⟨by first|rfl|(simp;done)|(simp only [← hji7] <;> (first|rfl|simp))|(simp [*];done),by repeat (first|exact Drawn0.refl _|apply Drawn0.step)⟩
       ·rw [if_neg c9] at H
        exact absurd H (by simp)
      ·rw [if_neg c8] at H
       exact absurd H (by simp)
     ·rw [if_neg c6] at H
      have c6b0 : decide (256≤x0_3)=false:=decide_eq_false c6
      clear c6
      obtain ⟨ji11,hji11⟩ : ∃ j_ : Int,((x0_3) % 256)=j_:=⟨_,rfl⟩
      replace H : (if 0≤(ji11) then (if (ji11) < 256 then (some (wrap64 (x2_3 + (wrap64 (bt (⟨#[0,1,2,2,3,3,3,3,4,4,4,4,4,4,4,4,5,5,5,5,5,5,5,5,5,5,5,5,5,5,5,5,6,6,6,6,6,6,6,6,6,6,6,6,6,6,6,6,6,6,6,6,6,6,6,6,6,6,6,6,6,6,6,6,7,7,7,7,7,7,7,7,7,7,7,7,7,7,7,7,7,7,7,7,7,7,7,7,7,7,7,7,7,7,7,7,7,7,7,7,7,7,7,7,7,7,7,7,7,7,7,7,7,7,7,7,7,7,7,7,7,7,7,7,7,7,7,7,8,8,8,8,8,8,8,8,8,8,8,8,8,8,8,8,8,8,8,8,8,8,8,8,8,8,8,8,8,8,8,8,8,8,8,8,8,8,8,8,8,8,8,8,8,8,8,8,8,8,8,8,8,8,8,8,8,8,8,8,8,8,8,8,8,8,8,8,8,8,8,8,8,8,8,8,8,8,8,8,8,8,8,8,8,8,8,8,8,8,8,8,8,8,8,8,8,8,8,8,8,8,8,8,8,8,8,8,8,8,8,8,8,8,8,8,8,8,8,8,8,8,8,8,8,8,8,8]⟩ : ByteArray) (ji11)))))) else (none)) else (none))=some r:=by first|(rw [hji11] at H;exact H)|(simp only [hji11] at H ⊢;exact H)
      by_cases c12 : 0≤(ji11)
      ·rw [if_pos c12] at H
       have c12b0 : decide (0≤(ji11))=true:=decide_eq_true c12
       clear c12
       by_cases c13 : (ji11) < 256
       ·rw [if_pos c13] at H
        have c13b0 : decide ((ji11) < 256)=true:=decide_eq_true c13
        clear c13
        obtain rfl:=Option.some.inj H
        have p14 : 0≤((ji11) : Int):=of_decide_eq_true (by first|(with_reducible assumption)|assumption)
        have q14 : (ji11) < (256 : Int):=of_decide_eq_true (by first|(with_reducible assumption)|assumption)
        have hx14:=bt_at (⟨#[0,1,2,2,3,3,3,3,4,4,4,4,4,4,4,4,5,5,5,5,5,5,5,5,5,5,5,5,5,5,5,5,6,6,6,6,6,6,6,6,6,6,6,6,6,6,6,6,6,6,6,6,6,6,6,6,6,6,6,6,6,6,6,6,7,7,7,7,7,7,7,7,7,7,7,7,7,7,7,7,7,7,7,7,7,7,7,7,7,7,7,7,7,7,7,7,7,7,7,7,7,7,7,7,7,7,7,7,7,7,7,7,7,7,7,7,7,7,7,7,7,7,7,7,7,7,7,7,8,8,8,8,8,8,8,8,8,8,8,8,8,8,8,8,8,8,8,8,8,8,8,8,8,8,8,8,8,8,8,8,8,8,8,8,8,8,8,8,8,8,8,8,8,8,8,8,8,8,8,8,8,8,8,8,8,8,8,8,8,8,8,8,8,8,8,8,8,8,8,8,8,8,8,8,8,8,8,8,8,8,8,8,8,8,8,8,8,8,8,8,8,8,8,8,8,8,8,8,8,8,8,8,8,8,8,8,8,8,8,8,8,8,8,8,8,8,8,8,8,8,8,8,8,8,8,8]⟩ : ByteArray) (ji11)
        replace p14:=eq_true p14
        replace q14:=eq_true q14
        go_wp2
        go_ret
        exact ⟨by first|rfl|(simp;done)|(simp only [← hji11] <;> (first|rfl|simp))|(simp [*];done),by repeat (first|exact Drawn0.refl _|apply Drawn0.step)⟩
       ·rw [if_neg c13] at H
        exact absurd H (by simp)
      ·rw [if_neg c12] at H
       exact absurd H (by simp)
def strconv_bool2_int.f (a0 : Bool) : Option (Int):=if a0=true then (some 1) else (some 0)
set_option maxHeartbeats 8000000 in
set_option maxRecDepth 100000 in
theorem strconv_bool2_int.calls (a0 : Bool) (r : Int) (w : World) (h : strconv_bool2_int.f a0=some r) :
  Calls Tryd.prog 67 #[.bool a0] w fun e w'=>e=.returned (.int .i64 r)∧Drawn0 w w':=by
 have H : (if a0=true then (some 1) else (some 0))=some r:=h
 clear h
 by_cases c2 : a0=true
 ·subst c2
  have H1 : (some 1)=some r:=by rw [if_pos rfl] at H;exact H
  clear H
  have H:=H1
  clear H1
  obtain rfl:=Option.some.inj H
  go_enter Tryd.func67,Tryd.ntmps67
  go_wp2
  go_ret
  exact ⟨by first|rfl|(simp;done)|(simp [*];done),by repeat (first|exact Drawn0.refl _|apply Drawn0.step)⟩
 ·replace c2:=Bool.eq_false_iff.mpr c2
  subst c2
  have H1 : (some 0)=some r:=by rw [if_neg (show ¬ (false=true) by decide)] at H;exact H
  clear H
  have H:=H1
  clear H1
  obtain rfl:=Option.some.inj H
  go_enter Tryd.func67,Tryd.ntmps67
  go_wp2
  go_ret
  exact ⟨by first|rfl|(simp;done)|(simp [*];done),by repeat (first|exact Drawn0.refl _|apply Drawn0.step)⟩
def strconv_isPowerOfTwo.f (a0 : Int) : Option (Bool):=some ((Go.bits .and .i64 a0 (wrap64 (a0 - 1))) == 0)
set_option maxHeartbeats 8000000 in
set_option maxRecDepth 100000 in
theorem strconv_isPowerOfTwo.calls (a0 : Int) (r : Bool) (w : World) (h : strconv_isPowerOfTwo.f a0=some r) :
  Calls Tryd.prog 68 #[.int .i64 a0] w fun e w'=>e=.returned (.bool r)∧Drawn0 w w':=by
 have H : (some ((Go.bits .and .i64 a0 (wrap64 (a0 - 1))) == 0))=some r:=h
 clear h
 obtain rfl:=Option.some.inj H
 go_enter Tryd.func68,Tryd.ntmps68
 go_wp2
 go_ret
 exact ⟨by first|rfl|(simp;done)|(simp [*];done),by repeat (first|exact Drawn0.refl _|apply Drawn0.step)⟩
end Go.Proofs.YtifpjhghbafcjaaDoor.P

