/- Texts of MergeFirst. Merged: Px12. -/
import Derived.Test.YtfiandejapgkoaaQMergeFirstPx0
import Derived.Test.YtfiandejapgkoaaQMergeFirstPx11
import Derived.Test.YtfiandejapgkoaaMMergeFirst0
namespace Go.Proofs.Ytfiandejapgkoaa.P
open Go.RowKit Go.Proofs.YtfiandejapgkoaaW.PrintWords Go.Proofs.YtfiandejapgkoaaW.PrintLast Go.Proofs.YtfiandejapgkoaaW.PrintMore
attribute [local go_sem] max2_int min2_int max_two min_two max_three min_three max_four min_four   -- for this text's walks alone
set_option linter.unusedVariables false
set_option linter.unusedSimpArgs false
def value_Compare.j0 : Nat→Int→Bool→Int→ByteArray→Int→ByteArray→Option (Int)
 | 0,_,_,_,_,_,_=>none
 | k + 1,x0,x7,x310000,x310001,x311000,x311001=>if x7=true then (some 0) else (if x0=3 then ((strings_Compare.f x310001 x311001).bind fun t313=>(some t313)) else (if x0=2 then ((cmp_Compare_uint64.f (IntKind.u64.wrap (x310000)) (IntKind.u64.wrap (x311000))).bind fun t314=>(some t314)) else ((cmp_Compare_int64.f x310000 x311000).bind fun t315=>(some t315))))
def value_Compare.f (k : Nat) (a0 : Int) (a1_0 : Int) (a1_1 : ByteArray) (a2_0 : Int) (a2_1 : ByteArray) : Option (Int):=(value_Fits.f k a0 a1_0 a1_1).bind fun t311=>(if t311=true then ((value_Fits.f k a0 a2_0 a2_1).bind fun t312=>(value_Compare.j0 k a0 (!t312) a1_0 a1_1 a2_0 a2_1)) else (value_Compare.j0 k a0 true a1_0 a1_1 a2_0 a2_1))
theorem value_Compare.mono_l : ∀ k,(∀ y0 y1 y2 y3 y4 y5,LeO (value_Compare.j0 k y0 y1 y2 y3 y4 y5) (value_Compare.j0 (k + 1) y0 y1 y2 y3 y4 y5))
 | 0=>fun _ _ _ _ _ _ r h=>by simp [value_Compare.j0] at h
 | k + 1=>by
  have ih0:=value_Compare.mono_l k
  ·intro y0 y1 y2 y3 y4 y5
   unfold value_Compare.j0
   repeat' first
   | (with_reducible exact ih0 _ _ _ _ _ _)
   | (with_reducible exact value_Fits.mono _ _ _ _)
   | (with_reducible exact LeO.refl _)
   | (with_reducible exact LeO.none _)
   | (with_reducible refine LeO.ite ?_ ?_)
   | (with_reducible refine LeO.bind ?_ (fun _=>?_))
   | exact ih0 _ _ _ _ _ _
   | exact value_Fits.mono _ _ _ _
   | exact LeO.none _
   | refine LeO.ite ?_ ?_
   | refine LeO.bind ?_ (fun _=>?_)
theorem value_Compare.mono : ∀ a0 a1 a2 a3 a4 k,LeO (value_Compare.f k a0 a1 a2 a3 a4) (value_Compare.f (k + 1) a0 a1 a2 a3 a4):=by
 intro a0 a1 a2 a3 a4 k
 have ih0:=value_Compare.mono_l k
 unfold value_Compare.f
 repeat' first
   | (with_reducible exact ih0 _ _ _ _ _ _)
   | (with_reducible exact value_Fits.mono _ _ _ _)
   | (with_reducible exact LeO.refl _)
   | (with_reducible exact LeO.none _)
   | (with_reducible refine LeO.ite ?_ ?_)
   | (with_reducible refine LeO.bind ?_ (fun _=>?_))
   | exact ih0 _ _ _ _ _ _
   | exact value_Fits.mono _ _ _ _
   | exact LeO.none _
   | refine LeO.ite ?_ ?_
   | refine LeO.bind ?_ (fun _=>?_)
set_option maxHeartbeats 8000000 in
set_option maxRecDepth 100000 in
theorem value_Compare.calls (k : Nat) (a0 : Int) (a1_0 : Int) (a1_1 : ByteArray) (a2_0 : Int) (a2_1 : ByteArray) (r : Int) (w : World) (h : value_Compare.f k a0 a1_0 a1_1 a2_0 a2_1=some r) :
  Calls Try.prog 36 #[.int .i64 a0,.agg #[.int .i64 a1_0,.string a1_1],.agg #[.int .i64 a2_0,.string a2_1]] w fun e w'=>e=.returned (.int .i64 r)∧Below w.heap.size w w':=by
 have hu31:=Try.underlying31
 have HB:=Aside0.mk (Below.refl w.heap.size w)
 have H : ((value_Fits.f k a0 a1_0 a1_1).bind fun t311=>(if t311=true then ((value_Fits.f k a0 a2_0 a2_1).bind fun t312=>(value_Compare.j0 k a0 (!t312) a1_0 a1_1 a2_0 a2_1)) else (value_Compare.j0 k a0 true a1_0 a1_1 a2_0 a2_1)))=some r:=h
 clear h
 have HC4:=Aside0.mk H
 clear H
 go_enter Try.func36,Try.ntmps36
 go_upto_region 1 with (first|((with_reducible refine gate_dst (N:=4) rfl ?_);refine box_event ?hg (N:=4) ?hd (cs:=#[.int .i64 a1_0,.string a1_1]) (t:=31) ?hr ?_;(case hd=>rfl);(case hg=>rfl);(case hr=>first|(go_simp;done)|(go_simp;rfl));intro gb309 hg w5 hbox hb;have n0_:=Aside0.mk (below_step (below_up HB.out) hb);have n1_:=Aside0.mk (hbox);have n2_:=Aside0.mk ((by rw [hg];exact (below_size (below_up HB.out)) : w.heap.size≤gb309));have n3_:=Aside0.mk ((by rw [hg];exact (below_size (below_up HB.out)) : w.heap.size≤gb309));clear HB;have HB:=n0_;have BK309:=n1_;have GW309:=n2_;have GE309:=n3_;clear n0_ n1_ n2_ n3_;clear hb hbox hg)|((with_reducible refine gate_dst (N:=5) rfl ?_);refine box_event ?hg (N:=5) ?hd (cs:=#[.int .i64 a2_0,.string a2_1]) (t:=31) ?hr ?_;(case hd=>rfl);(case hg=>rfl);(case hr=>first|(go_simp;done)|(go_simp;rfl));intro gb310 hg w6 hbox hb;have n0_:=Aside0.mk (blk_below (blk_up BK309.out) hb);have n1_:=Aside0.mk (below_step (below_go HB.out) hb);have n2_:=Aside0.mk (hbox);have n3_:=Aside0.mk ((by rw [hg];exact (below_size (below_go HB.out)) : w.heap.size≤gb310));have n4_:=Aside0.mk ((by rw [hg];exact (below_size (below_go HB.out)) : w.heap.size≤gb310));have n5_:=Aside0.mk ((by rw [hg];exact Nat.ne_of_lt (blk_lt (blk_up BK309.out)) : gb309≠gb310));have n6_:=Aside0.mk ((by rw [hg];exact Nat.ne_of_gt (blk_lt (blk_up BK309.out)) : gb310≠gb309));clear BK309;clear HB;have BK309:=n0_;have HB:=n1_;have BK310:=n2_;have GW310:=n3_;have GE310:=n4_;have NB309_310:=n5_;have NB310_309:=n6_;clear n0_ n1_ n2_ n3_ n4_ n5_ n6_;clear hb hbox hg))
 (try simp only [Act.put,List.setIfInBounds_toArray,List.set_cons_zero,List.set_cons_succ])
 go_cut [7] (fun v7 wc=>∃ (kq : Nat) (x7_3 : Bool),v7=.bool x7_3∧Aside0 (value_Compare.j0 kq a0 x7_3 a1_0 a1_1 a2_0 a2_1=some r)∧Aside0 (kq≤k)∧Aside0 (wc.heap[gb309]?=some (.cells #[.int .i64 a1_0,.string a1_1] 31 (0,0)))∧Aside0 (wc.heap[gb310]?=some (.cells #[.int .i64 a2_0,.string a2_1] 31 (0,0)))∧Aside0 (Below w.heap.size w wc))
 case first =>
  have H:=HC4.out
  clear HC4
  replace H:=Option.bind_eq_some_iff.mp H
  obtain ⟨t311,A70,H⟩:=H
  replace H : (if t311=true then ((value_Fits.f k a0 a2_0 a2_1).bind fun t312=>(value_Compare.j0 k a0 (!t312) a1_0 a1_1 a2_0 a2_1)) else (value_Compare.j0 k a0 true a1_0 a1_1 a2_0 a2_1))=some r:=H
  have A7:=Aside0.mk A70
  clear A70
  by_cases c8 : t311=true
  ·subst c8
   have H1 : ((value_Fits.f k a0 a2_0 a2_1).bind fun t312=>(value_Compare.j0 k a0 (!t312) a1_0 a1_1 a2_0 a2_1))=some r:=by rw [if_pos rfl] at H;exact H
   clear H
   have H:=H1
   clear H1
   replace H:=Option.bind_eq_some_iff.mp H
   obtain ⟨t312,A90,H⟩:=H
   replace H : (value_Compare.j0 k a0 (!t312) a1_0 a1_1 a2_0 a2_1)=some r:=H
   have A9:=Aside0.mk A90
   clear A90
   have H':=Aside0.mk H
   clear H
   have hnb10:=NB309_310.out
   have hnc10:=NB310_309.out
   have hcz11_0 : w6.cell? ⟨gb309,0,none⟩=some (.int .i64 a1_0):=(blk_cell BK309.out 0).trans rfl
   have hcz11_1 : w6.cell? ⟨gb309,1,none⟩=some (.string a1_1):=(blk_cell BK309.out 1).trans rfl
   have hfz11_0:=blk_frozen BK309.out 0
   have hfz11_1:=blk_frozen BK309.out 1
   go_wp2_with (first|((with_reducible refine gate_callee (f:=41) rfl ?_);refine goesL_ (some 10) rfl rfl Try.func41 (by kernel_rfl) rfl #[.int .i64 a0,.agg #[.int .i64 a1_0,.string a1_1]] rfl (by (try simp only [List.map_toArray,List.map_cons,List.map_nil]);first|done|rfl|(simp only [List.length_drop,List.length_take];rfl)) ?_;(with_reducible refine (value_Fits.calls k a0 a1_0 a1_1 true _ A7.out).mono ?_);rintro e w12 ⟨rfl,hb⟩;refine ⟨_,rfl,?_⟩;have n0_:=Aside0.mk (blk_below (blk_up BK309.out) hb);have n1_:=Aside0.mk (blk_below (blk_up BK310.out) hb);have n2_:=Aside0.mk (below_step (below_go HB.out) hb);clear BK309;clear BK310;clear HB;have BK309:=n0_;have BK310:=n1_;have HB:=n2_;clear n0_ n1_ n2_;(try clear hb);(try clear hb2);(try clear hk);(try clear hi);have hcz13_0 : w12.cell? ⟨gb310,0,none⟩=some (.int .i64 a2_0):=(blk_cell BK310.out 0).trans rfl;have hcz13_1 : w12.cell? ⟨gb310,1,none⟩=some (.string a2_1):=(blk_cell BK310.out 1).trans rfl;have hfz13_0:=blk_frozen BK310.out 0;have hfz13_1:=blk_frozen BK310.out 1)|(go_at_call 41;(with_reducible refine (value_Fits.calls k a0 a2_0 a2_1 t312 _ A9.out).mono ?_);rintro e w14 ⟨rfl,hb⟩;have n0_:=Aside0.mk (blk_below (blk_up BK309.out) hb);have n1_:=Aside0.mk (blk_below (blk_up BK310.out) hb);have n2_:=Aside0.mk (below_step (below_go HB.out) hb);clear BK309;clear BK310;clear HB;have BK309:=n0_;have BK310:=n1_;have HB:=n2_;clear n0_ n1_ n2_;(try clear hb);(try clear hb2);(try clear hk);(try clear hi)))
   go_meet
   case rel=>exact ⟨_,(!t312),(by first|rfl|(simp;done)|(simp [*];done)),(by first|exact H'|(subst_vars;exact H')),⟨by first|omega|exact Nat.le_refl _⟩,⟨by (with_reducible repeat (first|refine blk_drewN ?_ _|refine blk_drew ?_|refine blk_alloc ?_ _));exact BK309.out⟩,⟨by (with_reducible repeat (first|refine blk_drewN ?_ _|refine blk_drew ?_|refine blk_alloc ?_ _));exact BK310.out⟩,⟨by repeat (first|(with_reducible first|exact HB.out|apply below_alloc|apply pw_below_drewN|apply below_drew1|refine below_set ?_ GE309.out|refine below_set ?_ GE310.out)|exact HB.out)⟩⟩
  ·replace c8:=Bool.eq_false_iff.mpr c8
   subst c8
   have H1 : (value_Compare.j0 k a0 true a1_0 a1_1 a2_0 a2_1)=some r:=by rw [if_neg (show ¬ (false=true) by decide)] at H;exact H
   clear H
   have H:=H1
   clear H1
   have H':=Aside0.mk H
   clear H
   have hnb15:=NB309_310.out
   have hnc15:=NB310_309.out
   have hcz16_0 : w6.cell? ⟨gb309,0,none⟩=some (.int .i64 a1_0):=(blk_cell BK309.out 0).trans rfl
   have hcz16_1 : w6.cell? ⟨gb309,1,none⟩=some (.string a1_1):=(blk_cell BK309.out 1).trans rfl
   have hfz16_0:=blk_frozen BK309.out 0
   have hfz16_1:=blk_frozen BK309.out 1
   go_wp2_with (first|((with_reducible refine gate_callee (f:=41) rfl ?_);refine goesL_ (some 10) rfl rfl Try.func41 (by kernel_rfl) rfl #[.int .i64 a0,.agg #[.int .i64 a1_0,.string a1_1]] rfl (by (try simp only [List.map_toArray,List.map_cons,List.map_nil]);first|done|rfl|(simp only [List.length_drop,List.length_take];rfl)) ?_;(with_reducible refine (value_Fits.calls k a0 a1_0 a1_1 false _ A7.out).mono ?_);rintro e w17 ⟨rfl,hb⟩;refine ⟨_,rfl,?_⟩;have n0_:=Aside0.mk (blk_below (blk_up BK309.out) hb);have n1_:=Aside0.mk (blk_below (blk_up BK310.out) hb);have n2_:=Aside0.mk (below_step (below_go HB.out) hb);clear BK309;clear BK310;clear HB;have BK309:=n0_;have BK310:=n1_;have HB:=n2_;clear n0_ n1_ n2_;(try clear hb);(try clear hb2);(try clear hk);(try clear hi)))
   go_meet
   case rel=>exact ⟨_,(true),(by first|rfl|(simp;done)|(simp [*];done)),(by first|exact H'|(subst_vars;exact H')),⟨by first|omega|exact Nat.le_refl _⟩,⟨by (with_reducible repeat (first|refine blk_drewN ?_ _|refine blk_drew ?_|refine blk_alloc ?_ _));exact BK309.out⟩,⟨by (with_reducible repeat (first|refine blk_drewN ?_ _|refine blk_drew ?_|refine blk_alloc ?_ _));exact BK310.out⟩,⟨by repeat (first|(with_reducible first|exact HB.out|apply below_alloc|apply pw_below_drewN|apply below_drew1|refine below_set ?_ GE309.out|refine below_set ?_ GE310.out)|exact HB.out)⟩⟩
 case rest =>
  clear HC4
  try clear c1
  try clear p2
  try clear c3
  try clear c4
  try clear c8
  try clear c10
  try clear c15
  try clear hcz11_0
  try clear hcz11_1
  try clear hcz13_0
  try clear hcz13_1
  try clear hcz16_0
  try clear hcz16_1
  try clear hfz11_0
  try clear hfz11_1
  try clear hfz13_0
  try clear hfz13_1
  try clear hfz16_0
  try clear hfz16_1
  obtain ⟨kq,x7_3,rfl,HA,HJ3,BK309,BK310,HB⟩:=hcut
  cases kq with
  | zero=>exact absurd HA.out (by simp [value_Compare.j0])
  | succ kj3 =>
   have H:=HA.out
   clear HA
   simp only [value_Compare.j0] at H
   by_cases c18 : x7_3=true
   ·subst c18
    have H1 : (some 0)=some r:=by rw [if_pos rfl] at H;exact H
    clear H
    have H:=H1
    clear H1
    obtain rfl:=Option.some.inj H
    go_wp2
    go_ret
    exact ⟨by first|rfl|(simp [errW_none,errW_some] <;> rfl)|(simp [*,errW_none,errW_some] <;> rfl),by repeat (first|(with_reducible first|exact HB.out|apply below_alloc|apply pw_below_drewN|apply below_drew1|refine below_set ?_ GE309.out|refine below_set ?_ GE310.out)|exact HB.out)⟩
   ·replace c18:=Bool.eq_false_iff.mpr c18
    subst c18
    have H1 : (if a0=3 then ((strings_Compare.f a1_1 a2_1).bind fun t313=>(some t313)) else (if a0=2 then ((cmp_Compare_uint64.f (IntKind.u64.wrap (a1_0)) (IntKind.u64.wrap (a2_0))).bind fun t314=>(some t314)) else ((cmp_Compare_int64.f a1_0 a2_0).bind fun t315=>(some t315))))=some r:=by rw [if_neg (show ¬ (false=true) by decide)] at H;exact H
    clear H
    have H:=H1
    clear H1
    by_cases c19 : a0=3
    ·rw [if_pos c19] at H
     have c19b0 : (a0 == 3)=true:=beq_iff_eq.mpr c19
     have c19b1 : (a0 != 3)=false:=bne_eq_false_iff_eq.mpr c19
     clear c19
     replace H:=Option.bind_eq_some_iff.mp H
     obtain ⟨t313,A200,H⟩:=H
     replace H : (some t313)=some r:=H
     have A20:=Aside0.mk A200
     clear A200
     obtain rfl:=Option.some.inj H
     have hnb21:=NB309_310.out
     have hnc21:=NB310_309.out
     have hcz22_0 : wc.cell? ⟨gb309,0,none⟩=some (.int .i64 a1_0):=(blk_cell BK309.out 0).trans rfl
     have hcz22_1 : wc.cell? ⟨gb309,1,none⟩=some (.string a1_1):=(blk_cell BK309.out 1).trans rfl
     have hfz22_0:=blk_frozen BK309.out 0
     have hfz22_1:=blk_frozen BK309.out 1
     have hcz23_0 : wc.cell? ⟨gb310,0,none⟩=some (.int .i64 a2_0):=(blk_cell BK310.out 0).trans rfl
     have hcz23_1 : wc.cell? ⟨gb310,1,none⟩=some (.string a2_1):=(blk_cell BK310.out 1).trans rfl
     have hfz23_0:=blk_frozen BK310.out 0
     have hfz23_1:=blk_frozen BK310.out 1
     go_wp2_with (first|((with_reducible refine gate_callee (f:=42) rfl ?_);refine goesL_ (some 25) rfl rfl Try.func42 (by kernel_rfl) rfl #[.string a1_1,.string a2_1] rfl (by (try simp only [List.map_toArray,List.map_cons,List.map_nil]);first|done|rfl|(simp only [List.length_drop,List.length_take];rfl)) ?_;(with_reducible refine (strings_Compare.calls a1_1 a2_1 t313 _ A20.out).mono ?_);rintro e w' ⟨rfl,⟨nd,rfl⟩⟩;refine ⟨_,rfl,?_⟩))
     go_ret
     exact ⟨by first|rfl|(simp [errW_none,errW_some] <;> rfl)|(simp [*,errW_none,errW_some] <;> rfl),by repeat (first|(with_reducible first|exact HB.out|apply below_alloc|apply pw_below_drewN|apply below_drew1|refine below_set ?_ GE309.out|refine below_set ?_ GE310.out)|exact HB.out)⟩
    ·rw [if_neg c19] at H
     have c19b0 : (a0 == 3)=false:=beq_eq_false_iff_ne.mpr c19
     have c19b1 : (a0 != 3)=true:=bne_iff_ne.mpr c19
     by_cases c24 : a0=2
     ·rw [if_pos c24] at H
      have c24b0 : (a0 == 2)=true:=beq_iff_eq.mpr c24
      have c24b1 : (a0 != 2)=false:=bne_eq_false_iff_eq.mpr c24
      clear c24
      replace H:=Option.bind_eq_some_iff.mp H
      obtain ⟨t314,A250,H⟩:=H
      replace H : (some t314)=some r:=H
      have A25:=Aside0.mk A250
      clear A250
      obtain rfl:=Option.some.inj H
      have hnb26:=NB309_310.out
      have hnc26:=NB310_309.out
      have hcz27_0 : wc.cell? ⟨gb309,0,none⟩=some (.int .i64 a1_0):=(blk_cell BK309.out 0).trans rfl
      have hcz27_1 : wc.cell? ⟨gb309,1,none⟩=some (.string a1_1):=(blk_cell BK309.out 1).trans rfl
      have hfz27_0:=blk_frozen BK309.out 0
      have hfz27_1:=blk_frozen BK309.out 1
      have hcz28_0 : wc.cell? ⟨gb310,0,none⟩=some (.int .i64 a2_0):=(blk_cell BK310.out 0).trans rfl
      have hcz28_1 : wc.cell? ⟨gb310,1,none⟩=some (.string a2_1):=(blk_cell BK310.out 1).trans rfl
      have hfz28_0:=blk_frozen BK310.out 0
      have hfz28_1:=blk_frozen BK310.out 1
      go_wp2_with (first|((with_reducible refine gate_callee (f:=43) rfl ?_);refine goesL_ (some 35) rfl rfl Try.func43 (by kernel_rfl) rfl #[.int .u64 (IntKind.u64.wrap (a1_0)),.int .u64 (IntKind.u64.wrap (a2_0))] rfl (by (try simp only [List.map_toArray,List.map_cons,List.map_nil]);first|done|rfl|(simp only [List.length_drop,List.length_take];rfl)) ?_;(with_reducible refine (cmp_Compare_uint64.calls (IntKind.u64.wrap (a1_0)) (IntKind.u64.wrap (a2_0)) t314 _ A25.out).mono ?_);rintro e w' ⟨rfl,⟨nd,rfl⟩⟩;refine ⟨_,rfl,?_⟩))
      go_ret
      exact ⟨by first|rfl|(simp [errW_none,errW_some] <;> rfl)|(simp [*,errW_none,errW_some] <;> rfl),by repeat (first|(with_reducible first|exact HB.out|apply below_alloc|apply pw_below_drewN|apply below_drew1|refine below_set ?_ GE309.out|refine below_set ?_ GE310.out)|exact HB.out)⟩
     ·rw [if_neg c24] at H
      have c24b0 : (a0 == 2)=false:=beq_eq_false_iff_ne.mpr c24
      have c24b1 : (a0 != 2)=true:=bne_iff_ne.mpr c24
      replace H:=Option.bind_eq_some_iff.mp H
      obtain ⟨t315,A290,H⟩:=H
      replace H : (some t315)=some r:=H
      have A29:=Aside0.mk A290
      clear A290
      obtain rfl:=Option.some.inj H
      have hnb30:=NB309_310.out
      have hnc30:=NB310_309.out
      have hcz31_0 : wc.cell? ⟨gb309,0,none⟩=some (.int .i64 a1_0):=(blk_cell BK309.out 0).trans rfl
      have hcz31_1 : wc.cell? ⟨gb309,1,none⟩=some (.string a1_1):=(blk_cell BK309.out 1).trans rfl
      have hfz31_0:=blk_frozen BK309.out 0
      have hfz31_1:=blk_frozen BK309.out 1
      have hcz32_0 : wc.cell? ⟨gb310,0,none⟩=some (.int .i64 a2_0):=(blk_cell BK310.out 0).trans rfl
      have hcz32_1 : wc.cell? ⟨gb310,1,none⟩=some (.string a2_1):=(blk_cell BK310.out 1).trans rfl
      have hfz32_0:=blk_frozen BK310.out 0
      have hfz32_1:=blk_frozen BK310.out 1
      go_wp2_with (first|((with_reducible refine gate_callee (f:=44) rfl ?_);refine goesL_ (some 40) rfl rfl Try.func44 (by kernel_rfl) rfl #[.int .i64 a1_0,.int .i64 a2_0] rfl (by (try simp only [List.map_toArray,List.map_cons,List.map_nil]);first|done|rfl|(simp only [List.length_drop,List.length_take];rfl)) ?_;(with_reducible refine (cmp_Compare_int64.calls a1_0 a2_0 t315 _ A29.out).mono ?_);rintro e w' ⟨rfl,⟨nd,rfl⟩⟩;refine ⟨_,rfl,?_⟩))
      go_ret
      exact ⟨by first|rfl|(simp [errW_none,errW_some] <;> rfl)|(simp [*,errW_none,errW_some] <;> rfl),by repeat (first|(with_reducible first|exact HB.out|apply below_alloc|apply pw_below_drewN|apply below_drew1|refine below_set ?_ GE309.out|refine below_set ?_ GE310.out)|exact HB.out)⟩
def schema_Compare.l0 : Nat→List (S31)→List (S31)→List Int→Int→Int→Option (Int)
 | 0,_,_,_,_,_=>none
 | k + 1,x1,x2,x23,x24,x25=>if x25 < x24 then (if 0≤x25 then (if x25 < (x23.length : Int) then (if x25 < (x1.length : Int) then (if x25 < (x2.length : Int) then ((value_Compare.f k (rd x23 x25) ((rd_T31 x1 x25).f0) ((rd_T31 x1 x25).f1) ((rd_T31 x2 x25).f0) ((rd_T31 x2 x25).f1)).bind fun t321=>(if t321=0 then (schema_Compare.l0 k x1 x2 x23 x24 (wrap64 (x25 + 1))) else (some t321))) else (none)) else (none)) else (none)) else (none)) else (some 0)
def schema_Compare.f (k : Nat) (l0_0 : List Int) (a0_1 : Int) (a0_2 : Int) (a0_3 : Int) (l1 : List (S31)) (l2 : List (S31)) : Option (Int):=if 0≤(mn (mn (mn (mx a0_1 0) (l0_0.length : Int)) (l1.length : Int)) (l2.length : Int)) then (if (mn (mn (mn (mx a0_1 0) (l0_0.length : Int)) (l1.length : Int)) (l2.length : Int))≤(l0_0.length : Int) then (schema_Compare.l0 k l1 l2 (l0_0.take ((mn (mn (mn (mx a0_1 0) (l0_0.length : Int)) (l1.length : Int)) (l2.length : Int)) : Int).toNat) ((l0_0.take ((mn (mn (mn (mx a0_1 0) (l0_0.length : Int)) (l1.length : Int)) (l2.length : Int)) : Int).toNat).length : Int) 0) else (none)) else (none)
theorem schema_Compare.mono_l : ∀ k,(∀ y0 y1 y2 y3 y4,LeO (schema_Compare.l0 k y0 y1 y2 y3 y4) (schema_Compare.l0 (k + 1) y0 y1 y2 y3 y4))
 | 0=>fun _ _ _ _ _ r h=>by simp [schema_Compare.l0] at h
 | k + 1=>by
  have ih0:=schema_Compare.mono_l k
  ·intro y0 y1 y2 y3 y4
   unfold schema_Compare.l0
   repeat' first
   | (with_reducible exact ih0 _ _ _ _ _)
   | (with_reducible exact value_Compare.mono _ _ _ _ _ _)
   | (with_reducible exact LeO.refl _)
   | (with_reducible exact LeO.none _)
   | (with_reducible refine LeO.ite ?_ ?_)
   | (with_reducible refine LeO.bind ?_ (fun _=>?_))
   | exact ih0 _ _ _ _ _
   | exact value_Compare.mono _ _ _ _ _ _
   | exact LeO.none _
   | refine LeO.ite ?_ ?_
   | refine LeO.bind ?_ (fun _=>?_)
theorem schema_Compare.mono : ∀ a0 a1 a2 a3 a4 a5 k,LeO (schema_Compare.f k a0 a1 a2 a3 a4 a5) (schema_Compare.f (k + 1) a0 a1 a2 a3 a4 a5):=by
 intro a0 a1 a2 a3 a4 a5 k
 have ih0:=schema_Compare.mono_l k
 unfold schema_Compare.f
 repeat' first
   | (with_reducible exact ih0 _ _ _ _ _)
   | (with_reducible exact value_Compare.mono _ _ _ _ _ _)
   | (with_reducible exact LeO.refl _)
   | (with_reducible exact LeO.none _)
   | (with_reducible refine LeO.ite ?_ ?_)
   | (with_reducible refine LeO.bind ?_ (fun _=>?_))
   | exact ih0 _ _ _ _ _
   | exact value_Compare.mono _ _ _ _ _ _
   | exact LeO.none _
   | refine LeO.ite ?_ ?_
   | refine LeO.bind ?_ (fun _=>?_)
def schema_Compare.T4 : Bool × List (List Nat × List Nat):=(true,[([],[]),([],[]),([],[]),([1,2],[1,2]),([3],[3]),([],[]),([],[]),([5,6],[5,6]),([7],[7]),([0,4,8],[0,4,8]),([9,9,0,1,2,3,4,5,6,7,8,9],[9])])
def schema_Compare.B4 : List Nat:=[0,0,0,6,14,0,0,96,224,511,1023]
theorem schema_Compare.tab4 : rtab .any (opsOf Try.f32 4)=schema_Compare.T4:=by kernel_rfl
theorem schema_Compare.bits4 : waitsOk schema_Compare.T4.2 schema_Compare.B4=true:=by kernel_rfl
set_option maxHeartbeats 8000000 in
set_option maxRecDepth 100000 in
theorem schema_Compare.calls (k : Nat) (A0_0 : Option Addr) (c0_0 : Nat) (l0_0 : List Int) (a0_1 : Int) (a0_2 : Int) (a0_3 : Int) (A1 : Option Addr) (c1 : Nat) (l1 : List (S31)) (A2 : Option Addr) (c2 : Nat) (l2 : List (S31)) (r : Int) (w : World) (hr0_0 : Kd.C (Kd.int .i64) w A0_0 l0_0.length l0_0) (hc0_0 : l0_0.length≤c0_0) (hr1 : Kd.C k31 w A1 l1.length l1) (hc1 : l1.length≤c1) (hr2 : Kd.C k31 w A2 l2.length l2) (hc2 : l2.length≤c2) (h : schema_Compare.f k l0_0 a0_1 a0_2 a0_3 l1 l2=some r) :
  Calls Try.prog 32 #[.agg #[.slice A0_0 l0_0.length c0_0,.int .i64 a0_1,.int .i64 a0_2,.int .i64 a0_3],.slice A1 l1.length c1,.slice A2 l2.length c2] w fun e w'=>e=.returned (.int .i64 r)∧Below w.heap.size w w':=by
 have hu26:=Try.underlying26
 have hu31:=Try.underlying31
 have HR0_0:=Aside0.mk hr0_0
 have HC0_0:=Aside0.mk hc0_0
 clear hr0_0 hc0_0
 have HR1:=Aside0.mk hr1
 have HC1:=Aside0.mk hc1
 clear hr1 hc1
 have HR2:=Aside0.mk hr2
 have HC2:=Aside0.mk hc2
 clear hr2 hc2
 have HB:=Aside0.mk (Below.refl w.heap.size w)
 have H : (if 0≤(mn (mn (mn (mx a0_1 0) (l0_0.length : Int)) (l1.length : Int)) (l2.length : Int)) then (if (mn (mn (mn (mx a0_1 0) (l0_0.length : Int)) (l1.length : Int)) (l2.length : Int))≤(l0_0.length : Int) then (schema_Compare.l0 k l1 l2 (l0_0.take ((mn (mn (mn (mx a0_1 0) (l0_0.length : Int)) (l1.length : Int)) (l2.length : Int)) : Int).toNat) ((l0_0.take ((mn (mn (mn (mx a0_1 0) (l0_0.length : Int)) (l1.length : Int)) (l2.length : Int)) : Int).toNat).length : Int) 0) else (none)) else (none))=some r:=h
 clear h
 obtain ⟨ji4,hji4⟩ : ∃ j_ : Int,(mx a0_1 0)=j_:=⟨_,rfl⟩
 replace H : (if 0≤(mn (mn (mn (ji4) (l0_0.length : Int)) (l1.length : Int)) (l2.length : Int)) then (if (mn (mn (mn (ji4) (l0_0.length : Int)) (l1.length : Int)) (l2.length : Int))≤(l0_0.length : Int) then (schema_Compare.l0 k l1 l2 (l0_0.take ((mn (mn (mn (ji4) (l0_0.length : Int)) (l1.length : Int)) (l2.length : Int)) : Int).toNat) ((l0_0.take ((mn (mn (mn (ji4) (l0_0.length : Int)) (l1.length : Int)) (l2.length : Int)) : Int).toNat).length : Int) 0) else (none)) else (none))=some r:=by first|(rw [hji4] at H;exact H)|(simp only [hji4] at H ⊢;exact H)
 (try (have hji4l : 0≤ji4:=by (rw [← hji4];unfold mx;(repeat' split) <;> omega)))
 (try (have hji4m : 0≤ji4:=by omega))
 have hji4_ : (if a0_1 < 0 then 0 else a0_1)=ji4:=hji4
 obtain ⟨ji5,hji5⟩ : ∃ j_ : Int,(mn (ji4) (l0_0.length : Int))=j_:=⟨_,rfl⟩
 replace H : (if 0≤(mn (mn (ji5) (l1.length : Int)) (l2.length : Int)) then (if (mn (mn (ji5) (l1.length : Int)) (l2.length : Int))≤(l0_0.length : Int) then (schema_Compare.l0 k l1 l2 (l0_0.take ((mn (mn (ji5) (l1.length : Int)) (l2.length : Int)) : Int).toNat) ((l0_0.take ((mn (mn (ji5) (l1.length : Int)) (l2.length : Int)) : Int).toNat).length : Int) 0) else (none)) else (none))=some r:=by first|(rw [hji5] at H;exact H)|(simp only [hji5] at H ⊢;exact H)
 have hji5_ : (if (l0_0.length : Int) < (ji4) then (l0_0.length : Int) else (ji4))=ji5:=hji5
 obtain ⟨ji6,hji6⟩ : ∃ j_ : Int,(mn (ji5) (l1.length : Int))=j_:=⟨_,rfl⟩
 replace H : (if 0≤(mn (ji6) (l2.length : Int)) then (if (mn (ji6) (l2.length : Int))≤(l0_0.length : Int) then (schema_Compare.l0 k l1 l2 (l0_0.take ((mn (ji6) (l2.length : Int)) : Int).toNat) ((l0_0.take ((mn (ji6) (l2.length : Int)) : Int).toNat).length : Int) 0) else (none)) else (none))=some r:=by first|(rw [hji6] at H;exact H)|(simp only [hji6] at H ⊢;exact H)
 have hji6_ : (if (l1.length : Int) < (ji5) then (l1.length : Int) else (ji5))=ji6:=hji6
 obtain ⟨ji7,hji7⟩ : ∃ j_ : Int,(mn (ji6) (l2.length : Int))=j_:=⟨_,rfl⟩
 replace H : (if 0≤(ji7) then (if (ji7)≤(l0_0.length : Int) then (schema_Compare.l0 k l1 l2 (l0_0.take ((ji7) : Int).toNat) ((l0_0.take ((ji7) : Int).toNat).length : Int) 0) else (none)) else (none))=some r:=by first|(rw [hji7] at H;exact H)|(simp only [hji7] at H ⊢;exact H)
 have hji7_ : (if (l2.length : Int) < (ji6) then (l2.length : Int) else (ji6))=ji7:=hji7
 by_cases c8 : 0≤(ji7)
 ·rw [if_pos c8] at H
  have c8b0:=eq_true c8
  have c8b1 : decide (0≤(ji7))=true:=decide_eq_true c8
  clear c8
  by_cases c9 : (ji7)≤(l0_0.length : Int)
  ·rw [if_pos c9] at H
   have c9b0:=eq_true c9
   have c9b1 : decide ((ji7)≤(l0_0.length : Int))=true:=decide_eq_true c9
   clear c9
   have H':=Aside0.mk H
   clear H
   go_enter Try.func32,Try.ntmps32
   go_wp2_with (first|((with_reducible refine gate_dst (N:=3) rfl ?_);refine box_event ?hg (N:=3) ?hd (cs:=#[.slice A0_0 l0_0.length c0_0,.int .i64 a0_1,.int .i64 a0_2,.int .i64 a0_3]) (t:=26) ?hr ?_;(case hd=>rfl);(case hg=>rfl);(case hr=>first|(go_simp;done)|(go_simp;rfl));intro gb316 hg w10 hbox hb;have n0_:=Aside0.mk (below_step (below_up HB.out) hb);have n1_:=Aside0.mk (hbox);have n2_:=Aside0.mk ((by rw [hg];exact (below_size (below_up HB.out)) : w.heap.size≤gb316));have n3_:=Aside0.mk ((by rw [hg];exact (below_size (below_up HB.out)) : w.heap.size≤gb316));clear HB;have HB:=n0_;have BK316:=n1_;have GW316:=n2_;have GE316:=n3_;clear n0_ n1_ n2_ n3_;clear hb hbox hg;have hcz11_0 : w10.cell? ⟨gb316,0,none⟩=some (.slice A0_0 l0_0.length c0_0):=(blk_cell BK316.out 0).trans rfl;have hcz11_1 : w10.cell? ⟨gb316,1,none⟩=some (.int .i64 a0_1):=(blk_cell BK316.out 1).trans rfl;have hcz11_2 : w10.cell? ⟨gb316,2,none⟩=some (.int .i64 a0_2):=(blk_cell BK316.out 2).trans rfl;have hcz11_3 : w10.cell? ⟨gb316,3,none⟩=some (.int .i64 a0_3):=(blk_cell BK316.out 3).trans rfl;have hfz11_0:=blk_frozen BK316.out 0;have hfz11_1:=blk_frozen BK316.out 1;have hfz11_2:=blk_frozen BK316.out 2;have hfz11_3:=blk_frozen BK316.out 3;obtain ⟨i012,hi012,_,hsz12,_⟩:=info_parts info3;obtain ⟨hcut12,hA12,hC12⟩:=print_take_of (P:=Try.prog) (Value.int .i64) 0 24 3 .i64 Try.underlying24 hi012 hsz12 A0_0 c0_0 l0_0 (ji7) (of_decide_eq_true (by first|(with_reducible assumption)|assumption)) (of_decide_eq_true (by first|(with_reducible assumption)|assumption)) HC0_0.out;have HR317:=Aside0.mk (Kd.C_of_reads (h1:=fun _=>rfl) (hA12 _ (Kd.reads_of_C HR0_0.out)));have HC317:=Aside0.mk hC12;clear hA12 hC12 hi012 hsz12))
   (try (have HM_ji7:=Aside0.mk (show ((l0_0.take ((ji7) : Int).toNat).length : Int)=ji7 from by (have e1_:=of_decide_eq_true ‹decide (0≤(ji7))=true›;have e2_:=of_decide_eq_true ‹decide ((ji7)≤(l0_0.length : Int))=true›;simp only [List.length_take];omega))))
   go_loopg [25] k (fun kq v25 w'=>∃ (x25_1 : Int),v25=.int .i64 x25_1∧Aside0 (schema_Compare.l0 kq l1 l2 (l0_0.take ((ji7) : Int).toNat) ((l0_0.take ((ji7) : Int).toNat).length : Int) x25_1=some r)∧Aside0 (kq≤k)∧Aside0 (w'.heap[gb316]?=some (.cells #[(.slice A0_0 l0_0.length c0_0),.int .i64 a0_1,.int .i64 a0_2,.int .i64 a0_3] 26 (0,0)))∧Aside0 (Below w.heap.size w w'))
   case atStart=>exact ⟨(0),(by first|rfl|(simp;done)|(simp [*];done)),H',⟨Nat.le_refl _⟩,⟨by (with_reducible repeat (first|refine blk_drewN ?_ _|refine blk_drew ?_|refine blk_alloc ?_ _));exact BK316.out⟩,⟨by repeat (first|(with_reducible first|exact HB.out|apply below_alloc|apply pw_below_drewN|apply below_drew1|refine below_set ?_ GE316.out)|exact HB.out)⟩⟩
   case round =>
    clear H'
    try clear c1
    try clear c2
    try clear p2
    try clear c3
    try clear c8
    try clear c8b0
    try clear c8b1
    try clear c9
    try clear c9b0
    try clear c9b1
    try clear hcz11_0
    try clear hcz11_1
    try clear hcz11_2
    try clear hcz11_3
    try clear hfz11_0
    try clear hfz11_1
    try clear hfz11_2
    try clear hfz11_3
    obtain ⟨x25_1,rfl,HA,HK1,BK316,HB⟩:=hrel
    cases gk with
    | zero=>exact absurd HA.out (by simp [schema_Compare.l0])
    | succ k1 =>
     have H:=HA.out
     clear HA
     simp only [schema_Compare.l0] at H
     by_cases c13 : x25_1 < ((l0_0.take ((ji7) : Int).toNat).length : Int)
     ·rw [if_pos c13] at H
      have c13b0 : decide (x25_1 < ((l0_0.take ((ji7) : Int).toNat).length : Int))=true:=decide_eq_true c13
      (try (have c13bm : decide (x25_1 < max ji7 0)=true:=by (rw [show (max ji7 0 : Int)=((l0_0.take ((ji7) : Int).toNat).length : Int) from by (have:=HM_ji7.out;omega)];exact c13b0)))
      clear c13
      by_cases c14 : 0≤x25_1
      ·rw [if_pos c14] at H
       have c14b0 : decide (0≤x25_1)=true:=decide_eq_true c14
       clear c14
       by_cases c15 : x25_1 < ((l0_0.take ((ji7) : Int).toNat).length : Int)
       ·rw [if_pos c15] at H
        have c15b0 : decide (x25_1 < ((l0_0.take ((ji7) : Int).toNat).length : Int))=true:=decide_eq_true c15
        (try (have c15bm : decide (x25_1 < max ji7 0)=true:=by (rw [show (max ji7 0 : Int)=((l0_0.take ((ji7) : Int).toNat).length : Int) from by (have:=HM_ji7.out;omega)];exact c15b0)))
        clear c15
        by_cases c16 : x25_1 < (l1.length : Int)
        ·rw [if_pos c16] at H
         have c16b0 : decide (x25_1 < (l1.length : Int))=true:=decide_eq_true c16
         clear c16
         by_cases c17 : x25_1 < (l2.length : Int)
         ·rw [if_pos c17] at H
          have c17b0 : decide (x25_1 < (l2.length : Int))=true:=decide_eq_true c17
          clear c17
          replace H:=Option.bind_eq_some_iff.mp H
          obtain ⟨t321,A180,H⟩:=H
          replace H : (if t321=0 then (schema_Compare.l0 k1 l1 l2 (l0_0.take ((ji7) : Int).toNat) ((l0_0.take ((ji7) : Int).toNat).length : Int) (wrap64 (x25_1 + 1))) else (some t321))=some r:=H
          have A18:=Aside0.mk A180
          clear A180
          by_cases c19 : t321=0
          ·rw [if_pos c19] at H
           have c19b0 : (t321 == 0)=true:=beq_iff_eq.mpr c19
           have c19b1 : (t321 != 0)=false:=bne_eq_false_iff_eq.mpr c19
           clear c19
           have H':=Aside0.mk H
           clear H
           have p318 : 0≤(x25_1 : Int):=of_decide_eq_true (by first|(with_reducible assumption)|assumption)
           have q318 : x25_1 < ((l0_0.take ((ji7) : Int).toNat).length : Int):=of_decide_eq_true (by first|(with_reducible assumption)|assumption)
           obtain ⟨ad318,e318,hx318_0⟩:=Kd.at_int HR317.out x25_1 p318 q318
           cases e318
           replace hx318_0:=(HB.out.cell (World.block_lt_of_cell? w _ hx318_0)).trans hx318_0
           replace p318:=eq_true p318
           replace q318:=eq_true q318
           (try (have q318m : (x25_1 < max ji7 0)=True:=eq_true (by (have e1_:=of_eq_true q318;have e2_:=HM_ji7.out;omega))))
           try go_wp2
           have n0_:=Aside0.mk (blk_drew BK316.out)
           have n1_:=Aside0.mk (below_drew1 HB.out)
           clear BK316
           clear HB
           have BK316:=n0_
           have HB:=n1_
           clear n0_ n1_
           have p319 : 0≤(x25_1 : Int):=of_decide_eq_true (by first|(with_reducible assumption)|assumption)
           have q319 : x25_1 < (l1.length : Int):=of_decide_eq_true (by first|(with_reducible assumption)|assumption)
           obtain ⟨ad319,e319,hx319_0,hx319_1⟩:=at_T31 HR1.out x25_1 p319 q319
           have hw319_1:=hx319_1
           have hw319_0:=hx319_0
           cases e319
           replace hx319_0:=(HB.out.cell (World.block_lt_of_cell? w _ hx319_0)).trans hx319_0
           replace hx319_1:=(HB.out.cell (World.block_lt_of_cell? w _ hx319_1)).trans hx319_1
           replace p319:=eq_true p319
           replace q319:=eq_true q319
           have p320 : 0≤(x25_1 : Int):=of_decide_eq_true (by first|(with_reducible assumption)|assumption)
           have q320 : x25_1 < (l2.length : Int):=of_decide_eq_true (by first|(with_reducible assumption)|assumption)
           obtain ⟨ad320,e320,hx320_0,hx320_1⟩:=at_T31 HR2.out x25_1 p320 q320
           have hw320_1:=hx320_1
           have hw320_0:=hx320_0
           cases e320
           replace hx320_0:=(HB.out.cell (World.block_lt_of_cell? w _ hx320_0)).trans hx320_0
           replace hx320_1:=(HB.out.cell (World.block_lt_of_cell? w _ hx320_1)).trans hx320_1
           replace p320:=eq_true p320
           replace q320:=eq_true q320
           refine start_ (n:=11) (S:=fun w'=>w'.cell? (ad319.add ((x25_1).toNat * 2))=some (.int .i64 ((rd_T31 l1 x25_1).f0))∧w'.cell? ⟨(ad319.add ((x25_1).toNat * 2)).block,(ad319.add ((x25_1).toNat * 2)).off + 1,none⟩=some (.string ((rd_T31 l1 x25_1).f1))∧w'.cell? (ad320.add ((x25_1).toNat * 2))=some (.int .i64 ((rd_T31 l2 x25_1).f0))∧w'.cell? ⟨(ad320.add ((x25_1).toNat * 2)).block,(ad320.add ((x25_1).toNat * 2)).off + 1,none⟩=some (.string ((rd_T31 l2 x25_1).f1))) (ds:=[]) #[false,false,false,false,false,false,false,false,false,false,false] (by kernel_rfl) rfl rfl ⟨((HB.out.cell (World.block_lt_of_cell? w _ hw319_0)).trans hw319_0),((HB.out.cell (World.block_lt_of_cell? w _ hw319_1)).trans hw319_1),((HB.out.cell (World.block_lt_of_cell? w _ hw320_0)).trans hw320_0),((HB.out.cell (World.block_lt_of_cell? w _ hw320_1)).trans hw320_1)⟩ (fun hHeld=>?_);refine with_tabW schema_Compare.tab4 schema_Compare.bits4 (fun HT_ HW_=>?_)
           generalize wr.drew=w20 at BK316 HB hx319_0 hx319_1 hx320_0 hx320_1 hHeld ⊢
           refine pure_ (i:=0) (N:=some 30) (v:=?_) (a':=?_) #[true,false,false,false,false,false,false,false,false,false,false] rfl rfl (any_of HT_.out (by kernel_rfl)) (fun _ _ _ h=>h) (Or.inl ⟨by rfl,?_⟩) ?_ ?_
           rotate_left;(intro w';go_simp;with_reducible rfl);rotate_left;(simp only [Act.put,List.setIfInBounds_toArray,List.set_cons_zero,List.set_cons_succ,i64_w,i32_w];rfl)
           refine pure_ (i:=1) (N:=some 31) (v:=?_) (a':=?_) #[true,true,false,false,false,false,false,false,false,false,false] rfl rfl (any_of HT_.out (by kernel_rfl)) (fun _ _ _ h=>h) (Or.inl ⟨by rfl,?_⟩) ?_ ?_
           rotate_left;(intro w';go_simp;with_reducible rfl);rotate_left;(simp only [Act.put,List.setIfInBounds_toArray,List.set_cons_zero,List.set_cons_succ,i64_w,i32_w];rfl)
           refine pure_ (i:=2) (N:=some 32) (v:=?_) (a':=?_) #[true,true,true,false,false,false,false,false,false,false,false] rfl rfl (any_of HT_.out (by kernel_rfl)) (fun _ _ _ h=>h) (Or.inl ⟨by rfl,?_⟩) ?_ ?_
           rotate_left;(intro w';go_simp;with_reducible rfl);rotate_left;(simp only [Act.put,List.setIfInBounds_toArray,List.set_cons_zero,List.set_cons_succ,i64_w,i32_w];rfl)
           refine pure_ (i:=3) (N:=some 33) (v:=?_) (a':=?_) #[true,true,true,true,false,false,false,false,false,false,false] rfl rfl (any_of HT_.out (by kernel_rfl)) (fun _ _ _ h=>h) (Or.inl ⟨by rfl,?_⟩) ?_ ?_
           rotate_left;(intro w';go_simp;with_reducible rfl);rotate_left;(simp only [Act.put,List.setIfInBounds_toArray,List.set_cons_zero,List.set_cons_succ,i64_w,i32_w];rfl)
           refine pure_ (i:=5) (N:=some 35) (v:=?_) (a':=?_) #[true,true,true,true,false,true,false,false,false,false,false] rfl rfl (any_of HT_.out (by kernel_rfl)) (fun _ _ _ h=>h) (Or.inl ⟨by rfl,?_⟩) ?_ ?_
           rotate_left;(intro w';go_simp;with_reducible rfl);rotate_left;(simp only [Act.put,List.setIfInBounds_toArray,List.set_cons_zero,List.set_cons_succ,i64_w,i32_w];rfl)
           refine pure_ (i:=6) (N:=some 36) (v:=?_) (a':=?_) #[true,true,true,true,false,true,true,false,false,false,false] rfl rfl (any_of HT_.out (by kernel_rfl)) (fun _ _ _ h=>h) (Or.inl ⟨by rfl,?_⟩) ?_ ?_
           rotate_left;(intro w';go_simp;with_reducible rfl);rotate_left;(simp only [Act.put,List.setIfInBounds_toArray,List.set_cons_zero,List.set_cons_succ,i64_w,i32_w];rfl)
           refine pure_ (i:=7) (N:=some 37) (v:=?_) (a':=?_) #[true,true,true,true,false,true,true,true,false,false,false] rfl rfl (any_of HT_.out (by kernel_rfl)) (fun _ _ _ h=>h) (Or.inl ⟨by rfl,?_⟩) ?_ ?_
           rotate_left;(intro w';go_simp;with_reducible rfl);rotate_left;(simp only [Act.put,List.setIfInBounds_toArray,List.set_cons_zero,List.set_cons_succ,i64_w,i32_w];rfl)
           refine take_ (i:=4) (N:=some 34) (v:=?_) (a':=?_) #[true,true,true,true,true,true,true,true,false,false,false] rfl rfl (take_ofW HT_.out HW_.out (by kernel_rfl)) (fun _ _ _ h=>h) (Or.inl ⟨by rfl,?_⟩) hHeld ?_ ?_
           rotate_left;(rintro w' ⟨s0,s1,s2,s3⟩;go_simp;with_reducible rfl);rotate_left;(simp only [Act.put,List.setIfInBounds_toArray,List.set_cons_zero,List.set_cons_succ,i64_w,i32_w];rfl)
           refine take_ (i:=8) (N:=some 38) (v:=?_) (a':=?_) #[true,true,true,true,true,true,true,true,true,false,false] rfl rfl (take_ofW HT_.out HW_.out (by kernel_rfl)) (fun _ _ _ h=>h) (Or.inl ⟨by rfl,?_⟩) hHeld ?_ ?_
           rotate_left;(rintro w' ⟨s0,s1,s2,s3⟩;go_simp;with_reducible rfl);rotate_left;(simp only [Act.put,List.setIfInBounds_toArray,List.set_cons_zero,List.set_cons_succ,i64_w,i32_w];rfl)
           refine one_ (i:=9) (N:=some 39) #[true,true,true,true,true,true,true,true,true,true,false] rfl rfl (one_of HT_.out (by kernel_rfl)) (by decide) (fun K hK=>?_)
           refine goes_ Try.func36 (by kernel_rfl) rfl #[.int .i64 (rd (l0_0.take ((ji7) : Int).toNat) x25_1),.agg #[.int .i64 ((rd_T31 l1 x25_1).f0),.string ((rd_T31 l1 x25_1).f1)],.agg #[.int .i64 ((rd_T31 l2 x25_1).f0),.string ((rd_T31 l2 x25_1).f1)]] (by rfl) rfl rfl (by (try simp only [List.map_toArray,List.map_cons,List.map_nil]);first|done|(simp only [hji7];rfl)|rfl|(simp only [List.length_drop,List.length_take];rfl)) ?_
           with_reducible refine (value_Compare.calls k1 (rd (l0_0.take ((ji7) : Int).toNat) x25_1) ((rd_T31 l1 x25_1).f0) ((rd_T31 l1 x25_1).f1) ((rd_T31 l2 x25_1).f0) ((rd_T31 l2 x25_1).f1) t321 _ A18.out).mono ?_
           rintro e w21 ⟨rfl,hb⟩
           refine ⟨_,rfl,?_⟩
           have n0_:=Aside0.mk (blk_below (blk_up BK316.out) hb)
           have n1_:=Aside0.mk (below_step (below_go HB.out) hb)
           clear BK316
           clear HB
           have BK316:=n0_
           have HB:=n1_
           clear n0_ n1_
           (try clear hb)
           (try clear hb2)
           (try clear hk)
           (try clear hi)
           refine hK.out _ _ ⟨((HB.out.cell (World.block_lt_of_cell? w _ hw319_0)).trans hw319_0),((HB.out.cell (World.block_lt_of_cell? w _ hw319_1)).trans hw319_1),((HB.out.cell (World.block_lt_of_cell? w _ hw320_0)).trans hw320_0),((HB.out.cell (World.block_lt_of_cell? w _ hw320_1)).trans hw320_1)⟩ (fun hHeld=>?_)
           clear hK K
           refine norm_ (a':=?_) ?_ ?_
           rotate_left
           ·show Act.put _ (some 39) _=_
            simp only [Act.put,List.setIfInBounds_toArray,List.set_cons_zero,List.set_cons_succ,i64_w,i32_w]
            rfl
           refine pure_ (i:=10) (N:=some 9) (v:=?_) (a':=?_) #[true,true,true,true,true,true,true,true,true,true,true] rfl rfl (any_of HT_.out (by kernel_rfl)) (fun _ _ _ h=>h) (Or.inl ⟨by rfl,?_⟩) ?_ ?_
           rotate_left;(intro w';go_simp;with_reducible rfl);rotate_left;(simp only [Act.put,List.setIfInBounds_toArray,List.set_cons_zero,List.set_cons_succ,i64_w,i32_w];rfl)
           refine done_ (done_of HT_.out (by kernel_rfl)) ?_
           (try clear hHeld)
           try go_wp2
           go_roundg k1
           case measure=>have:=HK1.out;omega
           case rel=>exact ⟨(wrap64 (x25_1 + 1)),(by first|rfl|(simp;done)|(simp [*];done)),(by first|exact H'|(subst_vars;exact H')),⟨by have:=HK1.out;omega⟩,⟨by (with_reducible repeat (first|refine blk_drewN ?_ _|refine blk_drew ?_|refine blk_alloc ?_ _));exact BK316.out⟩,⟨by repeat (first|(with_reducible first|exact HB.out|apply below_alloc|apply pw_below_drewN|apply below_drew1|refine below_set ?_ GE316.out)|exact HB.out)⟩⟩
          ·rw [if_neg c19] at H
           have c19b0 : (t321 == 0)=false:=beq_eq_false_iff_ne.mpr c19
           have c19b1 : (t321 != 0)=true:=bne_iff_ne.mpr c19
           obtain rfl:=Option.some.inj H
           have p318 : 0≤(x25_1 : Int):=of_decide_eq_true (by first|(with_reducible assumption)|assumption)
           have q318 : x25_1 < ((l0_0.take ((ji7) : Int).toNat).length : Int):=of_decide_eq_true (by first|(with_reducible assumption)|assumption)
           obtain ⟨ad318,e318,hx318_0⟩:=Kd.at_int HR317.out x25_1 p318 q318
           cases e318
           replace hx318_0:=(HB.out.cell (World.block_lt_of_cell? w _ hx318_0)).trans hx318_0
           replace p318:=eq_true p318
           replace q318:=eq_true q318
           (try (have q318m : (x25_1 < max ji7 0)=True:=eq_true (by (have e1_:=of_eq_true q318;have e2_:=HM_ji7.out;omega))))
           try go_wp2
           have n0_:=Aside0.mk (blk_drew BK316.out)
           have n1_:=Aside0.mk (below_drew1 HB.out)
           clear BK316
           clear HB
           have BK316:=n0_
           have HB:=n1_
           clear n0_ n1_
           have p319 : 0≤(x25_1 : Int):=of_decide_eq_true (by first|(with_reducible assumption)|assumption)
           have q319 : x25_1 < (l1.length : Int):=of_decide_eq_true (by first|(with_reducible assumption)|assumption)
           obtain ⟨ad319,e319,hx319_0,hx319_1⟩:=at_T31 HR1.out x25_1 p319 q319
           have hw319_1:=hx319_1
           have hw319_0:=hx319_0
           cases e319
           replace hx319_0:=(HB.out.cell (World.block_lt_of_cell? w _ hx319_0)).trans hx319_0
           replace hx319_1:=(HB.out.cell (World.block_lt_of_cell? w _ hx319_1)).trans hx319_1
           replace p319:=eq_true p319
           replace q319:=eq_true q319
           have p320 : 0≤(x25_1 : Int):=of_decide_eq_true (by first|(with_reducible assumption)|assumption)
           have q320 : x25_1 < (l2.length : Int):=of_decide_eq_true (by first|(with_reducible assumption)|assumption)
           obtain ⟨ad320,e320,hx320_0,hx320_1⟩:=at_T31 HR2.out x25_1 p320 q320
           have hw320_1:=hx320_1
           have hw320_0:=hx320_0
           cases e320
           replace hx320_0:=(HB.out.cell (World.block_lt_of_cell? w _ hx320_0)).trans hx320_0
           replace hx320_1:=(HB.out.cell (World.block_lt_of_cell? w _ hx320_1)).trans hx320_1
           replace p320:=eq_true p320
           replace q320:=eq_true q320
           refine start_ (n:=11) (S:=fun w'=>w'.cell? (ad319.add ((x25_1).toNat * 2))=some (.int .i64 ((rd_T31 l1 x25_1).f0))∧w'.cell? ⟨(ad319.add ((x25_1).toNat * 2)).block,(ad319.add ((x25_1).toNat * 2)).off + 1,none⟩=some (.string ((rd_T31 l1 x25_1).f1))∧w'.cell? (ad320.add ((x25_1).toNat * 2))=some (.int .i64 ((rd_T31 l2 x25_1).f0))∧w'.cell? ⟨(ad320.add ((x25_1).toNat * 2)).block,(ad320.add ((x25_1).toNat * 2)).off + 1,none⟩=some (.string ((rd_T31 l2 x25_1).f1))) (ds:=[]) #[false,false,false,false,false,false,false,false,false,false,false] (by kernel_rfl) rfl rfl ⟨((HB.out.cell (World.block_lt_of_cell? w _ hw319_0)).trans hw319_0),((HB.out.cell (World.block_lt_of_cell? w _ hw319_1)).trans hw319_1),((HB.out.cell (World.block_lt_of_cell? w _ hw320_0)).trans hw320_0),((HB.out.cell (World.block_lt_of_cell? w _ hw320_1)).trans hw320_1)⟩ (fun hHeld=>?_);refine with_tabW schema_Compare.tab4 schema_Compare.bits4 (fun HT_ HW_=>?_)
           generalize wr.drew=w22 at BK316 HB hx319_0 hx319_1 hx320_0 hx320_1 hHeld ⊢
           refine pure_ (i:=0) (N:=some 30) (v:=?_) (a':=?_) #[true,false,false,false,false,false,false,false,false,false,false] rfl rfl (any_of HT_.out (by kernel_rfl)) (fun _ _ _ h=>h) (Or.inl ⟨by rfl,?_⟩) ?_ ?_
           rotate_left;(intro w';go_simp;with_reducible rfl);rotate_left;(simp only [Act.put,List.setIfInBounds_toArray,List.set_cons_zero,List.set_cons_succ,i64_w,i32_w];rfl)
           refine pure_ (i:=1) (N:=some 31) (v:=?_) (a':=?_) #[true,true,false,false,false,false,false,false,false,false,false] rfl rfl (any_of HT_.out (by kernel_rfl)) (fun _ _ _ h=>h) (Or.inl ⟨by rfl,?_⟩) ?_ ?_
           rotate_left;(intro w';go_simp;with_reducible rfl);rotate_left;(simp only [Act.put,List.setIfInBounds_toArray,List.set_cons_zero,List.set_cons_succ,i64_w,i32_w];rfl)
           refine pure_ (i:=2) (N:=some 32) (v:=?_) (a':=?_) #[true,true,true,false,false,false,false,false,false,false,false] rfl rfl (any_of HT_.out (by kernel_rfl)) (fun _ _ _ h=>h) (Or.inl ⟨by rfl,?_⟩) ?_ ?_
           rotate_left;(intro w';go_simp;with_reducible rfl);rotate_left;(simp only [Act.put,List.setIfInBounds_toArray,List.set_cons_zero,List.set_cons_succ,i64_w,i32_w];rfl)
           refine pure_ (i:=3) (N:=some 33) (v:=?_) (a':=?_) #[true,true,true,true,false,false,false,false,false,false,false] rfl rfl (any_of HT_.out (by kernel_rfl)) (fun _ _ _ h=>h) (Or.inl ⟨by rfl,?_⟩) ?_ ?_
           rotate_left;(intro w';go_simp;with_reducible rfl);rotate_left;(simp only [Act.put,List.setIfInBounds_toArray,List.set_cons_zero,List.set_cons_succ,i64_w,i32_w];rfl)
           refine pure_ (i:=5) (N:=some 35) (v:=?_) (a':=?_) #[true,true,true,true,false,true,false,false,false,false,false] rfl rfl (any_of HT_.out (by kernel_rfl)) (fun _ _ _ h=>h) (Or.inl ⟨by rfl,?_⟩) ?_ ?_
           rotate_left;(intro w';go_simp;with_reducible rfl);rotate_left;(simp only [Act.put,List.setIfInBounds_toArray,List.set_cons_zero,List.set_cons_succ,i64_w,i32_w];rfl)
           refine pure_ (i:=6) (N:=some 36) (v:=?_) (a':=?_) #[true,true,true,true,false,true,true,false,false,false,false] rfl rfl (any_of HT_.out (by kernel_rfl)) (fun _ _ _ h=>h) (Or.inl ⟨by rfl,?_⟩) ?_ ?_
           rotate_left;(intro w';go_simp;with_reducible rfl);rotate_left;(simp only [Act.put,List.setIfInBounds_toArray,List.set_cons_zero,List.set_cons_succ,i64_w,i32_w];rfl)
           refine pure_ (i:=7) (N:=some 37) (v:=?_) (a':=?_) #[true,true,true,true,false,true,true,true,false,false,false] rfl rfl (any_of HT_.out (by kernel_rfl)) (fun _ _ _ h=>h) (Or.inl ⟨by rfl,?_⟩) ?_ ?_
           rotate_left;(intro w';go_simp;with_reducible rfl);rotate_left;(simp only [Act.put,List.setIfInBounds_toArray,List.set_cons_zero,List.set_cons_succ,i64_w,i32_w];rfl)
           refine take_ (i:=4) (N:=some 34) (v:=?_) (a':=?_) #[true,true,true,true,true,true,true,true,false,false,false] rfl rfl (take_ofW HT_.out HW_.out (by kernel_rfl)) (fun _ _ _ h=>h) (Or.inl ⟨by rfl,?_⟩) hHeld ?_ ?_
           rotate_left;(rintro w' ⟨s0,s1,s2,s3⟩;go_simp;with_reducible rfl);rotate_left;(simp only [Act.put,List.setIfInBounds_toArray,List.set_cons_zero,List.set_cons_succ,i64_w,i32_w];rfl)
           refine take_ (i:=8) (N:=some 38) (v:=?_) (a':=?_) #[true,true,true,true,true,true,true,true,true,false,false] rfl rfl (take_ofW HT_.out HW_.out (by kernel_rfl)) (fun _ _ _ h=>h) (Or.inl ⟨by rfl,?_⟩) hHeld ?_ ?_
           rotate_left;(rintro w' ⟨s0,s1,s2,s3⟩;go_simp;with_reducible rfl);rotate_left;(simp only [Act.put,List.setIfInBounds_toArray,List.set_cons_zero,List.set_cons_succ,i64_w,i32_w];rfl)
           refine one_ (i:=9) (N:=some 39) #[true,true,true,true,true,true,true,true,true,true,false] rfl rfl (one_of HT_.out (by kernel_rfl)) (by decide) (fun K hK=>?_)
           refine goes_ Try.func36 (by kernel_rfl) rfl #[.int .i64 (rd (l0_0.take ((ji7) : Int).toNat) x25_1),.agg #[.int .i64 ((rd_T31 l1 x25_1).f0),.string ((rd_T31 l1 x25_1).f1)],.agg #[.int .i64 ((rd_T31 l2 x25_1).f0),.string ((rd_T31 l2 x25_1).f1)]] (by rfl) rfl rfl (by (try simp only [List.map_toArray,List.map_cons,List.map_nil]);first|done|(simp only [hji7];rfl)|rfl|(simp only [List.length_drop,List.length_take];rfl)) ?_
           with_reducible refine (value_Compare.calls k1 (rd (l0_0.take ((ji7) : Int).toNat) x25_1) ((rd_T31 l1 x25_1).f0) ((rd_T31 l1 x25_1).f1) ((rd_T31 l2 x25_1).f0) ((rd_T31 l2 x25_1).f1) t321 _ A18.out).mono ?_
           rintro e w23 ⟨rfl,hb⟩
           refine ⟨_,rfl,?_⟩
           have n0_:=Aside0.mk (blk_below (blk_up BK316.out) hb)
           have n1_:=Aside0.mk (below_step (below_go HB.out) hb)
           clear BK316
           clear HB
           have BK316:=n0_
           have HB:=n1_
           clear n0_ n1_
           (try clear hb)
           (try clear hb2)
           (try clear hk)
           (try clear hi)
           refine hK.out _ _ ⟨((HB.out.cell (World.block_lt_of_cell? w _ hw319_0)).trans hw319_0),((HB.out.cell (World.block_lt_of_cell? w _ hw319_1)).trans hw319_1),((HB.out.cell (World.block_lt_of_cell? w _ hw320_0)).trans hw320_0),((HB.out.cell (World.block_lt_of_cell? w _ hw320_1)).trans hw320_1)⟩ (fun hHeld=>?_)
           clear hK K
           refine norm_ (a':=?_) ?_ ?_
           rotate_left
           ·show Act.put _ (some 39) _=_
            simp only [Act.put,List.setIfInBounds_toArray,List.set_cons_zero,List.set_cons_succ,i64_w,i32_w]
            rfl
           refine pure_ (i:=10) (N:=some 9) (v:=?_) (a':=?_) #[true,true,true,true,true,true,true,true,true,true,true] rfl rfl (any_of HT_.out (by kernel_rfl)) (fun _ _ _ h=>h) (Or.inl ⟨by rfl,?_⟩) ?_ ?_
           rotate_left;(intro w';go_simp;with_reducible rfl);rotate_left;(simp only [Act.put,List.setIfInBounds_toArray,List.set_cons_zero,List.set_cons_succ,i64_w,i32_w];rfl)
           refine done_ (done_of HT_.out (by kernel_rfl)) ?_
           (try clear hHeld)
           try go_wp2
           go_ret
           exact ⟨by first|rfl|(simp [errW_none,errW_some] <;> rfl)|(simp only [← hji4,← hji5,← hji6,← hji7];first|rfl|(simp [errW_none,errW_some] <;> rfl))|(simp [*,errW_none,errW_some] <;> rfl),by repeat (first|(with_reducible first|exact HB.out|apply below_alloc|apply pw_below_drewN|apply below_drew1|refine below_set ?_ GE316.out)|exact HB.out)⟩
         ·rw [if_neg c17] at H
          exact absurd H (by simp)
        ·rw [if_neg c16] at H
         exact absurd H (by simp)
       ·rw [if_neg c15] at H
        exact absurd H (by simp)
      ·rw [if_neg c14] at H
       exact absurd H (by simp)
     ·rw [if_neg c13] at H
      have c13b0 : decide (x25_1 < ((l0_0.take ((ji7) : Int).toNat).length : Int))=false:=decide_eq_false c13
      (try (have c13bm : decide (x25_1 < max ji7 0)=false:=by (rw [show (max ji7 0 : Int)=((l0_0.take ((ji7) : Int).toNat).length : Int) from by (have:=HM_ji7.out;omega)];exact c13b0)))
      clear c13
      obtain rfl:=Option.some.inj H
      go_wp2
      go_ret
      exact ⟨by first|rfl|(simp [errW_none,errW_some] <;> rfl)|(simp only [← hji4,← hji5,← hji6,← hji7];first|rfl|(simp [errW_none,errW_some] <;> rfl))|(simp [*,errW_none,errW_some] <;> rfl),by repeat (first|(with_reducible first|exact HB.out|apply below_alloc|apply pw_below_drewN|apply below_drew1|refine below_set ?_ GE316.out)|exact HB.out)⟩
  ·rw [if_neg c9] at H
   exact absurd H (by simp)
 ·rw [if_neg c8] at H
  exact absurd H (by simp)
def value_Add.j0 : Nat→Int→Bool→Int→ByteArray→Int→ByteArray→Option (Int × ByteArray)
 | 0,_,_,_,_,_,_=>none
 | k + 1,x0,x7,x323000,x323001,x324000,x324001=>if x7=true then (some (0,(⟨#[]⟩ : ByteArray))) else (if x0=3 then (some (x324000,x324001)) else (some (wrap64 (x323000 + x324000),(⟨#[]⟩ : ByteArray))))
def value_Add.f (k : Nat) (a0 : Int) (a1_0 : Int) (a1_1 : ByteArray) (a2_0 : Int) (a2_1 : ByteArray) : Option (Int × ByteArray):=(value_Fits.f k a0 a1_0 a1_1).bind fun t325=>(if t325=true then ((value_Fits.f k a0 a2_0 a2_1).bind fun t326=>(value_Add.j0 k a0 (!t326) a1_0 a1_1 a2_0 a2_1)) else (value_Add.j0 k a0 true a1_0 a1_1 a2_0 a2_1))
theorem value_Add.mono_l : ∀ k,(∀ y0 y1 y2 y3 y4 y5,LeO (value_Add.j0 k y0 y1 y2 y3 y4 y5) (value_Add.j0 (k + 1) y0 y1 y2 y3 y4 y5))
 | 0=>fun _ _ _ _ _ _ r h=>by simp [value_Add.j0] at h
 | k + 1=>by
  have ih0:=value_Add.mono_l k
  ·intro y0 y1 y2 y3 y4 y5
   unfold value_Add.j0
   repeat' first
   | (with_reducible exact ih0 _ _ _ _ _ _)
   | (with_reducible exact value_Fits.mono _ _ _ _)
   | (with_reducible exact LeO.refl _)
   | (with_reducible exact LeO.none _)
   | (with_reducible refine LeO.ite ?_ ?_)
   | (with_reducible refine LeO.bind ?_ (fun _=>?_))
   | exact ih0 _ _ _ _ _ _
   | exact value_Fits.mono _ _ _ _
   | exact LeO.none _
   | refine LeO.ite ?_ ?_
   | refine LeO.bind ?_ (fun _=>?_)
theorem value_Add.mono : ∀ a0 a1 a2 a3 a4 k,LeO (value_Add.f k a0 a1 a2 a3 a4) (value_Add.f (k + 1) a0 a1 a2 a3 a4):=by
 intro a0 a1 a2 a3 a4 k
 have ih0:=value_Add.mono_l k
 unfold value_Add.f
 repeat' first
   | (with_reducible exact ih0 _ _ _ _ _ _)
   | (with_reducible exact value_Fits.mono _ _ _ _)
   | (with_reducible exact LeO.refl _)
   | (with_reducible exact LeO.none _)
   | (with_reducible refine LeO.ite ?_ ?_)
   | (with_reducible refine LeO.bind ?_ (fun _=>?_))
   | exact ih0 _ _ _ _ _ _
   | exact value_Fits.mono _ _ _ _
   | exact LeO.none _
   | refine LeO.ite ?_ ?_
   | refine LeO.bind ?_ (fun _=>?_)
set_option maxHeartbeats 8000000 in
set_option maxRecDepth 100000 in
theorem value_Add.calls (k : Nat) (a0 : Int) (a1_0 : Int) (a1_1 : ByteArray) (a2_0 : Int) (a2_1 : ByteArray) (r1 : Int) (r2 : ByteArray) (w : World) (h : value_Add.f k a0 a1_0 a1_1 a2_0 a2_1=some (r1,r2)) :
  Calls Try.prog 46 #[.int .i64 a0,.agg #[.int .i64 a1_0,.string a1_1],.agg #[.int .i64 a2_0,.string a2_1]] w fun e w'=>e=.returned (.agg #[.int .i64 r1,.string r2])∧Below w.heap.size w w':=by
 have hu31:=Try.underlying31
 have HB:=Aside0.mk (Below.refl w.heap.size w)
 have H : ((value_Fits.f k a0 a1_0 a1_1).bind fun t325=>(if t325=true then ((value_Fits.f k a0 a2_0 a2_1).bind fun t326=>(value_Add.j0 k a0 (!t326) a1_0 a1_1 a2_0 a2_1)) else (value_Add.j0 k a0 true a1_0 a1_1 a2_0 a2_1)))=some (r1,r2):=h
 clear h
 have HC4:=Aside0.mk H
 clear H
 go_enter Try.func46,Try.ntmps46
 go_upto_region 1 with (first|((with_reducible refine gate_dst (N:=4) rfl ?_);refine box_event ?hg (N:=4) ?hd (cs:=#[.int .i64 a1_0,.string a1_1]) (t:=31) ?hr ?_;(case hd=>rfl);(case hg=>rfl);(case hr=>first|(go_simp;done)|(go_simp;rfl));intro gb322 hg w5 hbox hb;have n0_:=Aside0.mk (below_step (below_up HB.out) hb);have n1_:=Aside0.mk (hbox);have n2_:=Aside0.mk ((by rw [hg];exact (below_size (below_up HB.out)) : w.heap.size≤gb322));have n3_:=Aside0.mk ((by rw [hg];exact (below_size (below_up HB.out)) : w.heap.size≤gb322));clear HB;have HB:=n0_;have BK322:=n1_;have GW322:=n2_;have GE322:=n3_;clear n0_ n1_ n2_ n3_;clear hb hbox hg)|((with_reducible refine gate_dst (N:=5) rfl ?_);refine box_event ?hg (N:=5) ?hd (cs:=#[.int .i64 a2_0,.string a2_1]) (t:=31) ?hr ?_;(case hd=>rfl);(case hg=>rfl);(case hr=>first|(go_simp;done)|(go_simp;rfl));intro gb323 hg w6 hbox hb;have n0_:=Aside0.mk (blk_below (blk_up BK322.out) hb);have n1_:=Aside0.mk (below_step (below_go HB.out) hb);have n2_:=Aside0.mk (hbox);have n3_:=Aside0.mk ((by rw [hg];exact (below_size (below_go HB.out)) : w.heap.size≤gb323));have n4_:=Aside0.mk ((by rw [hg];exact (below_size (below_go HB.out)) : w.heap.size≤gb323));have n5_:=Aside0.mk ((by rw [hg];exact Nat.ne_of_lt (blk_lt (blk_up BK322.out)) : gb322≠gb323));have n6_:=Aside0.mk ((by rw [hg];exact Nat.ne_of_gt (blk_lt (blk_up BK322.out)) : gb323≠gb322));clear BK322;clear HB;have BK322:=n0_;have HB:=n1_;have BK323:=n2_;have GW323:=n3_;have GE323:=n4_;have NB322_323:=n5_;have NB323_322:=n6_;clear n0_ n1_ n2_ n3_ n4_ n5_ n6_;clear hb hbox hg)|((with_reducible refine gate_dst (N:=6) rfl ?_);refine box_event ?hg (N:=6) ?hd (cs:=#[.int .i64 0,.string (⟨#[]⟩ : ByteArray)]) (t:=31) ?hr ?_;(case hd=>rfl);(case hg=>rfl);(case hr=>first|(go_simp;done)|(go_simp;rfl));intro gb324 hg w7 hbox hb;have n0_:=Aside0.mk (blk_below (blk_up BK322.out) hb);have n1_:=Aside0.mk (blk_below (blk_up BK323.out) hb);have n2_:=Aside0.mk (below_step (below_go HB.out) hb);have n3_:=Aside0.mk (hbox);have n4_:=Aside0.mk ((by rw [hg];exact (below_size (below_go HB.out)) : w.heap.size≤gb324));have n5_:=Aside0.mk ((by rw [hg];exact (below_size (below_go HB.out)) : w.heap.size≤gb324));have n6_:=Aside0.mk ((by rw [hg];exact Nat.ne_of_lt (blk_lt (blk_up BK322.out)) : gb322≠gb324));have n7_:=Aside0.mk ((by rw [hg];exact Nat.ne_of_gt (blk_lt (blk_up BK322.out)) : gb324≠gb322));have n8_:=Aside0.mk ((by rw [hg];exact Nat.ne_of_lt (blk_lt (blk_up BK323.out)) : gb323≠gb324));have n9_:=Aside0.mk ((by rw [hg];exact Nat.ne_of_gt (blk_lt (blk_up BK323.out)) : gb324≠gb323));clear BK322;clear BK323;clear HB;have BK322:=n0_;have BK323:=n1_;have HB:=n2_;have BK324:=n3_;have GW324:=n4_;have GE324:=n5_;have NB322_324:=n6_;have NB324_322:=n7_;have NB323_324:=n8_;have NB324_323:=n9_;clear n0_ n1_ n2_ n3_ n4_ n5_ n6_ n7_ n8_ n9_;clear hb hbox hg))
 (try simp only [Act.put,List.setIfInBounds_toArray,List.set_cons_zero,List.set_cons_succ])
 go_cut [7] (fun v7 wc=>∃ (kq : Nat) (x7_3 : Bool),v7=.bool x7_3∧Aside0 (value_Add.j0 kq a0 x7_3 a1_0 a1_1 a2_0 a2_1=some (r1,r2))∧Aside0 (kq≤k)∧Aside0 (wc.heap[gb322]?=some (.cells #[.int .i64 a1_0,.string a1_1] 31 (0,0)))∧Aside0 (wc.heap[gb323]?=some (.cells #[.int .i64 a2_0,.string a2_1] 31 (0,0)))∧Aside0 (wc.heap[gb324]?=some (.cells #[.int .i64 0,.string (⟨#[]⟩ : ByteArray)] 31 (0,0)))∧Aside0 (Below w.heap.size w wc))
 case first =>
  have H:=HC4.out
  clear HC4
  replace H:=Option.bind_eq_some_iff.mp H
  obtain ⟨t325,A80,H⟩:=H
  replace H : (if t325=true then ((value_Fits.f k a0 a2_0 a2_1).bind fun t326=>(value_Add.j0 k a0 (!t326) a1_0 a1_1 a2_0 a2_1)) else (value_Add.j0 k a0 true a1_0 a1_1 a2_0 a2_1))=some (r1,r2):=H
  have A8:=Aside0.mk A80
  clear A80
  by_cases c9 : t325=true
  ·subst c9
   have H1 : ((value_Fits.f k a0 a2_0 a2_1).bind fun t326=>(value_Add.j0 k a0 (!t326) a1_0 a1_1 a2_0 a2_1))=some (r1,r2):=by rw [if_pos rfl] at H;exact H
   clear H
   have H:=H1
   clear H1
   replace H:=Option.bind_eq_some_iff.mp H
   obtain ⟨t326,A100,H⟩:=H
   replace H : (value_Add.j0 k a0 (!t326) a1_0 a1_1 a2_0 a2_1)=some (r1,r2):=H
   have A10:=Aside0.mk A100
   clear A100
   have H':=Aside0.mk H
   clear H
   have hnb11:=NB322_323.out
   have hnc11:=NB323_322.out
   have hnb12:=NB322_324.out
   have hnc12:=NB324_322.out
   have hcz13_0 : w7.cell? ⟨gb322,0,none⟩=some (.int .i64 a1_0):=(blk_cell BK322.out 0).trans rfl
   have hcz13_1 : w7.cell? ⟨gb322,1,none⟩=some (.string a1_1):=(blk_cell BK322.out 1).trans rfl
   have hfz13_0:=blk_frozen BK322.out 0
   have hfz13_1:=blk_frozen BK322.out 1
   go_wp2_with (first|((with_reducible refine gate_callee (f:=41) rfl ?_);refine goesL_ (some 10) rfl rfl Try.func41 (by kernel_rfl) rfl #[.int .i64 a0,.agg #[.int .i64 a1_0,.string a1_1]] rfl (by (try simp only [List.map_toArray,List.map_cons,List.map_nil]);first|done|rfl|(simp only [List.length_drop,List.length_take];rfl)) ?_;(with_reducible refine (value_Fits.calls k a0 a1_0 a1_1 true _ A8.out).mono ?_);rintro e w14 ⟨rfl,hb⟩;refine ⟨_,rfl,?_⟩;have n0_:=Aside0.mk (blk_below (blk_up BK322.out) hb);have n1_:=Aside0.mk (blk_below (blk_up BK323.out) hb);have n2_:=Aside0.mk (blk_below (g:=gb324) (o:=.cells #[.int .i64 0,.string (⟨#[]⟩ : ByteArray)] 31 (0,0)) (blk_up BK324.out) hb);have n3_:=Aside0.mk (below_step (below_go HB.out) hb);clear BK322;clear BK323;clear BK324;clear HB;have BK322:=n0_;have BK323:=n1_;have BK324:=n2_;have HB:=n3_;clear n0_ n1_ n2_ n3_;(try clear hb);(try clear hb2);(try clear hk);(try clear hi);have hnb15:=NB323_324.out;have hnc15:=NB324_323.out;have hcz16_0 : w14.cell? ⟨gb323,0,none⟩=some (.int .i64 a2_0):=(blk_cell BK323.out 0).trans rfl;have hcz16_1 : w14.cell? ⟨gb323,1,none⟩=some (.string a2_1):=(blk_cell BK323.out 1).trans rfl;have hfz16_0:=blk_frozen BK323.out 0;have hfz16_1:=blk_frozen BK323.out 1)|(go_at_call 41;(with_reducible refine (value_Fits.calls k a0 a2_0 a2_1 t326 _ A10.out).mono ?_);rintro e w17 ⟨rfl,hb⟩;have n0_:=Aside0.mk (blk_below (blk_up BK322.out) hb);have n1_:=Aside0.mk (blk_below (blk_up BK323.out) hb);have n2_:=Aside0.mk (blk_below (g:=gb324) (o:=.cells #[.int .i64 0,.string (⟨#[]⟩ : ByteArray)] 31 (0,0)) (blk_up BK324.out) hb);have n3_:=Aside0.mk (below_step (below_go HB.out) hb);clear BK322;clear BK323;clear BK324;clear HB;have BK322:=n0_;have BK323:=n1_;have BK324:=n2_;have HB:=n3_;clear n0_ n1_ n2_ n3_;(try clear hb);(try clear hb2);(try clear hk);(try clear hi)))
   go_meet
   case rel=>exact ⟨_,(!t326),(by first|rfl|(simp;done)|(simp [*];done)),(by first|exact H'|(subst_vars;exact H')),⟨by first|omega|exact Nat.le_refl _⟩,⟨by (with_reducible repeat (first|refine blk_drewN ?_ _|refine blk_drew ?_|refine blk_alloc ?_ _));exact BK322.out⟩,⟨by (with_reducible repeat (first|refine blk_drewN ?_ _|refine blk_drew ?_|refine blk_alloc ?_ _));exact BK323.out⟩,⟨by (with_reducible repeat (first|refine blk_drewN ?_ _|refine blk_drew ?_|refine blk_alloc ?_ _));exact BK324.out⟩,⟨by repeat (first|(with_reducible first|exact HB.out|apply below_alloc|apply pw_below_drewN|apply below_drew1|refine below_set ?_ GE322.out|refine below_set ?_ GE323.out|refine below_set ?_ GE324.out)|exact HB.out)⟩⟩
  ·replace c9:=Bool.eq_false_iff.mpr c9
   subst c9
   have H1 : (value_Add.j0 k a0 true a1_0 a1_1 a2_0 a2_1)=some (r1,r2):=by rw [if_neg (show ¬ (false=true) by decide)] at H;exact H
   clear H
   have H:=H1
   clear H1
   have H':=Aside0.mk H
   clear H
   have hnb18:=NB322_323.out
   have hnc18:=NB323_322.out
   have hnb19:=NB322_324.out
   have hnc19:=NB324_322.out
   have hcz20_0 : w7.cell? ⟨gb322,0,none⟩=some (.int .i64 a1_0):=(blk_cell BK322.out 0).trans rfl
   have hcz20_1 : w7.cell? ⟨gb322,1,none⟩=some (.string a1_1):=(blk_cell BK322.out 1).trans rfl
   have hfz20_0:=blk_frozen BK322.out 0
   have hfz20_1:=blk_frozen BK322.out 1
   go_wp2_with (first|((with_reducible refine gate_callee (f:=41) rfl ?_);refine goesL_ (some 10) rfl rfl Try.func41 (by kernel_rfl) rfl #[.int .i64 a0,.agg #[.int .i64 a1_0,.string a1_1]] rfl (by (try simp only [List.map_toArray,List.map_cons,List.map_nil]);first|done|rfl|(simp only [List.length_drop,List.length_take];rfl)) ?_;(with_reducible refine (value_Fits.calls k a0 a1_0 a1_1 false _ A8.out).mono ?_);rintro e w21 ⟨rfl,hb⟩;refine ⟨_,rfl,?_⟩;have n0_:=Aside0.mk (blk_below (blk_up BK322.out) hb);have n1_:=Aside0.mk (blk_below (blk_up BK323.out) hb);have n2_:=Aside0.mk (blk_below (g:=gb324) (o:=.cells #[.int .i64 0,.string (⟨#[]⟩ : ByteArray)] 31 (0,0)) (blk_up BK324.out) hb);have n3_:=Aside0.mk (below_step (below_go HB.out) hb);clear BK322;clear BK323;clear BK324;clear HB;have BK322:=n0_;have BK323:=n1_;have BK324:=n2_;have HB:=n3_;clear n0_ n1_ n2_ n3_;(try clear hb);(try clear hb2);(try clear hk);(try clear hi)))
   go_meet
   case rel=>exact ⟨_,(true),(by first|rfl|(simp;done)|(simp [*];done)),(by first|exact H'|(subst_vars;exact H')),⟨by first|omega|exact Nat.le_refl _⟩,⟨by (with_reducible repeat (first|refine blk_drewN ?_ _|refine blk_drew ?_|refine blk_alloc ?_ _));exact BK322.out⟩,⟨by (with_reducible repeat (first|refine blk_drewN ?_ _|refine blk_drew ?_|refine blk_alloc ?_ _));exact BK323.out⟩,⟨by (with_reducible repeat (first|refine blk_drewN ?_ _|refine blk_drew ?_|refine blk_alloc ?_ _));exact BK324.out⟩,⟨by repeat (first|(with_reducible first|exact HB.out|apply below_alloc|apply pw_below_drewN|apply below_drew1|refine below_set ?_ GE322.out|refine below_set ?_ GE323.out|refine below_set ?_ GE324.out)|exact HB.out)⟩⟩
 case rest =>
  clear HC4
  try clear c1
  try clear p2
  try clear c4
  try clear c9
  try clear c11
  try clear c12
  try clear c15
  try clear c18
  try clear c19
  try clear hcz13_0
  try clear hcz13_1
  try clear hcz16_0
  try clear hcz16_1
  try clear hcz20_0
  try clear hcz20_1
  try clear hfz13_0
  try clear hfz13_1
  try clear hfz16_0
  try clear hfz16_1
  try clear hfz20_0
  try clear hfz20_1
  obtain ⟨kq,x7_3,rfl,HA,HJ3,BK322,BK323,BK324,HB⟩:=hcut
  cases kq with
  | zero=>exact absurd HA.out (by simp [value_Add.j0])
  | succ kj3 =>
   have H:=HA.out
   clear HA
   simp only [value_Add.j0] at H
   by_cases c22 : x7_3=true
   ·subst c22
    have H1 : (some (0,(⟨#[]⟩ : ByteArray)))=some (r1,r2):=by rw [if_pos rfl] at H;exact H
    clear H
    have H:=H1
    clear H1
    simp only [Option.some.injEq,Prod.mk.injEq] at H
    obtain ⟨rfl,rfl⟩:=H
    have hnb23:=NB324_322.out
    have hnc23:=NB322_324.out
    have hnb24:=NB324_323.out
    have hnc24:=NB323_324.out
    have hcz25_0 : wc.cell? ⟨gb324,0,none⟩=some (.int .i64 0):=(blk_cell BK324.out 0).trans rfl
    have hcz25_1 : wc.cell? ⟨gb324,1,none⟩=some (.string (⟨#[]⟩ : ByteArray)):=(blk_cell BK324.out 1).trans rfl
    have hfz25_0:=blk_frozen BK324.out 0
    have hfz25_1:=blk_frozen BK324.out 1
    go_wp2
    refine bodyPost_ret (results_cell_row rfl _ _ gb324 31 #[.int .i64 0,.string (⟨#[]⟩ : ByteArray)] (0,0) _ rfl (by (with_reducible repeat (first|refine blk_drewN ?_ _|refine blk_drew ?_|refine blk_alloc ?_ _));refine blk_put (cs:=#[.int .i64 0,.string (⟨#[]⟩ : ByteArray)]) ?_ 1 _ rfl;(with_reducible repeat (first|refine blk_drewN ?_ _|refine blk_drew ?_|refine blk_alloc ?_ _));refine blk_put (cs:=#[.int .i64 0,.string (⟨#[]⟩ : ByteArray)]) ?_ 0 _ rfl;(with_reducible repeat (first|refine blk_drewN ?_ _|refine blk_drew ?_|refine blk_alloc ?_ _));exact BK324.out) Try.underlying31 rfl (by kernel_rfl)) rfl ?_
    exact ⟨by first|rfl|(simp [errW_none,errW_some] <;> rfl)|(simp [*,errW_none,errW_some] <;> rfl),by repeat (first|(with_reducible first|exact HB.out|apply below_alloc|apply pw_below_drewN|apply below_drew1|refine below_set ?_ GE322.out|refine below_set ?_ GE323.out|refine below_set ?_ GE324.out)|exact HB.out)⟩
   ·replace c22:=Bool.eq_false_iff.mpr c22
    subst c22
    have H1 : (if a0=3 then (some (a2_0,a2_1)) else (some (wrap64 (a1_0 + a2_0),(⟨#[]⟩ : ByteArray))))=some (r1,r2):=by rw [if_neg (show ¬ (false=true) by decide)] at H;exact H
    clear H
    have H:=H1
    clear H1
    by_cases c26 : a0=3
    ·rw [if_pos c26] at H
     have c26b0 : (a0 == 3)=true:=beq_iff_eq.mpr c26
     have c26b1 : (a0 != 3)=false:=bne_eq_false_iff_eq.mpr c26
     clear c26
     simp only [Option.some.injEq,Prod.mk.injEq] at H
     obtain ⟨rfl,rfl⟩:=H
     have hnb27:=NB323_322.out
     have hnc27:=NB322_323.out
     have hnb28:=NB323_324.out
     have hnc28:=NB324_323.out
     have hcz29_0 : wc.cell? ⟨gb323,0,none⟩=some (.int .i64 a2_0):=(blk_cell BK323.out 0).trans rfl
     have hcz29_1 : wc.cell? ⟨gb323,1,none⟩=some (.string a2_1):=(blk_cell BK323.out 1).trans rfl
     have hfz29_0:=blk_frozen BK323.out 0
     have hfz29_1:=blk_frozen BK323.out 1
     have hnb30:=NB324_322.out
     have hnc30:=NB322_324.out
     have hcz31_0 : wc.cell? ⟨gb324,0,none⟩=some (.int .i64 0):=(blk_cell BK324.out 0).trans rfl
     have hcz31_1 : wc.cell? ⟨gb324,1,none⟩=some (.string (⟨#[]⟩ : ByteArray)):=(blk_cell BK324.out 1).trans rfl
     have hfz31_0:=blk_frozen BK324.out 0
     have hfz31_1:=blk_frozen BK324.out 1
     go_wp2
     refine bodyPost_ret (results_cell_row rfl _ _ gb324 31 #[.int .i64 a2_0,.string a2_1] (0,0) _ rfl (by (with_reducible repeat (first|refine blk_drewN ?_ _|refine blk_drew ?_|refine blk_alloc ?_ _));refine blk_put (cs:=#[.int .i64 a2_0,.string (⟨#[]⟩ : ByteArray)]) ?_ 1 _ rfl;(with_reducible repeat (first|refine blk_drewN ?_ _|refine blk_drew ?_|refine blk_alloc ?_ _));refine blk_put (cs:=#[.int .i64 0,.string (⟨#[]⟩ : ByteArray)]) ?_ 0 _ rfl;(with_reducible repeat (first|refine blk_drewN ?_ _|refine blk_drew ?_|refine blk_alloc ?_ _));exact BK324.out) Try.underlying31 rfl (by kernel_rfl)) rfl ?_
     exact ⟨by first|rfl|(simp [errW_none,errW_some] <;> rfl)|(simp [*,errW_none,errW_some] <;> rfl),by repeat (first|(with_reducible first|exact HB.out|apply below_alloc|apply pw_below_drewN|apply below_drew1|refine below_set ?_ GE322.out|refine below_set ?_ GE323.out|refine below_set ?_ GE324.out)|exact HB.out)⟩
    ·rw [if_neg c26] at H
     have c26b0 : (a0 == 3)=false:=beq_eq_false_iff_ne.mpr c26
     have c26b1 : (a0 != 3)=true:=bne_iff_ne.mpr c26
     simp only [Option.some.injEq,Prod.mk.injEq] at H
     obtain ⟨rfl,rfl⟩:=H
     have hnb32:=NB322_323.out
     have hnc32:=NB323_322.out
     have hnb33:=NB322_324.out
     have hnc33:=NB324_322.out
     have hcz34_0 : wc.cell? ⟨gb322,0,none⟩=some (.int .i64 a1_0):=(blk_cell BK322.out 0).trans rfl
     have hcz34_1 : wc.cell? ⟨gb322,1,none⟩=some (.string a1_1):=(blk_cell BK322.out 1).trans rfl
     have hfz34_0:=blk_frozen BK322.out 0
     have hfz34_1:=blk_frozen BK322.out 1
     have hnb35:=NB323_324.out
     have hnc35:=NB324_323.out
     have hcz36_0 : wc.cell? ⟨gb323,0,none⟩=some (.int .i64 a2_0):=(blk_cell BK323.out 0).trans rfl
     have hcz36_1 : wc.cell? ⟨gb323,1,none⟩=some (.string a2_1):=(blk_cell BK323.out 1).trans rfl
     have hfz36_0:=blk_frozen BK323.out 0
     have hfz36_1:=blk_frozen BK323.out 1
     have hcz37_0 : wc.cell? ⟨gb324,0,none⟩=some (.int .i64 0):=(blk_cell BK324.out 0).trans rfl
     have hcz37_1 : wc.cell? ⟨gb324,1,none⟩=some (.string (⟨#[]⟩ : ByteArray)):=(blk_cell BK324.out 1).trans rfl
     have hfz37_0:=blk_frozen BK324.out 0
     have hfz37_1:=blk_frozen BK324.out 1
     go_wp2
     refine bodyPost_ret (results_cell_row rfl _ _ gb324 31 #[.int .i64 (wrap64 (a1_0 + a2_0)),.string (⟨#[]⟩ : ByteArray)] (0,0) _ rfl (by (with_reducible repeat (first|refine blk_drewN ?_ _|refine blk_drew ?_|refine blk_alloc ?_ _));refine blk_put (cs:=#[.int .i64 (wrap64 (a1_0 + a2_0)),.string (⟨#[]⟩ : ByteArray)]) ?_ 1 _ rfl;(with_reducible repeat (first|refine blk_drewN ?_ _|refine blk_drew ?_|refine blk_alloc ?_ _));refine blk_put (cs:=#[.int .i64 0,.string (⟨#[]⟩ : ByteArray)]) ?_ 0 _ rfl;(with_reducible repeat (first|refine blk_drewN ?_ _|refine blk_drew ?_|refine blk_alloc ?_ _));exact BK324.out) Try.underlying31 rfl (by kernel_rfl)) rfl ?_
     exact ⟨by first|rfl|(simp [errW_none,errW_some] <;> rfl)|(simp [*,errW_none,errW_some] <;> rfl),by repeat (first|(with_reducible first|exact HB.out|apply below_alloc|apply pw_below_drewN|apply below_drew1|refine below_set ?_ GE322.out|refine below_set ?_ GE323.out|refine below_set ?_ GE324.out)|exact HB.out)⟩
end Go.Proofs.Ytfiandejapgkoaa.P

