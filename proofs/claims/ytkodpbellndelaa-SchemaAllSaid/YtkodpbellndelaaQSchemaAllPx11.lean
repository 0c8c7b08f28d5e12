/- Texts of SchemaAll. Merged: Px11. -/
import Derived.Test.YtkodpbellndelaaQSchemaAllPx0
import Derived.Test.YtkodpbellndelaaQSchemaAllPx4
import Derived.Test.YtkodpbellndelaaQSchemaAllPx10
import Derived.Test.YtkodpbellndelaaQSchemaAllHCmp
namespace Go.Proofs.Ytkodpbellndelaa.P
open Go.RowKit Go.Proofs.YtkodpbellndelaaW.PrintWords Go.Proofs.YtkodpbellndelaaW.PrintLast Go.Proofs.YtkodpbellndelaaW.PrintMore
attribute [local go_sem] max2_int min2_int max_two min_two max_three min_three max_four min_four   -- for this text's walks alone
set_option linter.unusedVariables false
set_option linter.unusedSimpArgs false
def value_Compare.j0 : Nat→Int→Bool→Int→ByteArray→Int→ByteArray→Option (Int)
 | 0,_,_,_,_,_,_=>none
 | k + 1,x0,x7,x334000,x334001,x335000,x335001=>if x7=true then (some 0) else (if x0=3 then ((strings_Compare.f x334001 x335001).bind fun t337=>(some t337)) else (if x0=2 then ((cmp_Compare_uint64.f (IntKind.u64.wrap (x334000)) (IntKind.u64.wrap (x335000))).bind fun t338=>(some t338)) else ((cmp_Compare_int64.f x334000 x335000).bind fun t339=>(some t339))))
def value_Compare.f (k : Nat) (a0 : Int) (a1_0 : Int) (a1_1 : ByteArray) (a2_0 : Int) (a2_1 : ByteArray) : Option (Int):=(value_Fits.f k a0 a1_0 a1_1).bind fun t335=>(if t335=true then ((value_Fits.f k a0 a2_0 a2_1).bind fun t336=>(value_Compare.j0 k a0 (!t336) a1_0 a1_1 a2_0 a2_1)) else (value_Compare.j0 k a0 true a1_0 a1_1 a2_0 a2_1))
theorem value_Compare.mono_l : ∀ k,(∀ y0 y1 y2 y3 y4 y5,LeO (value_Compare.j0 k y0 y1 y2 y3 y4 y5) (value_Compare.j0 (k + 1) y0 y1 y2 y3 y4 y5))
 | 0=>fun _ _ _ _ _ _ r h=>by simp [value_Compare.j0] at h
 | k + 1=>by
  have ih0:=value_Compare.mono_l k
  ·intro y0 y1 y2 y3 y4 y5
   unfold value_Compare.j0
   repeat' first
   | (with_reducible exact ih0 _ _ _ _ _ _)
   | (with_reducible exact value_Fits.mono _ _ _ _)
   | (with_reducible exact LeO.refl _)
   | (with_reducible exact LeO.none _)
   | (with_reducible refine LeO.ite ?_ ?_)
   | (with_reducible refine LeO.bind ?_ (fun _=>?_))
   | exact ih0 _ _ _ _ _ _
   | exact value_Fits.mono _ _ _ _
   | exact LeO.none _
   | refine LeO.ite ?_ ?_
   | refine LeO.bind ?_ (fun _=>?_)
theorem value_Compare.mono : ∀ a0 a1 a2 a3 a4 k,LeO (value_Compare.f k a0 a1 a2 a3 a4) (value_Compare.f (k + 1) a0 a1 a2 a3 a4):=by
 intro a0 a1 a2 a3 a4 k
 have ih0:=value_Compare.mono_l k
 unfold value_Compare.f
 repeat' first
   | (with_reducible exact ih0 _ _ _ _ _ _)
   | (with_reducible exact value_Fits.mono _ _ _ _)
   | (with_reducible exact LeO.refl _)
   | (with_reducible exact LeO.none _)
   | (with_reducible refine LeO.ite ?_ ?_)
   | (with_reducible refine LeO.bind ?_ (fun _=>?_))
   | exact ih0 _ _ _ _ _ _
   | exact value_Fits.mono _ _ _ _
   | exact LeO.none _
   | refine LeO.ite ?_ ?_
   | refine LeO.bind ?_ (fun _=>?_)
set_option maxHeartbeats 8000000 in
set_option maxRecDepth 100000 in
theorem value_Compare.calls (k : Nat) (a0 : Int) (a1_0 : Int) (a1_1 : ByteArray) (a2_0 : Int) (a2_1 : ByteArray) (r : Int) (w : World) (h : value_Compare.f k a0 a1_0 a1_1 a2_0 a2_1=some r) :
  Calls Try.prog 36 #[.int .i64 a0,.agg #[.int .i64 a1_0,.string a1_1],.agg #[.int .i64 a2_0,.string a2_1]] w fun e w'=>e=.returned (.int .i64 r)∧Below w.heap.size w w':=by
 have hu34:=Try.underlying34
 have HB:=Aside0.mk (Below.refl w.heap.size w)
 have H : ((value_Fits.f k a0 a1_0 a1_1).bind fun t335=>(if t335=true then ((value_Fits.f k a0 a2_0 a2_1).bind fun t336=>(value_Compare.j0 k a0 (!t336) a1_0 a1_1 a2_0 a2_1)) else (value_Compare.j0 k a0 true a1_0 a1_1 a2_0 a2_1)))=some r:=h
 clear h
 have HC4:=Aside0.mk H
 clear H
 go_enter Try.func36,Try.ntmps36
 go_upto_region 1 with (first|((with_reducible refine gate_dst (N:=4) rfl ?_);refine box_event ?hg (N:=4) ?hd (cs:=#[.int .i64 a1_0,.string a1_1]) (t:=34) ?hr ?_;(case hd=>rfl);(case hg=>rfl);(case hr=>first|(go_simp;done)|(go_simp;rfl));intro gb333 hg w5 hbox hb;have n0_:=Aside0.mk (below_step (below_up HB.out) hb);have n1_:=Aside0.mk (hbox);have n2_:=Aside0.mk ((by rw [hg];exact (below_size (below_up HB.out)) : w.heap.size≤gb333));have n3_:=Aside0.mk ((by rw [hg];exact (below_size (below_up HB.out)) : w.heap.size≤gb333));clear HB;have HB:=n0_;have BK333:=n1_;have GW333:=n2_;have GE333:=n3_;clear n0_ n1_ n2_ n3_;clear hb hbox hg)|((with_reducible refine gate_dst (N:=5) rfl ?_);refine box_event ?hg (N:=5) ?hd (cs:=#[.int .i64 a2_0,.string a2_1]) (t:=34) ?hr ?_;(case hd=>rfl);(case hg=>rfl);(case hr=>first|(go_simp;done)|(go_simp;rfl));intro gb334 hg w6 hbox hb;have n0_:=Aside0.mk (blk_below (blk_up BK333.out) hb);have n1_:=Aside0.mk (below_step (below_go HB.out) hb);have n2_:=Aside0.mk (hbox);have n3_:=Aside0.mk ((by rw [hg];exact (below_size (below_go HB.out)) : w.heap.size≤gb334));have n4_:=Aside0.mk ((by rw [hg];exact (below_size (below_go HB.out)) : w.heap.size≤gb334));have n5_:=Aside0.mk ((by rw [hg];exact Nat.ne_of_lt (blk_lt (blk_up BK333.out)) : gb333≠gb334));have n6_:=Aside0.mk ((by rw [hg];exact Nat.ne_of_gt (blk_lt (blk_up BK333.out)) : gb334≠gb333));clear BK333;clear HB;have BK333:=n0_;have HB:=n1_;have BK334:=n2_;have GW334:=n3_;have GE334:=n4_;have NB333_334:=n5_;have NB334_333:=n6_;clear n0_ n1_ n2_ n3_ n4_ n5_ n6_;clear hb hbox hg))
 (try simp only [Act.put,List.setIfInBounds_toArray,List.set_cons_zero,List.set_cons_succ])
 go_cut [7] (fun v7 wc=>∃ (kq : Nat) (x7_3 : Bool),v7=.bool x7_3∧Aside0 (value_Compare.j0 kq a0 x7_3 a1_0 a1_1 a2_0 a2_1=some r)∧Aside0 (kq≤k)∧Aside0 (wc.heap[gb333]?=some (.cells #[.int .i64 a1_0,.string a1_1] 34 (0,0)))∧Aside0 (wc.heap[gb334]?=some (.cells #[.int .i64 a2_0,.string a2_1] 34 (0,0)))∧Aside0 (Below w.heap.size w wc))
 case first =>
  have H:=HC4.out
  clear HC4
  replace H:=Option.bind_eq_some_iff.mp H
  obtain ⟨t335,A70,H⟩:=H
  replace H : (if t335=true then ((value_Fits.f k a0 a2_0 a2_1).bind fun t336=>(value_Compare.j0 k a0 (!t336) a1_0 a1_1 a2_0 a2_1)) else (value_Compare.j0 k a0 true a1_0 a1_1 a2_0 a2_1))=some r:=H
  have A7:=Aside0.mk A70
  clear A70
  by_cases c8 : t335=true
  ·subst c8
   have H1 : ((value_Fits.f k a0 a2_0 a2_1).bind fun t336=>(value_Compare.j0 k a0 (!t336) a1_0 a1_1 a2_0 a2_1))=some r:=by rw [if_pos rfl] at H;exact H
   clear H
   have H:=H1
   clear H1
   replace H:=Option.bind_eq_some_iff.mp H
   obtain ⟨t336,A90,H⟩:=H
   replace H : (value_Compare.j0 k a0 (!t336) a1_0 a1_1 a2_0 a2_1)=some r:=H
   have A9:=Aside0.mk A90
   clear A90
   have H':=Aside0.mk H
   clear H
   have hnb10:=NB333_334.out
   have hnc10:=NB334_333.out
   have hcz11_0 : w6.cell? ⟨gb333,0,none⟩=some (.int .i64 a1_0):=(blk_cell BK333.out 0).trans rfl
   have hcz11_1 : w6.cell? ⟨gb333,1,none⟩=some (.string a1_1):=(blk_cell BK333.out 1).trans rfl
   have hfz11_0:=blk_frozen BK333.out 0
   have hfz11_1:=blk_frozen BK333.out 1
   go_wp2_with (first|((with_reducible refine gate_callee (f:=29) rfl ?_);refine goesL_ (some 10) rfl rfl Try.func29 (by kernel_rfl) rfl #[.int .i64 a0,.agg #[.int .i64 a1_0,.string a1_1]] rfl (by (try simp only [List.map_toArray,List.map_cons,List.map_nil]);first|done|rfl|(simp only [List.length_drop,List.length_take];rfl)) ?_;(with_reducible refine (value_Fits.calls k a0 a1_0 a1_1 true _ A7.out).mono ?_);rintro e w12 ⟨rfl,hb⟩;refine ⟨_,rfl,?_⟩;have n0_:=Aside0.mk (blk_below (blk_up BK333.out) hb);have n1_:=Aside0.mk (blk_below (blk_up BK334.out) hb);have n2_:=Aside0.mk (below_step (below_go HB.out) hb);clear BK333;clear BK334;clear HB;have BK333:=n0_;have BK334:=n1_;have HB:=n2_;clear n0_ n1_ n2_;(try clear hb);(try clear hb2);(try clear hk);(try clear hi);have hcz13_0 : w12.cell? ⟨gb334,0,none⟩=some (.int .i64 a2_0):=(blk_cell BK334.out 0).trans rfl;have hcz13_1 : w12.cell? ⟨gb334,1,none⟩=some (.string a2_1):=(blk_cell BK334.out 1).trans rfl;have hfz13_0:=blk_frozen BK334.out 0;have hfz13_1:=blk_frozen BK334.out 1)|(go_at_call 29;(with_reducible refine (value_Fits.calls k a0 a2_0 a2_1 t336 _ A9.out).mono ?_);rintro e w14 ⟨rfl,hb⟩;have n0_:=Aside0.mk (blk_below (blk_up BK333.out) hb);have n1_:=Aside0.mk (blk_below (blk_up BK334.out) hb);have n2_:=Aside0.mk (below_step (below_go HB.out) hb);clear BK333;clear BK334;clear HB;have BK333:=n0_;have BK334:=n1_;have HB:=n2_;clear n0_ n1_ n2_;(try clear hb);(try clear hb2);(try clear hk);(try clear hi)))
   go_meet
   case rel=>exact ⟨_,(!t336),(by first|rfl|(simp;done)|(simp [*];done)),(by first|exact H'|(subst_vars;exact H')),⟨by first|omega|exact Nat.le_refl _⟩,⟨by (with_reducible repeat (first|refine blk_drewN ?_ _|refine blk_drew ?_|refine blk_alloc ?_ _));exact BK333.out⟩,⟨by (with_reducible repeat (first|refine blk_drewN ?_ _|refine blk_drew ?_|refine blk_alloc ?_ _));exact BK334.out⟩,⟨by repeat (first|(with_reducible first|exact HB.out|apply below_alloc|apply pw_below_drewN|apply below_drew1|refine below_set ?_ GE333.out|refine below_set ?_ GE334.out)|exact HB.out)⟩⟩
  ·replace c8:=Bool.eq_false_iff.mpr c8
   subst c8
   have H1 : (value_Compare.j0 k a0 true a1_0 a1_1 a2_0 a2_1)=some r:=by rw [if_neg (show ¬ (false=true) by decide)] at H;exact H
   clear H
   have H:=H1
   clear H1
   have H':=Aside0.mk H
   clear H
   have hnb15:=NB333_334.out
   have hnc15:=NB334_333.out
   have hcz16_0 : w6.cell? ⟨gb333,0,none⟩=some (.int .i64 a1_0):=(blk_cell BK333.out 0).trans rfl
   have hcz16_1 : w6.cell? ⟨gb333,1,none⟩=some (.string a1_1):=(blk_cell BK333.out 1).trans rfl
   have hfz16_0:=blk_frozen BK333.out 0
   have hfz16_1:=blk_frozen BK333.out 1
   go_wp2_with (first|((with_reducible refine gate_callee (f:=29) rfl ?_);refine goesL_ (some 10) rfl rfl Try.func29 (by kernel_rfl) rfl #[.int .i64 a0,.agg #[.int .i64 a1_0,.string a1_1]] rfl (by (try simp only [List.map_toArray,List.map_cons,List.map_nil]);first|done|rfl|(simp only [List.length_drop,List.length_take];rfl)) ?_;(with_reducible refine (value_Fits.calls k a0 a1_0 a1_1 false _ A7.out).mono ?_);rintro e w17 ⟨rfl,hb⟩;refine ⟨_,rfl,?_⟩;have n0_:=Aside0.mk (blk_below (blk_up BK333.out) hb);have n1_:=Aside0.mk (blk_below (blk_up BK334.out) hb);have n2_:=Aside0.mk (below_step (below_go HB.out) hb);clear BK333;clear BK334;clear HB;have BK333:=n0_;have BK334:=n1_;have HB:=n2_;clear n0_ n1_ n2_;(try clear hb);(try clear hb2);(try clear hk);(try clear hi)))
   go_meet
   case rel=>exact ⟨_,(true),(by first|rfl|(simp;done)|(simp [*];done)),(by first|exact H'|(subst_vars;exact H')),⟨by first|omega|exact Nat.le_refl _⟩,⟨by (with_reducible repeat (first|refine blk_drewN ?_ _|refine blk_drew ?_|refine blk_alloc ?_ _));exact BK333.out⟩,⟨by (with_reducible repeat (first|refine blk_drewN ?_ _|refine blk_drew ?_|refine blk_alloc ?_ _));exact BK334.out⟩,⟨by repeat (first|(with_reducible first|exact HB.out|apply below_alloc|apply pw_below_drewN|apply below_drew1|refine below_set ?_ GE333.out|refine below_set ?_ GE334.out)|exact HB.out)⟩⟩
 case rest =>
  clear HC4
  try clear c1
  try clear c2
  try clear p2
  try clear c3
  try clear c8
  try clear c10
  try clear c15
  try clear hcz11_0
  try clear hcz11_1
  try clear hcz13_0
  try clear hcz13_1
  try clear hcz16_0
  try clear hcz16_1
  try clear hfz11_0
  try clear hfz11_1
  try clear hfz13_0
  try clear hfz13_1
  try clear hfz16_0
  try clear hfz16_1
  obtain ⟨kq,x7_3,rfl,HA,HJ3,BK333,BK334,HB⟩:=hcut
  cases kq with
  | zero=>exact absurd HA.out (by simp [value_Compare.j0])
  | succ kj3 =>
   have H:=HA.out
   clear HA
   simp only [value_Compare.j0] at H
   by_cases c18 : x7_3=true
   ·subst c18
    have H1 : (some 0)=some r:=by rw [if_pos rfl] at H;exact H
    clear H
    have H:=H1
    clear H1
    obtain rfl:=Option.some.inj H
    go_wp2
    go_ret
    exact ⟨by first|rfl|(simp [errW_none,errW_some] <;> rfl)|(simp [*,errW_none,errW_some] <;> rfl),by repeat (first|(with_reducible first|exact HB.out|apply below_alloc|apply pw_below_drewN|apply below_drew1|refine below_set ?_ GE333.out|refine below_set ?_ GE334.out)|exact HB.out)⟩
   ·replace c18:=Bool.eq_false_iff.mpr c18
    subst c18
    have H1 : (if a0=3 then ((strings_Compare.f a1_1 a2_1).bind fun t337=>(some t337)) else (if a0=2 then ((cmp_Compare_uint64.f (IntKind.u64.wrap (a1_0)) (IntKind.u64.wrap (a2_0))).bind fun t338=>(some t338)) else ((cmp_Compare_int64.f a1_0 a2_0).bind fun t339=>(some t339))))=some r:=by rw [if_neg (show ¬ (false=true) by decide)] at H;exact H
    clear H
    have H:=H1
    clear H1
    by_cases c19 : a0=3
    ·rw [if_pos c19] at H
     have c19b0 : (a0 == 3)=true:=beq_iff_eq.mpr c19
     have c19b1 : (a0 != 3)=false:=bne_eq_false_iff_eq.mpr c19
     clear c19
     replace H:=Option.bind_eq_some_iff.mp H
     obtain ⟨t337,A200,H⟩:=H
     replace H : (some t337)=some r:=H
     have A20:=Aside0.mk A200
     clear A200
     obtain rfl:=Option.some.inj H
     have hnb21:=NB333_334.out
     have hnc21:=NB334_333.out
     have hcz22_0 : wc.cell? ⟨gb333,0,none⟩=some (.int .i64 a1_0):=(blk_cell BK333.out 0).trans rfl
     have hcz22_1 : wc.cell? ⟨gb333,1,none⟩=some (.string a1_1):=(blk_cell BK333.out 1).trans rfl
     have hfz22_0:=blk_frozen BK333.out 0
     have hfz22_1:=blk_frozen BK333.out 1
     have hcz23_0 : wc.cell? ⟨gb334,0,none⟩=some (.int .i64 a2_0):=(blk_cell BK334.out 0).trans rfl
     have hcz23_1 : wc.cell? ⟨gb334,1,none⟩=some (.string a2_1):=(blk_cell BK334.out 1).trans rfl
     have hfz23_0:=blk_frozen BK334.out 0
     have hfz23_1:=blk_frozen BK334.out 1
     go_wp2_with (first|((with_reducible refine gate_callee (f:=46) rfl ?_);refine goesL_ (some 25) rfl rfl Try.func46 (by kernel_rfl) rfl #[.string a1_1,.string a2_1] rfl (by (try simp only [List.map_toArray,List.map_cons,List.map_nil]);first|done|rfl|(simp only [List.length_drop,List.length_take];rfl)) ?_;(with_reducible refine (strings_Compare.calls a1_1 a2_1 t337 _ A20.out).mono ?_);rintro e w' ⟨rfl,⟨nd,rfl⟩⟩;refine ⟨_,rfl,?_⟩))
     go_ret
     exact ⟨by first|rfl|(simp [errW_none,errW_some] <;> rfl)|(simp [*,errW_none,errW_some] <;> rfl),by repeat (first|(with_reducible first|exact HB.out|apply below_alloc|apply pw_below_drewN|apply below_drew1|refine below_set ?_ GE333.out|refine below_set ?_ GE334.out)|exact HB.out)⟩
    ·rw [if_neg c19] at H
     have c19b0 : (a0 == 3)=false:=beq_eq_false_iff_ne.mpr c19
     have c19b1 : (a0 != 3)=true:=bne_iff_ne.mpr c19
     by_cases c24 : a0=2
     ·rw [if_pos c24] at H
      have c24b0 : (a0 == 2)=true:=beq_iff_eq.mpr c24
      have c24b1 : (a0 != 2)=false:=bne_eq_false_iff_eq.mpr c24
      clear c24
      replace H:=Option.bind_eq_some_iff.mp H
      obtain ⟨t338,A250,H⟩:=H
      replace H : (some t338)=some r:=H
      have A25:=Aside0.mk A250
      clear A250
      obtain rfl:=Option.some.inj H
      have hnb26:=NB333_334.out
      have hnc26:=NB334_333.out
      have hcz27_0 : wc.cell? ⟨gb333,0,none⟩=some (.int .i64 a1_0):=(blk_cell BK333.out 0).trans rfl
      have hcz27_1 : wc.cell? ⟨gb333,1,none⟩=some (.string a1_1):=(blk_cell BK333.out 1).trans rfl
      have hfz27_0:=blk_frozen BK333.out 0
      have hfz27_1:=blk_frozen BK333.out 1
      have hcz28_0 : wc.cell? ⟨gb334,0,none⟩=some (.int .i64 a2_0):=(blk_cell BK334.out 0).trans rfl
      have hcz28_1 : wc.cell? ⟨gb334,1,none⟩=some (.string a2_1):=(blk_cell BK334.out 1).trans rfl
      have hfz28_0:=blk_frozen BK334.out 0
      have hfz28_1:=blk_frozen BK334.out 1
      go_wp2_with (first|((with_reducible refine gate_callee (f:=47) rfl ?_);refine goesL_ (some 35) rfl rfl Try.func47 (by kernel_rfl) rfl #[.int .u64 (IntKind.u64.wrap (a1_0)),.int .u64 (IntKind.u64.wrap (a2_0))] rfl (by (try simp only [List.map_toArray,List.map_cons,List.map_nil]);first|done|rfl|(simp only [List.length_drop,List.length_take];rfl)) ?_;(with_reducible refine (cmp_Compare_uint64.calls (IntKind.u64.wrap (a1_0)) (IntKind.u64.wrap (a2_0)) t338 _ A25.out).mono ?_);rintro e w' ⟨rfl,⟨nd,rfl⟩⟩;refine ⟨_,rfl,?_⟩))
      go_ret
      exact ⟨by first|rfl|(simp [errW_none,errW_some] <;> rfl)|(simp [*,errW_none,errW_some] <;> rfl),by repeat (first|(with_reducible first|exact HB.out|apply below_alloc|apply pw_below_drewN|apply below_drew1|refine below_set ?_ GE333.out|refine below_set ?_ GE334.out)|exact HB.out)⟩
     ·rw [if_neg c24] at H
      have c24b0 : (a0 == 2)=false:=beq_eq_false_iff_ne.mpr c24
      have c24b1 : (a0 != 2)=true:=bne_iff_ne.mpr c24
      replace H:=Option.bind_eq_some_iff.mp H
      obtain ⟨t339,A290,H⟩:=H
      replace H : (some t339)=some r:=H
      have A29:=Aside0.mk A290
      clear A290
      obtain rfl:=Option.some.inj H
      have hnb30:=NB333_334.out
      have hnc30:=NB334_333.out
      have hcz31_0 : wc.cell? ⟨gb333,0,none⟩=some (.int .i64 a1_0):=(blk_cell BK333.out 0).trans rfl
      have hcz31_1 : wc.cell? ⟨gb333,1,none⟩=some (.string a1_1):=(blk_cell BK333.out 1).trans rfl
      have hfz31_0:=blk_frozen BK333.out 0
      have hfz31_1:=blk_frozen BK333.out 1
      have hcz32_0 : wc.cell? ⟨gb334,0,none⟩=some (.int .i64 a2_0):=(blk_cell BK334.out 0).trans rfl
      have hcz32_1 : wc.cell? ⟨gb334,1,none⟩=some (.string a2_1):=(blk_cell BK334.out 1).trans rfl
      have hfz32_0:=blk_frozen BK334.out 0
      have hfz32_1:=blk_frozen BK334.out 1
      go_wp2_with (first|((with_reducible refine gate_callee (f:=48) rfl ?_);refine goesL_ (some 40) rfl rfl Try.func48 (by kernel_rfl) rfl #[.int .i64 a1_0,.int .i64 a2_0] rfl (by (try simp only [List.map_toArray,List.map_cons,List.map_nil]);first|done|rfl|(simp only [List.length_drop,List.length_take];rfl)) ?_;(with_reducible refine (cmp_Compare_int64.calls a1_0 a2_0 t339 _ A29.out).mono ?_);rintro e w' ⟨rfl,⟨nd,rfl⟩⟩;refine ⟨_,rfl,?_⟩))
      go_ret
      exact ⟨by first|rfl|(simp [errW_none,errW_some] <;> rfl)|(simp [*,errW_none,errW_some] <;> rfl),by repeat (first|(with_reducible first|exact HB.out|apply below_alloc|apply pw_below_drewN|apply below_drew1|refine below_set ?_ GE333.out|refine below_set ?_ GE334.out)|exact HB.out)⟩
def schema_Compare.l0 : Nat→List (S34)→List (S34)→List Int→Int→Int→Option (Int)
 | 0,_,_,_,_,_=>none
 | k + 1,x1,x2,x23,x24,x25=>if x25 < x24 then (if 0≤x25 then (if x25 < (x23.length : Int) then (if x25 < (x1.length : Int) then (if x25 < (x2.length : Int) then ((value_Compare.f k (rd x23 x25) ((rd_T34 x1 x25).f0) ((rd_T34 x1 x25).f1) ((rd_T34 x2 x25).f0) ((rd_T34 x2 x25).f1)).bind fun t345=>(if t345=0 then (schema_Compare.l0 k x1 x2 x23 x24 (wrap64 (x25 + 1))) else (some t345))) else (none)) else (none)) else (none)) else (none)) else (some 0)
def schema_Compare.f (k : Nat) (l0_0 : List Int) (a0_1 : Int) (a0_2 : Int) (a0_3 : Int) (l1 : List (S34)) (l2 : List (S34)) : Option (Int):=if 0≤(mn (mn (mn (mx a0_1 0) (l0_0.length : Int)) (l1.length : Int)) (l2.length : Int)) then (if (mn (mn (mn (mx a0_1 0) (l0_0.length : Int)) (l1.length : Int)) (l2.length : Int))≤(l0_0.length : Int) then (schema_Compare.l0 k l1 l2 (l0_0.take ((mn (mn (mn (mx a0_1 0) (l0_0.length : Int)) (l1.length : Int)) (l2.length : Int)) : Int).toNat) ((l0_0.take ((mn (mn (mn (mx a0_1 0) (l0_0.length : Int)) (l1.length : Int)) (l2.length : Int)) : Int).toNat).length : Int) 0) else (none)) else (none)
theorem schema_Compare.mono_l : ∀ k,(∀ y0 y1 y2 y3 y4,LeO (schema_Compare.l0 k y0 y1 y2 y3 y4) (schema_Compare.l0 (k + 1) y0 y1 y2 y3 y4))
 | 0=>fun _ _ _ _ _ r h=>by simp [schema_Compare.l0] at h
 | k + 1=>by
  have ih0:=schema_Compare.mono_l k
  ·intro y0 y1 y2 y3 y4
   unfold schema_Compare.l0
   repeat' first
   | (with_reducible exact ih0 _ _ _ _ _)
   | (with_reducible exact value_Compare.mono _ _ _ _ _ _)
   | (with_reducible exact LeO.refl _)
   | (with_reducible exact LeO.none _)
   | (with_reducible refine LeO.ite ?_ ?_)
   | (with_reducible refine LeO.bind ?_ (fun _=>?_))
   | exact ih0 _ _ _ _ _
   | exact value_Compare.mono _ _ _ _ _ _
   | exact LeO.none _
   | refine LeO.ite ?_ ?_
   | refine LeO.bind ?_ (fun _=>?_)
theorem schema_Compare.mono : ∀ a0 a1 a2 a3 a4 a5 k,LeO (schema_Compare.f k a0 a1 a2 a3 a4 a5) (schema_Compare.f (k + 1) a0 a1 a2 a3 a4 a5):=by
 intro a0 a1 a2 a3 a4 a5 k
 have ih0:=schema_Compare.mono_l k
 unfold schema_Compare.f
 repeat' first
   | (with_reducible exact ih0 _ _ _ _ _)
   | (with_reducible exact value_Compare.mono _ _ _ _ _ _)
   | (with_reducible exact LeO.refl _)
   | (with_reducible exact LeO.none _)
   | (with_reducible refine LeO.ite ?_ ?_)
   | (with_reducible refine LeO.bind ?_ (fun _=>?_))
   | exact ih0 _ _ _ _ _
   | exact value_Compare.mono _ _ _ _ _ _
   | exact LeO.none _
   | refine LeO.ite ?_ ?_
   | refine LeO.bind ?_ (fun _=>?_)
def schema_Compare.T4 : Bool × List (List Nat × List Nat):=(true,[([],[]),([],[]),([],[]),([1,2],[1,2]),([3],[3]),([],[]),([],[]),([5,6],[5,6]),([7],[7]),([0,4,8],[0,4,8]),([9,9,0,1,2,3,4,5,6,7,8,9],[9])])
def schema_Compare.B4 : List Nat:=[0,0,0,6,14,0,0,96,224,511,1023]
theorem schema_Compare.tab4 : rtab .any (opsOf Try.f18 4)=schema_Compare.T4:=by kernel_rfl
theorem schema_Compare.bits4 : waitsOk schema_Compare.T4.2 schema_Compare.B4=true:=by kernel_rfl
set_option maxHeartbeats 8000000 in
set_option maxRecDepth 100000 in
theorem schema_Compare.calls (k : Nat) (A0_0 : Option Addr) (c0_0 : Nat) (l0_0 : List Int) (a0_1 : Int) (a0_2 : Int) (a0_3 : Int) (A1 : Option Addr) (c1 : Nat) (l1 : List (S34)) (A2 : Option Addr) (c2 : Nat) (l2 : List (S34)) (r : Int) (w : World) (hr0_0 : Kd.C (Kd.int .i64) w A0_0 l0_0.length l0_0) (hc0_0 : l0_0.length≤c0_0) (hr1 : Kd.C k34 w A1 l1.length l1) (hc1 : l1.length≤c1) (hr2 : Kd.C k34 w A2 l2.length l2) (hc2 : l2.length≤c2) (h : schema_Compare.f k l0_0 a0_1 a0_2 a0_3 l1 l2=some r) :
  Calls Try.prog 18 #[.agg #[.slice A0_0 l0_0.length c0_0,.int .i64 a0_1,.int .i64 a0_2,.int .i64 a0_3],.slice A1 l1.length c1,.slice A2 l2.length c2] w fun e w'=>e=.returned (.int .i64 r)∧Below w.heap.size w w':=by
 have hu30:=Try.underlying30
 have hu34:=Try.underlying34
 have HR0_0:=Aside0.mk hr0_0
 have HC0_0:=Aside0.mk hc0_0
 clear hr0_0 hc0_0
 have HR1:=Aside0.mk hr1
 have HC1:=Aside0.mk hc1
 clear hr1 hc1
 have HR2:=Aside0.mk hr2
 have HC2:=Aside0.mk hc2
 clear hr2 hc2
 have HB:=Aside0.mk (Below.refl w.heap.size w)
 have H : (if 0≤(mn (mn (mn (mx a0_1 0) (l0_0.length : Int)) (l1.length : Int)) (l2.length : Int)) then (if (mn (mn (mn (mx a0_1 0) (l0_0.length : Int)) (l1.length : Int)) (l2.length : Int))≤(l0_0.length : Int) then (schema_Compare.l0 k l1 l2 (l0_0.take ((mn (mn (mn (mx a0_1 0) (l0_0.length : Int)) (l1.length : Int)) (l2.length : Int)) : Int).toNat) ((l0_0.take ((mn (mn (mn (mx a0_1 0) (l0_0.length : Int)) (l1.length : Int)) (l2.length : Int)) : Int).toNat).length : Int) 0) else (none)) else (none))=some r:=h
 clear h
 obtain ⟨ji4,hji4⟩ : ∃ j_ : Int,(mx a0_1 0)=j_:=⟨_,rfl⟩
 replace H : (if 0≤(mn (mn (mn (ji4) (l0_0.length : Int)) (l1.length : Int)) (l2.length : Int)) then (if (mn (mn (mn (ji4) (l0_0.length : Int)) (l1.length : Int)) (l2.length : Int))≤(l0_0.length : Int) then (schema_Compare.l0 k l1 l2 (l0_0.take ((mn (mn (mn (ji4) (l0_0.length : Int)) (l1.length : Int)) (l2.length : Int)) : Int).toNat) ((l0_0.take ((mn (mn (mn (ji4) (l0_0.length : Int)) (l1.length : Int)) (l2.length : Int)) : Int).toNat).length : Int) 0) else (none)) else (none))=some r:=by first|(rw [hji4] at H;exact H)|(simp only [hji4] at H ⊢;exact H)
 (try (have hji4l : 0≤ji4:=by (rw [← hji4];unfold mx;(repeat' split) <;> omega)))
 (try (have hji4m : 0≤ji4:=by omega))
 have hji4_ : (if a0_1 < 0 then 0 else a0_1)=ji4:=hji4
 obtain ⟨ji5,hji5⟩ : ∃ j_ : Int,(mn (ji4) (l0_0.length : Int))=j_:=⟨_,rfl⟩
 replace H : (if 0≤(mn (mn (ji5) (l1.length : Int)) (l2.length : Int)) then (if (mn (mn (ji5) (l1.length : Int)) (l2.length : Int))≤(l0_0.length : Int) then (schema_Compare.l0 k l1 l2 (l0_0.take ((mn (mn (ji5) (l1.length : Int)) (l2.length : Int)) : Int).toNat) ((l0_0.take ((mn (mn (ji5) (l1.length : Int)) (l2.length : Int)) : Int).toNat).length : Int) 0) else (none)) else (none))=some r:=by first|(rw [hji5] at H;exact H)|(simp only [hji5] at H ⊢;exact H)
 have hji5_ : (if (l0_0.length : Int) < (ji4) then (l0_0.length : Int) else (ji4))=ji5:=hji5
 obtain ⟨ji6,hji6⟩ : ∃ j_ : Int,(mn (ji5) (l1.length : Int))=j_:=⟨_,rfl⟩
 replace H : (if 0≤(mn (ji6) (l2.length : Int)) then (if (mn (ji6) (l2.length : Int))≤(l0_0.length : Int) then (schema_Compare.l0 k l1 l2 (l0_0.take ((mn (ji6) (l2.length : Int)) : Int).toNat) ((l0_0.take ((mn (ji6) (l2.length : Int)) : Int).toNat).length : Int) 0) else (none)) else (none))=some r:=by first|(rw [hji6] at H;exact H)|(simp only [hji6] at H ⊢;exact H)
 have hji6_ : (if (l1.length : Int) < (ji5) then (l1.length : Int) else (ji5))=ji6:=hji6
 obtain ⟨ji7,hji7⟩ : ∃ j_ : Int,(mn (ji6) (l2.length : Int))=j_:=⟨_,rfl⟩
 replace H : (if 0≤(ji7) then (if (ji7)≤(l0_0.length : Int) then (schema_Compare.l0 k l1 l2 (l0_0.take ((ji7) : Int).toNat) ((l0_0.take ((ji7) : Int).toNat).length : Int) 0) else (none)) else (none))=some r:=by first|(rw [hji7] at H;exact H)|(simp only [hji7] at H ⊢;exact H)
 have hji7_ : (if (l2.length : Int) < (ji6) then (l2.length : Int) else (ji6))=ji7:=hji7
 by_cases c8 : 0≤(ji7)
 ·rw [if_pos c8] at H
  have c8b0:=eq_true c8
  have c8b1 : decide (0≤(ji7))=true:=decide_eq_true c8
  clear c8
  by_cases c9 : (ji7)≤(l0_0.length : Int)
  ·rw [if_pos c9] at H
   have c9b0:=eq_true c9
   have c9b1 : decide ((ji7)≤(l0_0.length : Int))=true:=decide_eq_true c9
   clear c9
   have H':=Aside0.mk H
   clear H
   go_enter Try.func18,Try.ntmps18
   go_wp2_with (first|((with_reducible refine gate_dst (N:=3) rfl ?_);refine box_event ?hg (N:=3) ?hd (cs:=#[.slice A0_0 l0_0.length c0_0,.int .i64 a0_1,.int .i64 a0_2,.int .i64 a0_3]) (t:=30) ?hr ?_;(case hd=>rfl);(case hg=>rfl);(case hr=>first|(go_simp;done)|(go_simp;rfl));intro gb340 hg w10 hbox hb;have n0_:=Aside0.mk (below_step (below_up HB.out) hb);have n1_:=Aside0.mk (hbox);have n2_:=Aside0.mk ((by rw [hg];exact (below_size (below_up HB.out)) : w.heap.size≤gb340));have n3_:=Aside0.mk ((by rw [hg];exact (below_size (below_up HB.out)) : w.heap.size≤gb340));clear HB;have HB:=n0_;have BK340:=n1_;have GW340:=n2_;have GE340:=n3_;clear n0_ n1_ n2_ n3_;clear hb hbox hg;have hcz11_0 : w10.cell? ⟨gb340,0,none⟩=some (.slice A0_0 l0_0.length c0_0):=(blk_cell BK340.out 0).trans rfl;have hcz11_1 : w10.cell? ⟨gb340,1,none⟩=some (.int .i64 a0_1):=(blk_cell BK340.out 1).trans rfl;have hcz11_2 : w10.cell? ⟨gb340,2,none⟩=some (.int .i64 a0_2):=(blk_cell BK340.out 2).trans rfl;have hcz11_3 : w10.cell? ⟨gb340,3,none⟩=some (.int .i64 a0_3):=(blk_cell BK340.out 3).trans rfl;have hfz11_0:=blk_frozen BK340.out 0;have hfz11_1:=blk_frozen BK340.out 1;have hfz11_2:=blk_frozen BK340.out 2;have hfz11_3:=blk_frozen BK340.out 3;obtain ⟨i012,hi012,_,hsz12,_⟩:=info_parts info3;obtain ⟨hcut12,hA12,hC12⟩:=print_take_of (P:=Try.prog) (Value.int .i64) 0 28 3 .i64 Try.underlying28 hi012 hsz12 A0_0 c0_0 l0_0 (ji7) (of_decide_eq_true (by first|(with_reducible assumption)|assumption)) (of_decide_eq_true (by first|(with_reducible assumption)|assumption)) HC0_0.out;have HR341:=Aside0.mk (Kd.C_of_reads (h1:=fun _=>rfl) (hA12 _ (Kd.reads_of_C HR0_0.out)));have HC341:=Aside0.mk hC12;clear hA12 hC12 hi012 hsz12))
   (try (have HM_ji7:=Aside0.mk (show ((l0_0.take ((ji7) : Int).toNat).length : Int)=ji7 from by (have e1_:=of_decide_eq_true ‹decide (0≤(ji7))=true›;have e2_:=of_decide_eq_true ‹decide ((ji7)≤(l0_0.length : Int))=true›;simp only [List.length_take];omega))))
   go_loopg [25] k (fun kq v25 w'=>∃ (x25_1 : Int),v25=.int .i64 x25_1∧Aside0 (schema_Compare.l0 kq l1 l2 (l0_0.take ((ji7) : Int).toNat) ((l0_0.take ((ji7) : Int).toNat).length : Int) x25_1=some r)∧Aside0 (kq≤k)∧Aside0 (w'.heap[gb340]?=some (.cells #[(.slice A0_0 l0_0.length c0_0),.int .i64 a0_1,.int .i64 a0_2,.int .i64 a0_3] 30 (0,0)))∧Aside0 (Below w.heap.size w w'))
   case atStart=>exact ⟨(0),(by first|rfl|(simp;done)|(simp [*];done)),H',⟨Nat.le_refl _⟩,⟨by (with_reducible repeat (first|refine blk_drewN ?_ _|refine blk_drew ?_|refine blk_alloc ?_ _));exact BK340.out⟩,⟨by repeat (first|(with_reducible first|exact HB.out|apply below_alloc|apply pw_below_drewN|apply below_drew1|refine below_set ?_ GE340.out)|exact HB.out)⟩⟩
   case round =>
    clear H'
    try clear c1
    try clear c2
    try clear p2
    try clear c8
    try clear c8b0
    try clear c8b1
    try clear c9
    try clear c9b0
    try clear c9b1
    try clear hcz11_0
    try clear hcz11_1
    try clear hcz11_2
    try clear hcz11_3
    try clear hfz11_0
    try clear hfz11_1
    try clear hfz11_2
    try clear hfz11_3
    obtain ⟨x25_1,rfl,HA,HK1,BK340,HB⟩:=hrel
    cases gk with
    | zero=>exact absurd HA.out (by simp [schema_Compare.l0])
    | succ k1 =>
     have H:=HA.out
     clear HA
     simp only [schema_Compare.l0] at H
     by_cases c13 : x25_1 < ((l0_0.take ((ji7) : Int).toNat).length : Int)
     ·rw [if_pos c13] at H
      have c13b0 : decide (x25_1 < ((l0_0.take ((ji7) : Int).toNat).length : Int))=true:=decide_eq_true c13
      (try (have c13bm : decide (x25_1 < max ji7 0)=true:=by (rw [show (max ji7 0 : Int)=((l0_0.take ((ji7) : Int).toNat).length : Int) from by (have:=HM_ji7.out;omega)];exact c13b0)))
      clear c13
      by_cases c14 : 0≤x25_1
      ·rw [if_pos c14] at H
       have c14b0 : decide (0≤x25_1)=true:=decide_eq_true c14
       clear c14
       by_cases c15 : x25_1 < ((l0_0.take ((ji7) : Int).toNat).length : Int)
       ·rw [if_pos c15] at H
        have c15b0 : decide (x25_1 < ((l0_0.take ((ji7) : Int).toNat).length : Int))=true:=decide_eq_true c15
        (try (have c15bm : decide (x25_1 < max ji7 0)=true:=by (rw [show (max ji7 0 : Int)=((l0_0.take ((ji7) : Int).toNat).length : Int) from by (have:=HM_ji7.out;omega)];exact c15b0)))
        clear c15
        by_cases c16 : x25_1 < (l1.length : Int)
        ·rw [if_pos c16] at H
         have c16b0 : decide (x25_1 < (l1.length : Int))=true:=decide_eq_true c16
         clear c16
         by_cases c17 : x25_1 < (l2.length : Int)
         ·rw [if_pos c17] at H
          have c17b0 : decide (x25_1 < (l2.length : Int))=true:=decide_eq_true c17
          clear c17
          replace H:=Option.bind_eq_some_iff.mp H
          obtain ⟨t345,A180,H⟩:=H
          replace H : (if t345=0 then (schema_Compare.l0 k1 l1 l2 (l0_0.take ((ji7) : Int).toNat) ((l0_0.take ((ji7) : Int).toNat).length : Int) (wrap64 (x25_1 + 1))) else (some t345))=some r:=H
          have A18:=Aside0.mk A180
          clear A180
          by_cases c19 : t345=0
          ·rw [if_pos c19] at H
           have c19b0 : (t345 == 0)=true:=beq_iff_eq.mpr c19
           have c19b1 : (t345 != 0)=false:=bne_eq_false_iff_eq.mpr c19
           clear c19
           have H':=Aside0.mk H
           clear H
           have p342 : 0≤(x25_1 : Int):=of_decide_eq_true (by first|(with_reducible assumption)|assumption)
           have q342 : x25_1 < ((l0_0.take ((ji7) : Int).toNat).length : Int):=of_decide_eq_true (by first|(with_reducible assumption)|assumption)
           obtain ⟨ad342,e342,hx342_0⟩:=Kd.at_int HR341.out x25_1 p342 q342
           cases e342
           replace hx342_0:=(HB.out.cell (World.block_lt_of_cell? w _ hx342_0)).trans hx342_0
           replace p342:=eq_true p342
           replace q342:=eq_true q342
           (try (have q342m : (x25_1 < max ji7 0)=True:=eq_true (by (have e1_:=of_eq_true q342;have e2_:=HM_ji7.out;omega))))
           try go_wp2
           have n0_:=Aside0.mk (blk_drew BK340.out)
           have n1_:=Aside0.mk (below_drew1 HB.out)
           clear BK340
           clear HB
           have BK340:=n0_
           have HB:=n1_
           clear n0_ n1_
           have p343 : 0≤(x25_1 : Int):=of_decide_eq_true (by first|(with_reducible assumption)|assumption)
           have q343 : x25_1 < (l1.length : Int):=of_decide_eq_true (by first|(with_reducible assumption)|assumption)
           obtain ⟨ad343,e343,hx343_0,hx343_1⟩:=at_T34 HR1.out x25_1 p343 q343
           have hw343_1:=hx343_1
           have hw343_0:=hx343_0
           cases e343
           replace hx343_0:=(HB.out.cell (World.block_lt_of_cell? w _ hx343_0)).trans hx343_0
           replace hx343_1:=(HB.out.cell (World.block_lt_of_cell? w _ hx343_1)).trans hx343_1
           replace p343:=eq_true p343
           replace q343:=eq_true q343
           have p344 : 0≤(x25_1 : Int):=of_decide_eq_true (by first|(with_reducible assumption)|assumption)
           have q344 : x25_1 < (l2.length : Int):=of_decide_eq_true (by first|(with_reducible assumption)|assumption)
           obtain ⟨ad344,e344,hx344_0,hx344_1⟩:=at_T34 HR2.out x25_1 p344 q344
           have hw344_1:=hx344_1
           have hw344_0:=hx344_0
           cases e344
           replace hx344_0:=(HB.out.cell (World.block_lt_of_cell? w _ hx344_0)).trans hx344_0
           replace hx344_1:=(HB.out.cell (World.block_lt_of_cell? w _ hx344_1)).trans hx344_1
           replace p344:=eq_true p344
           replace q344:=eq_true q344
           refine start_ (n:=11) (S:=fun w'=>w'.cell? (ad343.add ((x25_1).toNat * 2))=some (.int .i64 ((rd_T34 l1 x25_1).f0))∧w'.cell? ⟨(ad343.add ((x25_1).toNat * 2)).block,(ad343.add ((x25_1).toNat * 2)).off + 1,none⟩=some (.string ((rd_T34 l1 x25_1).f1))∧w'.cell? (ad344.add ((x25_1).toNat * 2))=some (.int .i64 ((rd_T34 l2 x25_1).f0))∧w'.cell? ⟨(ad344.add ((x25_1).toNat * 2)).block,(ad344.add ((x25_1).toNat * 2)).off + 1,none⟩=some (.string ((rd_T34 l2 x25_1).f1))) (ds:=[]) #[false,false,false,false,false,false,false,false,false,false,false] (by kernel_rfl) rfl rfl ⟨((HB.out.cell (World.block_lt_of_cell? w _ hw343_0)).trans hw343_0),((HB.out.cell (World.block_lt_of_cell? w _ hw343_1)).trans hw343_1),((HB.out.cell (World.block_lt_of_cell? w _ hw344_0)).trans hw344_0),((HB.out.cell (World.block_lt_of_cell? w _ hw344_1)).trans hw344_1)⟩ (fun hHeld=>?_);refine with_tabW schema_Compare.tab4 schema_Compare.bits4 (fun HT_ HW_=>?_)
           generalize wr.drew=w20 at BK340 HB hx343_0 hx343_1 hx344_0 hx344_1 hHeld ⊢
           refine pure_ (i:=0) (N:=some 30) (v:=?_) (a':=?_) #[true,false,false,false,false,false,false,false,false,false,false] rfl rfl (any_of HT_.out (by kernel_rfl)) (fun _ _ _ h=>h) (Or.inl ⟨by rfl,?_⟩) ?_ ?_
           rotate_left;(intro w';go_simp;with_reducible rfl);rotate_left;(simp only [Act.put,List.setIfInBounds_toArray,List.set_cons_zero,List.set_cons_succ,i64_w,i32_w];rfl)
           refine pure_ (i:=1) (N:=some 31) (v:=?_) (a':=?_) #[true,true,false,false,false,false,false,false,false,false,false] rfl rfl (any_of HT_.out (by kernel_rfl)) (fun _ _ _ h=>h) (Or.inl ⟨by rfl,?_⟩) ?_ ?_
           rotate_left;(intro w';go_simp;with_reducible rfl);rotate_left;(simp only [Act.put,List.setIfInBounds_toArray,List.set_cons_zero,List.set_cons_succ,i64_w,i32_w];rfl)
           refine pure_ (i:=2) (N:=some 32) (v:=?_) (a':=?_) #[true,true,true,false,false,false,false,false,false,false,false] rfl rfl (any_of HT_.out (by kernel_rfl)) (fun _ _ _ h=>h) (Or.inl ⟨by rfl,?_⟩) ?_ ?_
           rotate_left;(intro w';go_simp;with_reducible rfl);rotate_left;(simp only [Act.put,List.setIfInBounds_toArray,List.set_cons_zero,List.set_cons_succ,i64_w,i32_w];rfl)
           refine pure_ (i:=3) (N:=some 33) (v:=?_) (a':=?_) #[true,true,true,true,false,false,false,false,false,false,false] rfl rfl (any_of HT_.out (by kernel_rfl)) (fun _ _ _ h=>h) (Or.inl ⟨by rfl,?_⟩) ?_ ?_
           rotate_left;(intro w';go_simp;with_reducible rfl);rotate_left;(simp only [Act.put,List.setIfInBounds_toArray,List.set_cons_zero,List.set_cons_succ,i64_w,i32_w];rfl)
           refine pure_ (i:=5) (N:=some 35) (v:=?_) (a':=?_) #[true,true,true,true,false,true,false,false,false,false,false] rfl rfl (any_of HT_.out (by kernel_rfl)) (fun _ _ _ h=>h) (Or.inl ⟨by rfl,?_⟩) ?_ ?_
           rotate_left;(intro w';go_simp;with_reducible rfl);rotate_left;(simp only [Act.put,List.setIfInBounds_toArray,List.set_cons_zero,List.set_cons_succ,i64_w,i32_w];rfl)
           refine pure_ (i:=6) (N:=some 36) (v:=?_) (a':=?_) #[true,true,true,true,false,true,true,false,false,false,false] rfl rfl (any_of HT_.out (by kernel_rfl)) (fun _ _ _ h=>h) (Or.inl ⟨by rfl,?_⟩) ?_ ?_
           rotate_left;(intro w';go_simp;with_reducible rfl);rotate_left;(simp only [Act.put,List.setIfInBounds_toArray,List.set_cons_zero,List.set_cons_succ,i64_w,i32_w];rfl)
           refine pure_ (i:=7) (N:=some 37) (v:=?_) (a':=?_) #[true,true,true,true,false,true,true,true,false,false,false] rfl rfl (any_of HT_.out (by kernel_rfl)) (fun _ _ _ h=>h) (Or.inl ⟨by rfl,?_⟩) ?_ ?_
           rotate_left;(intro w';go_simp;with_reducible rfl);rotate_left;(simp only [Act.put,List.setIfInBounds_toArray,List.set_cons_zero,List.set_cons_succ,i64_w,i32_w];rfl)
           refine take_ (i:=4) (N:=some 34) (v:=?_) (a':=?_) #[true,true,true,true,true,true,true,true,false,false,false] rfl rfl (take_ofW HT_.out HW_.out (by kernel_rfl)) (fun _ _ _ h=>h) (Or.inl ⟨by rfl,?_⟩) hHeld ?_ ?_
           rotate_left;(rintro w' ⟨s0,s1,s2,s3⟩;go_simp;with_reducible rfl);rotate_left;(simp only [Act.put,List.setIfInBounds_toArray,List.set_cons_zero,List.set_cons_succ,i64_w,i32_w];rfl)
           refine take_ (i:=8) (N:=some 38) (v:=?_) (a':=?_) #[true,true,true,true,true,true,true,true,true,false,false] rfl rfl (take_ofW HT_.out HW_.out (by kernel_rfl)) (fun _ _ _ h=>h) (Or.inl ⟨by rfl,?_⟩) hHeld ?_ ?_
           rotate_left;(rintro w' ⟨s0,s1,s2,s3⟩;go_simp;with_reducible rfl);rotate_left;(simp only [Act.put,List.setIfInBounds_toArray,List.set_cons_zero,List.set_cons_succ,i64_w,i32_w];rfl)
           refine one_ (i:=9) (N:=some 39) #[true,true,true,true,true,true,true,true,true,true,false] rfl rfl (one_of HT_.out (by kernel_rfl)) (by decide) (fun K hK=>?_)
           refine goes_ Try.func36 (by kernel_rfl) rfl #[.int .i64 (rd (l0_0.take ((ji7) : Int).toNat) x25_1),.agg #[.int .i64 ((rd_T34 l1 x25_1).f0),.string ((rd_T34 l1 x25_1).f1)],.agg #[.int .i64 ((rd_T34 l2 x25_1).f0),.string ((rd_T34 l2 x25_1).f1)]] (by rfl) rfl rfl (by (try simp only [List.map_toArray,List.map_cons,List.map_nil]);first|done|(simp only [hji7];rfl)|rfl|(simp only [List.length_drop,List.length_take];rfl)) ?_
           with_reducible refine (value_Compare.calls k1 (rd (l0_0.take ((ji7) : Int).toNat) x25_1) ((rd_T34 l1 x25_1).f0) ((rd_T34 l1 x25_1).f1) ((rd_T34 l2 x25_1).f0) ((rd_T34 l2 x25_1).f1) t345 _ A18.out).mono ?_
           rintro e w21 ⟨rfl,hb⟩
           refine ⟨_,rfl,?_⟩
           have n0_:=Aside0.mk (blk_below (blk_up BK340.out) hb)
           have n1_:=Aside0.mk (below_step (below_go HB.out) hb)
           clear BK340
           clear HB
           have BK340:=n0_
           have HB:=n1_
           clear n0_ n1_
           (try clear hb)
           (try clear hb2)
           (try clear hk)
           (try clear hi)
           refine hK.out _ _ ⟨((HB.out.cell (World.block_lt_of_cell? w _ hw343_0)).trans hw343_0),((HB.out.cell (World.block_lt_of_cell? w _ hw343_1)).trans hw343_1),((HB.out.cell (World.block_lt_of_cell? w _ hw344_0)).trans hw344_0),((HB.out.cell (World.block_lt_of_cell? w _ hw344_1)).trans hw344_1)⟩ (fun hHeld=>?_)
           clear hK K
           refine norm_ (a':=?_) ?_ ?_
           rotate_left
           ·show Act.put _ (some 39) _=_
            simp only [Act.put,List.setIfInBounds_toArray,List.set_cons_zero,List.set_cons_succ,i64_w,i32_w]
            rfl
           refine pure_ (i:=10) (N:=some 9) (v:=?_) (a':=?_) #[true,true,true,true,true,true,true,true,true,true,true] rfl rfl (any_of HT_.out (by kernel_rfl)) (fun _ _ _ h=>h) (Or.inl ⟨by rfl,?_⟩) ?_ ?_
           rotate_left;(intro w';go_simp;with_reducible rfl);rotate_left;(simp only [Act.put,List.setIfInBounds_toArray,List.set_cons_zero,List.set_cons_succ,i64_w,i32_w];rfl)
           refine done_ (done_of HT_.out (by kernel_rfl)) ?_
           (try clear hHeld)
           try go_wp2
           go_roundg k1
           case measure=>have:=HK1.out;omega
           case rel=>exact ⟨(wrap64 (x25_1 + 1)),(by first|rfl|(simp;done)|(simp [*];done)),(by first|exact H'|(subst_vars;exact H')),⟨by have:=HK1.out;omega⟩,⟨by (with_reducible repeat (first|refine blk_drewN ?_ _|refine blk_drew ?_|refine blk_alloc ?_ _));exact BK340.out⟩,⟨by repeat (first|(with_reducible first|exact HB.out|apply below_alloc|apply pw_below_drewN|apply below_drew1|refine below_set ?_ GE340.out)|exact HB.out)⟩⟩
          ·rw [if_neg c19] at H
           have c19b0 : (t345 == 0)=false:=beq_eq_false_iff_ne.mpr c19
           have c19b1 : (t345 != 0)=true:=bne_iff_ne.mpr c19
           obtain rfl:=Option.some.inj H
           have p342 : 0≤(x25_1 : Int):=of_decide_eq_true (by first|(with_reducible assumption)|assumption)
           have q342 : x25_1 < ((l0_0.take ((ji7) : Int).toNat).length : Int):=of_decide_eq_true (by first|(with_reducible assumption)|assumption)
           obtain ⟨ad342,e342,hx342_0⟩:=Kd.at_int HR341.out x25_1 p342 q342
           cases e342
           replace hx342_0:=(HB.out.cell (World.block_lt_of_cell? w _ hx342_0)).trans hx342_0
           replace p342:=eq_true p342
           replace q342:=eq_true q342
           (try (have q342m : (x25_1 < max ji7 0)=True:=eq_true (by (have e1_:=of_eq_true q342;have e2_:=HM_ji7.out;omega))))
           try go_wp2
           have n0_:=Aside0.mk (blk_drew BK340.out)
           have n1_:=Aside0.mk (below_drew1 HB.out)
           clear BK340
           clear HB
           have BK340:=n0_
           have HB:=n1_
           clear n0_ n1_
           have p343 : 0≤(x25_1 : Int):=of_decide_eq_true (by first|(with_reducible assumption)|assumption)
           have q343 : x25_1 < (l1.length : Int):=of_decide_eq_true (by first|(with_reducible assumption)|assumption)
           obtain ⟨ad343,e343,hx343_0,hx343_1⟩:=at_T34 HR1.out x25_1 p343 q343
           have hw343_1:=hx343_1
           have hw343_0:=hx343_0
           cases e343
           replace hx343_0:=(HB.out.cell (World.block_lt_of_cell? w _ hx343_0)).trans hx343_0
           replace hx343_1:=(HB.out.cell (World.block_lt_of_cell? w _ hx343_1)).trans hx343_1
           replace p343:=eq_true p343
           replace q343:=eq_true q343
           have p344 : 0≤(x25_1 : Int):=of_decide_eq_true (by first|(with_reducible assumption)|assumption)
           have q344 : x25_1 < (l2.length : Int):=of_decide_eq_true (by first|(with_reducible assumption)|assumption)
           obtain ⟨ad344,e344,hx344_0,hx344_1⟩:=at_T34 HR2.out x25_1 p344 q344
           have hw344_1:=hx344_1
           have hw344_0:=hx344_0
           cases e344
           replace hx344_0:=(HB.out.cell (World.block_lt_of_cell? w _ hx344_0)).trans hx344_0
           replace hx344_1:=(HB.out.cell (World.block_lt_of_cell? w _ hx344_1)).trans hx344_1
           replace p344:=eq_true p344
           replace q344:=eq_true q344
           refine start_ (n:=11) (S:=fun w'=>w'.cell? (ad343.add ((x25_1).toNat * 2))=some (.int .i64 ((rd_T34 l1 x25_1).f0))∧w'.cell? ⟨(ad343.add ((x25_1).toNat * 2)).block,(ad343.add ((x25_1).toNat * 2)).off + 1,none⟩=some (.string ((rd_T34 l1 x25_1).f1))∧w'.cell? (ad344.add ((x25_1).toNat * 2))=some (.int .i64 ((rd_T34 l2 x25_1).f0))∧w'.cell? ⟨(ad344.add ((x25_1).toNat * 2)).block,(ad344.add ((x25_1).toNat * 2)).off + 1,none⟩=some (.string ((rd_T34 l2 x25_1).f1))) (ds:=[]) #[false,false,false,false,false,false,false,false,false,false,false] (by kernel_rfl) rfl rfl ⟨((HB.out.cell (World.block_lt_of_cell? w _ hw343_0)).trans hw343_0),((HB.out.cell (World.block_lt_of_cell? w _ hw343_1)).trans hw343_1),((HB.out.cell (World.block_lt_of_cell? w _ hw344_0)).trans hw344_0),((HB.out.cell (World.block_lt_of_cell? w _ hw344_1)).trans hw344_1)⟩ (fun hHeld=>?_);refine with_tabW schema_Compare.tab4 schema_Compare.bits4 (fun HT_ HW_=>?_)
           generalize wr.drew=w22 at BK340 HB hx343_0 hx343_1 hx344_0 hx344_1 hHeld ⊢
           refine pure_ (i:=0) (N:=some 30) (v:=?_) (a':=?_) #[true,false,false,false,false,false,false,false,false,false,false] rfl rfl (any_of HT_.out (by kernel_rfl)) (fun _ _ _ h=>h) (Or.inl ⟨by rfl,?_⟩) ?_ ?_
           rotate_left;(intro w';go_simp;with_reducible rfl);rotate_left;(simp only [Act.put,List.setIfInBounds_toArray,List.set_cons_zero,List.set_cons_succ,i64_w,i32_w];rfl)
           refine pure_ (i:=1) (N:=some 31) (v:=?_) (a':=?_) #[true,true,false,false,false,false,false,false,false,false,false] rfl rfl (any_of HT_.out (by kernel_rfl)) (fun _ _ _ h=>h) (Or.inl ⟨by rfl,?_⟩) ?_ ?_
           rotate_left;(intro w';go_simp;with_reducible rfl);rotate_left;(simp only [Act.put,List.setIfInBounds_toArray,List.set_cons_zero,List.set_cons_succ,i64_w,i32_w];rfl)
           refine pure_ (i:=2) (N:=some 32) (v:=?_) (a':=?_) #[true,true,true,false,false,false,false,false,false,false,false] rfl rfl (any_of HT_.out (by kernel_rfl)) (fun _ _ _ h=>h) (Or.inl ⟨by rfl,?_⟩) ?_ ?_
           rotate_left;(intro w';go_simp;with_reducible rfl);rotate_left;(simp only [Act.put,List.setIfInBounds_toArray,List.set_cons_zero,List.set_cons_succ,i64_w,i32_w];rfl)
           refine pure_ (i:=3) (N:=some 33) (v:=?_) (a':=?_) #[true,true,true,true,false,false,false,false,false,false,false] rfl rfl (any_of HT_.out (by kernel_rfl)) (fun _ _ _ h=>h) (Or.inl ⟨by rfl,?_⟩) ?_ ?_
           rotate_left;(intro w';go_simp;with_reducible rfl);rotate_left;(simp only [Act.put,List.setIfInBounds_toArray,List.set_cons_zero,List.set_cons_succ,i64_w,i32_w];rfl)
           refine pure_ (i:=5) (N:=some 35) (v:=?_) (a':=?_) #[true,true,true,true,false,true,false,false,false,false,false] rfl rfl (any_of HT_.out (by kernel_rfl)) (fun _ _ _ h=>h) (Or.inl ⟨by rfl,?_⟩) ?_ ?_
           rotate_left;(intro w';go_simp;with_reducible rfl);rotate_left;(simp only [Act.put,List.setIfInBounds_toArray,List.set_cons_zero,List.set_cons_succ,i64_w,i32_w];rfl)
           refine pure_ (i:=6) (N:=some 36) (v:=?_) (a':=?_) #[true,true,true,true,false,true,true,false,false,false,false] rfl rfl (any_of HT_.out (by kernel_rfl)) (fun _ _ _ h=>h) (Or.inl ⟨by rfl,?_⟩) ?_ ?_
           rotate_left;(intro w';go_simp;with_reducible rfl);rotate_left;(simp only [Act.put,List.setIfInBounds_toArray,List.set_cons_zero,List.set_cons_succ,i64_w,i32_w];rfl)
           refine pure_ (i:=7) (N:=some 37) (v:=?_) (a':=?_) #[true,true,true,true,false,true,true,true,false,false,false] rfl rfl (any_of HT_.out (by kernel_rfl)) (fun _ _ _ h=>h) (Or.inl ⟨by rfl,?_⟩) ?_ ?_
           rotate_left;(intro w';go_simp;with_reducible rfl);rotate_left;(simp only [Act.put,List.setIfInBounds_toArray,List.set_cons_zero,List.set_cons_succ,i64_w,i32_w];rfl)
           refine take_ (i:=4) (N:=some 34) (v:=?_) (a':=?_) #[true,true,true,true,true,true,true,true,false,false,false] rfl rfl (take_ofW HT_.out HW_.out (by kernel_rfl)) (fun _ _ _ h=>h) (Or.inl ⟨by rfl,?_⟩) hHeld ?_ ?_
           rotate_left;(rintro w' ⟨s0,s1,s2,s3⟩;go_simp;with_reducible rfl);rotate_left;(simp only [Act.put,List.setIfInBounds_toArray,List.set_cons_zero,List.set_cons_succ,i64_w,i32_w];rfl)
           refine take_ (i:=8) (N:=some 38) (v:=?_) (a':=?_) #[true,true,true,true,true,true,true,true,true,false,false] rfl rfl (take_ofW HT_.out HW_.out (by kernel_rfl)) (fun _ _ _ h=>h) (Or.inl ⟨by rfl,?_⟩) hHeld ?_ ?_
           rotate_left;(rintro w' ⟨s0,s1,s2,s3⟩;go_simp;with_reducible rfl);rotate_left;(simp only [Act.put,List.setIfInBounds_toArray,List.set_cons_zero,List.set_cons_succ,i64_w,i32_w];rfl)
           refine one_ (i:=9) (N:=some 39) #[true,true,true,true,true,true,true,true,true,true,false] rfl rfl (one_of HT_.out (by kernel_rfl)) (by decide) (fun K hK=>?_)
           refine goes_ Try.func36 (by kernel_rfl) rfl #[.int .i64 (rd (l0_0.take ((ji7) : Int).toNat) x25_1),.agg #[.int .i64 ((rd_T34 l1 x25_1).f0),.string ((rd_T34 l1 x25_1).f1)],.agg #[.int .i64 ((rd_T34 l2 x25_1).f0),.string ((rd_T34 l2 x25_1).f1)]] (by rfl) rfl rfl (by (try simp only [List.map_toArray,List.map_cons,List.map_nil]);first|done|(simp only [hji7];rfl)|rfl|(simp only [List.length_drop,List.length_take];rfl)) ?_
           with_reducible refine (value_Compare.calls k1 (rd (l0_0.take ((ji7) : Int).toNat) x25_1) ((rd_T34 l1 x25_1).f0) ((rd_T34 l1 x25_1).f1) ((rd_T34 l2 x25_1).f0) ((rd_T34 l2 x25_1).f1) t345 _ A18.out).mono ?_
           rintro e w23 ⟨rfl,hb⟩
           refine ⟨_,rfl,?_⟩
           have n0_:=Aside0.mk (blk_below (blk_up BK340.out) hb)
           have n1_:=Aside0.mk (below_step (below_go HB.out) hb)
           clear BK340
           clear HB
           have BK340:=n0_
           have HB:=n1_
           clear n0_ n1_
           (try clear hb)
           (try clear hb2)
           (try clear hk)
           (try clear hi)
           refine hK.out _ _ ⟨((HB.out.cell (World.block_lt_of_cell? w _ hw343_0)).trans hw343_0),((HB.out.cell (World.block_lt_of_cell? w _ hw343_1)).trans hw343_1),((HB.out.cell (World.block_lt_of_cell? w _ hw344_0)).trans hw344_0),((HB.out.cell (World.block_lt_of_cell? w _ hw344_1)).trans hw344_1)⟩ (fun hHeld=>?_)
           clear hK K
           refine norm_ (a':=?_) ?_ ?_
           rotate_left
           ·show Act.put _ (some 39) _=_
            simp only [Act.put,List.setIfInBounds_toArray,List.set_cons_zero,List.set_cons_succ,i64_w,i32_w]
            rfl
           refine pure_ (i:=10) (N:=some 9) (v:=?_) (a':=?_) #[true,true,true,true,true,true,true,true,true,true,true] rfl rfl (any_of HT_.out (by kernel_rfl)) (fun _ _ _ h=>h) (Or.inl ⟨by rfl,?_⟩) ?_ ?_
           rotate_left;(intro w';go_simp;with_reducible rfl);rotate_left;(simp only [Act.put,List.setIfInBounds_toArray,List.set_cons_zero,List.set_cons_succ,i64_w,i32_w];rfl)
           refine done_ (done_of HT_.out (by kernel_rfl)) ?_
           (try clear hHeld)
           try go_wp2
           go_ret
           exact ⟨by first|rfl|(simp [errW_none,errW_some] <;> rfl)|(simp only [← hji4,← hji5,← hji6,← hji7];first|rfl|(simp [errW_none,errW_some] <;> rfl))|(simp [*,errW_none,errW_some] <;> rfl),by repeat (first|(with_reducible first|exact HB.out|apply below_alloc|apply pw_below_drewN|apply below_drew1|refine below_set ?_ GE340.out)|exact HB.out)⟩
         ·rw [if_neg c17] at H
          exact absurd H (by simp)
        ·rw [if_neg c16] at H
         exact absurd H (by simp)
       ·rw [if_neg c15] at H
        exact absurd H (by simp)
      ·rw [if_neg c14] at H
       exact absurd H (by simp)
     ·rw [if_neg c13] at H
      have c13b0 : decide (x25_1 < ((l0_0.take ((ji7) : Int).toNat).length : Int))=false:=decide_eq_false c13
      (try (have c13bm : decide (x25_1 < max ji7 0)=false:=by (rw [show (max ji7 0 : Int)=((l0_0.take ((ji7) : Int).toNat).length : Int) from by (have:=HM_ji7.out;omega)];exact c13b0)))
      clear c13
      obtain rfl:=Option.some.inj H
      go_wp2
      go_ret
      exact ⟨by first|rfl|(simp [errW_none,errW_some] <;> rfl)|(simp only [← hji4,← hji5,← hji6,← hji7];first|rfl|(simp [errW_none,errW_some] <;> rfl))|(simp [*,errW_none,errW_some] <;> rfl),by repeat (first|(with_reducible first|exact HB.out|apply below_alloc|apply pw_below_drewN|apply below_drew1|refine below_set ?_ GE340.out)|exact HB.out)⟩
  ·rw [if_neg c9] at H
   exact absurd H (by simp)
 ·rw [if_neg c8] at H
  exact absurd H (by simp)
def thresherref03_Fits.j0 : Nat→Int→Bool→Int→ByteArray→Option (Bool)
 | 0,_,_,_,_=>none
 | k + 1,x5,x6,x347000,x347001=>if x6=true then (some (x347001.toList == ([] : List UInt8))) else (if x5=3 then (if x347000=0 then (some (decide ((x347001.size : Int)≤60))) else (some false)) else (some false))
def thresherref03_Fits.f (k : Nat) (a0 : Int) (a1_0 : Int) (a1_1 : ByteArray) : Option (Bool):=if a0=1 then (thresherref03_Fits.j0 k a0 (a0 == 1) a1_0 a1_1) else (thresherref03_Fits.j0 k a0 (a0 == 2) a1_0 a1_1)
theorem thresherref03_Fits.mono_l : ∀ k,(∀ y0 y1 y2 y3,LeO (thresherref03_Fits.j0 k y0 y1 y2 y3) (thresherref03_Fits.j0 (k + 1) y0 y1 y2 y3))
 | 0=>fun _ _ _ _ r h=>by simp [thresherref03_Fits.j0] at h
 | k + 1=>by
  have ih0:=thresherref03_Fits.mono_l k
  ·intro y0 y1 y2 y3
   unfold thresherref03_Fits.j0
   repeat' first
   | (with_reducible exact ih0 _ _ _ _)
   | (with_reducible exact LeO.refl _)
   | (with_reducible exact LeO.none _)
   | (with_reducible refine LeO.ite ?_ ?_)
   | (with_reducible refine LeO.bind ?_ (fun _=>?_))
   | exact ih0 _ _ _ _
   | exact LeO.none _
   | refine LeO.ite ?_ ?_
   | refine LeO.bind ?_ (fun _=>?_)
theorem thresherref03_Fits.mono : ∀ a0 a1 a2 k,LeO (thresherref03_Fits.f k a0 a1 a2) (thresherref03_Fits.f (k + 1) a0 a1 a2):=by
 intro a0 a1 a2 k
 have ih0:=thresherref03_Fits.mono_l k
 unfold thresherref03_Fits.f
 repeat' first
   | (with_reducible exact ih0 _ _ _ _)
   | (with_reducible exact LeO.refl _)
   | (with_reducible exact LeO.none _)
   | (with_reducible refine LeO.ite ?_ ?_)
   | (with_reducible refine LeO.bind ?_ (fun _=>?_))
   | exact ih0 _ _ _ _
   | exact LeO.none _
   | refine LeO.ite ?_ ?_
   | refine LeO.bind ?_ (fun _=>?_)
set_option maxHeartbeats 8000000 in
set_option maxRecDepth 100000 in
theorem thresherref03_Fits.calls (k : Nat) (a0 : Int) (a1_0 : Int) (a1_1 : ByteArray) (r : Bool) (w : World) (h : thresherref03_Fits.f k a0 a1_0 a1_1=some r) :
  Calls Try.prog 38 #[.int .i64 a0,.agg #[.int .i64 a1_0,.string a1_1]] w fun e w'=>e=.returned (.bool r)∧Below w.heap.size w w':=by
 have hu34:=Try.underlying34
 have HB:=Aside0.mk (Below.refl w.heap.size w)
 have H : (if a0=1 then (thresherref03_Fits.j0 k a0 (a0 == 1) a1_0 a1_1) else (thresherref03_Fits.j0 k a0 (a0 == 2) a1_0 a1_1))=some r:=h
 clear h
 have HC3:=Aside0.mk H
 clear H
 go_enter Try.func38,Try.ntmps38
 go_upto_if 6 with (first|((with_reducible refine gate_dst (N:=3) rfl ?_);(try (refine gate_guard (by rfl) ?_;dsimp only));refine box_event ?hg (N:=3) ?hd (cs:=#[.int .i64 a1_0,.string a1_1]) (t:=34) ?hr ?_;(case hd=>rfl);(case hg=>rfl);(case hr=>first|(go_simp;done)|(go_simp;rfl));intro gb346 hg w4 hbox hb;have n0_:=Aside0.mk (below_step (below_up HB.out) hb);have n1_:=Aside0.mk (hbox);have n2_:=Aside0.mk ((by rw [hg];exact (below_size (below_up HB.out)) : w.heap.size≤gb346));have n3_:=Aside0.mk ((by rw [hg];exact (below_size (below_up HB.out)) : w.heap.size≤gb346));clear HB;have HB:=n0_;have BK346:=n1_;have GW346:=n2_;have GE346:=n3_;clear n0_ n1_ n2_ n3_;clear hb hbox hg))
 (try simp only [Act.put,List.setIfInBounds_toArray,List.set_cons_zero,List.set_cons_succ])
 go_cut [6] (fun v6 wc=>∃ (kq : Nat) (x6_2 : Bool),v6=.bool x6_2∧Aside0 (thresherref03_Fits.j0 kq a0 x6_2 a1_0 a1_1=some r)∧Aside0 (kq≤k)∧Aside0 (wc.heap[gb346]?=some (.cells #[.int .i64 a1_0,.string a1_1] 34 (0,0)))∧Aside0 (Below w.heap.size w wc))
 case first =>
  have H:=HC3.out
  clear HC3
  by_cases c5 : a0=1
  ·rw [if_pos c5] at H
   have c5b0 : (a0 == 1)=true:=beq_iff_eq.mpr c5
   have c5b1 : (a0 != 1)=false:=bne_eq_false_iff_eq.mpr c5
   clear c5
   (first|rw [c5b0]|(simp only [i64_w,i32_w];rw [c5b0])|skip)
   have H':=Aside0.mk H
   clear H
   go_wp2
   go_meet
   case rel=>exact ⟨_,((a0 == 1)),(by first|rfl|(simp;done)|(simp [*];done)),(by first|exact H'|(subst_vars;exact H')),⟨by first|omega|exact Nat.le_refl _⟩,⟨by (with_reducible repeat (first|refine blk_drewN ?_ _|refine blk_drew ?_|refine blk_alloc ?_ _));exact BK346.out⟩,⟨by repeat (first|(with_reducible first|exact HB.out|apply below_alloc|apply pw_below_drewN|apply below_drew1|refine below_set ?_ GE346.out)|exact HB.out)⟩⟩
  ·rw [if_neg c5] at H
   have c5b0 : (a0 == 1)=false:=beq_eq_false_iff_ne.mpr c5
   have c5b1 : (a0 != 1)=true:=bne_iff_ne.mpr c5
   (first|rw [c5b0]|(simp only [i64_w,i32_w];rw [c5b0])|skip)
   have H':=Aside0.mk H
   clear H
   go_wp2
   go_meet
   case rel=>exact ⟨_,((a0 == 2)),(by first|rfl|(simp;done)|(simp [*];done)),(by first|exact H'|(subst_vars;exact H')),⟨by first|omega|exact Nat.le_refl _⟩,⟨by (with_reducible repeat (first|refine blk_drewN ?_ _|refine blk_drew ?_|refine blk_alloc ?_ _));exact BK346.out⟩,⟨by repeat (first|(with_reducible first|exact HB.out|apply below_alloc|apply pw_below_drewN|apply below_drew1|refine below_set ?_ GE346.out)|exact HB.out)⟩⟩
 case rest =>
  clear HC3
  try clear p2
  try clear c3
  try clear c5
  try clear c5b0
  try clear c5b1
  obtain ⟨kq,x6_2,rfl,HA,HJ2,BK346,HB⟩:=hcut
  cases kq with
  | zero=>exact absurd HA.out (by simp [thresherref03_Fits.j0])
  | succ kj2 =>
   have H:=HA.out
   clear HA
   simp only [thresherref03_Fits.j0] at H
   by_cases c6 : x6_2=true
   ·subst c6
    have H1 : (some (a1_1.toList == ([] : List UInt8)))=some r:=by rw [if_pos rfl] at H;exact H
    clear H
    have H:=H1
    clear H1
    obtain rfl:=Option.some.inj H
    have hcz7_0 : wc.cell? ⟨gb346,0,none⟩=some (.int .i64 a1_0):=(blk_cell BK346.out 0).trans rfl
    have hcz7_1 : wc.cell? ⟨gb346,1,none⟩=some (.string a1_1):=(blk_cell BK346.out 1).trans rfl
    have hfz7_0:=blk_frozen BK346.out 0
    have hfz7_1:=blk_frozen BK346.out 1
    go_wp2
    go_ret
    exact ⟨by first|rfl|(simp [errW_none,errW_some] <;> rfl)|(simp [*,errW_none,errW_some] <;> rfl),by repeat (first|(with_reducible first|exact HB.out|apply below_alloc|apply pw_below_drewN|apply below_drew1|refine below_set ?_ GE346.out)|exact HB.out)⟩
   ·replace c6:=Bool.eq_false_iff.mpr c6
    subst c6
    have H1 : (if a0=3 then (if a1_0=0 then (some (decide ((a1_1.size : Int)≤60))) else (some false)) else (some false))=some r:=by rw [if_neg (show ¬ (false=true) by decide)] at H;exact H
    clear H
    have H:=H1
    clear H1
    by_cases c8 : a0=3
    ·rw [if_pos c8] at H
     have c8b0 : (a0 == 3)=true:=beq_iff_eq.mpr c8
     have c8b1 : (a0 != 3)=false:=bne_eq_false_iff_eq.mpr c8
     clear c8
     by_cases c9 : a1_0=0
     ·rw [if_pos c9] at H
      have c9b0 : (a1_0 == 0)=true:=beq_iff_eq.mpr c9
      have c9b1 : (a1_0 != 0)=false:=bne_eq_false_iff_eq.mpr c9
      clear c9
      obtain rfl:=Option.some.inj H
      have hcz10_0 : wc.cell? ⟨gb346,0,none⟩=some (.int .i64 a1_0):=(blk_cell BK346.out 0).trans rfl
      have hcz10_1 : wc.cell? ⟨gb346,1,none⟩=some (.string a1_1):=(blk_cell BK346.out 1).trans rfl
      have hfz10_0:=blk_frozen BK346.out 0
      have hfz10_1:=blk_frozen BK346.out 1
      go_wp2
      go_ret
      exact ⟨by first|rfl|(simp [errW_none,errW_some] <;> rfl)|(simp [*,errW_none,errW_some] <;> rfl),by repeat (first|(with_reducible first|exact HB.out|apply below_alloc|apply pw_below_drewN|apply below_drew1|refine below_set ?_ GE346.out)|exact HB.out)⟩
     ·rw [if_neg c9] at H
      have c9b0 : (a1_0 == 0)=false:=beq_eq_false_iff_ne.mpr c9
      have c9b1 : (a1_0 != 0)=true:=bne_iff_ne.mpr c9
      obtain rfl:=Option.some.inj H
      have hcz11_0 : wc.cell? ⟨gb346,0,none⟩=some (.int .i64 a1_0):=(blk_cell BK346.out 0).trans rfl
      have hcz11_1 : wc.cell? ⟨gb346,1,none⟩=some (.string a1_1):=(blk_cell BK346.out 1).trans rfl
      have hfz11_0:=blk_frozen BK346.out 0
      have hfz11_1:=blk_frozen BK346.out 1
      go_wp2
      go_ret
      exact ⟨by first|rfl|(simp [errW_none,errW_some] <;> rfl)|(simp [*,errW_none,errW_some] <;> rfl),by repeat (first|(with_reducible first|exact HB.out|apply below_alloc|apply pw_below_drewN|apply below_drew1|refine below_set ?_ GE346.out)|exact HB.out)⟩
    ·rw [if_neg c8] at H
     have c8b0 : (a0 == 3)=false:=beq_eq_false_iff_ne.mpr c8
     have c8b1 : (a0 != 3)=true:=bne_iff_ne.mpr c8
     obtain rfl:=Option.some.inj H
     go_wp2
     go_ret
     exact ⟨by first|rfl|(simp [errW_none,errW_some] <;> rfl)|(simp [*,errW_none,errW_some] <;> rfl),by repeat (first|(with_reducible first|exact HB.out|apply below_alloc|apply pw_below_drewN|apply below_drew1|refine below_set ?_ GE346.out)|exact HB.out)⟩
def thresherref03_both.f (k : Nat) (a0 : Int) (a1_0 : Int) (a1_1 : ByteArray) (a2_0 : Int) (a2_1 : ByteArray) : Option (Bool):=(thresherref03_Fits.f k a0 a1_0 a1_1).bind fun t349=>((thresherref03_Fits.f k a0 a2_0 a2_1).bind fun t350=>(if t349=true then (some t350) else (some false)))
theorem thresherref03_both.mono : ∀ a0 a1 a2 a3 a4 k,LeO (thresherref03_both.f k a0 a1 a2 a3 a4) (thresherref03_both.f (k + 1) a0 a1 a2 a3 a4):=by
 intro a0 a1 a2 a3 a4 k
 unfold thresherref03_both.f
 repeat' first
   | (with_reducible exact thresherref03_Fits.mono _ _ _ _)
   | (with_reducible exact LeO.refl _)
   | (with_reducible exact LeO.none _)
   | (with_reducible refine LeO.ite ?_ ?_)
   | (with_reducible refine LeO.bind ?_ (fun _=>?_))
   | exact thresherref03_Fits.mono _ _ _ _
   | exact LeO.none _
   | refine LeO.ite ?_ ?_
   | refine LeO.bind ?_ (fun _=>?_)
set_option maxHeartbeats 8000000 in
set_option maxRecDepth 100000 in
theorem thresherref03_both.calls (k : Nat) (a0 : Int) (a1_0 : Int) (a1_1 : ByteArray) (a2_0 : Int) (a2_1 : ByteArray) (r : Bool) (w : World) (h : thresherref03_both.f k a0 a1_0 a1_1 a2_0 a2_1=some r) :
  Calls Try.prog 49 #[.int .i64 a0,.agg #[.int .i64 a1_0,.string a1_1],.agg #[.int .i64 a2_0,.string a2_1]] w fun e w'=>e=.returned (.bool r)∧Below w.heap.size w w':=by
 have hu34:=Try.underlying34
 have HB:=Aside0.mk (Below.refl w.heap.size w)
 have H : ((thresherref03_Fits.f k a0 a1_0 a1_1).bind fun t349=>((thresherref03_Fits.f k a0 a2_0 a2_1).bind fun t350=>(if t349=true then (some t350) else (some false))))=some r:=h
 clear h
 replace H:=Option.bind_eq_some_iff.mp H
 obtain ⟨t349,A40,H⟩:=H
 replace H : ((thresherref03_Fits.f k a0 a2_0 a2_1).bind fun t350=>(if t349=true then (some t350) else (some false)))=some r:=H
 have A4:=Aside0.mk A40
 clear A40
 replace H:=Option.bind_eq_some_iff.mp H
 obtain ⟨t350,A50,H⟩:=H
 replace H : (if t349=true then (some t350) else (some false))=some r:=H
 have A5:=Aside0.mk A50
 clear A50
 by_cases c6 : t349=true
 ·subst c6
  have H1 : (some t350)=some r:=by rw [if_pos rfl] at H;exact H
  clear H
  have H:=H1
  clear H1
  obtain rfl:=Option.some.inj H
  go_enter Try.func49,Try.ntmps49
  go_wp2_with (first|((with_reducible refine gate_dst (N:=4) rfl ?_);refine box_event ?hg (N:=4) ?hd (cs:=#[.int .i64 a1_0,.string a1_1]) (t:=34) ?hr ?_;(case hd=>rfl);(case hg=>rfl);(case hr=>first|(go_simp;done)|(go_simp;rfl));intro gb347 hg w7 hbox hb;have n0_:=Aside0.mk (below_step (below_up HB.out) hb);have n1_:=Aside0.mk (hbox);have n2_:=Aside0.mk ((by rw [hg];exact (below_size (below_up HB.out)) : w.heap.size≤gb347));have n3_:=Aside0.mk ((by rw [hg];exact (below_size (below_up HB.out)) : w.heap.size≤gb347));clear HB;have HB:=n0_;have BK347:=n1_;have GW347:=n2_;have GE347:=n3_;clear n0_ n1_ n2_ n3_;clear hb hbox hg)|((with_reducible refine gate_dst (N:=5) rfl ?_);refine box_event ?hg (N:=5) ?hd (cs:=#[.int .i64 a2_0,.string a2_1]) (t:=34) ?hr ?_;(case hd=>rfl);(case hg=>rfl);(case hr=>first|(go_simp;done)|(go_simp;rfl));intro gb348 hg w8 hbox hb;have n0_:=Aside0.mk (blk_below (blk_up BK347.out) hb);have n1_:=Aside0.mk (below_step (below_go HB.out) hb);have n2_:=Aside0.mk (hbox);have n3_:=Aside0.mk ((by rw [hg];exact (below_size (below_go HB.out)) : w.heap.size≤gb348));have n4_:=Aside0.mk ((by rw [hg];exact (below_size (below_go HB.out)) : w.heap.size≤gb348));have n5_:=Aside0.mk ((by rw [hg];exact Nat.ne_of_lt (blk_lt (blk_up BK347.out)) : gb347≠gb348));have n6_:=Aside0.mk ((by rw [hg];exact Nat.ne_of_gt (blk_lt (blk_up BK347.out)) : gb348≠gb347));clear BK347;clear HB;have BK347:=n0_;have HB:=n1_;have BK348:=n2_;have GW348:=n3_;have GE348:=n4_;have NB347_348:=n5_;have NB348_347:=n6_;clear n0_ n1_ n2_ n3_ n4_ n5_ n6_;clear hb hbox hg;have hnb9:=NB347_348.out;have hnc9:=NB348_347.out;have hcz10_0 : w8.cell? ⟨gb347,0,none⟩=some (.int .i64 a1_0):=(blk_cell BK347.out 0).trans rfl;have hcz10_1 : w8.cell? ⟨gb347,1,none⟩=some (.string a1_1):=(blk_cell BK347.out 1).trans rfl;have hfz10_0:=blk_frozen BK347.out 0;have hfz10_1:=blk_frozen BK347.out 1)|((with_reducible refine gate_callee (f:=38) rfl ?_);refine goesL_ (some 11) rfl rfl Try.func38 (by kernel_rfl) rfl #[.int .i64 a0,.agg #[.int .i64 a1_0,.string a1_1]] rfl (by (try simp only [List.map_toArray,List.map_cons,List.map_nil]);first|done|rfl|(simp only [List.length_drop,List.length_take];rfl)) ?_;(with_reducible refine (thresherref03_Fits.calls k a0 a1_0 a1_1 true _ A4.out).mono ?_);rintro e w11 ⟨rfl,hb⟩;refine ⟨_,rfl,?_⟩;have n0_:=Aside0.mk (blk_below (blk_up BK347.out) hb);have n1_:=Aside0.mk (blk_below (blk_up BK348.out) hb);have n2_:=Aside0.mk (below_step (below_go HB.out) hb);clear BK347;clear BK348;clear HB;have BK347:=n0_;have BK348:=n1_;have HB:=n2_;clear n0_ n1_ n2_;(try clear hb);(try clear hb2);(try clear hk);(try clear hi);have hcz12_0 : w11.cell? ⟨gb348,0,none⟩=some (.int .i64 a2_0):=(blk_cell BK348.out 0).trans rfl;have hcz12_1 : w11.cell? ⟨gb348,1,none⟩=some (.string a2_1):=(blk_cell BK348.out 1).trans rfl;have hfz12_0:=blk_frozen BK348.out 0;have hfz12_1:=blk_frozen BK348.out 1)|((with_reducible refine gate_callee (f:=38) rfl ?_);refine goesL_ (some 14) rfl rfl Try.func38 (by kernel_rfl) rfl #[.int .i64 a0,.agg #[.int .i64 a2_0,.string a2_1]] rfl (by (try simp only [List.map_toArray,List.map_cons,List.map_nil]);first|done|rfl|(simp only [List.length_drop,List.length_take];rfl)) ?_;(with_reducible refine (thresherref03_Fits.calls k a0 a2_0 a2_1 t350 _ A5.out).mono ?_);rintro e w13 ⟨rfl,hb⟩;refine ⟨_,rfl,?_⟩;have n0_:=Aside0.mk (blk_below (blk_up BK347.out) hb);have n1_:=Aside0.mk (blk_below (blk_up BK348.out) hb);have n2_:=Aside0.mk (below_step (below_go HB.out) hb);clear BK347;clear BK348;clear HB;have BK347:=n0_;have BK348:=n1_;have HB:=n2_;clear n0_ n1_ n2_;(try clear hb);(try clear hb2);(try clear hk);(try clear hi)))
  go_ret
  exact ⟨by first|rfl|(simp [errW_none,errW_some] <;> rfl)|(simp [*,errW_none,errW_some] <;> rfl),by repeat (first|(with_reducible first|exact HB.out|apply below_alloc|apply pw_below_drewN|apply below_drew1|refine below_set ?_ GE347.out|refine below_set ?_ GE348.out)|exact HB.out)⟩
 ·replace c6:=Bool.eq_false_iff.mpr c6
  subst c6
  have H1 : (some false)=some r:=by rw [if_neg (show ¬ (false=true) by decide)] at H;exact H
  clear H
  have H:=H1
  clear H1
  obtain rfl:=Option.some.inj H
  go_enter Try.func49,Try.ntmps49
  go_wp2_with (first|((with_reducible refine gate_dst (N:=4) rfl ?_);refine box_event ?hg (N:=4) ?hd (cs:=#[.int .i64 a1_0,.string a1_1]) (t:=34) ?hr ?_;(case hd=>rfl);(case hg=>rfl);(case hr=>first|(go_simp;done)|(go_simp;rfl));intro gb347 hg w14 hbox hb;have n0_:=Aside0.mk (below_step (below_up HB.out) hb);have n1_:=Aside0.mk (hbox);have n2_:=Aside0.mk ((by rw [hg];exact (below_size (below_up HB.out)) : w.heap.size≤gb347));have n3_:=Aside0.mk ((by rw [hg];exact (below_size (below_up HB.out)) : w.heap.size≤gb347));clear HB;have HB:=n0_;have BK347:=n1_;have GW347:=n2_;have GE347:=n3_;clear n0_ n1_ n2_ n3_;clear hb hbox hg)|((with_reducible refine gate_dst (N:=5) rfl ?_);refine box_event ?hg (N:=5) ?hd (cs:=#[.int .i64 a2_0,.string a2_1]) (t:=34) ?hr ?_;(case hd=>rfl);(case hg=>rfl);(case hr=>first|(go_simp;done)|(go_simp;rfl));intro gb348 hg w15 hbox hb;have n0_:=Aside0.mk (blk_below (blk_up BK347.out) hb);have n1_:=Aside0.mk (below_step (below_go HB.out) hb);have n2_:=Aside0.mk (hbox);have n3_:=Aside0.mk ((by rw [hg];exact (below_size (below_go HB.out)) : w.heap.size≤gb348));have n4_:=Aside0.mk ((by rw [hg];exact (below_size (below_go HB.out)) : w.heap.size≤gb348));have n5_:=Aside0.mk ((by rw [hg];exact Nat.ne_of_lt (blk_lt (blk_up BK347.out)) : gb347≠gb348));have n6_:=Aside0.mk ((by rw [hg];exact Nat.ne_of_gt (blk_lt (blk_up BK347.out)) : gb348≠gb347));clear BK347;clear HB;have BK347:=n0_;have HB:=n1_;have BK348:=n2_;have GW348:=n3_;have GE348:=n4_;have NB347_348:=n5_;have NB348_347:=n6_;clear n0_ n1_ n2_ n3_ n4_ n5_ n6_;clear hb hbox hg;have hnb16:=NB347_348.out;have hnc16:=NB348_347.out;have hcz17_0 : w15.cell? ⟨gb347,0,none⟩=some (.int .i64 a1_0):=(blk_cell BK347.out 0).trans rfl;have hcz17_1 : w15.cell? ⟨gb347,1,none⟩=some (.string a1_1):=(blk_cell BK347.out 1).trans rfl;have hfz17_0:=blk_frozen BK347.out 0;have hfz17_1:=blk_frozen BK347.out 1)|((with_reducible refine gate_callee (f:=38) rfl ?_);refine goesL_ (some 11) rfl rfl Try.func38 (by kernel_rfl) rfl #[.int .i64 a0,.agg #[.int .i64 a1_0,.string a1_1]] rfl (by (try simp only [List.map_toArray,List.map_cons,List.map_nil]);first|done|rfl|(simp only [List.length_drop,List.length_take];rfl)) ?_;(with_reducible refine (thresherref03_Fits.calls k a0 a1_0 a1_1 false _ A4.out).mono ?_);rintro e w18 ⟨rfl,hb⟩;refine ⟨_,rfl,?_⟩;have n0_:=Aside0.mk (blk_below (blk_up BK347.out) hb);have n1_:=Aside0.mk (blk_below (blk_up BK348.out) hb);have n2_:=Aside0.mk (below_step (below_go HB.out) hb);clear BK347;clear BK348;clear HB;have BK347:=n0_;have BK348:=n1_;have HB:=n2_;clear n0_ n1_ n2_;(try clear hb);(try clear hb2);(try clear hk);(try clear hi);have hcz19_0 : w18.cell? ⟨gb348,0,none⟩=some (.int .i64 a2_0):=(blk_cell BK348.out 0).trans rfl;have hcz19_1 : w18.cell? ⟨gb348,1,none⟩=some (.string a2_1):=(blk_cell BK348.out 1).trans rfl;have hfz19_0:=blk_frozen BK348.out 0;have hfz19_1:=blk_frozen BK348.out 1)|((with_reducible refine gate_callee (f:=38) rfl ?_);refine goesL_ (some 14) rfl rfl Try.func38 (by kernel_rfl) rfl #[.int .i64 a0,.agg #[.int .i64 a2_0,.string a2_1]] rfl (by (try simp only [List.map_toArray,List.map_cons,List.map_nil]);first|done|rfl|(simp only [List.length_drop,List.length_take];rfl)) ?_;(with_reducible refine (thresherref03_Fits.calls k a0 a2_0 a2_1 t350 _ A5.out).mono ?_);rintro e w20 ⟨rfl,hb⟩;refine ⟨_,rfl,?_⟩;have n0_:=Aside0.mk (blk_below (blk_up BK347.out) hb);have n1_:=Aside0.mk (blk_below (blk_up BK348.out) hb);have n2_:=Aside0.mk (below_step (below_go HB.out) hb);clear BK347;clear BK348;clear HB;have BK347:=n0_;have BK348:=n1_;have HB:=n2_;clear n0_ n1_ n2_;(try clear hb);(try clear hb2);(try clear hk);(try clear hi)))
  go_ret
  exact ⟨by first|rfl|(simp [errW_none,errW_some] <;> rfl)|(simp [*,errW_none,errW_some] <;> rfl),by repeat (first|(with_reducible first|exact HB.out|apply below_alloc|apply pw_below_drewN|apply below_drew1|refine below_set ?_ GE347.out|refine below_set ?_ GE348.out)|exact HB.out)⟩
end Go.Proofs.Ytkodpbellndelaa.P

