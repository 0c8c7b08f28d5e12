/- Texts of FilterMay. Merged: Px8. -/
import Derived.Test.YtbkpifcjgedjaaaQFilterMayPx0
namespace Go.Proofs.Ytbkpifcjgedjaaa.P
open Go.RowKit Go.Proofs.YtbkpifcjgedjaaaW.PrintWords Go.Proofs.YtbkpifcjgedjaaaW.PrintLast Go.Proofs.YtbkpifcjgedjaaaW.PrintMore
attribute [local go_sem] max2_int min2_int max_two min_two max_three min_three max_four min_four   -- for this text's walks alone
set_option linter.unusedVariables false
set_option linter.unusedSimpArgs false
def thresherref03_Fits.j0 : Nat→Int→Bool→Int→ByteArray→Option (Bool)
 | 0,_,_,_,_=>none
 | k + 1,x5,x6,x193000,x193001=>if x6=true then (some (x193001.toList == ([] : List UInt8))) else (if x5=3 then (if x193000=0 then (some (decide ((x193001.size : Int)≤60))) else (some false)) else (some false))
def thresherref03_Fits.f (k : Nat) (a0 : Int) (a1_0 : Int) (a1_1 : ByteArray) : Option (Bool):=if a0=1 then (thresherref03_Fits.j0 k a0 (a0 == 1) a1_0 a1_1) else (thresherref03_Fits.j0 k a0 (a0 == 2) a1_0 a1_1)
theorem thresherref03_Fits.mono_l : ∀ k,(∀ y0 y1 y2 y3,LeO (thresherref03_Fits.j0 k y0 y1 y2 y3) (thresherref03_Fits.j0 (k + 1) y0 y1 y2 y3))
 | 0=>fun _ _ _ _ r h=>by simp [thresherref03_Fits.j0] at h
 | k + 1=>by
  have ih0:=thresherref03_Fits.mono_l k
  ·intro y0 y1 y2 y3
   unfold thresherref03_Fits.j0
   repeat' first
   | (with_reducible exact ih0 _ _ _ _)
   | (with_reducible exact LeO.refl _)
   | (with_reducible exact LeO.none _)
   | (with_reducible refine LeO.ite ?_ ?_)
   | (with_reducible refine LeO.bind ?_ (fun _=>?_))
   | exact ih0 _ _ _ _
   | exact LeO.none _
   | refine LeO.ite ?_ ?_
   | refine LeO.bind ?_ (fun _=>?_)
theorem thresherref03_Fits.mono : ∀ a0 a1 a2 k,LeO (thresherref03_Fits.f k a0 a1 a2) (thresherref03_Fits.f (k + 1) a0 a1 a2):=by
 intro a0 a1 a2 k
 have ih0:=thresherref03_Fits.mono_l k
 unfold thresherref03_Fits.f
 repeat' first
   | (with_reducible exact ih0 _ _ _ _)
   | (with_reducible exact LeO.refl _)
   | (with_reducible exact LeO.none _)
   | (with_reducible refine LeO.ite ?_ ?_)
   | (with_reducible refine LeO.bind ?_ (fun _=>?_))
   | exact ih0 _ _ _ _
   | exact LeO.none _
   | refine LeO.ite ?_ ?_
   | refine LeO.bind ?_ (fun _=>?_)
set_option maxHeartbeats 8000000 in
set_option maxRecDepth 100000 in
theorem thresherref03_Fits.calls (k : Nat) (a0 : Int) (a1_0 : Int) (a1_1 : ByteArray) (r : Bool) (w : World) (h : thresherref03_Fits.f k a0 a1_0 a1_1=some r) :
  Calls Try.prog 28 #[.int .i64 a0,.agg #[.int .i64 a1_0,.string a1_1]] w fun e w'=>e=.returned (.bool r)∧Below w.heap.size w w':=by
 have hu37:=Try.underlying37
 have HB:=Aside0.mk (Below.refl w.heap.size w)
 have H : (if a0=1 then (thresherref03_Fits.j0 k a0 (a0 == 1) a1_0 a1_1) else (thresherref03_Fits.j0 k a0 (a0 == 2) a1_0 a1_1))=some r:=h
 clear h
 have HC3:=Aside0.mk H
 clear H
 go_enter Try.func28,Try.ntmps28
 go_upto_if 6 with (first|((with_reducible refine gate_dst (N:=3) rfl ?_);(try (refine gate_guard (by rfl) ?_;dsimp only));refine box_event ?hg (N:=3) ?hd (cs:=#[.int .i64 a1_0,.string a1_1]) (t:=37) ?hr ?_;(case hd=>rfl);(case hg=>rfl);(case hr=>first|(go_simp;done)|(go_simp;rfl));intro gb192 hg w4 hbox hb;have n0_:=Aside0.mk (below_step (below_up HB.out) hb);have n1_:=Aside0.mk (hbox);have n2_:=Aside0.mk ((by rw [hg];exact (below_size (below_up HB.out)) : w.heap.size≤gb192));have n3_:=Aside0.mk ((by rw [hg];exact (below_size (below_up HB.out)) : w.heap.size≤gb192));clear HB;have HB:=n0_;have BK192:=n1_;have GW192:=n2_;have GE192:=n3_;clear n0_ n1_ n2_ n3_;clear hb hbox hg))
 (try simp only [Act.put,List.setIfInBounds_toArray,List.set_cons_zero,List.set_cons_succ])
 go_cut [6] (fun v6 wc=>∃ (kq : Nat) (x6_2 : Bool),v6=.bool x6_2∧Aside0 (thresherref03_Fits.j0 kq a0 x6_2 a1_0 a1_1=some r)∧Aside0 (kq≤k)∧Aside0 (wc.heap[gb192]?=some (.cells #[.int .i64 a1_0,.string a1_1] 37 (0,0)))∧Aside0 (Below w.heap.size w wc))
 case first =>
  have H:=HC3.out
  clear HC3
  by_cases c5 : a0=1
  ·rw [if_pos c5] at H
   have c5b0 : (a0 == 1)=true:=beq_iff_eq.mpr c5
   have c5b1 : (a0 != 1)=false:=bne_eq_false_iff_eq.mpr c5
   clear c5
   (first|rw [c5b0]|(simp only [i64_w,i32_w];rw [c5b0])|skip)
   have H':=Aside0.mk H
   clear H
   go_wp2
   go_meet
   case rel=>exact ⟨_,((a0 == 1)),(by first|rfl|(simp;done)|(simp [*];done)),(by first|exact H'|(subst_vars;exact H')),⟨by first|omega|exact Nat.le_refl _⟩,⟨by (with_reducible repeat (first|refine blk_drewN ?_ _|refine blk_drew ?_|refine blk_alloc ?_ _));exact BK192.out⟩,⟨by repeat (first|(with_reducible first|exact HB.out|apply below_alloc|apply pw_below_drewN|apply below_drew1|refine below_set ?_ GE192.out)|exact HB.out)⟩⟩
  ·rw [if_neg c5] at H
   have c5b0 : (a0 == 1)=false:=beq_eq_false_iff_ne.mpr c5
   have c5b1 : (a0 != 1)=true:=bne_iff_ne.mpr c5
   (first|rw [c5b0]|(simp only [i64_w,i32_w];rw [c5b0])|skip)
   have H':=Aside0.mk H
   clear H
   go_wp2
   go_meet
   case rel=>exact ⟨_,((a0 == 2)),(by first|rfl|(simp;done)|(simp [*];done)),(by first|exact H'|(subst_vars;exact H')),⟨by first|omega|exact Nat.le_refl _⟩,⟨by (with_reducible repeat (first|refine blk_drewN ?_ _|refine blk_drew ?_|refine blk_alloc ?_ _));exact BK192.out⟩,⟨by repeat (first|(with_reducible first|exact HB.out|apply below_alloc|apply pw_below_drewN|apply below_drew1|refine below_set ?_ GE192.out)|exact HB.out)⟩⟩
 case rest =>
  clear HC3
  try clear c2
  try clear p2
  try clear c5
  try clear c5b0
  try clear c5b1
  obtain ⟨kq,x6_2,rfl,HA,HJ2,BK192,HB⟩:=hcut
  cases kq with
  | zero=>exact absurd HA.out (by simp [thresherref03_Fits.j0])
  | succ kj2 =>
   have H:=HA.out
   clear HA
   simp only [thresherref03_Fits.j0] at H
   by_cases c6 : x6_2=true
   ·subst c6
    have H1 : (some (a1_1.toList == ([] : List UInt8)))=some r:=by rw [if_pos rfl] at H;exact H
    clear H
    have H:=H1
    clear H1
    obtain rfl:=Option.some.inj H
    have hcz7_0 : wc.cell? ⟨gb192,0,none⟩=some (.int .i64 a1_0):=(blk_cell BK192.out 0).trans rfl
    have hcz7_1 : wc.cell? ⟨gb192,1,none⟩=some (.string a1_1):=(blk_cell BK192.out 1).trans rfl
    have hfz7_0:=blk_frozen BK192.out 0
    have hfz7_1:=blk_frozen BK192.out 1
    go_wp2
    go_ret
    exact ⟨by first|rfl|(simp [errW_none,errW_some] <;> rfl)|(simp [*,errW_none,errW_some] <;> rfl),by repeat (first|(with_reducible first|exact HB.out|apply below_alloc|apply pw_below_drewN|apply below_drew1|refine below_set ?_ GE192.out)|exact HB.out)⟩
   ·replace c6:=Bool.eq_false_iff.mpr c6
    subst c6
    have H1 : (if a0=3 then (if a1_0=0 then (some (decide ((a1_1.size : Int)≤60))) else (some false)) else (some false))=some r:=by rw [if_neg (show ¬ (false=true) by decide)] at H;exact H
    clear H
    have H:=H1
    clear H1
    by_cases c8 : a0=3
    ·rw [if_pos c8] at H
     have c8b0 : (a0 == 3)=true:=beq_iff_eq.mpr c8
     have c8b1 : (a0 != 3)=false:=bne_eq_false_iff_eq.mpr c8
     clear c8
     by_cases c9 : a1_0=0
     ·rw [if_pos c9] at H
      have c9b0 : (a1_0 == 0)=true:=beq_iff_eq.mpr c9
      have c9b1 : (a1_0 != 0)=false:=bne_eq_false_iff_eq.mpr c9
      clear c9
      obtain rfl:=Option.some.inj H
      have hcz10_0 : wc.cell? ⟨gb192,0,none⟩=some (.int .i64 a1_0):=(blk_cell BK192.out 0).trans rfl
      have hcz10_1 : wc.cell? ⟨gb192,1,none⟩=some (.string a1_1):=(blk_cell BK192.out 1).trans rfl
      have hfz10_0:=blk_frozen BK192.out 0
      have hfz10_1:=blk_frozen BK192.out 1
      go_wp2
      go_ret
      exact ⟨by first|rfl|(simp [errW_none,errW_some] <;> rfl)|(simp [*,errW_none,errW_some] <;> rfl),by repeat (first|(with_reducible first|exact HB.out|apply below_alloc|apply pw_below_drewN|apply below_drew1|refine below_set ?_ GE192.out)|exact HB.out)⟩
     ·rw [if_neg c9] at H
      have c9b0 : (a1_0 == 0)=false:=beq_eq_false_iff_ne.mpr c9
      have c9b1 : (a1_0 != 0)=true:=bne_iff_ne.mpr c9
      obtain rfl:=Option.some.inj H
      have hcz11_0 : wc.cell? ⟨gb192,0,none⟩=some (.int .i64 a1_0):=(blk_cell BK192.out 0).trans rfl
      have hcz11_1 : wc.cell? ⟨gb192,1,none⟩=some (.string a1_1):=(blk_cell BK192.out 1).trans rfl
      have hfz11_0:=blk_frozen BK192.out 0
      have hfz11_1:=blk_frozen BK192.out 1
      go_wp2
      go_ret
      exact ⟨by first|rfl|(simp [errW_none,errW_some] <;> rfl)|(simp [*,errW_none,errW_some] <;> rfl),by repeat (first|(with_reducible first|exact HB.out|apply below_alloc|apply pw_below_drewN|apply below_drew1|refine below_set ?_ GE192.out)|exact HB.out)⟩
    ·rw [if_neg c8] at H
     have c8b0 : (a0 == 3)=false:=beq_eq_false_iff_ne.mpr c8
     have c8b1 : (a0 != 3)=true:=bne_iff_ne.mpr c8
     obtain rfl:=Option.some.inj H
     go_wp2
     go_ret
     exact ⟨by first|rfl|(simp [errW_none,errW_some] <;> rfl)|(simp [*,errW_none,errW_some] <;> rfl),by repeat (first|(with_reducible first|exact HB.out|apply below_alloc|apply pw_below_drewN|apply below_drew1|refine below_set ?_ GE192.out)|exact HB.out)⟩
def thresherref03_both.f (k : Nat) (a0 : Int) (a1_0 : Int) (a1_1 : ByteArray) (a2_0 : Int) (a2_1 : ByteArray) : Option (Bool):=(thresherref03_Fits.f k a0 a1_0 a1_1).bind fun t195=>((thresherref03_Fits.f k a0 a2_0 a2_1).bind fun t196=>(if t195=true then (some t196) else (some false)))
theorem thresherref03_both.mono : ∀ a0 a1 a2 a3 a4 k,LeO (thresherref03_both.f k a0 a1 a2 a3 a4) (thresherref03_both.f (k + 1) a0 a1 a2 a3 a4):=by
 intro a0 a1 a2 a3 a4 k
 unfold thresherref03_both.f
 repeat' first
   | (with_reducible exact thresherref03_Fits.mono _ _ _ _)
   | (with_reducible exact LeO.refl _)
   | (with_reducible exact LeO.none _)
   | (with_reducible refine LeO.ite ?_ ?_)
   | (with_reducible refine LeO.bind ?_ (fun _=>?_))
   | exact thresherref03_Fits.mono _ _ _ _
   | exact LeO.none _
   | refine LeO.ite ?_ ?_
   | refine LeO.bind ?_ (fun _=>?_)
set_option maxHeartbeats 8000000 in
set_option maxRecDepth 100000 in
theorem thresherref03_both.calls (k : Nat) (a0 : Int) (a1_0 : Int) (a1_1 : ByteArray) (a2_0 : Int) (a2_1 : ByteArray) (r : Bool) (w : World) (h : thresherref03_both.f k a0 a1_0 a1_1 a2_0 a2_1=some r) :
  Calls Try.prog 36 #[.int .i64 a0,.agg #[.int .i64 a1_0,.string a1_1],.agg #[.int .i64 a2_0,.string a2_1]] w fun e w'=>e=.returned (.bool r)∧Below w.heap.size w w':=by
 have hu37:=Try.underlying37
 have HB:=Aside0.mk (Below.refl w.heap.size w)
 have H : ((thresherref03_Fits.f k a0 a1_0 a1_1).bind fun t195=>((thresherref03_Fits.f k a0 a2_0 a2_1).bind fun t196=>(if t195=true then (some t196) else (some false))))=some r:=h
 clear h
 replace H:=Option.bind_eq_some_iff.mp H
 obtain ⟨t195,A40,H⟩:=H
 replace H : ((thresherref03_Fits.f k a0 a2_0 a2_1).bind fun t196=>(if t195=true then (some t196) else (some false)))=some r:=H
 have A4:=Aside0.mk A40
 clear A40
 replace H:=Option.bind_eq_some_iff.mp H
 obtain ⟨t196,A50,H⟩:=H
 replace H : (if t195=true then (some t196) else (some false))=some r:=H
 have A5:=Aside0.mk A50
 clear A50
 by_cases c6 : t195=true
 ·subst c6
  have H1 : (some t196)=some r:=by rw [if_pos rfl] at H;exact H
  clear H
  have H:=H1
  clear H1
  obtain rfl:=Option.some.inj H
  go_enter Try.func36,Try.ntmps36
  go_wp2_with (first|((with_reducible refine gate_dst (N:=4) rfl ?_);refine box_event ?hg (N:=4) ?hd (cs:=#[.int .i64 a1_0,.string a1_1]) (t:=37) ?hr ?_;(case hd=>rfl);(case hg=>rfl);(case hr=>first|(go_simp;done)|(go_simp;rfl));intro gb193 hg w7 hbox hb;have n0_:=Aside0.mk (below_step (below_up HB.out) hb);have n1_:=Aside0.mk (hbox);have n2_:=Aside0.mk ((by rw [hg];exact (below_size (below_up HB.out)) : w.heap.size≤gb193));have n3_:=Aside0.mk ((by rw [hg];exact (below_size (below_up HB.out)) : w.heap.size≤gb193));clear HB;have HB:=n0_;have BK193:=n1_;have GW193:=n2_;have GE193:=n3_;clear n0_ n1_ n2_ n3_;clear hb hbox hg)|((with_reducible refine gate_dst (N:=5) rfl ?_);refine box_event ?hg (N:=5) ?hd (cs:=#[.int .i64 a2_0,.string a2_1]) (t:=37) ?hr ?_;(case hd=>rfl);(case hg=>rfl);(case hr=>first|(go_simp;done)|(go_simp;rfl));intro gb194 hg w8 hbox hb;have n0_:=Aside0.mk (blk_below (blk_up BK193.out) hb);have n1_:=Aside0.mk (below_step (below_go HB.out) hb);have n2_:=Aside0.mk (hbox);have n3_:=Aside0.mk ((by rw [hg];exact (below_size (below_go HB.out)) : w.heap.size≤gb194));have n4_:=Aside0.mk ((by rw [hg];exact (below_size (below_go HB.out)) : w.heap.size≤gb194));have n5_:=Aside0.mk ((by rw [hg];exact Nat.ne_of_lt (blk_lt (blk_up BK193.out)) : gb193≠gb194));have n6_:=Aside0.mk ((by rw [hg];exact Nat.ne_of_gt (blk_lt (blk_up BK193.out)) : gb194≠gb193));clear BK193;clear HB;have BK193:=n0_;have HB:=n1_;have BK194:=n2_;have GW194:=n3_;have GE194:=n4_;have NB193_194:=n5_;have NB194_193:=n6_;clear n0_ n1_ n2_ n3_ n4_ n5_ n6_;clear hb hbox hg;have hnb9:=NB193_194.out;have hnc9:=NB194_193.out;have hcz10_0 : w8.cell? ⟨gb193,0,none⟩=some (.int .i64 a1_0):=(blk_cell BK193.out 0).trans rfl;have hcz10_1 : w8.cell? ⟨gb193,1,none⟩=some (.string a1_1):=(blk_cell BK193.out 1).trans rfl;have hfz10_0:=blk_frozen BK193.out 0;have hfz10_1:=blk_frozen BK193.out 1)|((with_reducible refine gate_callee (f:=28) rfl ?_);refine goesL_ (some 11) rfl rfl Try.func28 (by kernel_rfl) rfl #[.int .i64 a0,.agg #[.int .i64 a1_0,.string a1_1]] rfl (by (try simp only [List.map_toArray,List.map_cons,List.map_nil]);first|done|rfl|(simp only [List.length_drop,List.length_take];rfl)) ?_;(with_reducible refine (thresherref03_Fits.calls k a0 a1_0 a1_1 true _ A4.out).mono ?_);rintro e w11 ⟨rfl,hb⟩;refine ⟨_,rfl,?_⟩;have n0_:=Aside0.mk (blk_below (blk_up BK193.out) hb);have n1_:=Aside0.mk (blk_below (blk_up BK194.out) hb);have n2_:=Aside0.mk (below_step (below_go HB.out) hb);clear BK193;clear BK194;clear HB;have BK193:=n0_;have BK194:=n1_;have HB:=n2_;clear n0_ n1_ n2_;(try clear hb);(try clear hb2);(try clear hk);(try clear hi);have hcz12_0 : w11.cell? ⟨gb194,0,none⟩=some (.int .i64 a2_0):=(blk_cell BK194.out 0).trans rfl;have hcz12_1 : w11.cell? ⟨gb194,1,none⟩=some (.string a2_1):=(blk_cell BK194.out 1).trans rfl;have hfz12_0:=blk_frozen BK194.out 0;have hfz12_1:=blk_frozen BK194.out 1)|((with_reducible refine gate_callee (f:=28) rfl ?_);refine goesL_ (some 14) rfl rfl Try.func28 (by kernel_rfl) rfl #[.int .i64 a0,.agg #[.int .i64 a2_0,.string a2_1]] rfl (by (try simp only [List.map_toArray,List.map_cons,List.map_nil]);first|done|rfl|(simp only [List.length_drop,List.length_take];rfl)) ?_;(with_reducible refine (thresherref03_Fits.calls k a0 a2_0 a2_1 t196 _ A5.out).mono ?_);rintro e w13 ⟨rfl,hb⟩;refine ⟨_,rfl,?_⟩;have n0_:=Aside0.mk (blk_below (blk_up BK193.out) hb);have n1_:=Aside0.mk (blk_below (blk_up BK194.out) hb);have n2_:=Aside0.mk (below_step (below_go HB.out) hb);clear BK193;clear BK194;clear HB;have BK193:=n0_;have BK194:=n1_;have HB:=n2_;clear n0_ n1_ n2_;(try clear hb);(try clear hb2);(try clear hk);(try clear hi)))
  go_ret
  exact ⟨by first|rfl|(simp [errW_none,errW_some] <;> rfl)|(simp [*,errW_none,errW_some] <;> rfl),by repeat (first|(with_reducible first|exact HB.out|apply below_alloc|apply pw_below_drewN|apply below_drew1|refine below_set ?_ GE193.out|refine below_set ?_ GE194.out)|exact HB.out)⟩
 ·replace c6:=Bool.eq_false_iff.mpr c6
  subst c6
  have H1 : (some false)=some r:=by rw [if_neg (show ¬ (false=true) by decide)] at H;exact H
  clear H
  have H:=H1
  clear H1
  obtain rfl:=Option.some.inj H
  go_enter Try.func36,Try.ntmps36
  go_wp2_with (first|((with_reducible refine gate_dst (N:=4) rfl ?_);refine box_event ?hg (N:=4) ?hd (cs:=#[.int .i64 a1_0,.string a1_1]) (t:=37) ?hr ?_;(case hd=>rfl);(case hg=>rfl);(case hr=>first|(go_simp;done)|(go_simp;rfl));intro gb193 hg w14 hbox hb;have n0_:=Aside0.mk (below_step (below_up HB.out) hb);have n1_:=Aside0.mk (hbox);have n2_:=Aside0.mk ((by rw [hg];exact (below_size (below_up HB.out)) : w.heap.size≤gb193));have n3_:=Aside0.mk ((by rw [hg];exact (below_size (below_up HB.out)) : w.heap.size≤gb193));clear HB;have HB:=n0_;have BK193:=n1_;have GW193:=n2_;have GE193:=n3_;clear n0_ n1_ n2_ n3_;clear hb hbox hg)|((with_reducible refine gate_dst (N:=5) rfl ?_);refine box_event ?hg (N:=5) ?hd (cs:=#[.int .i64 a2_0,.string a2_1]) (t:=37) ?hr ?_;(case hd=>rfl);(case hg=>rfl);(case hr=>first|(go_simp;done)|(go_simp;rfl));intro gb194 hg w15 hbox hb;have n0_:=Aside0.mk (blk_below (blk_up BK193.out) hb);have n1_:=Aside0.mk (below_step (below_go HB.out) hb);have n2_:=Aside0.mk (hbox);have n3_:=Aside0.mk ((by rw [hg];exact (below_size (below_go HB.out)) : w.heap.size≤gb194));have n4_:=Aside0.mk ((by rw [hg];exact (below_size (below_go HB.out)) : w.heap.size≤gb194));have n5_:=Aside0.mk ((by rw [hg];exact Nat.ne_of_lt (blk_lt (blk_up BK193.out)) : gb193≠gb194));have n6_:=Aside0.mk ((by rw [hg];exact Nat.ne_of_gt (blk_lt (blk_up BK193.out)) : gb194≠gb193));clear BK193;clear HB;have BK193:=n0_;have HB:=n1_;have BK194:=n2_;have GW194:=n3_;have GE194:=n4_;have NB193_194:=n5_;have NB194_193:=n6_;clear n0_ n1_ n2_ n3_ n4_ n5_ n6_;clear hb hbox hg;have hnb16:=NB193_194.out;have hnc16:=NB194_193.out;have hcz17_0 : w15.cell? ⟨gb193,0,none⟩=some (.int .i64 a1_0):=(blk_cell BK193.out 0).trans rfl;have hcz17_1 : w15.cell? ⟨gb193,1,none⟩=some (.string a1_1):=(blk_cell BK193.out 1).trans rfl;have hfz17_0:=blk_frozen BK193.out 0;have hfz17_1:=blk_frozen BK193.out 1)|((with_reducible refine gate_callee (f:=28) rfl ?_);refine goesL_ (some 11) rfl rfl Try.func28 (by kernel_rfl) rfl #[.int .i64 a0,.agg #[.int .i64 a1_0,.string a1_1]] rfl (by (try simp only [List.map_toArray,List.map_cons,List.map_nil]);first|done|rfl|(simp only [List.length_drop,List.length_take];rfl)) ?_;(with_reducible refine (thresherref03_Fits.calls k a0 a1_0 a1_1 false _ A4.out).mono ?_);rintro e w18 ⟨rfl,hb⟩;refine ⟨_,rfl,?_⟩;have n0_:=Aside0.mk (blk_below (blk_up BK193.out) hb);have n1_:=Aside0.mk (blk_below (blk_up BK194.out) hb);have n2_:=Aside0.mk (below_step (below_go HB.out) hb);clear BK193;clear BK194;clear HB;have BK193:=n0_;have BK194:=n1_;have HB:=n2_;clear n0_ n1_ n2_;(try clear hb);(try clear hb2);(try clear hk);(try clear hi);have hcz19_0 : w18.cell? ⟨gb194,0,none⟩=some (.int .i64 a2_0):=(blk_cell BK194.out 0).trans rfl;have hcz19_1 : w18.cell? ⟨gb194,1,none⟩=some (.string a2_1):=(blk_cell BK194.out 1).trans rfl;have hfz19_0:=blk_frozen BK194.out 0;have hfz19_1:=blk_frozen BK194.out 1)|((with_reducible refine gate_callee (f:=28) rfl ?_);refine goesL_ (some 14) rfl rfl Try.func28 (by kernel_rfl) rfl #[.int .i64 a0,.agg #[.int .i64 a2_0,.string a2_1]] rfl (by (try simp only [List.map_toArray,List.map_cons,List.map_nil]);first|done|rfl|(simp only [List.length_drop,List.length_take];rfl)) ?_;(with_reducible refine (thresherref03_Fits.calls k a0 a2_0 a2_1 t196 _ A5.out).mono ?_);rintro e w20 ⟨rfl,hb⟩;refine ⟨_,rfl,?_⟩;have n0_:=Aside0.mk (blk_below (blk_up BK193.out) hb);have n1_:=Aside0.mk (blk_below (blk_up BK194.out) hb);have n2_:=Aside0.mk (below_step (below_go HB.out) hb);clear BK193;clear BK194;clear HB;have BK193:=n0_;have BK194:=n1_;have HB:=n2_;clear n0_ n1_ n2_;(try clear hb);(try clear hb2);(try clear hk);(try clear hi)))
  go_ret
  exact ⟨by first|rfl|(simp [errW_none,errW_some] <;> rfl)|(simp [*,errW_none,errW_some] <;> rfl),by repeat (first|(with_reducible first|exact HB.out|apply below_alloc|apply pw_below_drewN|apply below_drew1|refine below_set ?_ GE193.out|refine below_set ?_ GE194.out)|exact HB.out)⟩
mutual
def thresherref03_texts.l0 : Nat→ByteArray→ByteArray→Int→Option (Int)
 | 0,_,_,_=>none
 | k + 1,x0,x1,x5=>if x5 < (x0.size : Int) then (thresherref03_texts.j1 k x0 x1 x5 (decide (x5 < (x1.size : Int)))) else (thresherref03_texts.j1 k x0 x1 x5 false)
def thresherref03_texts.j1 : Nat→ByteArray→ByteArray→Int→Bool→Option (Int)
 | 0,_,_,_,_=>none
 | k + 1,x0,x1,x5,x15=>if x15=true then (if 0≤x5 then (if x5 < (x0.size : Int) then (if x5 < (x1.size : Int) then (if (bt x0 x5) < (bt x1 x5) then (some (-1)) else (if (bt x0 x5) > (bt x1 x5) then (some 1) else (thresherref03_texts.l0 k x0 x1 (wrap64 (x5 + 1))))) else (none)) else (none)) else (none)) else (if (x0.size : Int) < (x1.size : Int) then (some (-1)) else (if (x0.size : Int) > (x1.size : Int) then (some 1) else (some 0)))
end
def thresherref03_texts.f (k : Nat) (a0 : ByteArray) (a1 : ByteArray) : Option (Int):=thresherref03_texts.l0 k a0 a1 0
theorem thresherref03_texts.mono_l : ∀ k,(∀ y0 y1 y2,LeO (thresherref03_texts.l0 k y0 y1 y2) (thresherref03_texts.l0 (k + 1) y0 y1 y2))∧(∀ y0 y1 y2 y3,LeO (thresherref03_texts.j1 k y0 y1 y2 y3) (thresherref03_texts.j1 (k + 1) y0 y1 y2 y3))
 | 0=>⟨fun _ _ _ r h=>by simp [thresherref03_texts.l0] at h,fun _ _ _ _ r h=>by simp [thresherref03_texts.j1] at h⟩
 | k + 1=>by
  obtain ⟨ih0,ih1⟩:=thresherref03_texts.mono_l k
  refine ⟨?_,?_⟩
  ·intro y0 y1 y2
   unfold thresherref03_texts.l0
   repeat' first
   | (with_reducible exact ih0 _ _ _)
   | (with_reducible exact ih1 _ _ _ _)
   | (with_reducible exact LeO.refl _)
   | (with_reducible exact LeO.none _)
   | (with_reducible refine LeO.ite ?_ ?_)
   | (with_reducible refine LeO.bind ?_ (fun _=>?_))
   | exact ih0 _ _ _
   | exact ih1 _ _ _ _
   | exact LeO.none _
   | refine LeO.ite ?_ ?_
   | refine LeO.bind ?_ (fun _=>?_)
  ·intro y0 y1 y2 y3
   unfold thresherref03_texts.j1
   repeat' first
   | (with_reducible exact ih0 _ _ _)
   | (with_reducible exact ih1 _ _ _ _)
   | (with_reducible exact LeO.refl _)
   | (with_reducible exact LeO.none _)
   | (with_reducible refine LeO.ite ?_ ?_)
   | (with_reducible refine LeO.bind ?_ (fun _=>?_))
   | exact ih0 _ _ _
   | exact ih1 _ _ _ _
   | exact LeO.none _
   | refine LeO.ite ?_ ?_
   | refine LeO.bind ?_ (fun _=>?_)
theorem thresherref03_texts.mono : ∀ a0 a1 k,LeO (thresherref03_texts.f k a0 a1) (thresherref03_texts.f (k + 1) a0 a1):=by
 intro a0 a1 k
 obtain ⟨ih0,ih1⟩:=thresherref03_texts.mono_l k
 unfold thresherref03_texts.f
 repeat' first
   | (with_reducible exact ih0 _ _ _)
   | (with_reducible exact ih1 _ _ _ _)
   | (with_reducible exact LeO.refl _)
   | (with_reducible exact LeO.none _)
   | (with_reducible refine LeO.ite ?_ ?_)
   | (with_reducible refine LeO.bind ?_ (fun _=>?_))
   | exact ih0 _ _ _
   | exact ih1 _ _ _ _
   | exact LeO.none _
   | refine LeO.ite ?_ ?_
   | refine LeO.bind ?_ (fun _=>?_)
set_option maxHeartbeats 8000000 in
set_option maxRecDepth 100000 in
theorem thresherref03_texts.calls (k : Nat) (a0 : ByteArray) (a1 : ByteArray) (r : Int) (w : World) (h : thresherref03_texts.f k a0 a1=some r) :
  Calls Try.prog 37 #[.string a0,.string a1] w fun e w'=>e=.returned (.int .i64 r)∧Drawn0 w w':=by
 have H : (thresherref03_texts.l0 k a0 a1 0)=some r:=h
 clear h
 have H':=Aside0.mk H
 clear H
 go_enter Try.func37,Try.ntmps37
 go_wp2
 repeat (go_quiet (fail);try go_wp2)
 go_loopg [5] k (fun kq v5 w'=>∃ (x5_1 : Int),v5=.int .i64 x5_1∧Aside0 (thresherref03_texts.l0 kq a0 a1 x5_1=some r)∧Aside0 (kq≤k)∧Drawn0 w w')
 case atStart=>exact ⟨(0),(by first|rfl|(simp;done)|(simp [*];done)),H',⟨Nat.le_refl _⟩,by repeat (first|exact Drawn0.refl _|apply Drawn0.step)⟩
 case round =>
  clear H'
  try clear p2
  obtain ⟨x5_1,rfl,HA,HK1,⟨m1,rfl⟩⟩:=hrel
  cases gk with
  | zero=>exact absurd HA.out (by simp [thresherref03_texts.l0])
  | succ k1 =>
   have H:=HA.out
   clear HA
   simp only [thresherref03_texts.l0] at H
   have HC3:=Aside0.mk H
   clear H
   go_upto_region 2 with (fail)
   repeat (go_quiet (fail);go_upto_region 2 with (fail))
   go_cut [15] (fun v15 wc=>∃ (kq : Nat) (x15_2 : Bool),v15=.bool x15_2∧Aside0 (thresherref03_texts.j1 kq a0 a1 x5_1 x15_2=some r)∧Aside0 (kq≤k1)∧Drawn0 w wc)
   case first =>
    have H:=HC3.out
    clear HC3
    by_cases c4 : x5_1 < (a0.size : Int)
    ·rw [if_pos c4] at H
     have c4b0 : decide (x5_1 < (a0.size : Int))=true:=decide_eq_true c4
     clear c4
     (first|rw [c4b0]|(simp only [i64_w,i32_w];rw [c4b0])|skip)
     have H':=Aside0.mk H
     clear H
     go_wp2
     repeat (go_quiet (fail);try go_wp2)
     go_meet
     case rel=>exact ⟨_,(decide (x5_1 < (a1.size : Int))),(by first|rfl|(simp;done)|(simp [*];done)),(by first|exact H'|(subst_vars;exact H')),⟨by have:=HK1.out;first|omega|exact Nat.le_refl _⟩,by repeat (first|exact Drawn0.refl _|apply Drawn0.step)⟩
    ·rw [if_neg c4] at H
     have c4b0 : decide (x5_1 < (a0.size : Int))=false:=decide_eq_false c4
     clear c4
     (first|rw [c4b0]|(simp only [i64_w,i32_w];rw [c4b0])|skip)
     have H':=Aside0.mk H
     clear H
     go_wp2
     repeat (go_quiet (fail);try go_wp2)
     go_meet
     case rel=>exact ⟨_,(false),(by first|rfl|(simp;done)|(simp [*];done)),(by first|exact H'|(subst_vars;exact H')),⟨by have:=HK1.out;first|omega|exact Nat.le_refl _⟩,by repeat (first|exact Drawn0.refl _|apply Drawn0.step)⟩
   case rest =>
    clear HC3
    try clear p2
    try clear c3
    try clear c4
    try clear c4b0
    try clear p2
    obtain ⟨kq,x15_2,rfl,HA,HJ2,⟨mc2,rfl⟩⟩:=hcut
    cases kq with
    | zero=>exact absurd HA.out (by simp [thresherref03_texts.j1])
    | succ kj2 =>
     have H:=HA.out
     clear HA
     simp only [thresherref03_texts.j1] at H
     by_cases c5 : x15_2=true
     ·subst c5
      have H1 : (if 0≤x5_1 then (if x5_1 < (a0.size : Int) then (if x5_1 < (a1.size : Int) then (if (bt a0 x5_1) < (bt a1 x5_1) then (some (-1)) else (if (bt a0 x5_1) > (bt a1 x5_1) then (some 1) else (thresherref03_texts.l0 kj2 a0 a1 (wrap64 (x5_1 + 1))))) else (none)) else (none)) else (none))=some r:=by rw [if_pos rfl] at H;exact H
      clear H
      have H:=H1
      clear H1
      by_cases c6 : 0≤x5_1
      ·rw [if_pos c6] at H
       have c6b0 : decide (0≤x5_1)=true:=decide_eq_true c6
       clear c6
       by_cases c7 : x5_1 < (a0.size : Int)
       ·rw [if_pos c7] at H
        have c7b0 : decide (x5_1 < (a0.size : Int))=true:=decide_eq_true c7
        clear c7
        by_cases c9 : x5_1 < (a1.size : Int)
        ·rw [if_pos c9] at H
         have c9b0 : decide (x5_1 < (a1.size : Int))=true:=decide_eq_true c9
         clear c9
         by_cases c11 : (bt a0 x5_1) < (bt a1 x5_1)
         ·rw [if_pos c11] at H
          have c11b0 : decide ((bt a0 x5_1) < (bt a1 x5_1))=true:=decide_eq_true c11
          clear c11
          obtain rfl:=Option.some.inj H
          have p8 : 0≤(x5_1 : Int):=of_decide_eq_true (by first|(with_reducible assumption)|assumption)
          have q8 : x5_1 < (a0.size : Int):=of_decide_eq_true (by first|(with_reducible assumption)|assumption)
          have hx8:=bt_at a0 x5_1
          replace p8:=eq_true p8
          replace q8:=eq_true q8
          have p10 : 0≤(x5_1 : Int):=of_decide_eq_true (by first|(with_reducible assumption)|assumption)
          have q10 : x5_1 < (a1.size : Int):=of_decide_eq_true (by first|(with_reducible assumption)|assumption)
          have hx10:=bt_at a1 x5_1
          replace p10:=eq_true p10
          replace q10:=eq_true q10
          go_wp2
          repeat (go_quiet (fail);try go_wp2)
          go_ret
          exact ⟨by first|rfl|(simp;done)|(simp [*];done),by repeat (first|exact Drawn0.refl _|apply Drawn0.step)⟩
         ·rw [if_neg c11] at H
          have c11b0 : decide ((bt a0 x5_1) < (bt a1 x5_1))=false:=decide_eq_false c11
          clear c11
          by_cases c14 : (bt a0 x5_1) > (bt a1 x5_1)
          ·rw [if_pos c14] at H
           have c14b0 : decide ((bt a1 x5_1) < (bt a0 x5_1))=true:=decide_eq_true c14
           clear c14
           obtain rfl:=Option.some.inj H
           have p8 : 0≤(x5_1 : Int):=of_decide_eq_true (by first|(with_reducible assumption)|assumption)
           have q8 : x5_1 < (a0.size : Int):=of_decide_eq_true (by first|(with_reducible assumption)|assumption)
           have hx8:=bt_at a0 x5_1
           replace p8:=eq_true p8
           replace q8:=eq_true q8
           have p10 : 0≤(x5_1 : Int):=of_decide_eq_true (by first|(with_reducible assumption)|assumption)
           have q10 : x5_1 < (a1.size : Int):=of_decide_eq_true (by first|(with_reducible assumption)|assumption)
           have hx10:=bt_at a1 x5_1
           replace p10:=eq_true p10
           replace q10:=eq_true q10
           have p12 : 0≤(x5_1 : Int):=of_decide_eq_true (by first|(with_reducible assumption)|assumption)
           have q12 : x5_1 < (a0.size : Int):=of_decide_eq_true (by first|(with_reducible assumption)|assumption)
           have hx12:=bt_at a0 x5_1
           replace p12:=eq_true p12
           replace q12:=eq_true q12
           have p13 : 0≤(x5_1 : Int):=of_decide_eq_true (by first|(with_reducible assumption)|assumption)
           have q13 : x5_1 < (a1.size : Int):=of_decide_eq_true (by first|(with_reducible assumption)|assumption)
           have hx13:=bt_at a1 x5_1
           replace p13:=eq_true p13
           replace q13:=eq_true q13
           go_wp2
           repeat (go_quiet (fail);try go_wp2)
           go_ret
           exact ⟨by first|rfl|(simp;done)|(simp [*];done),by repeat (first|exact Drawn0.refl _|apply Drawn0.step)⟩
          ·rw [if_neg c14] at H
           have c14b0 : decide ((bt a1 x5_1) < (bt a0 x5_1))=false:=decide_eq_false c14
           clear c14
           have H':=Aside0.mk H
           clear H
           have p8 : 0≤(x5_1 : Int):=of_decide_eq_true (by first|(with_reducible assumption)|assumption)
           have q8 : x5_1 < (a0.size : Int):=of_decide_eq_true (by first|(with_reducible assumption)|assumption)
           have hx8:=bt_at a0 x5_1
           replace p8:=eq_true p8
           replace q8:=eq_true q8
           have p10 : 0≤(x5_1 : Int):=of_decide_eq_true (by first|(with_reducible assumption)|assumption)
           have q10 : x5_1 < (a1.size : Int):=of_decide_eq_true (by first|(with_reducible assumption)|assumption)
           have hx10:=bt_at a1 x5_1
           replace p10:=eq_true p10
           replace q10:=eq_true q10
           have p12 : 0≤(x5_1 : Int):=of_decide_eq_true (by first|(with_reducible assumption)|assumption)
           have q12 : x5_1 < (a0.size : Int):=of_decide_eq_true (by first|(with_reducible assumption)|assumption)
           have hx12:=bt_at a0 x5_1
           replace p12:=eq_true p12
           replace q12:=eq_true q12
           have p13 : 0≤(x5_1 : Int):=of_decide_eq_true (by first|(with_reducible assumption)|assumption)
           have q13 : x5_1 < (a1.size : Int):=of_decide_eq_true (by first|(with_reducible assumption)|assumption)
           have hx13:=bt_at a1 x5_1
           replace p13:=eq_true p13
           replace q13:=eq_true q13
           go_wp2
           repeat (go_quiet (fail);try go_wp2)
           go_roundg kj2
           case measure=>have:=HK1.out;have:=HJ2.out;omega
           case rel=>exact ⟨(wrap64 (x5_1 + 1)),(by first|rfl|(simp;done)|(simp [*];done)),(by first|exact H'|(subst_vars;exact H')),⟨by have:=HK1.out;have:=HJ2.out;omega⟩,by repeat (first|exact Drawn0.refl _|apply Drawn0.step)⟩
        ·rw [if_neg c9] at H
         exact absurd H (by simp)
       ·rw [if_neg c7] at H
        exact absurd H (by simp)
      ·rw [if_neg c6] at H
       exact absurd H (by simp)
     ·replace c5:=Bool.eq_false_iff.mpr c5
      subst c5
      have H1 : (if (a0.size : Int) < (a1.size : Int) then (some (-1)) else (if (a0.size : Int) > (a1.size : Int) then (some 1) else (some 0)))=some r:=by rw [if_neg (show ¬ (false=true) by decide)] at H;exact H
      clear H
      have H:=H1
      clear H1
      by_cases c15 : (a0.size : Int) < (a1.size : Int)
      ·rw [if_pos c15] at H
       have c15b0 : decide ((a0.size : Int) < (a1.size : Int))=true:=decide_eq_true c15
       have c15b1 : decide (a0.size < a1.size)=true:=decide_eq_true (Int.ofNat_lt.mp c15)
       clear c15
       obtain rfl:=Option.some.inj H
       go_wp2
       repeat (go_quiet (fail);try go_wp2)
       go_ret
       exact ⟨by first|rfl|(simp;done)|(simp [*];done),by repeat (first|exact Drawn0.refl _|apply Drawn0.step)⟩
      ·rw [if_neg c15] at H
       have c15b0 : decide ((a0.size : Int) < (a1.size : Int))=false:=decide_eq_false c15
       have c15b1 : decide (a0.size < a1.size)=false:=decide_eq_false (fun h=>c15 (Int.ofNat_lt.mpr h))
       clear c15
       by_cases c16 : (a0.size : Int) > (a1.size : Int)
       ·rw [if_pos c16] at H
        have c16b0 : decide ((a1.size : Int) < (a0.size : Int))=true:=decide_eq_true c16
        have c16b1 : decide (a1.size < a0.size)=true:=decide_eq_true (Int.ofNat_lt.mp c16)
        clear c16
        obtain rfl:=Option.some.inj H
        go_wp2
        repeat (go_quiet (fail);try go_wp2)
        go_ret
        exact ⟨by first|rfl|(simp;done)|(simp [*];done),by repeat (first|exact Drawn0.refl _|apply Drawn0.step)⟩
       ·rw [if_neg c16] at H
        have c16b0 : decide ((a1.size : Int) < (a0.size : Int))=false:=decide_eq_false c16
        have c16b1 : decide (a1.size < a0.size)=false:=decide_eq_false (fun h=>c16 (Int.ofNat_lt.mpr h))
        clear c16
        obtain rfl:=Option.some.inj H
        go_wp2
        repeat (go_quiet (fail);try go_wp2)
        go_ret
        exact ⟨by first|rfl|(simp;done)|(simp [*];done),by repeat (first|exact Drawn0.refl _|apply Drawn0.step)⟩
def thresherref03_Compare.j0 : Nat→Bool→Bool→Option (Int)
 | 0,_,_=>none
 | k + 1,x8,x9=>if x8=true then (some (-1)) else (if x9=true then (some 1) else (some 0))
def thresherref03_Compare.f (k : Nat) (a0 : Int) (a1_0 : Int) (a1_1 : ByteArray) (a2_0 : Int) (a2_1 : ByteArray) : Option (Int):=(thresherref03_both.f k a0 a1_0 a1_1 a2_0 a2_1).bind fun t199=>(if t199=true then (if a0=2 then (if ((decide (a1_0 < 0)) != (decide (a2_0 < 0)))=true then (thresherref03_Compare.j0 k (decide (a2_0 < 0)) (decide (a1_0 < 0))) else (thresherref03_Compare.j0 k (decide (a1_0 < a2_0)) (decide (a1_0 > a2_0)))) else (if a0=3 then ((thresherref03_texts.f k a1_1 a2_1).bind fun t200=>(some t200)) else (thresherref03_Compare.j0 k (decide (a1_0 < a2_0)) (decide (a1_0 > a2_0))))) else (some 0))
theorem thresherref03_Compare.mono_l : ∀ k,(∀ y0 y1,LeO (thresherref03_Compare.j0 k y0 y1) (thresherref03_Compare.j0 (k + 1) y0 y1))
 | 0=>fun _ _ r h=>by simp [thresherref03_Compare.j0] at h
 | k + 1=>by
  have ih0:=thresherref03_Compare.mono_l k
  ·intro y0 y1
   unfold thresherref03_Compare.j0
   repeat' first
   | (with_reducible exact ih0 _ _)
   | (with_reducible exact thresherref03_both.mono _ _ _ _ _ _)
   | (with_reducible exact thresherref03_texts.mono _ _ _)
   | (with_reducible exact LeO.refl _)
   | (with_reducible exact LeO.none _)
   | (with_reducible refine LeO.ite ?_ ?_)
   | (with_reducible refine LeO.bind ?_ (fun _=>?_))
   | exact ih0 _ _
   | exact thresherref03_both.mono _ _ _ _ _ _
   | exact thresherref03_texts.mono _ _ _
   | exact LeO.none _
   | refine LeO.ite ?_ ?_
   | refine LeO.bind ?_ (fun _=>?_)
theorem thresherref03_Compare.mono : ∀ a0 a1 a2 a3 a4 k,LeO (thresherref03_Compare.f k a0 a1 a2 a3 a4) (thresherref03_Compare.f (k + 1) a0 a1 a2 a3 a4):=by
 intro a0 a1 a2 a3 a4 k
 have ih0:=thresherref03_Compare.mono_l k
 unfold thresherref03_Compare.f
 repeat' first
   | (with_reducible exact ih0 _ _)
   | (with_reducible exact thresherref03_both.mono _ _ _ _ _ _)
   | (with_reducible exact thresherref03_texts.mono _ _ _)
   | (with_reducible exact LeO.refl _)
   | (with_reducible exact LeO.none _)
   | (with_reducible refine LeO.ite ?_ ?_)
   | (with_reducible refine LeO.bind ?_ (fun _=>?_))
   | exact ih0 _ _
   | exact thresherref03_both.mono _ _ _ _ _ _
   | exact thresherref03_texts.mono _ _ _
   | exact LeO.none _
   | refine LeO.ite ?_ ?_
   | refine LeO.bind ?_ (fun _=>?_)
set_option maxHeartbeats 8000000 in
set_option maxRecDepth 100000 in
theorem thresherref03_Compare.calls (k : Nat) (a0 : Int) (a1_0 : Int) (a1_1 : ByteArray) (a2_0 : Int) (a2_1 : ByteArray) (r : Int) (w : World) (h : thresherref03_Compare.f k a0 a1_0 a1_1 a2_0 a2_1=some r) :
  Calls Try.prog 31 #[.int .i64 a0,.agg #[.int .i64 a1_0,.string a1_1],.agg #[.int .i64 a2_0,.string a2_1]] w fun e w'=>e=.returned (.int .i64 r)∧Below w.heap.size w w':=by
 have hu37:=Try.underlying37
 have HB:=Aside0.mk (Below.refl w.heap.size w)
 have H : ((thresherref03_both.f k a0 a1_0 a1_1 a2_0 a2_1).bind fun t199=>(if t199=true then (if a0=2 then (if ((decide (a1_0 < 0)) != (decide (a2_0 < 0)))=true then (thresherref03_Compare.j0 k (decide (a2_0 < 0)) (decide (a1_0 < 0))) else (thresherref03_Compare.j0 k (decide (a1_0 < a2_0)) (decide (a1_0 > a2_0)))) else (if a0=3 then ((thresherref03_texts.f k a1_1 a2_1).bind fun t200=>(some t200)) else (thresherref03_Compare.j0 k (decide (a1_0 < a2_0)) (decide (a1_0 > a2_0))))) else (some 0)))=some r:=h
 clear h
 replace H:=Option.bind_eq_some_iff.mp H
 obtain ⟨t199,A40,H⟩:=H
 replace H : (if t199=true then (if a0=2 then (if ((decide (a1_0 < 0)) != (decide (a2_0 < 0)))=true then (thresherref03_Compare.j0 k (decide (a2_0 < 0)) (decide (a1_0 < 0))) else (thresherref03_Compare.j0 k (decide (a1_0 < a2_0)) (decide (a1_0 > a2_0)))) else (if a0=3 then ((thresherref03_texts.f k a1_1 a2_1).bind fun t200=>(some t200)) else (thresherref03_Compare.j0 k (decide (a1_0 < a2_0)) (decide (a1_0 > a2_0))))) else (some 0))=some r:=H
 have A4:=Aside0.mk A40
 clear A40
 by_cases c5 : t199=true
 ·subst c5
  have H1 : (if a0=2 then (if ((decide (a1_0 < 0)) != (decide (a2_0 < 0)))=true then (thresherref03_Compare.j0 k (decide (a2_0 < 0)) (decide (a1_0 < 0))) else (thresherref03_Compare.j0 k (decide (a1_0 < a2_0)) (decide (a1_0 > a2_0)))) else (if a0=3 then ((thresherref03_texts.f k a1_1 a2_1).bind fun t200=>(some t200)) else (thresherref03_Compare.j0 k (decide (a1_0 < a2_0)) (decide (a1_0 > a2_0)))))=some r:=by rw [if_pos rfl] at H;exact H
  clear H
  have H:=H1
  clear H1
  have HC6:=Aside0.mk H
  clear H
  go_enter Try.func31,Try.ntmps31
  go_upto_block 0 with (first|((with_reducible refine gate_dst (N:=4) rfl ?_);refine box_event ?hg (N:=4) ?hd (cs:=#[.int .i64 a1_0,.string a1_1]) (t:=37) ?hr ?_;(case hd=>rfl);(case hg=>rfl);(case hr=>first|(go_simp;done)|(go_simp;rfl));intro gb197 hg w7 hbox hb;have n0_:=Aside0.mk (below_step (below_up HB.out) hb);have n1_:=Aside0.mk (hbox);have n2_:=Aside0.mk ((by rw [hg];exact (below_size (below_up HB.out)) : w.heap.size≤gb197));have n3_:=Aside0.mk ((by rw [hg];exact (below_size (below_up HB.out)) : w.heap.size≤gb197));clear HB;have HB:=n0_;have BK197:=n1_;have GW197:=n2_;have GE197:=n3_;clear n0_ n1_ n2_ n3_;clear hb hbox hg)|((with_reducible refine gate_dst (N:=5) rfl ?_);refine box_event ?hg (N:=5) ?hd (cs:=#[.int .i64 a2_0,.string a2_1]) (t:=37) ?hr ?_;(case hd=>rfl);(case hg=>rfl);(case hr=>first|(go_simp;done)|(go_simp;rfl));intro gb198 hg w8 hbox hb;have n0_:=Aside0.mk (blk_below (blk_up BK197.out) hb);have n1_:=Aside0.mk (below_step (below_go HB.out) hb);have n2_:=Aside0.mk (hbox);have n3_:=Aside0.mk ((by rw [hg];exact (below_size (below_go HB.out)) : w.heap.size≤gb198));have n4_:=Aside0.mk ((by rw [hg];exact (below_size (below_go HB.out)) : w.heap.size≤gb198));have n5_:=Aside0.mk ((by rw [hg];exact Nat.ne_of_lt (blk_lt (blk_up BK197.out)) : gb197≠gb198));have n6_:=Aside0.mk ((by rw [hg];exact Nat.ne_of_gt (blk_lt (blk_up BK197.out)) : gb198≠gb197));clear BK197;clear HB;have BK197:=n0_;have HB:=n1_;have BK198:=n2_;have GW198:=n3_;have GE198:=n4_;have NB197_198:=n5_;have NB198_197:=n6_;clear n0_ n1_ n2_ n3_ n4_ n5_ n6_;clear hb hbox hg;have hnb9:=NB197_198.out;have hnc9:=NB198_197.out;have hcz10_0 : w8.cell? ⟨gb197,0,none⟩=some (.int .i64 a1_0):=(blk_cell BK197.out 0).trans rfl;have hcz10_1 : w8.cell? ⟨gb197,1,none⟩=some (.string a1_1):=(blk_cell BK197.out 1).trans rfl;have hfz10_0:=blk_frozen BK197.out 0;have hfz10_1:=blk_frozen BK197.out 1;have hcz11_0 : w8.cell? ⟨gb198,0,none⟩=some (.int .i64 a2_0):=(blk_cell BK198.out 0).trans rfl;have hcz11_1 : w8.cell? ⟨gb198,1,none⟩=some (.string a2_1):=(blk_cell BK198.out 1).trans rfl;have hfz11_0:=blk_frozen BK198.out 0;have hfz11_1:=blk_frozen BK198.out 1)|((with_reducible refine gate_callee (f:=36) rfl ?_);refine goesL_ (some 13) rfl rfl Try.func36 (by kernel_rfl) rfl #[.int .i64 a0,.agg #[.int .i64 a1_0,.string a1_1],.agg #[.int .i64 a2_0,.string a2_1]] rfl (by (try simp only [List.map_toArray,List.map_cons,List.map_nil]);first|done|rfl|(simp only [List.length_drop,List.length_take];rfl)) ?_;(with_reducible refine (thresherref03_both.calls k a0 a1_0 a1_1 a2_0 a2_1 true _ A4.out).mono ?_);rintro e w12 ⟨rfl,hb⟩;refine ⟨_,rfl,?_⟩;have n0_:=Aside0.mk (blk_below (blk_up BK197.out) hb);have n1_:=Aside0.mk (blk_below (blk_up BK198.out) hb);have n2_:=Aside0.mk (below_step (below_go HB.out) hb);clear BK197;clear BK198;clear HB;have BK197:=n0_;have BK198:=n1_;have HB:=n2_;clear n0_ n1_ n2_;(try clear hb);(try clear hb2);(try clear hk);(try clear hi);have hcz13_0 : w12.cell? ⟨gb197,0,none⟩=some (.int .i64 a1_0):=(blk_cell BK197.out 0).trans rfl;have hcz13_1 : w12.cell? ⟨gb197,1,none⟩=some (.string a1_1):=(blk_cell BK197.out 1).trans rfl;have hfz13_0:=blk_frozen BK197.out 0;have hfz13_1:=blk_frozen BK197.out 1;have hcz14_0 : w12.cell? ⟨gb198,0,none⟩=some (.int .i64 a2_0):=(blk_cell BK198.out 0).trans rfl;have hcz14_1 : w12.cell? ⟨gb198,1,none⟩=some (.string a2_1):=(blk_cell BK198.out 1).trans rfl;have hfz14_0:=blk_frozen BK198.out 0;have hfz14_1:=blk_frozen BK198.out 1))
  (try simp only [Act.put,List.setIfInBounds_toArray,List.set_cons_zero,List.set_cons_succ])
  go_cut [8,9] (fun v8 v9 wc=>∃ (kq : Nat) (x8_5 : Bool) (x9_5 : Bool),v8=.bool x8_5∧v9=.bool x9_5∧Aside0 (thresherref03_Compare.j0 kq x8_5 x9_5=some r)∧Aside0 (kq≤k)∧Aside0 (wc.heap[gb197]?=some (.cells #[.int .i64 a1_0,.string a1_1] 37 (0,0)))∧Aside0 (wc.heap[gb198]?=some (.cells #[.int .i64 a2_0,.string a2_1] 37 (0,0)))∧Aside0 (Below w.heap.size w wc))
  case first =>
   have H:=HC6.out
   clear HC6
   by_cases c15 : a0=2
   ·rw [if_pos c15] at H
    have c15b0 : (a0 == 2)=true:=beq_iff_eq.mpr c15
    have c15b1 : (a0 != 2)=false:=bne_eq_false_iff_eq.mpr c15
    clear c15
    (first|rw [c15b0]|(simp only [i64_w,i32_w];rw [c15b0])|skip)
    by_cases c16 : ((decide (a1_0 < 0)) != (decide (a2_0 < 0)))=true
    ·rw [if_pos c16] at H
     have c16b0 : ((decide (a1_0 < 0)) != (decide (a2_0 < 0)))=true:=c16
     (try (have c16b1 : decide ((decide (a1_0 < 0))=(decide (a2_0 < 0)))=false:=by simpa using c16))
     (try (have c16b2 : ((decide (a1_0 < 0)) == (decide (a2_0 < 0)))=false:=by simpa using c16))
     (try (have c16b3 : ¬ ((decide (a1_0 < 0))=(decide (a2_0 < 0))):=by simpa using c16))
     clear c16
     have H':=Aside0.mk H
     clear H
     have hnb17:=NB197_198.out
     have hnc17:=NB198_197.out
     have hcz18_0 : w12.cell? ⟨gb197,0,none⟩=some (.int .i64 a1_0):=(blk_cell BK197.out 0).trans rfl
     have hcz18_1 : w12.cell? ⟨gb197,1,none⟩=some (.string a1_1):=(blk_cell BK197.out 1).trans rfl
     have hfz18_0:=blk_frozen BK197.out 0
     have hfz18_1:=blk_frozen BK197.out 1
     have hcz19_0 : w12.cell? ⟨gb198,0,none⟩=some (.int .i64 a2_0):=(blk_cell BK198.out 0).trans rfl
     have hcz19_1 : w12.cell? ⟨gb198,1,none⟩=some (.string a2_1):=(blk_cell BK198.out 1).trans rfl
     have hfz19_0:=blk_frozen BK198.out 0
     have hfz19_1:=blk_frozen BK198.out 1
     go_wp2
     go_meet
     case rel=>exact ⟨_,(decide (a2_0 < 0)),(decide (a1_0 < 0)),(by first|rfl|(simp;done)|(simp [*];done)),(by first|rfl|(simp;done)|(simp [*];done)),(by first|exact H'|(subst_vars;exact H')),⟨by first|omega|exact Nat.le_refl _⟩,⟨by (with_reducible repeat (first|refine blk_drewN ?_ _|refine blk_drew ?_|refine blk_alloc ?_ _));exact BK197.out⟩,⟨by (with_reducible repeat (first|refine blk_drewN ?_ _|refine blk_drew ?_|refine blk_alloc ?_ _));exact BK198.out⟩,⟨by repeat (first|(with_reducible first|exact HB.out|apply below_alloc|apply pw_below_drewN|apply below_drew1|refine below_set ?_ GE197.out|refine below_set ?_ GE198.out)|exact HB.out)⟩⟩
    ·rw [if_neg c16] at H
     have c16b0 : ((decide (a1_0 < 0)) != (decide (a2_0 < 0)))=false:=by simpa using c16
     (try (have c16b1 : decide ((decide (a1_0 < 0))=(decide (a2_0 < 0)))=true:=by simpa using c16))
     (try (have c16b2 : ((decide (a1_0 < 0)) == (decide (a2_0 < 0)))=true:=by simpa using c16))
     clear c16
     have H':=Aside0.mk H
     clear H
     have hnb20:=NB197_198.out
     have hnc20:=NB198_197.out
     have hcz21_0 : w12.cell? ⟨gb197,0,none⟩=some (.int .i64 a1_0):=(blk_cell BK197.out 0).trans rfl
     have hcz21_1 : w12.cell? ⟨gb197,1,none⟩=some (.string a1_1):=(blk_cell BK197.out 1).trans rfl
     have hfz21_0:=blk_frozen BK197.out 0
     have hfz21_1:=blk_frozen BK197.out 1
     have hcz22_0 : w12.cell? ⟨gb198,0,none⟩=some (.int .i64 a2_0):=(blk_cell BK198.out 0).trans rfl
     have hcz22_1 : w12.cell? ⟨gb198,1,none⟩=some (.string a2_1):=(blk_cell BK198.out 1).trans rfl
     have hfz22_0:=blk_frozen BK198.out 0
     have hfz22_1:=blk_frozen BK198.out 1
     go_wp2
     go_meet
     case rel=>exact ⟨_,(decide (a1_0 < a2_0)),(decide (a1_0 > a2_0)),(by first|rfl|(simp;done)|(simp [*];done)),(by first|rfl|(simp;done)|(simp [*];done)),(by first|exact H'|(subst_vars;exact H')),⟨by first|omega|exact Nat.le_refl _⟩,⟨by (with_reducible repeat (first|refine blk_drewN ?_ _|refine blk_drew ?_|refine blk_alloc ?_ _));exact BK197.out⟩,⟨by (with_reducible repeat (first|refine blk_drewN ?_ _|refine blk_drew ?_|refine blk_alloc ?_ _));exact BK198.out⟩,⟨by repeat (first|(with_reducible first|exact HB.out|apply below_alloc|apply pw_below_drewN|apply below_drew1|refine below_set ?_ GE197.out|refine below_set ?_ GE198.out)|exact HB.out)⟩⟩
   ·rw [if_neg c15] at H
    have c15b0 : (a0 == 2)=false:=beq_eq_false_iff_ne.mpr c15
    have c15b1 : (a0 != 2)=true:=bne_iff_ne.mpr c15
    (first|rw [c15b0]|(simp only [i64_w,i32_w];rw [c15b0])|skip)
    by_cases c23 : a0=3
    ·rw [if_pos c23] at H
     have c23b0 : (a0 == 3)=true:=beq_iff_eq.mpr c23
     have c23b1 : (a0 != 3)=false:=bne_eq_false_iff_eq.mpr c23
     clear c23
     replace H:=Option.bind_eq_some_iff.mp H
     obtain ⟨t200,A240,H⟩:=H
     replace H : (some t200)=some r:=H
     have A24:=Aside0.mk A240
     clear A240
     obtain rfl:=Option.some.inj H
     have hnb25:=NB197_198.out
     have hnc25:=NB198_197.out
     have hcz26_0 : w12.cell? ⟨gb197,0,none⟩=some (.int .i64 a1_0):=(blk_cell BK197.out 0).trans rfl
     have hcz26_1 : w12.cell? ⟨gb197,1,none⟩=some (.string a1_1):=(blk_cell BK197.out 1).trans rfl
     have hfz26_0:=blk_frozen BK197.out 0
     have hfz26_1:=blk_frozen BK197.out 1
     have hcz27_0 : w12.cell? ⟨gb198,0,none⟩=some (.int .i64 a2_0):=(blk_cell BK198.out 0).trans rfl
     have hcz27_1 : w12.cell? ⟨gb198,1,none⟩=some (.string a2_1):=(blk_cell BK198.out 1).trans rfl
     have hfz27_0:=blk_frozen BK198.out 0
     have hfz27_1:=blk_frozen BK198.out 1
     go_wp2_with (first|((with_reducible refine gate_callee (f:=37) rfl ?_);refine goesL_ (some 48) rfl rfl Try.func37 (by kernel_rfl) rfl #[.string a1_1,.string a2_1] rfl (by (try simp only [List.map_toArray,List.map_cons,List.map_nil]);first|done|rfl|(simp only [List.length_drop,List.length_take];rfl)) ?_;(with_reducible refine (thresherref03_texts.calls k a1_1 a2_1 t200 _ A24.out).mono ?_);rintro e w' ⟨rfl,⟨nd,rfl⟩⟩;refine ⟨_,rfl,?_⟩))
     go_ret
     exact ⟨by first|rfl|(simp [errW_none,errW_some] <;> rfl)|(simp [*,errW_none,errW_some] <;> rfl),by repeat (first|(with_reducible first|exact HB.out|apply below_alloc|apply pw_below_drewN|apply below_drew1|refine below_set ?_ GE197.out|refine below_set ?_ GE198.out)|exact HB.out)⟩
    ·rw [if_neg c23] at H
     have c23b0 : (a0 == 3)=false:=beq_eq_false_iff_ne.mpr c23
     have c23b1 : (a0 != 3)=true:=bne_iff_ne.mpr c23
     have H':=Aside0.mk H
     clear H
     go_wp2
     go_meet
     case rel=>exact ⟨_,(decide (a1_0 < a2_0)),(decide (a1_0 > a2_0)),(by first|rfl|(simp;done)|(simp [*];done)),(by first|rfl|(simp;done)|(simp [*];done)),(by first|exact H'|(subst_vars;exact H')),⟨by first|omega|exact Nat.le_refl _⟩,⟨by (with_reducible repeat (first|refine blk_drewN ?_ _|refine blk_drew ?_|refine blk_alloc ?_ _));exact BK197.out⟩,⟨by (with_reducible repeat (first|refine blk_drewN ?_ _|refine blk_drew ?_|refine blk_alloc ?_ _));exact BK198.out⟩,⟨by repeat (first|(with_reducible first|exact HB.out|apply below_alloc|apply pw_below_drewN|apply below_drew1|refine below_set ?_ GE197.out|refine below_set ?_ GE198.out)|exact HB.out)⟩⟩
  case rest =>
   clear HC6
   try clear c1
   try clear c2
   try clear p2
   try clear c3
   try clear c5
   try clear c9
   try clear c15
   try clear c15b0
   try clear c15b1
   try clear c16
   try clear c16b0
   try clear c16b1
   try clear c16b2
   try clear c17
   try clear c20
   try clear c23
   try clear c23b0
   try clear c23b1
   try clear c25
   try clear hcz10_0
   try clear hcz10_1
   try clear hcz11_0
   try clear hcz11_1
   try clear hcz13_0
   try clear hcz13_1
   try clear hcz14_0
   try clear hcz14_1
   try clear hcz18_0
   try clear hcz18_1
   try clear hcz19_0
   try clear hcz19_1
   try clear hcz21_0
   try clear hcz21_1
   try clear hcz22_0
   try clear hcz22_1
   try clear hcz26_0
   try clear hcz26_1
   try clear hcz27_0
   try clear hcz27_1
   try clear hfz10_0
   try clear hfz10_1
   try clear hfz11_0
   try clear hfz11_1
   try clear hfz13_0
   try clear hfz13_1
   try clear hfz14_0
   try clear hfz14_1
   try clear hfz18_0
   try clear hfz18_1
   try clear hfz19_0
   try clear hfz19_1
   try clear hfz21_0
   try clear hfz21_1
   try clear hfz22_0
   try clear hfz22_1
   try clear hfz26_0
   try clear hfz26_1
   try clear hfz27_0
   try clear hfz27_1
   obtain ⟨kq,x8_5,x9_5,rfl,rfl,HA,HJ5,BK197,BK198,HB⟩:=hcut
   cases kq with
   | zero=>exact absurd HA.out (by simp [thresherref03_Compare.j0])
   | succ kj5 =>
    have H:=HA.out
    clear HA
    simp only [thresherref03_Compare.j0] at H
    by_cases c28 : x8_5=true
    ·subst c28
     have H1 : (some (-1))=some r:=by rw [if_pos rfl] at H;exact H
     clear H
     have H:=H1
     clear H1
     obtain rfl:=Option.some.inj H
     go_wp2
     go_ret
     exact ⟨by first|rfl|(simp [errW_none,errW_some] <;> rfl)|(simp [*,errW_none,errW_some] <;> rfl),by repeat (first|(with_reducible first|exact HB.out|apply below_alloc|apply pw_below_drewN|apply below_drew1|refine below_set ?_ GE197.out|refine below_set ?_ GE198.out)|exact HB.out)⟩
    ·replace c28:=Bool.eq_false_iff.mpr c28
     subst c28
     have H1 : (if x9_5=true then (some 1) else (some 0))=some r:=by rw [if_neg (show ¬ (false=true) by decide)] at H;exact H
     clear H
     have H:=H1
     clear H1
     by_cases c29 : x9_5=true
     ·subst c29
      have H1 : (some 1)=some r:=by rw [if_pos rfl] at H;exact H
      clear H
      have H:=H1
      clear H1
      obtain rfl:=Option.some.inj H
      go_wp2
      go_ret
      exact ⟨by first|rfl|(simp [errW_none,errW_some] <;> rfl)|(simp [*,errW_none,errW_some] <;> rfl),by repeat (first|(with_reducible first|exact HB.out|apply below_alloc|apply pw_below_drewN|apply below_drew1|refine below_set ?_ GE197.out|refine below_set ?_ GE198.out)|exact HB.out)⟩
     ·replace c29:=Bool.eq_false_iff.mpr c29
      subst c29
      have H1 : (some 0)=some r:=by rw [if_neg (show ¬ (false=true) by decide)] at H;exact H
      clear H
      have H:=H1
      clear H1
      obtain rfl:=Option.some.inj H
      go_wp2
      go_ret
      exact ⟨by first|rfl|(simp [errW_none,errW_some] <;> rfl)|(simp [*,errW_none,errW_some] <;> rfl),by repeat (first|(with_reducible first|exact HB.out|apply below_alloc|apply pw_below_drewN|apply below_drew1|refine below_set ?_ GE197.out|refine below_set ?_ GE198.out)|exact HB.out)⟩
 ·replace c5:=Bool.eq_false_iff.mpr c5
  subst c5
  have H1 : (some 0)=some r:=by rw [if_neg (show ¬ (false=true) by decide)] at H;exact H
  clear H
  have H:=H1
  clear H1
  obtain rfl:=Option.some.inj H
  go_enter Try.func31,Try.ntmps31
  go_wp2_with (first|((with_reducible refine gate_dst (N:=4) rfl ?_);refine box_event ?hg (N:=4) ?hd (cs:=#[.int .i64 a1_0,.string a1_1]) (t:=37) ?hr ?_;(case hd=>rfl);(case hg=>rfl);(case hr=>first|(go_simp;done)|(go_simp;rfl));intro gb197 hg w30 hbox hb;have n0_:=Aside0.mk (below_step (below_up HB.out) hb);have n1_:=Aside0.mk (hbox);have n2_:=Aside0.mk ((by rw [hg];exact (below_size (below_up HB.out)) : w.heap.size≤gb197));have n3_:=Aside0.mk ((by rw [hg];exact (below_size (below_up HB.out)) : w.heap.size≤gb197));clear HB;have HB:=n0_;have BK197:=n1_;have GW197:=n2_;have GE197:=n3_;clear n0_ n1_ n2_ n3_;clear hb hbox hg)|((with_reducible refine gate_dst (N:=5) rfl ?_);refine box_event ?hg (N:=5) ?hd (cs:=#[.int .i64 a2_0,.string a2_1]) (t:=37) ?hr ?_;(case hd=>rfl);(case hg=>rfl);(case hr=>first|(go_simp;done)|(go_simp;rfl));intro gb198 hg w31 hbox hb;have n0_:=Aside0.mk (blk_below (blk_up BK197.out) hb);have n1_:=Aside0.mk (below_step (below_go HB.out) hb);have n2_:=Aside0.mk (hbox);have n3_:=Aside0.mk ((by rw [hg];exact (below_size (below_go HB.out)) : w.heap.size≤gb198));have n4_:=Aside0.mk ((by rw [hg];exact (below_size (below_go HB.out)) : w.heap.size≤gb198));have n5_:=Aside0.mk ((by rw [hg];exact Nat.ne_of_lt (blk_lt (blk_up BK197.out)) : gb197≠gb198));have n6_:=Aside0.mk ((by rw [hg];exact Nat.ne_of_gt (blk_lt (blk_up BK197.out)) : gb198≠gb197));clear BK197;clear HB;have BK197:=n0_;have HB:=n1_;have BK198:=n2_;have GW198:=n3_;have GE198:=n4_;have NB197_198:=n5_;have NB198_197:=n6_;clear n0_ n1_ n2_ n3_ n4_ n5_ n6_;clear hb hbox hg;have hnb32:=NB197_198.out;have hnc32:=NB198_197.out;have hcz33_0 : w31.cell? ⟨gb197,0,none⟩=some (.int .i64 a1_0):=(blk_cell BK197.out 0).trans rfl;have hcz33_1 : w31.cell? ⟨gb197,1,none⟩=some (.string a1_1):=(blk_cell BK197.out 1).trans rfl;have hfz33_0:=blk_frozen BK197.out 0;have hfz33_1:=blk_frozen BK197.out 1;have hcz34_0 : w31.cell? ⟨gb198,0,none⟩=some (.int .i64 a2_0):=(blk_cell BK198.out 0).trans rfl;have hcz34_1 : w31.cell? ⟨gb198,1,none⟩=some (.string a2_1):=(blk_cell BK198.out 1).trans rfl;have hfz34_0:=blk_frozen BK198.out 0;have hfz34_1:=blk_frozen BK198.out 1)|((with_reducible refine gate_callee (f:=36) rfl ?_);refine goesL_ (some 13) rfl rfl Try.func36 (by kernel_rfl) rfl #[.int .i64 a0,.agg #[.int .i64 a1_0,.string a1_1],.agg #[.int .i64 a2_0,.string a2_1]] rfl (by (try simp only [List.map_toArray,List.map_cons,List.map_nil]);first|done|rfl|(simp only [List.length_drop,List.length_take];rfl)) ?_;(with_reducible refine (thresherref03_both.calls k a0 a1_0 a1_1 a2_0 a2_1 false _ A4.out).mono ?_);rintro e w35 ⟨rfl,hb⟩;refine ⟨_,rfl,?_⟩;have n0_:=Aside0.mk (blk_below (blk_up BK197.out) hb);have n1_:=Aside0.mk (blk_below (blk_up BK198.out) hb);have n2_:=Aside0.mk (below_step (below_go HB.out) hb);clear BK197;clear BK198;clear HB;have BK197:=n0_;have BK198:=n1_;have HB:=n2_;clear n0_ n1_ n2_;(try clear hb);(try clear hb2);(try clear hk);(try clear hi)))
  go_ret
  exact ⟨by first|rfl|(simp [errW_none,errW_some] <;> rfl)|(simp [*,errW_none,errW_some] <;> rfl),by repeat (first|(with_reducible first|exact HB.out|apply below_alloc|apply pw_below_drewN|apply below_drew1|refine below_set ?_ GE197.out|refine below_set ?_ GE198.out)|exact HB.out)⟩
end Go.Proofs.Ytbkpifcjgedjaaa.P

