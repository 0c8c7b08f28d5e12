/- Texts of ValueAll. Merged: Px8. -/
import Derived.Test.YtifpjhghbafcjaaDoorQValueAllPx0
import Derived.Test.YtifpjhghbafcjaaDoorQValueAllPx2
namespace Go.Proofs.YtifpjhghbafcjaaDoor.P
open Go.RowKit Go.Proofs.YtifpjhghbafcjaaDoorW.PrintWords Go.Proofs.YtifpjhghbafcjaaDoorW.PrintLast Go.Proofs.YtifpjhghbafcjaaDoorW.PrintMore
attribute [local go_sem] max2_int min2_int max_two min_two max_three min_three max_four min_four   -- for this text's walks alone
set_option linter.unusedVariables false
set_option linter.unusedSimpArgs false
def value_Add.j0 : Nat→Int→Bool→Int→ByteArray→Int→ByteArray→Option (Int × ByteArray)
 | 0,_,_,_,_,_,_=>none
 | k + 1,x0,x7,x172000,x172001,x173000,x173001=>if x7=true then (some (0,(⟨#[]⟩ : ByteArray))) else (if x0=3 then (some (x173000,x173001)) else (some (wrap64 (x172000 + x173000),(⟨#[]⟩ : ByteArray))))
def value_Add.f (k : Nat) (a0 : Int) (a1_0 : Int) (a1_1 : ByteArray) (a2_0 : Int) (a2_1 : ByteArray) : Option (Int × ByteArray):=(value_Fits.f k a0 a1_0 a1_1).bind fun t174=>(if t174=true then ((value_Fits.f k a0 a2_0 a2_1).bind fun t175=>(value_Add.j0 k a0 (!t175) a1_0 a1_1 a2_0 a2_1)) else (value_Add.j0 k a0 true a1_0 a1_1 a2_0 a2_1))
theorem value_Add.mono_l : ∀ k,(∀ y0 y1 y2 y3 y4 y5,LeO (value_Add.j0 k y0 y1 y2 y3 y4 y5) (value_Add.j0 (k + 1) y0 y1 y2 y3 y4 y5))
 | 0=>fun _ _ _ _ _ _ r h=>by simp [value_Add.j0] at h
 | k + 1=>by
  have ih0:=value_Add.mono_l k
  ·intro y0 y1 y2 y3 y4 y5
   unfold value_Add.j0
   repeat' first
   | (with_reducible exact ih0 _ _ _ _ _ _)
   | (with_reducible exact value_Fits.mono _ _ _ _)
   | (with_reducible exact LeO.refl _)
   | (with_reducible exact LeO.none _)
   | (with_reducible refine LeO.ite ?_ ?_)
   | (with_reducible refine LeO.bind ?_ (fun _=>?_))
   | exact ih0 _ _ _ _ _ _
   | exact value_Fits.mono _ _ _ _
   | exact LeO.none _
   | refine LeO.ite ?_ ?_
   | refine LeO.bind ?_ (fun _=>?_)
theorem value_Add.mono : ∀ a0 a1 a2 a3 a4 k,LeO (value_Add.f k a0 a1 a2 a3 a4) (value_Add.f (k + 1) a0 a1 a2 a3 a4):=by
 intro a0 a1 a2 a3 a4 k
 have ih0:=value_Add.mono_l k
 unfold value_Add.f
 repeat' first
   | (with_reducible exact ih0 _ _ _ _ _ _)
   | (with_reducible exact value_Fits.mono _ _ _ _)
   | (with_reducible exact LeO.refl _)
   | (with_reducible exact LeO.none _)
   | (with_reducible refine LeO.ite ?_ ?_)
   | (with_reducible refine LeO.bind ?_ (fun _=>?_))
   | exact ih0 _ _ _ _ _ _
   | exact value_Fits.mono _ _ _ _
   | exact LeO.none _
   | refine LeO.ite ?_ ?_
   | refine LeO.bind ?_ (fun _=>?_)
set_option maxHeartbeats 8000000 in
set_option maxRecDepth 100000 in
theorem value_Add.calls (k : Nat) (a0 : Int) (a1_0 : Int) (a1_1 : ByteArray) (a2_0 : Int) (a2_1 : ByteArray) (r1 : Int) (r2 : ByteArray) (w : World) (h : value_Add.f k a0 a1_0 a1_1 a2_0 a2_1=some (r1,r2)) :
  Calls Tryd.prog 14 #[.int .i64 a0,.agg #[.int .i64 a1_0,.string a1_1],.agg #[.int .i64 a2_0,.string a2_1]] w fun e w'=>e=.returned (.agg #[.int .i64 r1,.string r2])∧Below w.heap.size w w':=by
 have hu23:=Tryd.underlying23
 have HB:=Aside0.mk (Below.refl w.heap.size w)
 have H : ((value_Fits.f k a0 a1_0 a1_1).bind fun t174=>(if t174=true then ((value_Fits.f k a0 a2_0 a2_1).bind fun t175=>(value_Add.j0 k a0 (!t175) a1_0 a1_1 a2_0 a2_1)) else (value_Add.j0 k a0 true a1_0 a1_1 a2_0 a2_1)))=some (r1,r2):=h
 clear h
 have HC4:=Aside0.mk H
 clear H
 go_enter Tryd.func14,Tryd.ntmps14
 go_upto_region 1 with (first|((with_reducible refine gate_dst (N:=4) rfl ?_);refine box_event ?hg (N:=4) ?hd (cs:=#[.int .i64 a1_0,.string a1_1]) (t:=23) ?hr ?_;(case hd=>rfl);(case hg=>rfl);(case hr=>first|(go_simp;done)|(go_simp;rfl));intro gb171 hg w5 hbox hb;have n0_:=Aside0.mk (below_step (below_up HB.out) hb);have n1_:=Aside0.mk (hbox);have n2_:=Aside0.mk ((by rw [hg];exact (below_size (below_up HB.out)) : w.heap.size≤gb171));have n3_:=Aside0.mk ((by rw [hg];exact (below_size (below_up HB.out)) : w.heap.size≤gb171));clear HB;have HB:=n0_;have BK171:=n1_;have GW171:=n2_;have GE171:=n3_;clear n0_ n1_ n2_ n3_;clear hb hbox hg)|((with_reducible refine gate_dst (N:=5) rfl ?_);refine box_event ?hg (N:=5) ?hd (cs:=#[.int .i64 a2_0,.string a2_1]) (t:=23) ?hr ?_;(case hd=>rfl);(case hg=>rfl);(case hr=>first|(go_simp;done)|(go_simp;rfl));intro gb172 hg w6 hbox hb;have n0_:=Aside0.mk (blk_below (blk_up BK171.out) hb);have n1_:=Aside0.mk (below_step (below_go HB.out) hb);have n2_:=Aside0.mk (hbox);have n3_:=Aside0.mk ((by rw [hg];exact (below_size (below_go HB.out)) : w.heap.size≤gb172));have n4_:=Aside0.mk ((by rw [hg];exact (below_size (below_go HB.out)) : w.heap.size≤gb172));have n5_:=Aside0.mk ((by rw [hg];exact Nat.ne_of_lt (blk_lt (blk_up BK171.out)) : gb171≠gb172));have n6_:=Aside0.mk ((by rw [hg];exact Nat.ne_of_gt (blk_lt (blk_up BK171.out)) : gb172≠gb171));clear BK171;clear HB;have BK171:=n0_;have HB:=n1_;have BK172:=n2_;have GW172:=n3_;have GE172:=n4_;have NB171_172:=n5_;have NB172_171:=n6_;clear n0_ n1_ n2_ n3_ n4_ n5_ n6_;clear hb hbox hg)|((with_reducible refine gate_dst (N:=6) rfl ?_);refine box_event ?hg (N:=6) ?hd (cs:=#[.int .i64 0,.string (⟨#[]⟩ : ByteArray)]) (t:=23) ?hr ?_;(case hd=>rfl);(case hg=>rfl);(case hr=>first|(go_simp;done)|(go_simp;rfl));intro gb173 hg w7 hbox hb;have n0_:=Aside0.mk (blk_below (blk_up BK171.out) hb);have n1_:=Aside0.mk (blk_below (blk_up BK172.out) hb);have n2_:=Aside0.mk (below_step (below_go HB.out) hb);have n3_:=Aside0.mk (hbox);have n4_:=Aside0.mk ((by rw [hg];exact (below_size (below_go HB.out)) : w.heap.size≤gb173));have n5_:=Aside0.mk ((by rw [hg];exact (below_size (below_go HB.out)) : w.heap.size≤gb173));have n6_:=Aside0.mk ((by rw [hg];exact Nat.ne_of_lt (blk_lt (blk_up BK171.out)) : gb171≠gb173));have n7_:=Aside0.mk ((by rw [hg];exact Nat.ne_of_gt (blk_lt (blk_up BK171.out)) : gb173≠gb171));have n8_:=Aside0.mk ((by rw [hg];exact Nat.ne_of_lt (blk_lt (blk_up BK172.out)) : gb172≠gb173));have n9_:=Aside0.mk ((by rw [hg];exact Nat.ne_of_gt (blk_lt (blk_up BK172.out)) : gb173≠gb172));clear BK171;clear BK172;clear HB;have BK171:=n0_;have BK172:=n1_;have HB:=n2_;have BK173:=n3_;have GW173:=n4_;have GE173:=n5_;have NB171_173:=n6_;have NB173_171:=n7_;have NB172_173:=n8_;have NB173_172:=n9_;clear n0_ n1_ n2_ n3_ n4_ n5_ n6_ n7_ n8_ n9_;clear hb hbox hg))
 (try simp only [Act.put,List.setIfInBounds_toArray,List.set_cons_zero,List.set_cons_succ])
 go_cut [7] (fun v7 wc=>∃ (kq : Nat) (x7_3 : Bool),v7=.bool x7_3∧Aside0 (value_Add.j0 kq a0 x7_3 a1_0 a1_1 a2_0 a2_1=some (r1,r2))∧Aside0 (kq≤k)∧Aside0 (wc.heap[gb171]?=some (.cells #[.int .i64 a1_0,.string a1_1] 23 (0,0)))∧Aside0 (wc.heap[gb172]?=some (.cells #[.int .i64 a2_0,.string a2_1] 23 (0,0)))∧Aside0 (wc.heap[gb173]?=some (.cells #[.int .i64 0,.string (⟨#[]⟩ : ByteArray)] 23 (0,0)))∧Aside0 (Below w.heap.size w wc))
 case first =>
  have H:=HC4.out
  clear HC4
  replace H:=Option.bind_eq_some_iff.mp H
  obtain ⟨t174,A80,H⟩:=H
  replace H : (if t174=true then ((value_Fits.f k a0 a2_0 a2_1).bind fun t175=>(value_Add.j0 k a0 (!t175) a1_0 a1_1 a2_0 a2_1)) else (value_Add.j0 k a0 true a1_0 a1_1 a2_0 a2_1))=some (r1,r2):=H
  have A8:=Aside0.mk A80
  clear A80
  by_cases c9 : t174=true
  ·subst c9
   have H1 : ((value_Fits.f k a0 a2_0 a2_1).bind fun t175=>(value_Add.j0 k a0 (!t175) a1_0 a1_1 a2_0 a2_1))=some (r1,r2):=by rw [if_pos rfl] at H;exact H
   clear H
   have H:=H1
   clear H1
   replace H:=Option.bind_eq_some_iff.mp H
   obtain ⟨t175,A100,H⟩:=H
   replace H : (value_Add.j0 k a0 (!t175) a1_0 a1_1 a2_0 a2_1)=some (r1,r2):=H
   have A10:=Aside0.mk A100
   clear A100
   have H':=Aside0.mk H
   clear H
   have hnb11:=NB171_172.out
   have hnc11:=NB172_171.out
   have hnb12:=NB171_173.out
   have hnc12:=NB173_171.out
   have hcz13_0 : w7.cell? ⟨gb171,0,none⟩=some (.int .i64 a1_0):=(blk_cell BK171.out 0).trans rfl
   have hcz13_1 : w7.cell? ⟨gb171,1,none⟩=some (.string a1_1):=(blk_cell BK171.out 1).trans rfl
   have hfz13_0:=blk_frozen BK171.out 0
   have hfz13_1:=blk_frozen BK171.out 1
   go_wp2_with (first|((with_reducible refine gate_callee (f:=17) rfl ?_);refine goesL_ (some 10) rfl rfl Tryd.func17 (by kernel_rfl) rfl #[.int .i64 a0,.agg #[.int .i64 a1_0,.string a1_1]] rfl (by (try simp only [List.map_toArray,List.map_cons,List.map_nil]);first|done|rfl|(simp only [List.length_drop,List.length_take];rfl)) ?_;(with_reducible refine (value_Fits.calls k a0 a1_0 a1_1 true _ A8.out).mono ?_);rintro e w14 ⟨rfl,hb⟩;refine ⟨_,rfl,?_⟩;have n0_:=Aside0.mk (blk_below (blk_up BK171.out) hb);have n1_:=Aside0.mk (blk_below (blk_up BK172.out) hb);have n2_:=Aside0.mk (blk_below (g:=gb173) (o:=.cells #[.int .i64 0,.string (⟨#[]⟩ : ByteArray)] 23 (0,0)) (blk_up BK173.out) hb);have n3_:=Aside0.mk (below_step (below_go HB.out) hb);clear BK171;clear BK172;clear BK173;clear HB;have BK171:=n0_;have BK172:=n1_;have BK173:=n2_;have HB:=n3_;clear n0_ n1_ n2_ n3_;(try clear hb);(try clear hb2);(try clear hk);(try clear hi);have hnb15:=NB172_173.out;have hnc15:=NB173_172.out;have hcz16_0 : w14.cell? ⟨gb172,0,none⟩=some (.int .i64 a2_0):=(blk_cell BK172.out 0).trans rfl;have hcz16_1 : w14.cell? ⟨gb172,1,none⟩=some (.string a2_1):=(blk_cell BK172.out 1).trans rfl;have hfz16_0:=blk_frozen BK172.out 0;have hfz16_1:=blk_frozen BK172.out 1)|(go_at_call 17;(with_reducible refine (value_Fits.calls k a0 a2_0 a2_1 t175 _ A10.out).mono ?_);rintro e w17 ⟨rfl,hb⟩;have n0_:=Aside0.mk (blk_below (blk_up BK171.out) hb);have n1_:=Aside0.mk (blk_below (blk_up BK172.out) hb);have n2_:=Aside0.mk (blk_below (g:=gb173) (o:=.cells #[.int .i64 0,.string (⟨#[]⟩ : ByteArray)] 23 (0,0)) (blk_up BK173.out) hb);have n3_:=Aside0.mk (below_step (below_go HB.out) hb);clear BK171;clear BK172;clear BK173;clear HB;have BK171:=n0_;have BK172:=n1_;have BK173:=n2_;have HB:=n3_;clear n0_ n1_ n2_ n3_;(try clear hb);(try clear hb2);(try clear hk);(try clear hi)))
   go_meet
   case rel=>exact ⟨_,(!t175),(by first|rfl|(simp;done)|(simp [*];done)),(by first|exact H'|(subst_vars;exact H')),⟨by first|omega|exact Nat.le_refl _⟩,⟨by (with_reducible repeat (first|refine blk_drewN ?_ _|refine blk_drew ?_|refine blk_alloc ?_ _));exact BK171.out⟩,⟨by (with_reducible repeat (first|refine blk_drewN ?_ _|refine blk_drew ?_|refine blk_alloc ?_ _));exact BK172.out⟩,⟨by (with_reducible repeat (first|refine blk_drewN ?_ _|refine blk_drew ?_|refine blk_alloc ?_ _));exact BK173.out⟩,⟨by repeat (first|(with_reducible first|exact HB.out|apply below_alloc|apply pw_below_drewN|apply below_drew1|refine below_set ?_ GE171.out|refine below_set ?_ GE172.out|refine below_set ?_ GE173.out)|exact HB.out)⟩⟩
  ·replace c9:=Bool.eq_false_iff.mpr c9
   subst c9
   have H1 : (value_Add.j0 k a0 true a1_0 a1_1 a2_0 a2_1)=some (r1,r2):=by rw [if_neg (show ¬ (false=true) by decide)] at H;exact H
   clear H
   have H:=H1
   clear H1
   have H':=Aside0.mk H
   clear H
   have hnb18:=NB171_172.out
   have hnc18:=NB172_171.out
   have hnb19:=NB171_173.out
   have hnc19:=NB173_171.out
   have hcz20_0 : w7.cell? ⟨gb171,0,none⟩=some (.int .i64 a1_0):=(blk_cell BK171.out 0).trans rfl
   have hcz20_1 : w7.cell? ⟨gb171,1,none⟩=some (.string a1_1):=(blk_cell BK171.out 1).trans rfl
   have hfz20_0:=blk_frozen BK171.out 0
   have hfz20_1:=blk_frozen BK171.out 1
   go_wp2_with (first|((with_reducible refine gate_callee (f:=17) rfl ?_);refine goesL_ (some 10) rfl rfl Tryd.func17 (by kernel_rfl) rfl #[.int .i64 a0,.agg #[.int .i64 a1_0,.string a1_1]] rfl (by (try simp only [List.map_toArray,List.map_cons,List.map_nil]);first|done|rfl|(simp only [List.length_drop,List.length_take];rfl)) ?_;(with_reducible refine (value_Fits.calls k a0 a1_0 a1_1 false _ A8.out).mono ?_);rintro e w21 ⟨rfl,hb⟩;refine ⟨_,rfl,?_⟩;have n0_:=Aside0.mk (blk_below (blk_up BK171.out) hb);have n1_:=Aside0.mk (blk_below (blk_up BK172.out) hb);have n2_:=Aside0.mk (blk_below (g:=gb173) (o:=.cells #[.int .i64 0,.string (⟨#[]⟩ : ByteArray)] 23 (0,0)) (blk_up BK173.out) hb);have n3_:=Aside0.mk (below_step (below_go HB.out) hb);clear BK171;clear BK172;clear BK173;clear HB;have BK171:=n0_;have BK172:=n1_;have BK173:=n2_;have HB:=n3_;clear n0_ n1_ n2_ n3_;(try clear hb);(try clear hb2);(try clear hk);(try clear hi)))
   go_meet
   case rel=>exact ⟨_,(true),(by first|rfl|(simp;done)|(simp [*];done)),(by first|exact H'|(subst_vars;exact H')),⟨by first|omega|exact Nat.le_refl _⟩,⟨by (with_reducible repeat (first|refine blk_drewN ?_ _|refine blk_drew ?_|refine blk_alloc ?_ _));exact BK171.out⟩,⟨by (with_reducible repeat (first|refine blk_drewN ?_ _|refine blk_drew ?_|refine blk_alloc ?_ _));exact BK172.out⟩,⟨by (with_reducible repeat (first|refine blk_drewN ?_ _|refine blk_drew ?_|refine blk_alloc ?_ _));exact BK173.out⟩,⟨by repeat (first|(with_reducible first|exact HB.out|apply below_alloc|apply pw_below_drewN|apply below_drew1|refine below_set ?_ GE171.out|refine below_set ?_ GE172.out|refine below_set ?_ GE173.out)|exact HB.out)⟩⟩
 case rest =>
  clear HC4
  try clear c1
  try clear p2
  try clear c9
  try clear c11
  try clear c12
  try clear c14
  try clear c15
  try clear c17
  try clear c18
  try clear c19
  try clear hcz13_0
  try clear hcz13_1
  try clear hcz16_0
  try clear hcz16_1
  try clear hcz20_0
  try clear hcz20_1
  try clear hfz13_0
  try clear hfz13_1
  try clear hfz16_0
  try clear hfz16_1
  try clear hfz20_0
  try clear hfz20_1
  obtain ⟨kq,x7_3,rfl,HA,HJ3,BK171,BK172,BK173,HB⟩:=hcut
  cases kq with
  | zero=>exact absurd HA.out (by simp [value_Add.j0])
  | succ kj3 =>
   have H:=HA.out
   clear HA
   simp only [value_Add.j0] at H
   by_cases c22 : x7_3=true
   ·subst c22
    have H1 : (some (0,(⟨#[]⟩ : ByteArray)))=some (r1,r2):=by rw [if_pos rfl] at H;exact H
    clear H
    have H:=H1
    clear H1
    simp only [Option.some.injEq,Prod.mk.injEq] at H
    obtain ⟨rfl,rfl⟩:=H
    have hnb23:=NB173_171.out
    have hnc23:=NB171_173.out
    have hnb24:=NB173_172.out
    have hnc24:=NB172_173.out
    have hcz25_0 : wc.cell? ⟨gb173,0,none⟩=some (.int .i64 0):=(blk_cell BK173.out 0).trans rfl
    have hcz25_1 : wc.cell? ⟨gb173,1,none⟩=some (.string (⟨#[]⟩ : ByteArray)):=(blk_cell BK173.out 1).trans rfl
    have hfz25_0:=blk_frozen BK173.out 0
    have hfz25_1:=blk_frozen BK173.out 1
    go_wp2
    refine bodyPost_ret (results_cell_row rfl _ _ gb173 23 #[.int .i64 0,.string (⟨#[]⟩ : ByteArray)] (0,0) _ rfl (by (with_reducible repeat (first|refine blk_drewN ?_ _|refine blk_drew ?_|refine blk_alloc ?_ _));refine blk_put (cs:=#[.int .i64 0,.string (⟨#[]⟩ : ByteArray)]) ?_ 1 _ rfl;(with_reducible repeat (first|refine blk_drewN ?_ _|refine blk_drew ?_|refine blk_alloc ?_ _));refine blk_put (cs:=#[.int .i64 0,.string (⟨#[]⟩ : ByteArray)]) ?_ 0 _ rfl;(with_reducible repeat (first|refine blk_drewN ?_ _|refine blk_drew ?_|refine blk_alloc ?_ _));exact BK173.out) Tryd.underlying23 rfl (by kernel_rfl)) rfl ?_
    exact ⟨by first|rfl|(simp [errW_none,errW_some] <;> rfl)|(simp [*,errW_none,errW_some] <;> rfl),by repeat (first|(with_reducible first|exact HB.out|apply below_alloc|apply pw_below_drewN|apply below_drew1|refine below_set ?_ GE171.out|refine below_set ?_ GE172.out|refine below_set ?_ GE173.out)|exact HB.out)⟩
   ·replace c22:=Bool.eq_false_iff.mpr c22
    subst c22
    have H1 : (if a0=3 then (some (a2_0,a2_1)) else (some (wrap64 (a1_0 + a2_0),(⟨#[]⟩ : ByteArray))))=some (r1,r2):=by rw [if_neg (show ¬ (false=true) by decide)] at H;exact H
    clear H
    have H:=H1
    clear H1
    by_cases c26 : a0=3
    ·rw [if_pos c26] at H
     have c26b0 : (a0 == 3)=true:=beq_iff_eq.mpr c26
     have c26b1 : (a0 != 3)=false:=bne_eq_false_iff_eq.mpr c26
     clear c26
     simp only [Option.some.injEq,Prod.mk.injEq] at H
     obtain ⟨rfl,rfl⟩:=H
     have hnb27:=NB172_171.out
     have hnc27:=NB171_172.out
     have hnb28:=NB172_173.out
     have hnc28:=NB173_172.out
     have hcz29_0 : wc.cell? ⟨gb172,0,none⟩=some (.int .i64 a2_0):=(blk_cell BK172.out 0).trans rfl
     have hcz29_1 : wc.cell? ⟨gb172,1,none⟩=some (.string a2_1):=(blk_cell BK172.out 1).trans rfl
     have hfz29_0:=blk_frozen BK172.out 0
     have hfz29_1:=blk_frozen BK172.out 1
     have hnb30:=NB173_171.out
     have hnc30:=NB171_173.out
     have hcz31_0 : wc.cell? ⟨gb173,0,none⟩=some (.int .i64 0):=(blk_cell BK173.out 0).trans rfl
     have hcz31_1 : wc.cell? ⟨gb173,1,none⟩=some (.string (⟨#[]⟩ : ByteArray)):=(blk_cell BK173.out 1).trans rfl
     have hfz31_0:=blk_frozen BK173.out 0
     have hfz31_1:=blk_frozen BK173.out 1
     go_wp2
     refine bodyPost_ret (results_cell_row rfl _ _ gb173 23 #[.int .i64 a2_0,.string a2_1] (0,0) _ rfl (by (with_reducible repeat (first|refine blk_drewN ?_ _|refine blk_drew ?_|refine blk_alloc ?_ _));refine blk_put (cs:=#[.int .i64 a2_0,.string (⟨#[]⟩ : ByteArray)]) ?_ 1 _ rfl;(with_reducible repeat (first|refine blk_drewN ?_ _|refine blk_drew ?_|refine blk_alloc ?_ _));refine blk_put (cs:=#[.int .i64 0,.string (⟨#[]⟩ : ByteArray)]) ?_ 0 _ rfl;(with_reducible repeat (first|refine blk_drewN ?_ _|refine blk_drew ?_|refine blk_alloc ?_ _));exact BK173.out) Tryd.underlying23 rfl (by kernel_rfl)) rfl ?_
     exact ⟨by first|rfl|(simp [errW_none,errW_some] <;> rfl)|(simp [*,errW_none,errW_some] <;> rfl),by repeat (first|(with_reducible first|exact HB.out|apply below_alloc|apply pw_below_drewN|apply below_drew1|refine below_set ?_ GE171.out|refine below_set ?_ GE172.out|refine below_set ?_ GE173.out)|exact HB.out)⟩
    ·rw [if_neg c26] at H
     have c26b0 : (a0 == 3)=false:=beq_eq_false_iff_ne.mpr c26
     have c26b1 : (a0 != 3)=true:=bne_iff_ne.mpr c26
     simp only [Option.some.injEq,Prod.mk.injEq] at H
     obtain ⟨rfl,rfl⟩:=H
     have hnb32:=NB171_172.out
     have hnc32:=NB172_171.out
     have hnb33:=NB171_173.out
     have hnc33:=NB173_171.out
     have hcz34_0 : wc.cell? ⟨gb171,0,none⟩=some (.int .i64 a1_0):=(blk_cell BK171.out 0).trans rfl
     have hcz34_1 : wc.cell? ⟨gb171,1,none⟩=some (.string a1_1):=(blk_cell BK171.out 1).trans rfl
     have hfz34_0:=blk_frozen BK171.out 0
     have hfz34_1:=blk_frozen BK171.out 1
     have hnb35:=NB172_173.out
     have hnc35:=NB173_172.out
     have hcz36_0 : wc.cell? ⟨gb172,0,none⟩=some (.int .i64 a2_0):=(blk_cell BK172.out 0).trans rfl
     have hcz36_1 : wc.cell? ⟨gb172,1,none⟩=some (.string a2_1):=(blk_cell BK172.out 1).trans rfl
     have hfz36_0:=blk_frozen BK172.out 0
     have hfz36_1:=blk_frozen BK172.out 1
     have hcz37_0 : wc.cell? ⟨gb173,0,none⟩=some (.int .i64 0):=(blk_cell BK173.out 0).trans rfl
     have hcz37_1 : wc.cell? ⟨gb173,1,none⟩=some (.string (⟨#[]⟩ : ByteArray)):=(blk_cell BK173.out 1).trans rfl
     have hfz37_0:=blk_frozen BK173.out 0
     have hfz37_1:=blk_frozen BK173.out 1
     go_wp2
     refine bodyPost_ret (results_cell_row rfl _ _ gb173 23 #[.int .i64 (wrap64 (a1_0 + a2_0)),.string (⟨#[]⟩ : ByteArray)] (0,0) _ rfl (by (with_reducible repeat (first|refine blk_drewN ?_ _|refine blk_drew ?_|refine blk_alloc ?_ _));refine blk_put (cs:=#[.int .i64 (wrap64 (a1_0 + a2_0)),.string (⟨#[]⟩ : ByteArray)]) ?_ 1 _ rfl;(with_reducible repeat (first|refine blk_drewN ?_ _|refine blk_drew ?_|refine blk_alloc ?_ _));refine blk_put (cs:=#[.int .i64 0,.string (⟨#[]⟩ : ByteArray)]) ?_ 0 _ rfl;(with_reducible repeat (first|refine blk_drewN ?_ _|refine blk_drew ?_|refine blk_alloc ?_ _));exact BK173.out) Tryd.underlying23 rfl (by kernel_rfl)) rfl ?_
     exact ⟨by first|rfl|(simp [errW_none,errW_some] <;> rfl)|(simp [*,errW_none,errW_some] <;> rfl),by repeat (first|(with_reducible first|exact HB.out|apply below_alloc|apply pw_below_drewN|apply below_drew1|refine below_set ?_ GE171.out|refine below_set ?_ GE172.out|refine below_set ?_ GE173.out)|exact HB.out)⟩
end Go.Proofs.YtifpjhghbafcjaaDoor.P

