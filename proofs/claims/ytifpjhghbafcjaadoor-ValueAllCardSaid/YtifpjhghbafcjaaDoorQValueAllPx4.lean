/- Texts of ValueAll. Merged: Px4. -/
import Derived.Test.YtifpjhghbafcjaaDoorQValueAllPx0
import Derived.Test.YtifpjhghbafcjaaDoorQValueAllPx3
import Derived.Test.YtifpjhghbafcjaaDoorQValueAllHText
namespace Go.Proofs.YtifpjhghbafcjaaDoor.P
open Go.RowKit Go.Proofs.YtifpjhghbafcjaaDoorW.PrintWords Go.Proofs.YtifpjhghbafcjaaDoorW.PrintLast Go.Proofs.YtifpjhghbafcjaaDoorW.PrintMore
attribute [local go_sem] max2_int min2_int max_two min_two max_three min_three max_four min_four   -- for this text's walks alone
set_option linter.unusedVariables false
set_option linter.unusedSimpArgs false
def thresherlaw03_shown.f (k : Nat)  : Option (Bool):=(value_Text.f 2 (-1) (⟨#[]⟩ : ByteArray)).bind fun t132=>(if t132.toList=([49,56,52,52,54,55,52,52,48,55,51,55,48,57,53,53,49,54,49,53] : List UInt8) then ((value_Compare.f k 2 (-1) (⟨#[]⟩ : ByteArray) 1 (⟨#[]⟩ : ByteArray)).bind fun t133=>(some (t133 == 1))) else (some false))
theorem thresherlaw03_shown.mono : ∀ k,LeO (thresherlaw03_shown.f k ) (thresherlaw03_shown.f (k + 1) ):=by
 intro  k
 unfold thresherlaw03_shown.f
 repeat' first
   | (with_reducible exact value_Compare.mono _ _ _ _ _ _)
   | (with_reducible exact LeO.refl _)
   | (with_reducible exact LeO.none _)
   | (with_reducible refine LeO.ite ?_ ?_)
   | (with_reducible refine LeO.bind ?_ (fun _=>?_))
   | exact value_Compare.mono _ _ _ _ _ _
   | exact LeO.none _
   | refine LeO.ite ?_ ?_
   | refine LeO.bind ?_ (fun _=>?_)
set_option maxHeartbeats 8000000 in
set_option maxRecDepth 100000 in
theorem thresherlaw03_shown.calls (k : Nat)  (r : Bool) (w : World) (h : thresherlaw03_shown.f k =some r) (htab_ : Tabs w) :
  Calls Tryd.prog 9 #[] w fun e w'=>e=.returned (.bool r)∧Below w.heap.size w w':=by
 have HTAB_:=Aside0.mk htab_
 clear htab_
 have hu23:=Tryd.underlying23
 have HB:=Aside0.mk (Below.refl w.heap.size w)
 have H : ((value_Text.f 2 (-1) (⟨#[]⟩ : ByteArray)).bind fun t132=>(if t132.toList=([49,56,52,52,54,55,52,52,48,55,51,55,48,57,53,53,49,54,49,53] : List UInt8) then ((value_Compare.f k 2 (-1) (⟨#[]⟩ : ByteArray) 1 (⟨#[]⟩ : ByteArray)).bind fun t133=>(some (t133 == 1))) else (some false)))=some r:=h
 clear h
 replace H:=Option.bind_eq_some_iff.mp H
 obtain ⟨t132,A10,H⟩:=H
 replace H : (if t132.toList=([49,56,52,52,54,55,52,52,48,55,51,55,48,57,53,53,49,54,49,53] : List UInt8) then ((value_Compare.f k 2 (-1) (⟨#[]⟩ : ByteArray) 1 (⟨#[]⟩ : ByteArray)).bind fun t133=>(some (t133 == 1))) else (some false))=some r:=H
 have A1:=Aside0.mk A10
 clear A10
 by_cases c2 : t132.toList=([49,56,52,52,54,55,52,52,48,55,51,55,48,57,53,53,49,54,49,53] : List UInt8)
 ·rw [if_pos c2] at H
  have c2b0 : (t132.toList == ([49,56,52,52,54,55,52,52,48,55,51,55,48,57,53,53,49,54,49,53] : List UInt8))=true:=beq_iff_eq.mpr c2
  have c2b1 : (t132.toList != ([49,56,52,52,54,55,52,52,48,55,51,55,48,57,53,53,49,54,49,53] : List UInt8))=false:=bne_eq_false_iff_eq.mpr c2
  clear c2
  replace H:=Option.bind_eq_some_iff.mp H
  obtain ⟨t133,A30,H⟩:=H
  replace H : (some (t133 == 1))=some r:=H
  have A3:=Aside0.mk A30
  clear A30
  obtain rfl:=Option.some.inj H
  go_enter Tryd.func9,Tryd.ntmps9
  go_wp2_with (first|((with_reducible refine gate_callee (f:=13) rfl ?_);refine goesL_ (some 2) rfl rfl Tryd.func13 (by kernel_rfl) rfl #[.int .i64 2,.agg #[.int .i64 (-1),.string (⟨#[]⟩ : ByteArray)]] rfl (by (try simp only [List.map_toArray,List.map_cons,List.map_nil]);first|done|rfl|(simp only [List.length_drop,List.length_take];rfl)) ?_;(with_reducible refine (value_Text.calls 2 (-1) (⟨#[]⟩ : ByteArray) t132 _ A1.out (HTAB_.out.on (below_go HB.out))).mono ?_);rintro e w4 ⟨rfl,hb⟩;refine ⟨_,rfl,?_⟩;have n0_:=Aside0.mk (below_step (below_up HB.out) hb);clear HB;have HB:=n0_;clear n0_;(try clear hb);(try clear hb2);(try clear hk);(try clear hi))|(go_at_call 12;(with_reducible refine (value_Compare.calls k 2 (-1) (⟨#[]⟩ : ByteArray) 1 (⟨#[]⟩ : ByteArray) t133 _ A3.out).mono ?_);rintro e w5 ⟨rfl,hb⟩;have n0_:=Aside0.mk (below_step (below_up HB.out) hb);clear HB;have HB:=n0_;clear n0_;(try clear hb);(try clear hb2);(try clear hk);(try clear hi)))
  go_ret
  exact ⟨by first|rfl|(simp [errW_none,errW_some] <;> rfl)|(simp [*,errW_none,errW_some] <;> rfl),by repeat (first|(with_reducible first|exact HB.out|apply below_alloc|apply pw_below_drewN|apply below_drew1)|exact HB.out)⟩
 ·rw [if_neg c2] at H
  have c2b0 : (t132.toList == ([49,56,52,52,54,55,52,52,48,55,51,55,48,57,53,53,49,54,49,53] : List UInt8))=false:=beq_eq_false_iff_ne.mpr c2
  have c2b1 : (t132.toList != ([49,56,52,52,54,55,52,52,48,55,51,55,48,57,53,53,49,54,49,53] : List UInt8))=true:=bne_iff_ne.mpr c2
  obtain rfl:=Option.some.inj H
  go_enter Tryd.func9,Tryd.ntmps9
  go_wp2_with (first|((with_reducible refine gate_callee (f:=13) rfl ?_);refine goesL_ (some 2) rfl rfl Tryd.func13 (by kernel_rfl) rfl #[.int .i64 2,.agg #[.int .i64 (-1),.string (⟨#[]⟩ : ByteArray)]] rfl (by (try simp only [List.map_toArray,List.map_cons,List.map_nil]);first|done|rfl|(simp only [List.length_drop,List.length_take];rfl)) ?_;(with_reducible refine (value_Text.calls 2 (-1) (⟨#[]⟩ : ByteArray) t132 _ A1.out (HTAB_.out.on (below_go HB.out))).mono ?_);rintro e w6 ⟨rfl,hb⟩;refine ⟨_,rfl,?_⟩;have n0_:=Aside0.mk (below_step (below_up HB.out) hb);clear HB;have HB:=n0_;clear n0_;(try clear hb);(try clear hb2);(try clear hk);(try clear hi)))
  go_ret
  exact ⟨by first|rfl|(simp [errW_none,errW_some] <;> rfl)|(simp [*,errW_none,errW_some] <;> rfl),by repeat (first|(with_reducible first|exact HB.out|apply below_alloc|apply pw_below_drewN|apply below_drew1)|exact HB.out)⟩
def thresherlaw03_kind.f (a0 : Int) : Option (Int):=some (wrap64 (1 + (Int.tmod (wrap64 (a0)) 3)))
set_option maxHeartbeats 8000000 in
set_option maxRecDepth 100000 in
theorem thresherlaw03_kind.calls (a0 : Int) (r : Int) (w : World) (h : thresherlaw03_kind.f a0=some r) :
  Calls Tryd.prog 10 #[.int .u8 a0] w fun e w'=>e=.returned (.int .i64 r)∧Drawn0 w w':=by
 have H : (some (wrap64 (1 + (Int.tmod (wrap64 (a0)) 3))))=some r:=h
 clear h
 obtain rfl:=Option.some.inj H
 go_enter Tryd.func10,Tryd.ntmps10
 go_wp2
 go_ret
 exact ⟨by first|rfl|(simp;done)|(simp [*];done),by repeat (first|exact Drawn0.refl _|apply Drawn0.step)⟩
def thresherlaw03_fit.f (a0 : Int) (a1_0 : Int) (a1_1 : ByteArray) : Option (Int × ByteArray):=if a0=3 then (if (a1_1.size : Int) > 60 then (if 0≤60 then (if 60≤(a1_1.size : Int) then (some (0,a1_1.extract 0 60)) else (none)) else (none)) else (some (0,a1_1))) else (some (a1_0,(⟨#[]⟩ : ByteArray)))
set_option maxHeartbeats 8000000 in
set_option maxRecDepth 100000 in
theorem thresherlaw03_fit.calls (a0 : Int) (a1_0 : Int) (a1_1 : ByteArray) (r1 : Int) (r2 : ByteArray) (w : World) (h : thresherlaw03_fit.f a0 a1_0 a1_1=some (r1,r2)) :
  Calls Tryd.prog 11 #[.int .i64 a0,.agg #[.int .i64 a1_0,.string a1_1]] w fun e w'=>e=.returned (.agg #[.int .i64 r1,.string r2])∧Below w.heap.size w w':=by
 have hu23:=Tryd.underlying23
 have HB:=Aside0.mk (Below.refl w.heap.size w)
 have H : (if a0=3 then (if (a1_1.size : Int) > 60 then (if 0≤60 then (if 60≤(a1_1.size : Int) then (some (0,a1_1.extract 0 60)) else (none)) else (none)) else (some (0,a1_1))) else (some (a1_0,(⟨#[]⟩ : ByteArray))))=some (r1,r2):=h
 clear h
 by_cases c3 : a0=3
 ·rw [if_pos c3] at H
  have c3b0 : (a0 == 3)=true:=beq_iff_eq.mpr c3
  have c3b1 : (a0 != 3)=false:=bne_eq_false_iff_eq.mpr c3
  clear c3
  by_cases c4 : (a1_1.size : Int) > 60
  ·rw [if_pos c4] at H
   have c4b0 : decide (60 < (a1_1.size : Int))=true:=decide_eq_true c4
   have c4b1 : decide (60 < a1_1.size)=true:=decide_eq_true (by omega)
   clear c4
   by_cases c5 : 0≤60
   ·rw [if_pos c5] at H
    have c5b0:=eq_true c5
    have c5b1 : decide (0≤60)=true:=decide_eq_true c5
    clear c5
    by_cases c6 : 60≤(a1_1.size : Int)
    ·rw [if_pos c6] at H
     have c6b0:=eq_true c6
     have c6b1 : decide (60≤(a1_1.size : Int))=true:=decide_eq_true c6
     clear c6
     simp only [Option.some.injEq,Prod.mk.injEq] at H
     obtain ⟨rfl,rfl⟩:=H
     go_enter Tryd.func11,Tryd.ntmps11
     go_wp2_with (first|((with_reducible refine gate_dst (N:=3) rfl ?_);refine box_event ?hg (N:=3) ?hd (cs:=#[.int .i64 a1_0,.string a1_1]) (t:=23) ?hr ?_;(case hd=>rfl);(case hg=>rfl);(case hr=>first|(go_simp;done)|(go_simp;rfl));intro gb134 hg w7 hbox hb;have n0_:=Aside0.mk (below_step (below_up HB.out) hb);have n1_:=Aside0.mk (hbox);have n2_:=Aside0.mk ((by rw [hg];exact (below_size (below_up HB.out)) : w.heap.size≤gb134));have n3_:=Aside0.mk ((by rw [hg];exact (below_size (below_up HB.out)) : w.heap.size≤gb134));clear HB;have HB:=n0_;have BK134:=n1_;have GW134:=n2_;have GE134:=n3_;clear n0_ n1_ n2_ n3_;clear hb hbox hg)|((with_reducible refine gate_dst (N:=4) rfl ?_);refine box_event ?hg (N:=4) ?hd (cs:=#[.int .i64 0,.string (⟨#[]⟩ : ByteArray)]) (t:=23) ?hr ?_;(case hd=>rfl);(case hg=>rfl);(case hr=>first|(go_simp;done)|(go_simp;rfl));intro gb135 hg w8 hbox hb;have n0_:=Aside0.mk (blk_below (blk_up BK134.out) hb);have n1_:=Aside0.mk (below_step (below_go HB.out) hb);have n2_:=Aside0.mk (hbox);have n3_:=Aside0.mk ((by rw [hg];exact (below_size (below_go HB.out)) : w.heap.size≤gb135));have n4_:=Aside0.mk ((by rw [hg];exact (below_size (below_go HB.out)) : w.heap.size≤gb135));have n5_:=Aside0.mk ((by rw [hg];exact Nat.ne_of_lt (blk_lt (blk_up BK134.out)) : gb134≠gb135));have n6_:=Aside0.mk ((by rw [hg];exact Nat.ne_of_gt (blk_lt (blk_up BK134.out)) : gb135≠gb134));clear BK134;clear HB;have BK134:=n0_;have HB:=n1_;have BK135:=n2_;have GW135:=n3_;have GE135:=n4_;have NB134_135:=n5_;have NB135_134:=n6_;clear n0_ n1_ n2_ n3_ n4_ n5_ n6_;clear hb hbox hg;have hnb9:=NB134_135.out;have hnc9:=NB135_134.out;have hcz10_0 : w8.cell? ⟨gb134,0,none⟩=some (.int .i64 a1_0):=(blk_cell BK134.out 0).trans rfl;have hcz10_1 : w8.cell? ⟨gb134,1,none⟩=some (.string a1_1):=(blk_cell BK134.out 1).trans rfl;have hfz10_0:=blk_frozen BK134.out 0;have hfz10_1:=blk_frozen BK134.out 1;have hcz11_0 : w8.cell? ⟨gb135,0,none⟩=some (.int .i64 0):=(blk_cell BK135.out 0).trans rfl;have hcz11_1 : w8.cell? ⟨gb135,1,none⟩=some (.string (⟨#[]⟩ : ByteArray)):=(blk_cell BK135.out 1).trans rfl;have hfz11_0:=blk_frozen BK135.out 0;have hfz11_1:=blk_frozen BK135.out 1))
     refine bodyPost_ret (results_cell_row rfl _ _ gb135 23 #[.int .i64 0,.string (a1_1.extract 0 60)] (0,0) _ rfl (by (with_reducible repeat (first|refine blk_drewN ?_ _|refine blk_drew ?_|refine blk_alloc ?_ _));refine blk_put (cs:=#[.int .i64 0,.string (⟨#[]⟩ : ByteArray)]) ?_ 1 _ rfl;(with_reducible repeat (first|refine blk_drewN ?_ _|refine blk_drew ?_|refine blk_alloc ?_ _));refine blk_put (cs:=#[.int .i64 0,.string (⟨#[]⟩ : ByteArray)]) ?_ 0 _ rfl;(with_reducible repeat (first|refine blk_drewN ?_ _|refine blk_drew ?_|refine blk_alloc ?_ _));exact BK135.out) Tryd.underlying23 rfl (by kernel_rfl)) rfl ?_
     exact ⟨by first|rfl|(simp [errW_none,errW_some] <;> rfl)|(simp [*,errW_none,errW_some] <;> rfl),by repeat (first|(with_reducible first|exact HB.out|apply below_alloc|apply pw_below_drewN|apply below_drew1|refine below_set ?_ GE134.out|refine below_set ?_ GE135.out)|exact HB.out)⟩
    ·rw [if_neg c6] at H
     exact absurd H (by simp)
   ·rw [if_neg c5] at H
    exact absurd H (by simp)
  ·rw [if_neg c4] at H
   have c4b0 : decide (60 < (a1_1.size : Int))=false:=decide_eq_false c4
   have c4b1 : decide (60 < a1_1.size)=false:=decide_eq_false (by omega)
   clear c4
   simp only [Option.some.injEq,Prod.mk.injEq] at H
   obtain ⟨rfl,rfl⟩:=H
   go_enter Tryd.func11,Tryd.ntmps11
   go_wp2_with (first|((with_reducible refine gate_dst (N:=3) rfl ?_);refine box_event ?hg (N:=3) ?hd (cs:=#[.int .i64 a1_0,.string a1_1]) (t:=23) ?hr ?_;(case hd=>rfl);(case hg=>rfl);(case hr=>first|(go_simp;done)|(go_simp;rfl));intro gb134 hg w12 hbox hb;have n0_:=Aside0.mk (below_step (below_up HB.out) hb);have n1_:=Aside0.mk (hbox);have n2_:=Aside0.mk ((by rw [hg];exact (below_size (below_up HB.out)) : w.heap.size≤gb134));have n3_:=Aside0.mk ((by rw [hg];exact (below_size (below_up HB.out)) : w.heap.size≤gb134));clear HB;have HB:=n0_;have BK134:=n1_;have GW134:=n2_;have GE134:=n3_;clear n0_ n1_ n2_ n3_;clear hb hbox hg)|((with_reducible refine gate_dst (N:=4) rfl ?_);refine box_event ?hg (N:=4) ?hd (cs:=#[.int .i64 0,.string (⟨#[]⟩ : ByteArray)]) (t:=23) ?hr ?_;(case hd=>rfl);(case hg=>rfl);(case hr=>first|(go_simp;done)|(go_simp;rfl));intro gb135 hg w13 hbox hb;have n0_:=Aside0.mk (blk_below (blk_up BK134.out) hb);have n1_:=Aside0.mk (below_step (below_go HB.out) hb);have n2_:=Aside0.mk (hbox);have n3_:=Aside0.mk ((by rw [hg];exact (below_size (below_go HB.out)) : w.heap.size≤gb135));have n4_:=Aside0.mk ((by rw [hg];exact (below_size (below_go HB.out)) : w.heap.size≤gb135));have n5_:=Aside0.mk ((by rw [hg];exact Nat.ne_of_lt (blk_lt (blk_up BK134.out)) : gb134≠gb135));have n6_:=Aside0.mk ((by rw [hg];exact Nat.ne_of_gt (blk_lt (blk_up BK134.out)) : gb135≠gb134));clear BK134;clear HB;have BK134:=n0_;have HB:=n1_;have BK135:=n2_;have GW135:=n3_;have GE135:=n4_;have NB134_135:=n5_;have NB135_134:=n6_;clear n0_ n1_ n2_ n3_ n4_ n5_ n6_;clear hb hbox hg;have hnb14:=NB134_135.out;have hnc14:=NB135_134.out;have hcz15_0 : w13.cell? ⟨gb134,0,none⟩=some (.int .i64 a1_0):=(blk_cell BK134.out 0).trans rfl;have hcz15_1 : w13.cell? ⟨gb134,1,none⟩=some (.string a1_1):=(blk_cell BK134.out 1).trans rfl;have hfz15_0:=blk_frozen BK134.out 0;have hfz15_1:=blk_frozen BK134.out 1;have hcz16_0 : w13.cell? ⟨gb135,0,none⟩=some (.int .i64 0):=(blk_cell BK135.out 0).trans rfl;have hcz16_1 : w13.cell? ⟨gb135,1,none⟩=some (.string (⟨#[]⟩ : ByteArray)):=(blk_cell BK135.out 1).trans rfl;have hfz16_0:=blk_frozen BK135.out 0;have hfz16_1:=blk_frozen BK135.out 1))
   refine bodyPost_ret (results_cell_row rfl _ _ gb135 23 #[.int .i64 0,.string a1_1] (0,0) _ rfl (by (with_reducible repeat (first|refine blk_drewN ?_ _|refine blk_drew ?_|refine blk_alloc ?_ _));refine blk_put (cs:=#[.int .i64 0,.string (⟨#[]⟩ : ByteArray)]) ?_ 1 _ rfl;(with_reducible repeat (first|refine blk_drewN ?_ _|refine blk_drew ?_|refine blk_alloc ?_ _));refine blk_put (cs:=#[.int .i64 0,.string (⟨#[]⟩ : ByteArray)]) ?_ 0 _ rfl;(with_reducible repeat (first|refine blk_drewN ?_ _|refine blk_drew ?_|refine blk_alloc ?_ _));exact BK135.out) Tryd.underlying23 rfl (by kernel_rfl)) rfl ?_
   exact ⟨by first|rfl|(simp [errW_none,errW_some] <;> rfl)|(simp [*,errW_none,errW_some] <;> rfl),by repeat (first|(with_reducible first|exact HB.out|apply below_alloc|apply pw_below_drewN|apply below_drew1|refine below_set ?_ GE134.out|refine below_set ?_ GE135.out)|exact HB.out)⟩
 ·rw [if_neg c3] at H
  have c3b0 : (a0 == 3)=false:=beq_eq_false_iff_ne.mpr c3
  have c3b1 : (a0 != 3)=true:=bne_iff_ne.mpr c3
  simp only [Option.some.injEq,Prod.mk.injEq] at H
  obtain ⟨rfl,rfl⟩:=H
  go_enter Tryd.func11,Tryd.ntmps11
  go_wp2_with (first|((with_reducible refine gate_dst (N:=3) rfl ?_);refine box_event ?hg (N:=3) ?hd (cs:=#[.int .i64 a1_0,.string a1_1]) (t:=23) ?hr ?_;(case hd=>rfl);(case hg=>rfl);(case hr=>first|(go_simp;done)|(go_simp;rfl));intro gb134 hg w17 hbox hb;have n0_:=Aside0.mk (below_step (below_up HB.out) hb);have n1_:=Aside0.mk (hbox);have n2_:=Aside0.mk ((by rw [hg];exact (below_size (below_up HB.out)) : w.heap.size≤gb134));have n3_:=Aside0.mk ((by rw [hg];exact (below_size (below_up HB.out)) : w.heap.size≤gb134));clear HB;have HB:=n0_;have BK134:=n1_;have GW134:=n2_;have GE134:=n3_;clear n0_ n1_ n2_ n3_;clear hb hbox hg)|((with_reducible refine gate_dst (N:=4) rfl ?_);refine box_event ?hg (N:=4) ?hd (cs:=#[.int .i64 0,.string (⟨#[]⟩ : ByteArray)]) (t:=23) ?hr ?_;(case hd=>rfl);(case hg=>rfl);(case hr=>first|(go_simp;done)|(go_simp;rfl));intro gb135 hg w18 hbox hb;have n0_:=Aside0.mk (blk_below (blk_up BK134.out) hb);have n1_:=Aside0.mk (below_step (below_go HB.out) hb);have n2_:=Aside0.mk (hbox);have n3_:=Aside0.mk ((by rw [hg];exact (below_size (below_go HB.out)) : w.heap.size≤gb135));have n4_:=Aside0.mk ((by rw [hg];exact (below_size (below_go HB.out)) : w.heap.size≤gb135));have n5_:=Aside0.mk ((by rw [hg];exact Nat.ne_of_lt (blk_lt (blk_up BK134.out)) : gb134≠gb135));have n6_:=Aside0.mk ((by rw [hg];exact Nat.ne_of_gt (blk_lt (blk_up BK134.out)) : gb135≠gb134));clear BK134;clear HB;have BK134:=n0_;have HB:=n1_;have BK135:=n2_;have GW135:=n3_;have GE135:=n4_;have NB134_135:=n5_;have NB135_134:=n6_;clear n0_ n1_ n2_ n3_ n4_ n5_ n6_;clear hb hbox hg;have hnb19:=NB134_135.out;have hnc19:=NB135_134.out;have hcz20_0 : w18.cell? ⟨gb134,0,none⟩=some (.int .i64 a1_0):=(blk_cell BK134.out 0).trans rfl;have hcz20_1 : w18.cell? ⟨gb134,1,none⟩=some (.string a1_1):=(blk_cell BK134.out 1).trans rfl;have hfz20_0:=blk_frozen BK134.out 0;have hfz20_1:=blk_frozen BK134.out 1;have hcz21_0 : w18.cell? ⟨gb135,0,none⟩=some (.int .i64 0):=(blk_cell BK135.out 0).trans rfl;have hcz21_1 : w18.cell? ⟨gb135,1,none⟩=some (.string (⟨#[]⟩ : ByteArray)):=(blk_cell BK135.out 1).trans rfl;have hfz21_0:=blk_frozen BK135.out 0;have hfz21_1:=blk_frozen BK135.out 1))
  refine bodyPost_ret (results_cell_row rfl _ _ gb135 23 #[.int .i64 a1_0,.string (⟨#[]⟩ : ByteArray)] (0,0) _ rfl (by (with_reducible repeat (first|refine blk_drewN ?_ _|refine blk_drew ?_|refine blk_alloc ?_ _));refine blk_put (cs:=#[.int .i64 a1_0,.string (⟨#[]⟩ : ByteArray)]) ?_ 1 _ rfl;(with_reducible repeat (first|refine blk_drewN ?_ _|refine blk_drew ?_|refine blk_alloc ?_ _));refine blk_put (cs:=#[.int .i64 0,.string (⟨#[]⟩ : ByteArray)]) ?_ 0 _ rfl;(with_reducible repeat (first|refine blk_drewN ?_ _|refine blk_drew ?_|refine blk_alloc ?_ _));exact BK135.out) Tryd.underlying23 rfl (by kernel_rfl)) rfl ?_
  exact ⟨by first|rfl|(simp [errW_none,errW_some] <;> rfl)|(simp [*,errW_none,errW_some] <;> rfl),by repeat (first|(with_reducible first|exact HB.out|apply below_alloc|apply pw_below_drewN|apply below_drew1|refine below_set ?_ GE134.out|refine below_set ?_ GE135.out)|exact HB.out)⟩
end Go.Proofs.YtifpjhghbafcjaaDoor.P

