/- Texts of SchemaRows. Merged: Px5d. -/
import Derived.Test.YtkodpbellndelaaQSchemaRowsPx5a
import Derived.Test.YtkodpbellndelaaQSchemaRowsPx0
import Derived.Test.YtkodpbellndelaaQSchemaRowsPx3
import Derived.Test.YtkodpbellndelaaQSchemaRowsHBatch
import Derived.Test.YtkodpbellndelaaQSchemaRowsHRow
namespace Go.Proofs.Ytkodpbellndelaa.P
open Go.RowKit Go.Proofs.YtkodpbellndelaaW.PrintWords Go.Proofs.YtkodpbellndelaaW.PrintLast Go.Proofs.YtkodpbellndelaaW.PrintMore
attribute [local go_sem] max2_int min2_int max_two min_two max_three min_three max_four min_four   -- for this text's walks alone
set_option linter.unusedVariables false
set_option linter.unusedSimpArgs false
set_option maxHeartbeats 8000000 in
set_option maxRecDepth 100000 in
theorem thresherlaw04_SchemaRows.calls_rest2 : thresherlaw04_SchemaRows.calls_part.2.2.1 := by
 intro k a0_0 a0_1 a0_2 a0_3 a0_4 a0_5 a0_6 a0_7 a0_8 a0_9 a0_10 a0_11 A1 c1 l1 a2 r w hu24 hu30 hu34 HR1 HC1 HB t176 t179 t180 t181 A5 t183 A6 c7 c7b0 c7b1 c7b2 y186 Ny186 LMc8 y189 Ny189 ji9 hji9 c10b0 c11b0 y192 Ny192 y194 Ny194 LMc14 y197 Ny197 y200 Ny200 LMc15 y203 Ny203 ji17 hji17 hji17w c18b0 c18b1 c19b0 c19b1 y207 Ny207 t213 A21 A4 A13 A16 A20 H c92
 replace c92:=Bool.eq_false_iff.mpr c92
 subst c92
 have H1 : ((schema_Batch.f t176 t179 t180 t181 (([t183,y192] : List (List (S34))))).bind fun t217=>(if t217=21 then ((schema_Batch.f t176 t179 t180 t181 (([t183] : List (List (S34))))).bind fun t221=>(if t221=0 then ((schema_Batch.f t176 t179 t180 t181 ([] : List (List (S34)))).bind fun t222=>(some (t222 == 22))) else (some false))) else (some false)))=some r:=by rw [if_neg (show ¬ (false=true) by decide)] at H;exact H
 clear H
 have H:=H1
 clear H1
 obtain ⟨y214,hy214⟩ : ∃ y_ : List (List (S34)),y_=(([t183,y192] : List (List (S34)))):=⟨_,rfl⟩
 replace H : ((schema_Batch.f t176 t179 t180 t181 y214).bind fun t217=>(if t217=21 then ((schema_Batch.f t176 t179 t180 t181 (([t183] : List (List (S34))))).bind fun t221=>(if t221=0 then ((schema_Batch.f t176 t179 t180 t181 ([] : List (List (S34)))).bind fun t222=>(some (t222 == 22))) else (some false))) else (some false)))=some r:=by first|(rw [hy214];with_reducible exact H)|(have H2_:=(Option.bind_some _ _).symm.trans H;rw [hy214];with_reducible exact H2_)|(have H2_:=(Option.bind_some _ _).symm.trans H;with_reducible exact H2_)|with_reducible exact H|(rw [hy214];exact H)|exact H
 have Ny214:=Aside0.mk hy214
 clear hy214
 replace H:=Option.bind_eq_some_iff.mp H
 obtain ⟨t217,A1260,H⟩:=H
 replace H : (if t217=21 then ((schema_Batch.f t176 t179 t180 t181 (([t183] : List (List (S34))))).bind fun t221=>(if t221=0 then ((schema_Batch.f t176 t179 t180 t181 ([] : List (List (S34)))).bind fun t222=>(some (t222 == 22))) else (some false))) else (some false))=some r:=H
 have A126:=Aside0.mk A1260
 clear A1260
 by_cases c127 : t217=21
 ·rw [if_pos c127] at H
  have c127b0 : (t217 == 21)=true:=beq_iff_eq.mpr c127
  have c127b1 : (t217 != 21)=false:=bne_eq_false_iff_eq.mpr c127
  clear c127
  obtain ⟨y218,hy218⟩ : ∃ y_ : List (List (S34)),y_=(([t183] : List (List (S34)))):=⟨_,rfl⟩
  replace H : ((schema_Batch.f t176 t179 t180 t181 y218).bind fun t221=>(if t221=0 then ((schema_Batch.f t176 t179 t180 t181 ([] : List (List (S34)))).bind fun t222=>(some (t222 == 22))) else (some false)))=some r:=by first|(rw [hy218];with_reducible exact H)|(have H2_:=(Option.bind_some _ _).symm.trans H;rw [hy218];with_reducible exact H2_)|(have H2_:=(Option.bind_some _ _).symm.trans H;with_reducible exact H2_)|with_reducible exact H|(rw [hy218];exact H)|exact H
  have Ny218:=Aside0.mk hy218
  clear hy218
  replace H:=Option.bind_eq_some_iff.mp H
  obtain ⟨t221,A1280,H⟩:=H
  replace H : (if t221=0 then ((schema_Batch.f t176 t179 t180 t181 ([] : List (List (S34)))).bind fun t222=>(some (t222 == 22))) else (some false))=some r:=H
  have A128:=Aside0.mk A1280
  clear A1280
  by_cases c129 : t221=0
  ·rw [if_pos c129] at H
   have c129b0 : (t221 == 0)=true:=beq_iff_eq.mpr c129
   have c129b1 : (t221 != 0)=false:=bne_eq_false_iff_eq.mpr c129
   clear c129
   replace H:=Option.bind_eq_some_iff.mp H
   obtain ⟨t222,A1300,H⟩:=H
   replace H : (some (t222 == 22))=some r:=H
   have A130:=Aside0.mk A1300
   clear A1300
   obtain rfl:=Option.some.inj H
   go_enter Try.func3,Try.ntmps3
   try go_wp2_with (first|((with_reducible refine gate_dst (N:=3) rfl ?_);(try (refine gate_guard (by rfl) ?_;dsimp only));refine box_event ?hg (N:=3) ?hd (cs:=#[.int .u8 a0_0,.int .u8 a0_1,.int .u8 a0_2,.int .u8 a0_3,.int .u8 a0_4,.int .u8 a0_5,.int .u8 a0_6,.int .u8 a0_7,.int .u8 a0_8,.int .u8 a0_9,.int .u8 a0_10,.int .u8 a0_11]) (t:=24) ?hr ?_;(case hd=>rfl);(case hg=>rfl);(case hr=>first|(go_simp;done)|(go_simp;rfl));intro gb174 hg w131 hbox hb;have n0_:=Aside0.mk (below_step (below_up HB.out) hb);have n1_:=Aside0.mk (hbox);have n2_:=Aside0.mk ((by rw [hg];exact (below_size (below_up HB.out)) : w.heap.size≤gb174));have n3_:=Aside0.mk ((by rw [hg];exact (below_size (below_up HB.out)) : w.heap.size≤gb174));clear HB;have HB:=n0_;have BK174:=n1_;have GW174:=n2_;have GE174:=n3_;clear n0_ n1_ n2_ n3_;clear hb hbox hg)|((with_reducible refine gate_callee (f:=9) rfl ?_);refine goesL_ (some 16) rfl rfl Try.func9 (by kernel_rfl) rfl #[] rfl (by (try simp only [List.map_toArray,List.map_cons,List.map_nil]);first|done|rfl|(simp only [List.length_drop,List.length_take];rfl)) ?_;(with_reducible refine (thresherlaw04_shown.calls k  true _ A4.out).mono ?_);rintro e w132 ⟨rfl,hb⟩;refine ⟨_,rfl,?_⟩;have n0_:=Aside0.mk (blk_below (blk_up BK174.out) hb);have n1_:=Aside0.mk (below_step (below_go HB.out) hb);clear BK174;clear HB;have BK174:=n0_;have HB:=n1_;clear n0_ n1_;(try clear hb);(try clear hb2);(try clear hk);(try clear hi);have hcz133_0 : w132.cell? ⟨gb174,0,none⟩=some (.int .u8 a0_0):=(blk_cell BK174.out 0).trans rfl;have hcz133_1 : w132.cell? ⟨gb174,1,none⟩=some (.int .u8 a0_1):=(blk_cell BK174.out 1).trans rfl;have hcz133_2 : w132.cell? ⟨gb174,2,none⟩=some (.int .u8 a0_2):=(blk_cell BK174.out 2).trans rfl;have hcz133_3 : w132.cell? ⟨gb174,3,none⟩=some (.int .u8 a0_3):=(blk_cell BK174.out 3).trans rfl;have hcz133_4 : w132.cell? ⟨gb174,4,none⟩=some (.int .u8 a0_4):=(blk_cell BK174.out 4).trans rfl;have hcz133_5 : w132.cell? ⟨gb174,5,none⟩=some (.int .u8 a0_5):=(blk_cell BK174.out 5).trans rfl;have hcz133_6 : w132.cell? ⟨gb174,6,none⟩=some (.int .u8 a0_6):=(blk_cell BK174.out 6).trans rfl;have hcz133_7 : w132.cell? ⟨gb174,7,none⟩=some (.int .u8 a0_7):=(blk_cell BK174.out 7).trans rfl;have hcz133_8 : w132.cell? ⟨gb174,8,none⟩=some (.int .u8 a0_8):=(blk_cell BK174.out 8).trans rfl;have hcz133_9 : w132.cell? ⟨gb174,9,none⟩=some (.int .u8 a0_9):=(blk_cell BK174.out 9).trans rfl;have hcz133_10 : w132.cell? ⟨gb174,10,none⟩=some (.int .u8 a0_10):=(blk_cell BK174.out 10).trans rfl;have hcz133_11 : w132.cell? ⟨gb174,11,none⟩=some (.int .u8 a0_11):=(blk_cell BK174.out 11).trans rfl;have hfz133_0:=blk_frozen BK174.out 0;have hfz133_1:=blk_frozen BK174.out 1;have hfz133_2:=blk_frozen BK174.out 2;have hfz133_3:=blk_frozen BK174.out 3;have hfz133_4:=blk_frozen BK174.out 4;have hfz133_5:=blk_frozen BK174.out 5;have hfz133_6:=blk_frozen BK174.out 6;have hfz133_7:=blk_frozen BK174.out 7;have hfz133_8:=blk_frozen BK174.out 8;have hfz133_9:=blk_frozen BK174.out 9;have hfz133_10:=blk_frozen BK174.out 10;have hfz133_11:=blk_frozen BK174.out 11)|((with_reducible refine gate_callee (f:=10) rfl ?_);refine goesL_ (some 18) rfl rfl Try.func10 (by kernel_rfl) rfl #[.agg #[.int .u8 a0_0,.int .u8 a0_1,.int .u8 a0_2,.int .u8 a0_3,.int .u8 a0_4,.int .u8 a0_5,.int .u8 a0_6,.int .u8 a0_7,.int .u8 a0_8,.int .u8 a0_9,.int .u8 a0_10,.int .u8 a0_11]] rfl (by (try simp only [List.map_toArray,List.map_cons,List.map_nil]);first|done|rfl|(simp only [List.length_drop,List.length_take];rfl)) ?_;(with_reducible refine (thresherlaw04_made.calls k a0_0 a0_1 a0_2 a0_3 a0_4 a0_5 a0_6 a0_7 a0_8 a0_9 a0_10 a0_11 t176 t179 t180 t181 _ A5.out).mono ?_);rintro e w134 ⟨v177,rfl,ho0,hb⟩;refine ⟨_,rfl,?_⟩;have n0_:=Aside0.mk (Kd.R_lower ho0 (below_size (below_go HB.out)));have n1_:=Aside0.mk (blk_below (blk_up BK174.out) hb);have n2_:=Aside0.mk (below_step (below_go HB.out) hb);clear BK174;clear HB;have HO178:=n0_;have BK174:=n1_;have HB:=n2_;clear n0_ n1_ n2_;(try clear hb);(try clear hb2);(try clear hk);(try clear hi);(try clear ho0))|((with_reducible refine gate_dst (N:=8) rfl ?_);(try (refine gate_guard (by rfl) ?_;dsimp only));refine box_event ?hg (N:=8) ?hd (cs:=#[.slice none 0 0,.int .i64 0,.int .i64 0,.int .i64 0]) (t:=30) ?hr ?_;(case hd=>rfl);(case hg=>rfl);(case hr=>first|(go_simp;done)|(go_simp;rfl));intro gb182 hg w135 hbox hb;have n0_:=Aside0.mk (Kd.R_below (R_up HO178.out) hb);have n1_:=Aside0.mk (blk_below (blk_up BK174.out) hb);have n2_:=Aside0.mk (below_step (below_go HB.out) hb);have n3_:=Aside0.mk (hbox);have n4_:=Aside0.mk ((by rw [hg];exact (below_size (below_go HB.out)) : w.heap.size≤gb182));have n5_:=Aside0.mk ((by rw [hg];exact (below_size (below_go HB.out)) : w.heap.size≤gb182));have n6_:=Aside0.mk ((by rw [hg];exact Nat.ne_of_lt (blk_lt (blk_up BK174.out)) : gb174≠gb182));have n7_:=Aside0.mk ((by rw [hg];exact Nat.ne_of_gt (blk_lt (blk_up BK174.out)) : gb182≠gb174));clear HO178;clear BK174;clear HB;have HO178:=n0_;have BK174:=n1_;have HB:=n2_;have BK182:=n3_;have GW182:=n4_;have GE182:=n5_;have NB174_182:=n6_;have NB182_174:=n7_;clear n0_ n1_ n2_ n3_ n4_ n5_ n6_ n7_;clear hb hbox hg;obtain ⟨Ao136,co136,eo136⟩:=Kd.R_slice HO178.out;subst eo136;have hnb137:=NB182_174.out;have hnc137:=NB174_182.out;have hcz138_0 : w135.cell? ⟨gb182,0,none⟩=some (.slice none 0 0):=(blk_cell BK182.out 0).trans rfl;have hcz138_1 : w135.cell? ⟨gb182,1,none⟩=some (.int .i64 0):=(blk_cell BK182.out 1).trans rfl;have hcz138_2 : w135.cell? ⟨gb182,2,none⟩=some (.int .i64 0):=(blk_cell BK182.out 2).trans rfl;have hcz138_3 : w135.cell? ⟨gb182,3,none⟩=some (.int .i64 0):=(blk_cell BK182.out 3).trans rfl;have hfz138_0:=blk_frozen BK182.out 0;have hfz138_1:=blk_frozen BK182.out 1;have hfz138_2:=blk_frozen BK182.out 2;have hfz138_3:=blk_frozen BK182.out 3)|((with_reducible refine gate_callee (f:=11) rfl ?_);refine goesL_ (some 21) rfl rfl Try.func11 (by kernel_rfl) rfl #[.agg #[.slice Ao136 t176.length co136,.int .i64 t179,.int .i64 t180,.int .i64 t181],.slice A1 l1.length c1] rfl (by (try simp only [List.map_toArray,List.map_cons,List.map_nil]);first|done|rfl|(simp only [List.length_drop,List.length_take];rfl)) ?_;(with_reducible refine (thresherref04_Fit.calls k _ _ t176 t179 t180 t181 _ _ l1 t183 _ ?side1 ?side2 ?side3 ?side4 A6.out).mono ?_);(case side1=>refine (Kd.R_reads' (e:=3) (base:=w.heap.size) (ok:=fun k_=>True) (n:=t176.length) (c:=co136) ?_).2.2;exact (by (with_reducible repeat (first|apply Kd.R_alloc|apply Kd.R_drewN|apply Kd.R_drew));exact (Kd.R_mono (Kd.R_far (p:=⟨gb182,3,none⟩) (Kd.R_far (p:=⟨gb182,2,none⟩) (Kd.R_far (p:=⟨gb182,1,none⟩) (Kd.R_far (p:=⟨gb182,0,none⟩) (Kd.R_types HO178.out BK182.out (by decide)) (fun _ hk=>hk.2) (.slice Ao136 t176.length co136)) (fun _ hk=>hk.2) (.int .i64 t179)) (fun _ hk=>hk.2) (.int .i64 t180)) (fun _ hk=>hk.2) (.int .i64 t181)) (fun _ h_=>h_.1))));(case side2=>exact (Kd.R_reads' HO178.out).2.1);(case side3=>exact Kd.C_below HR1.out (below_go HB.out));(case side4=>exact HC1.out);rintro e w139 ⟨v184,rfl,ho0,hb⟩;refine ⟨_,rfl,?_⟩;have n0_:=Aside0.mk (Kd.R_below (by (with_reducible repeat (first|apply Kd.R_alloc|apply Kd.R_drewN|apply Kd.R_drew));exact (Kd.R_mono (Kd.R_far (p:=⟨gb182,3,none⟩) (Kd.R_far (p:=⟨gb182,2,none⟩) (Kd.R_far (p:=⟨gb182,1,none⟩) (Kd.R_far (p:=⟨gb182,0,none⟩) (Kd.R_types HO178.out BK182.out (by decide)) (fun _ hk=>hk.2) (.slice Ao136 t176.length co136)) (fun _ hk=>hk.2) (.int .i64 t179)) (fun _ hk=>hk.2) (.int .i64 t180)) (fun _ hk=>hk.2) (.int .i64 t181)) (fun _ h_=>h_.1))) hb);have n1_:=Aside0.mk (Kd.R_lower ho0 (below_size (below_go HB.out)));have n2_:=Aside0.mk (blk_below (g:=gb174) (o:=.cells #[.int .u8 a0_0,.int .u8 a0_1,.int .u8 a0_2,.int .u8 a0_3,.int .u8 a0_4,.int .u8 a0_5,.int .u8 a0_6,.int .u8 a0_7,.int .u8 a0_8,.int .u8 a0_9,.int .u8 a0_10,.int .u8 a0_11] 24 (0,0)) (by (with_reducible repeat (first|refine blk_drewN ?_ _|refine blk_drew ?_|refine blk_alloc ?_ _));refine blk_far ?_ NB174_182.out _;(with_reducible repeat (first|refine blk_drewN ?_ _|refine blk_drew ?_|refine blk_alloc ?_ _));refine blk_far ?_ NB174_182.out _;(with_reducible repeat (first|refine blk_drewN ?_ _|refine blk_drew ?_|refine blk_alloc ?_ _));refine blk_far ?_ NB174_182.out _;(with_reducible repeat (first|refine blk_drewN ?_ _|refine blk_drew ?_|refine blk_alloc ?_ _));refine blk_far ?_ NB174_182.out _;(with_reducible repeat (first|refine blk_drewN ?_ _|refine blk_drew ?_|refine blk_alloc ?_ _));exact BK174.out) hb);have n3_:=Aside0.mk (blk_below (g:=gb182) (o:=.cells #[.slice Ao136 t176.length co136,.int .i64 t179,.int .i64 t180,.int .i64 t181] 30 (0,0)) (by (with_reducible repeat (first|refine blk_drewN ?_ _|refine blk_drew ?_|refine blk_alloc ?_ _));refine blk_put (cs:=#[.slice Ao136 t176.length co136,.int .i64 t179,.int .i64 t180,.int .i64 0]) ?_ 3 _ rfl;(with_reducible repeat (first|refine blk_drewN ?_ _|refine blk_drew ?_|refine blk_alloc ?_ _));refine blk_put (cs:=#[.slice Ao136 t176.length co136,.int .i64 t179,.int .i64 0,.int .i64 0]) ?_ 2 _ rfl;(with_reducible repeat (first|refine blk_drewN ?_ _|refine blk_drew ?_|refine blk_alloc ?_ _));refine blk_put (cs:=#[.slice Ao136 t176.length co136,.int .i64 0,.int .i64 0,.int .i64 0]) ?_ 1 _ rfl;(with_reducible repeat (first|refine blk_drewN ?_ _|refine blk_drew ?_|refine blk_alloc ?_ _));refine blk_put (cs:=#[.slice none 0 0,.int .i64 0,.int .i64 0,.int .i64 0]) ?_ 0 _ rfl;(with_reducible repeat (first|refine blk_drewN ?_ _|refine blk_drew ?_|refine blk_alloc ?_ _));exact BK182.out) hb);have n4_:=Aside0.mk (below_step (below_go HB.out) hb);clear HO178;clear BK174;clear BK182;clear HB;have HO178:=n0_;have HO185:=n1_;have BK174:=n2_;have BK182:=n3_;have HB:=n4_;clear n0_ n1_ n2_ n3_ n4_;(try clear hb);(try clear hb2);(try clear hk);(try clear hi);(try clear ho0);obtain ⟨Ao140,co140,eo140⟩:=Kd.R_slice HO185.out;subst eo140)|((with_reducible refine gate_dst (N:=27) rfl ?_);(try (refine gate_guard (by rfl) ?_;dsimp only));refine Kd.R_lit k34 _ 34 ?hg (N:=27) ?hd (xs:=([] : List (S34))) (inner:=[]) (ok:=fun _=>True) (okp:=fun _=>True) ?hr ?hp (fun _ hk=>hk) trivial (Below.refl _ _) (Nat.le_refl _) (by simp) ?_;(case hd=>rfl);(case hg=>rfl);(case hr=>first|(go_simp;done)|(go_simp;rfl));(case hp=>exact (Reps.none _ _));intro v187 w141 ho142 hb hg_ hnew_;clear hg_ hnew_;(first|rw [← Ny186.out] at ho142|(simp only [Int.reduceToNat] at ho142;rw [← Ny186.out] at ho142));have n0_:=Aside0.mk (Kd.R_below (R_up HO178.out) hb);have n1_:=Aside0.mk (Kd.R_elder' (R_up HO185.out) (Kd.R_base ho142) hb);have n2_:=Aside0.mk (Kd.R_lower (Kd.R_new' ho142 (Kd.R_lt (R_up HO185.out))) (below_size (below_go HB.out)));have n3_:=Aside0.mk (blk_below (blk_up BK174.out) hb);have n4_:=Aside0.mk (blk_below (blk_up BK182.out) hb);have n5_:=Aside0.mk (below_step (below_go HB.out) hb);clear HO178;clear HO185;clear BK174;clear BK182;clear HB;have HO178:=n0_;have HO185:=n1_;have HO188:=n2_;have BK174:=n3_;have BK182:=n4_;have HB:=n5_;clear n0_ n1_ n2_ n3_ n4_ n5_;clear hb ho142)|((with_reducible refine gate_builtin (b:=.append) (xs:=#[.tmp 27,.tmp 28]) rfl ?_);(try (refine gate_guard (by rfl) ?_;dsimp only));at_builtin;refine Kd.R_append_rows k34 (w0:=w) w.heap.size rfl (.tmp 27) (.tmp 28) 26 34 (.agg #[(.int .i64 0),(.string ⟨#[]⟩)]) 24 rfl Try.underlying26 info34 rfl (by decide) (by omega) v187 y186 t183 _ _ _ (fun k_=>some k_≠(.slice Ao140 t183.length co140 : Value).ownBlock) (fun _=>False) rfl rfl ?aO ?aR (fun _ _ h=>h) (fun _ h=>h.elim) ?aF ?aB ?aS ?aL ?_;(case aR=>repeat (first|exact (Kd.R_reads' HO185.out).2.2|(with_reducible refine Kd.C_alloc ?_ _)|(with_reducible refine Kd.C_drewN ?_ _)|(with_reducible refine Kd.C_drew ?_)));(case aB=>exact (below_go HB.out));(case aF=>exact (fun k_ hk=>Kd.fresh' (Kd.R_lt (R_up HO185.out)) k_ hk));(case aO=>exact (by (with_reducible repeat (first|apply Kd.R_alloc|apply Kd.R_drewN|apply Kd.R_drew));exact Kd.R_mono HO188.out (fun _ hk=>hk.2)));(case aS=>exact (below_size (below_go HB.out)));(case aL=>have:=LMc8.out;omega);intro v190 w143 ho hb hg hat;rw [← Ny189.out] at ho;have n0_:=Aside0.mk (blk_grown (blk_up BK174.out) hg (Kd.R_ne HO188.out BK174.out (by decide)));have n1_:=Aside0.mk (Kd.R_over' (R_up HO178.out) (Kd.R_typed (R_up HO188.out)) (by decide) hg);have n2_:=Aside0.mk (blk_grown (blk_up BK182.out) hg (Kd.R_ne HO188.out BK182.out (by decide)));have n3_:=Aside0.mk (Kd.R_after (ok:=(fun _=>True)) (R_up HO185.out) hg hat);have n4_:=Aside0.mk (hb);have n5_:=Aside0.mk (ho);clear BK174;clear HO178;clear BK182;clear HO185;clear HB;clear HO188;have BK174:=n0_;have HO178:=n1_;have BK182:=n2_;have HO185:=n3_;have HB:=n4_;have HO191:=n5_;clear n0_ n1_ n2_ n3_ n4_ n5_;clear ho hb hg hat;have p12 : 0≤((ji9) : Int):=of_decide_eq_true (by first|(with_reducible assumption)|assumption);have q12 : ((ji9) : Int) < ((y189.length : Int) : Int):=of_decide_eq_true (by first|(with_reducible assumption)|assumption);obtain ⟨go12,co12,eo12,gb12,gl12,cl12,HG12⟩:=Kd.R_form HO191.out (by omega);(first|cases eo12|(injection eo12 with ea_ en_ ec_;(first|subst ea_|(injection ea_ with ea_;subst ea_));subst ec_;clear en_));have GB12:=Aside0.mk gb12;have GG12:=Aside0.mk HG12;clear gb12 gl12 HG12;obtain ⟨ce12,hcl12,hM12,hcc12,hfr12⟩:=Kd.R_elem HO191.out z34 ((ji9) : Int) p12 q12;obtain rfl:=k34_openM hM12;have hx12_0 : w143.cell? ⟨go12,((ji9) : Int).toNat * 2,none⟩=some (.int .i64 ((rd_T34 y189 (ji9)).f0)):=hcc12 0 _ rfl;have hx12_1 : w143.cell? ⟨go12,((ji9) : Int).toNat * 2 + 1,none⟩=some (.string ((rd_T34 y189 (ji9)).f1)):=hcc12 1 _ rfl;have hf12_0 : w143.frozen? ⟨go12,((ji9) : Int).toNat * 2,none⟩=false:=hfr12 0;have hf12_1 : w143.frozen? ⟨go12,((ji9) : Int).toNat * 2 + 1,none⟩=false:=hfr12 1;clear hcl12 hcc12 hfr12 hM12;replace p12:=eq_true p12;replace q12:=eq_true q12;have HX144:=Aside0.mk (show Kd.R k34 34 w143 w.heap.size (fun k_=>some k_≠(.slice Ao140 t183.length co140 : Value).ownBlock) (.slice (some ⟨go12,0,none⟩) y189.length co12) y189 from (R_up HO191.out));obtain ⟨ce144,hcl144,hM144,hcc144,hfr144⟩:=Kd.R_elem HX144.out z34 ((ji9) : Int) (of_decide_eq_true (by first|(with_reducible assumption)|assumption)) (by have h_ : ((ji9) : Int) < ((y189.length : Int) : Int):=of_decide_eq_true (by first|(with_reducible assumption)|assumption);first|exact h_|(have e_:=(Kd.R_reads' HO191.out).1;omega)|simpa using h_);obtain rfl:=k34_openM hM144;have HP144:=Kd.R_seg HX144.out ((ji9) : Int) (of_decide_eq_true (by first|(with_reducible assumption)|assumption)) (by have h_ : ((ji9) : Int) < ((y189.length : Int) : Int):=of_decide_eq_true (by first|(with_reducible assumption)|assumption);first|exact h_|(have e_:=(Kd.R_reads' HO191.out).1;omega)|simpa using h_) (seg:=[.int .i64 1,.string (⟨#[120]⟩ : ByteArray)]) (j:=0) hcl144 hcc144 (show 2≤2 from by decide) (x':=(⟨1,(⟨#[120]⟩ : ByteArray)⟩ : S34)) (k34_mkM _ _ _ (⟨1,(⟨#[120]⟩ : ByteArray)⟩ : S34) ) (fun _ hk=>hk);have hx144_0:=hcc144 0 _ rfl;(try simp only [show (k34).sz=2 from rfl,Nat.mul_one,Nat.add_zero] at hx144_0);have hf144_0:=hfr144 0;(try simp only [show (k34).sz=2 from rfl,Nat.mul_one,Nat.add_zero] at hf144_0);have hx144_1:=hcc144 1 _ rfl;(try simp only [show (k34).sz=2 from rfl,Nat.mul_one,Nat.add_zero] at hx144_1);have hf144_1:=hfr144 1;(try simp only [show (k34).sz=2 from rfl,Nat.mul_one,Nat.add_zero] at hf144_1);clear hcl144 hcc144 hfr144 hM144)|((with_reducible refine gate_store (t:=34) (p:=33) rfl ?_);refine store_event (t:=34) (p:=33) (v:=?vo_w145) (w1:=((w143.setCell ⟨go12,((ji9) : Int).toNat * 2,none⟩ (.int .i64 1)).setCell ⟨go12,((ji9) : Int).toNat * 2 + 1,none⟩ (.string (⟨#[120]⟩ : ByteArray)))) ?hg ?ho ?hn ?hr ?_;(case ho=>rfl);(case hg=>rfl);(case hn=>rfl);(case hr=>first|(go_simp;done)|(go_simp;rfl));intro w145 hw;have hg : w143.grownBy w145 (some go12):=(by rw [hw];exact HP144.2);have hp_ : Kd.R k34 34 w145 w.heap.size (fun k_=>some k_≠(.slice Ao140 t183.length co140 : Value).ownBlock) (.slice (some ⟨go12,0,none⟩) y189.length co12) y192:=(by rw [hw,Ny192.out];exact HP144.1);clear HP144;have n0_:=Aside0.mk (blk_grown (blk_up BK174.out) hg (Kd.R_ne HO191.out BK174.out (by decide)));have n1_:=Aside0.mk (Kd.R_over' (v:=(.slice (some ⟨go12,0,none⟩) y189.length co12)) (R_up HO178.out) (Kd.R_typed HO191.out) (by decide) hg);have n2_:=Aside0.mk (blk_grown (blk_up BK182.out) hg (Kd.R_ne HO191.out BK182.out (by decide)));have n3_:=Aside0.mk (Kd.R_after (v:=(.slice (some ⟨go12,0,none⟩) y189.length co12)) (v1:=(.slice (some ⟨go12,0,none⟩) y189.length co12)) (ok:=(fun _=>True)) (R_up HO185.out) hg (.inl rfl));have n4_:=Aside0.mk (hp_);have n5_:=Aside0.mk ((by rw [hw];exact below_set (below_set (HB.out) GB12.out) GB12.out : Below w.heap.size w w145));clear BK174;clear HO178;clear BK182;clear HO185;clear HO191;clear HB;have BK174:=n0_;have HO178:=n1_;have BK182:=n2_;have HO185:=n3_;have HO191:=n4_;have HB:=n5_;clear n0_ n1_ n2_ n3_ n4_ n5_;clear hg hw hp_;have hcz146_0 : w145.cell? ⟨gb182,0,none⟩=some (.slice Ao136 t176.length co136):=(blk_cell BK182.out 0).trans rfl;have hcz146_1 : w145.cell? ⟨gb182,1,none⟩=some (.int .i64 t179):=(blk_cell BK182.out 1).trans rfl;have hcz146_2 : w145.cell? ⟨gb182,2,none⟩=some (.int .i64 t180):=(blk_cell BK182.out 2).trans rfl;have hcz146_3 : w145.cell? ⟨gb182,3,none⟩=some (.int .i64 t181):=(blk_cell BK182.out 3).trans rfl;have hfz146_0:=blk_frozen BK182.out 0;have hfz146_1:=blk_frozen BK182.out 1;have hfz146_2:=blk_frozen BK182.out 2;have hfz146_3:=blk_frozen BK182.out 3)|((with_reducible refine gate_callee (f:=12) rfl ?_);refine goesL_ (some 36) rfl rfl Try.func12 (by kernel_rfl) rfl #[.agg #[.slice Ao136 t176.length co136,.int .i64 t179,.int .i64 t180,.int .i64 t181],.slice Ao140 t183.length co140] rfl (by (try simp only [List.map_toArray,List.map_cons,List.map_nil]);first|done|rfl|(simp only [List.length_drop,List.length_take];rfl)) ?_;(with_reducible refine (schema_Row.calls _ _ t176 t179 t180 t181 _ _ t183 true _ ?side1 ?side2 ?side3 ?side4 A13.out).mono ?_);(case side1=>repeat (first|exact (Kd.R_reads' HO178.out).2.2|(with_reducible refine Kd.C_alloc ?_ _)|(with_reducible refine Kd.C_drewN ?_ _)|(with_reducible refine Kd.C_drew ?_)));(case side2=>exact (Kd.R_reads' HO178.out).2.1);(case side3=>repeat (first|exact (Kd.R_reads' HO185.out).2.2|(with_reducible refine Kd.C_alloc ?_ _)|(with_reducible refine Kd.C_drewN ?_ _)|(with_reducible refine Kd.C_drew ?_)));(case side4=>exact (Kd.R_reads' HO185.out).2.1);rintro e w147 ⟨rfl,hb⟩;refine ⟨_,rfl,?_⟩;have n0_:=Aside0.mk (Kd.R_below (R_up HO178.out) hb);have n1_:=Aside0.mk (Kd.R_below (R_up HO185.out) hb);have n2_:=Aside0.mk (Kd.R_below (R_up HO191.out) hb);have n3_:=Aside0.mk (blk_below (blk_up BK174.out) hb);have n4_:=Aside0.mk (blk_below (blk_up BK182.out) hb);have n5_:=Aside0.mk (below_step (below_go HB.out) hb);clear HO178;clear HO185;clear HO191;clear BK174;clear BK182;clear HB;have HO178:=n0_;have HO185:=n1_;have HO191:=n2_;have BK174:=n3_;have BK182:=n4_;have HB:=n5_;clear n0_ n1_ n2_ n3_ n4_ n5_;(try clear hb);(try clear hb2);(try clear hk);(try clear hi)))
   have n0_:=Aside0.mk (Kd.R_drew HO178.out)
   have n1_:=Aside0.mk (Kd.R_drew HO185.out)
   have n2_:=Aside0.mk (Kd.R_drew HO191.out)
   have n3_:=Aside0.mk (blk_drew BK174.out)
   have n4_:=Aside0.mk (blk_drew BK182.out)
   have n5_:=Aside0.mk (below_drew1 HB.out)
   clear HO178
   clear HO185
   clear HO191
   clear BK174
   clear BK182
   clear HB
   have HO178:=n0_
   have HO185:=n1_
   have HO191:=n2_
   have BK174:=n3_
   have BK182:=n4_
   have HB:=n5_
   clear n0_ n1_ n2_ n3_ n4_ n5_
   refine start_ (n:=9) (S:=fun w'=>w'.cell? ⟨gb182,0,none⟩=some (.slice Ao136 t176.length co136)∧w'.cell? ⟨gb182,1,none⟩=some (.int .i64 t179)∧w'.cell? ⟨gb182,2,none⟩=some (.int .i64 t180)∧w'.cell? ⟨gb182,3,none⟩=some (.int .i64 t181)) (ds:=[]) #[false,false,false,false,false,false,false,false,false] (by kernel_rfl) rfl rfl ⟨(blk_cell BK182.out 0).trans rfl,(blk_cell BK182.out 1).trans rfl,(blk_cell BK182.out 2).trans rfl,(blk_cell BK182.out 3).trans rfl⟩ (fun hHeld=>?_);refine with_tabW thresherlaw04_SchemaRows.tab8 thresherlaw04_SchemaRows.bits8 (fun HT_ HW_=>?_)
   generalize w147.drew=w148 at HO178 HO185 HO191 BK174 BK182 HB hHeld ⊢
   refine pure_ (i:=2) (N:=some 39) (v:=?_) (a':=?_) #[false,false,true,false,false,false,false,false,false] rfl rfl (any_of HT_.out (by kernel_rfl)) (fun _ _ _ h=>h) (Or.inl ⟨by rfl,?_⟩) ?_ ?_
   rotate_left;(intro w';go_simp;with_reducible rfl);rotate_left;(simp only [Act.put,List.setIfInBounds_toArray,List.set_cons_zero,List.set_cons_succ,i64_w,i32_w];rfl)
   refine pure_ (i:=4) (N:=some 41) (v:=?_) (a':=?_) #[false,false,true,false,true,false,false,false,false] rfl rfl (any_of HT_.out (by kernel_rfl)) (fun _ _ _ h=>h) (Or.inl ⟨by rfl,?_⟩) ?_ ?_
   rotate_left;(intro w';go_simp;with_reducible rfl);rotate_left;(simp only [Act.put,List.setIfInBounds_toArray,List.set_cons_zero,List.set_cons_succ,i64_w,i32_w];rfl)
   refine take_ (i:=0) (N:=some 37) (v:=?_) (a':=?_) #[true,false,true,false,true,false,false,false,false] rfl rfl (take_ofW HT_.out HW_.out (by kernel_rfl)) (fun _ _ _ h=>h) (Or.inl ⟨by rfl,?_⟩) hHeld ?_ ?_
   rotate_left;(rintro w' ⟨s0,s1,s2,s3⟩;go_simp;with_reducible rfl);rotate_left;(simp only [Act.put,List.setIfInBounds_toArray,List.set_cons_zero,List.set_cons_succ,i64_w,i32_w];rfl)
   refine join_ (σ:=Value × Value × Value) 3 #[true,true,true,true,true,true,false,false,false] (fun s_=>[(38,s_.1),(40,s_.2.1),(42,s_.2.2)]) (fun s_ w'=>(w'.cell? ⟨gb182,0,none⟩=some (.slice Ao136 t176.length co136)∧w'.cell? ⟨gb182,1,none⟩=some (.int .i64 t179)∧w'.cell? ⟨gb182,2,none⟩=some (.int .i64 t180)∧w'.cell? ⟨gb182,3,none⟩=some (.int .i64 t181))∧(Kd.R (Kd.int .i64) 3 w' w.heap.size (fun _=>True) (.slice Ao136 t176.length co136) t176)∧(Kd.R k34 34 w' w.heap.size (fun k_=>some k_≠(.slice (some ⟨go12,0,none⟩) y189.length co12 : Value).ownBlock∧some k_≠(s_.2.1 : Value).ownBlock∧some k_≠(s_.2.2 : Value).ownBlock) (.slice Ao140 t183.length co140) t183)∧(Kd.R k34 34 w' w.heap.size (fun k_=>some k_≠(.slice Ao140 t183.length co140 : Value).ownBlock∧some k_≠(s_.2.1 : Value).ownBlock∧some k_≠(s_.2.2 : Value).ownBlock) (.slice (some ⟨go12,0,none⟩) y189.length co12) y192)∧(Kd.R k34 34 w' w.heap.size (fun k_=>some k_≠(.slice Ao140 t183.length co140 : Value).ownBlock∧some k_≠(.slice (some ⟨go12,0,none⟩) y189.length co12 : Value).ownBlock∧some k_≠(s_.2.2 : Value).ownBlock) s_.2.1 y197)∧(Kd.R k34 34 w' w.heap.size (fun k_=>some k_≠(.slice Ao140 t183.length co140 : Value).ownBlock∧some k_≠(.slice (some ⟨go12,0,none⟩) y189.length co12 : Value).ownBlock∧some k_≠(s_.2.1 : Value).ownBlock) s_.2.2 y200)∧(w'.heap[gb174]?=some (.cells #[.int .u8 a0_0,.int .u8 a0_1,.int .u8 a0_2,.int .u8 a0_3,.int .u8 a0_4,.int .u8 a0_5,.int .u8 a0_6,.int .u8 a0_7,.int .u8 a0_8,.int .u8 a0_9,.int .u8 a0_10,.int .u8 a0_11] 24 (0,0)))∧(w'.heap[gb182]?=some (.cells #[.slice Ao136 t176.length co136,.int .i64 t179,.int .i64 t180,.int .i64 t181] 30 (0,0)))∧(Below w.heap.size w w')) ?_ ?_
   rotate_left
   ·intro hCont
    refine two_ (i:=1) (j:=5) (Ni:=some 38) (Nj:=some 42) #[true,true,true,false,true,false,false,false,false] #[true,false,true,false,true,true,false,false,false] rfl rfl rfl rfl (two_of HT_.out (by kernel_rfl)) (by decide) (by decide) (fun K hK=>?_) (fun K hK=>?_)
    ·skip
     refine Kd.R_lit_step k34 _ 34 ?hg (N:=38) ?hd (xs:=([] : List (S34))) (inner:=[]) (ok:=fun _=>True) (okp:=fun _=>True) ?hr ?hp (fun _ hk=>hk) trivial (Below.refl _ _) (Nat.le_refl _) (by simp) ?_;(case hd=>rfl);(case hg=>rfl);(case hr=>first|(go_simp;done)|(go_simp;rfl));(case hp=>exact (Reps.none _ _))
     intro v195 w149 ho150 hb hg_ hnew_
     clear hg_ hnew_
     (first|rw [← Ny194.out] at ho150|(simp only [Int.reduceToNat] at ho150;rw [← Ny194.out] at ho150))
     have n0_:=Aside0.mk (Kd.R_below (R_up HO178.out) hb)
     have n1_:=Aside0.mk (Kd.R_elder' (R_up HO185.out) (Kd.R_base ho150) hb)
     have n2_:=Aside0.mk (Kd.R_elder' (R_up HO191.out) (Kd.R_base ho150) hb)
     have n3_:=Aside0.mk (Kd.R_lower (Kd.R_new' (Kd.R_new' ho150 (Kd.R_lt (R_up HO185.out))) (Kd.R_lt (R_up HO191.out))) (below_size (below_go HB.out)))
     have n4_:=Aside0.mk (blk_below (blk_up BK174.out) hb)
     have n5_:=Aside0.mk (blk_below (blk_up BK182.out) hb)
     have n6_:=Aside0.mk (below_step (below_go HB.out) hb)
     clear HO178
     clear HO185
     clear HO191
     clear BK174
     clear BK182
     clear HB
     have HO178:=n0_
     have HO185:=n1_
     have HO191:=n2_
     have HO196:=n3_
     have BK174:=n4_
     have BK182:=n5_
     have HB:=n6_
     clear n0_ n1_ n2_ n3_ n4_ n5_ n6_
     clear hb ho150
     refine hK.out _ _ ⟨(blk_cell BK182.out 0).trans rfl,(blk_cell BK182.out 1).trans rfl,(blk_cell BK182.out 2).trans rfl,(blk_cell BK182.out 3).trans rfl⟩ (fun hHeld=>?_)
     clear hK K
     refine norm_ (a':=?_) ?_ ?_
     rotate_left
     ·show Act.put _ (some 38) _=_
      simp only [Act.put,List.setIfInBounds_toArray,List.set_cons_zero,List.set_cons_succ,i64_w,i32_w]
      rfl
     refine two_ (i:=3) (j:=5) (Ni:=some 40) (Nj:=some 42) #[true,true,true,true,true,false,false,false,false] #[true,true,true,false,true,true,false,false,false] rfl rfl rfl rfl (two_of HT_.out (by kernel_rfl)) (by decide) (by decide) (fun K hK=>?_) (fun K hK=>?_)
     ·skip
      refine Kd.R_append_rows_step k34 (w0:=w) w.heap.size (by rfl) (.tmp 38) (.tmp 39) 26 34 (.agg #[(.int .i64 0),(.string ⟨#[]⟩)]) 24 rfl Try.underlying26 info34 rfl (by decide) (by omega) v195 y194 t183 _ _ _ (fun k_=>some k_≠(.slice Ao140 t183.length co140 : Value).ownBlock∧some k_≠(.slice (some ⟨go12,0,none⟩) y189.length co12 : Value).ownBlock) (fun _=>False) rfl rfl ?aO ?aR (fun _ _ h=>h) (fun _ h=>h.elim) ?aF ?aB ?aS ?aL ?_
      (case aR=>repeat (first|exact (Kd.R_reads' HO185.out).2.2|(with_reducible refine Kd.C_alloc ?_ _)|(with_reducible refine Kd.C_drewN ?_ _)|(with_reducible refine Kd.C_drew ?_)))
      (case aB=>exact (below_go HB.out))
      (case aF=>exact (fun k_ hk=>⟨Kd.fresh' (Kd.R_lt (R_up HO185.out)) k_ hk,Kd.fresh' (Kd.R_lt (R_up HO191.out)) k_ hk⟩))
      (case aO=>exact (by (with_reducible repeat (first|apply Kd.R_alloc|apply Kd.R_drewN|apply Kd.R_drew));exact Kd.R_mono HO196.out (fun _ hk=>⟨hk.1.2,hk.2⟩)))
      (case aS=>exact (below_size (below_go HB.out)))
      (case aL=>have:=LMc14.out;omega)
      intro v198 w151 ho hb hg hat
      rw [← Ny197.out] at ho
      have n0_:=Aside0.mk (blk_grown (blk_up BK174.out) hg (Kd.R_ne HO196.out BK174.out (by decide)))
      have n1_:=Aside0.mk (Kd.R_over' (R_up HO178.out) (Kd.R_typed (R_up HO196.out)) (by decide) hg)
      have n2_:=Aside0.mk (blk_grown (blk_up BK182.out) hg (Kd.R_ne HO196.out BK182.out (by decide)))
      have n3_:=Aside0.mk (Kd.R_after (ok:=(fun k_=>some k_≠(.slice (some ⟨go12,0,none⟩) y189.length co12 : Value).ownBlock)) (by (with_reducible repeat (first|apply Kd.R_alloc|apply Kd.R_drewN|apply Kd.R_drew));exact Kd.R_mono HO185.out (fun _ hk=>⟨hk.1.2,hk.2⟩)) hg hat)
      have n4_:=Aside0.mk (Kd.R_after (ok:=(fun k_=>some k_≠(.slice Ao140 t183.length co140 : Value).ownBlock)) (R_up HO191.out) hg hat)
      have n5_:=Aside0.mk (hb)
      have n6_:=Aside0.mk (ho)
      clear BK174
      clear HO178
      clear BK182
      clear HO185
      clear HO191
      clear HB
      clear HO196
      have BK174:=n0_
      have HO178:=n1_
      have BK182:=n2_
      have HO185:=n3_
      have HO191:=n4_
      have HB:=n5_
      have HO199:=n6_
      clear n0_ n1_ n2_ n3_ n4_ n5_ n6_
      clear ho hb hg hat
      refine hK.out _ _ ⟨(blk_cell BK182.out 0).trans rfl,(blk_cell BK182.out 1).trans rfl,(blk_cell BK182.out 2).trans rfl,(blk_cell BK182.out 3).trans rfl⟩ (fun hHeld=>?_)
      clear hK K
      refine norm_ (a':=?_) ?_ ?_
      rotate_left
      ·show Act.put _ (some 40) _=_
       simp only [Act.put,List.setIfInBounds_toArray,List.set_cons_zero,List.set_cons_succ,i64_w,i32_w]
       rfl
      refine one_ (i:=5) (N:=some 42) #[true,true,true,true,true,true,false,false,false] rfl rfl (one_of HT_.out (by kernel_rfl)) (by decide) (fun K hK=>?_)
      refine Kd.R_lit_step k34 _ 34 ?hg (N:=42) ?hd (xs:=([(⟨0,(⟨#[]⟩ : ByteArray)⟩ : S34)] : List (S34))) (inner:=[.int .i64 0,.string (⟨#[]⟩ : ByteArray)]) (ok:=fun _=>True) (okp:=fun _=>True) ?hr ?hp (fun _ hk=>hk) trivial (Below.refl _ _) (Nat.le_refl _) (by simp) ?_;(case hd=>rfl);(case hg=>rfl);(case hr=>first|(go_simp;done)|(go_simp;rfl));(case hp=>exact (Reps.c2 (show Kd.M k34 _ _ _ (⟨0,(⟨#[]⟩ : ByteArray)⟩ : S34) [.int .i64 0,.string (⟨#[]⟩ : ByteArray)] from (k34_mkM _ _ _ (⟨0,(⟨#[]⟩ : ByteArray)⟩ : S34) )) (Reps.none _ _)))
      intro v201 w152 ho153 hb hg_ hnew_
      clear hg_ hnew_
      (first|rw [← Ny200.out] at ho153|(simp only [Int.reduceToNat] at ho153;rw [← Ny200.out] at ho153))
      have n0_:=Aside0.mk (Kd.R_below (R_up HO178.out) hb)
      have n1_:=Aside0.mk (Kd.R_elder' (R_up HO185.out) (Kd.R_base ho153) hb)
      have n2_:=Aside0.mk (Kd.R_elder' (R_up HO191.out) (Kd.R_base ho153) hb)
      have n3_:=Aside0.mk (Kd.R_elder' (R_up HO199.out) (Kd.R_base ho153) hb)
      have n4_:=Aside0.mk (Kd.R_lower (Kd.R_new' (Kd.R_new' (Kd.R_new' ho153 (Kd.R_lt (R_up HO185.out))) (Kd.R_lt (R_up HO191.out))) (Kd.R_lt (R_up HO199.out))) (below_size (below_go HB.out)))
      have n5_:=Aside0.mk (blk_below (blk_up BK174.out) hb)
      have n6_:=Aside0.mk (blk_below (blk_up BK182.out) hb)
      have n7_:=Aside0.mk (below_step (below_go HB.out) hb)
      clear HO178
      clear HO185
      clear HO191
      clear HO199
      clear BK174
      clear BK182
      clear HB
      have HO178:=n0_
      have HO185:=n1_
      have HO191:=n2_
      have HO199:=n3_
      have HO202:=n4_
      have BK174:=n5_
      have BK182:=n6_
      have HB:=n7_
      clear n0_ n1_ n2_ n3_ n4_ n5_ n6_ n7_
      clear hb ho153
      refine hK.out _ _ ⟨(blk_cell BK182.out 0).trans rfl,(blk_cell BK182.out 1).trans rfl,(blk_cell BK182.out 2).trans rfl,(blk_cell BK182.out 3).trans rfl⟩ (fun hHeld=>?_)
      clear hK K
      refine norm_ (a':=?_) ?_ ?_
      rotate_left
      ·show Act.put _ (some 42) _=_
       simp only [Act.put,List.setIfInBounds_toArray,List.set_cons_zero,List.set_cons_succ,i64_w,i32_w]
       rfl
      exact norm_ (by simp only [putAll,Act.put,List.setIfInBounds_toArray,List.set_cons_zero,List.set_cons_succ]) (hCont (v195,v198,v201) _ ⟨hHeld,(R_up HO178.out),(by (with_reducible repeat (first|apply Kd.R_alloc|apply Kd.R_drewN|apply Kd.R_drew));exact Kd.R_mono HO185.out (fun _ hk=>⟨hk.1.1,⟨hk.1.2,hk.2⟩⟩)),(by (with_reducible repeat (first|apply Kd.R_alloc|apply Kd.R_drewN|apply Kd.R_drew));exact Kd.R_mono HO191.out (fun _ hk=>⟨hk.1.1,⟨hk.1.2,hk.2⟩⟩)),(by (with_reducible repeat (first|apply Kd.R_alloc|apply Kd.R_drewN|apply Kd.R_drew));exact Kd.R_mono HO199.out (fun _ hk=>⟨hk.1.1,⟨hk.1.2,hk.2⟩⟩)),(by (with_reducible repeat (first|apply Kd.R_alloc|apply Kd.R_drewN|apply Kd.R_drew));exact Kd.R_mono HO202.out (fun _ hk=>⟨hk.1.1.2,⟨hk.1.2,hk.2⟩⟩)),(blk_up BK174.out),(blk_up BK182.out),(below_go HB.out)⟩)
     ·skip
      refine Kd.R_lit_step k34 _ 34 ?hg (N:=42) ?hd (xs:=([(⟨0,(⟨#[]⟩ : ByteArray)⟩ : S34)] : List (S34))) (inner:=[.int .i64 0,.string (⟨#[]⟩ : ByteArray)]) (ok:=fun _=>True) (okp:=fun _=>True) ?hr ?hp (fun _ hk=>hk) trivial (Below.refl _ _) (Nat.le_refl _) (by simp) ?_;(case hd=>rfl);(case hg=>rfl);(case hr=>first|(go_simp;done)|(go_simp;rfl));(case hp=>exact (Reps.c2 (show Kd.M k34 _ _ _ (⟨0,(⟨#[]⟩ : ByteArray)⟩ : S34) [.int .i64 0,.string (⟨#[]⟩ : ByteArray)] from (k34_mkM _ _ _ (⟨0,(⟨#[]⟩ : ByteArray)⟩ : S34) )) (Reps.none _ _)))
      intro v201 w151 ho152 hb hg_ hnew_
      clear hg_ hnew_
      (first|rw [← Ny200.out] at ho152|(simp only [Int.reduceToNat] at ho152;rw [← Ny200.out] at ho152))
      have n0_:=Aside0.mk (Kd.R_below (R_up HO178.out) hb)
      have n1_:=Aside0.mk (Kd.R_elder' (R_up HO185.out) (Kd.R_base ho152) hb)
      have n2_:=Aside0.mk (Kd.R_elder' (R_up HO191.out) (Kd.R_base ho152) hb)
      have n3_:=Aside0.mk (Kd.R_elder' (R_up HO196.out) (Kd.R_base ho152) hb)
      have n4_:=Aside0.mk (Kd.R_lower (Kd.R_new' (Kd.R_new' (Kd.R_new' ho152 (Kd.R_lt (R_up HO185.out))) (Kd.R_lt (R_up HO191.out))) (Kd.R_lt (R_up HO196.out))) (below_size (below_go HB.out)))
      have n5_:=Aside0.mk (blk_below (blk_up BK174.out) hb)
      have n6_:=Aside0.mk (blk_below (blk_up BK182.out) hb)
      have n7_:=Aside0.mk (below_step (below_go HB.out) hb)
      clear HO178
      clear HO185
      clear HO191
      clear HO196
      clear BK174
      clear BK182
      clear HB
      have HO178:=n0_
      have HO185:=n1_
      have HO191:=n2_
      have HO196:=n3_
      have HO202:=n4_
      have BK174:=n5_
      have BK182:=n6_
      have HB:=n7_
      clear n0_ n1_ n2_ n3_ n4_ n5_ n6_ n7_
      clear hb ho152
      refine hK.out _ _ ⟨(blk_cell BK182.out 0).trans rfl,(blk_cell BK182.out 1).trans rfl,(blk_cell BK182.out 2).trans rfl,(blk_cell BK182.out 3).trans rfl⟩ (fun hHeld=>?_)
      clear hK K
      refine norm_ (a':=?_) ?_ ?_
      rotate_left
      ·show Act.put _ (some 42) _=_
       simp only [Act.put,List.setIfInBounds_toArray,List.set_cons_zero,List.set_cons_succ,i64_w,i32_w]
       rfl
      refine one_ (i:=3) (N:=some 40) #[true,true,true,true,true,true,false,false,false] rfl rfl (one_of HT_.out (by kernel_rfl)) (by decide) (fun K hK=>?_)
      refine Kd.R_append_rows_step k34 (w0:=w) w.heap.size (by rfl) (.tmp 38) (.tmp 39) 26 34 (.agg #[(.int .i64 0),(.string ⟨#[]⟩)]) 24 rfl Try.underlying26 info34 rfl (by decide) (by omega) v195 y194 t183 _ _ _ (fun k_=>some k_≠(.slice Ao140 t183.length co140 : Value).ownBlock∧some k_≠(.slice (some ⟨go12,0,none⟩) y189.length co12 : Value).ownBlock∧some k_≠(v201 : Value).ownBlock) (fun _=>False) rfl rfl ?aO ?aR (fun _ _ h=>h) (fun _ h=>h.elim) ?aF ?aB ?aS ?aL ?_
      (case aR=>repeat (first|exact (Kd.R_reads' HO185.out).2.2|(with_reducible refine Kd.C_alloc ?_ _)|(with_reducible refine Kd.C_drewN ?_ _)|(with_reducible refine Kd.C_drew ?_)))
      (case aB=>exact (below_go HB.out))
      (case aF=>exact (fun k_ hk=>⟨Kd.fresh' (Kd.R_lt (R_up HO185.out)) k_ hk,Kd.fresh' (Kd.R_lt (R_up HO191.out)) k_ hk,Kd.fresh' (Kd.R_lt (R_up HO202.out)) k_ hk⟩))
      (case aO=>exact (by (with_reducible repeat (first|apply Kd.R_alloc|apply Kd.R_drewN|apply Kd.R_drew));exact Kd.R_mono HO196.out (fun _ hk=>⟨hk.1.1.2,⟨hk.1.2,hk.2⟩⟩)))
      (case aS=>exact (below_size (below_go HB.out)))
      (case aL=>have:=LMc14.out;omega)
      intro v198 w153 ho hb hg hat
      rw [← Ny197.out] at ho
      have n0_:=Aside0.mk (blk_grown (blk_up BK174.out) hg (Kd.R_ne HO196.out BK174.out (by decide)))
      have n1_:=Aside0.mk (Kd.R_over' (R_up HO178.out) (Kd.R_typed (R_up HO196.out)) (by decide) hg)
      have n2_:=Aside0.mk (blk_grown (blk_up BK182.out) hg (Kd.R_ne HO196.out BK182.out (by decide)))
      have n3_:=Aside0.mk (Kd.R_after (ok:=(fun k_=>some k_≠(.slice (some ⟨go12,0,none⟩) y189.length co12 : Value).ownBlock∧some k_≠(v201 : Value).ownBlock)) (by (with_reducible repeat (first|apply Kd.R_alloc|apply Kd.R_drewN|apply Kd.R_drew));exact Kd.R_mono HO185.out (fun _ hk=>⟨⟨hk.1.1.2,hk.2⟩,hk.1.2⟩)) hg hat)
      have n4_:=Aside0.mk (Kd.R_after (ok:=(fun k_=>some k_≠(.slice Ao140 t183.length co140 : Value).ownBlock∧some k_≠(v201 : Value).ownBlock)) (by (with_reducible repeat (first|apply Kd.R_alloc|apply Kd.R_drewN|apply Kd.R_drew));exact Kd.R_mono HO191.out (fun _ hk=>⟨⟨hk.1.1,hk.2⟩,hk.1.2⟩)) hg hat)
      have n5_:=Aside0.mk (Kd.R_after (ok:=(fun k_=>some k_≠(.slice Ao140 t183.length co140 : Value).ownBlock∧some k_≠(.slice (some ⟨go12,0,none⟩) y189.length co12 : Value).ownBlock)) (by (with_reducible repeat (first|apply Kd.R_alloc|apply Kd.R_drewN|apply Kd.R_drew));exact Kd.R_mono HO202.out (fun _ hk=>⟨⟨hk.1.1.2,hk.1.2⟩,hk.2⟩)) hg hat)
      have n6_:=Aside0.mk (hb)
      have n7_:=Aside0.mk (ho)
      clear BK174
      clear HO178
      clear BK182
      clear HO185
      clear HO191
      clear HO202
      clear HB
      clear HO196
      have BK174:=n0_
      have HO178:=n1_
      have BK182:=n2_
      have HO185:=n3_
      have HO191:=n4_
      have HO202:=n5_
      have HB:=n6_
      have HO199:=n7_
      clear n0_ n1_ n2_ n3_ n4_ n5_ n6_ n7_
      clear ho hb hg hat
      refine hK.out _ _ ⟨(blk_cell BK182.out 0).trans rfl,(blk_cell BK182.out 1).trans rfl,(blk_cell BK182.out 2).trans rfl,(blk_cell BK182.out 3).trans rfl⟩ (fun hHeld=>?_)
      clear hK K
      refine norm_ (a':=?_) ?_ ?_
      rotate_left
      ·show Act.put _ (some 40) _=_
       simp only [Act.put,List.setIfInBounds_toArray,List.set_cons_zero,List.set_cons_succ,i64_w,i32_w]
       rfl
      exact norm_ (by simp only [putAll,Act.put,List.setIfInBounds_toArray,List.set_cons_zero,List.set_cons_succ]) (hCont (v195,v198,v201) _ ⟨hHeld,(R_up HO178.out),(by (with_reducible repeat (first|apply Kd.R_alloc|apply Kd.R_drewN|apply Kd.R_drew));exact Kd.R_mono HO185.out (fun _ hk=>⟨hk.1.1,⟨hk.2,hk.1.2⟩⟩)),(by (with_reducible repeat (first|apply Kd.R_alloc|apply Kd.R_drewN|apply Kd.R_drew));exact Kd.R_mono HO191.out (fun _ hk=>⟨hk.1.1,⟨hk.2,hk.1.2⟩⟩)),(R_up HO199.out),(by (with_reducible repeat (first|apply Kd.R_alloc|apply Kd.R_drewN|apply Kd.R_drew));exact Kd.R_mono HO202.out (fun _ hk=>⟨hk.1.1,⟨hk.1.2,hk.2⟩⟩)),(blk_up BK174.out),(blk_up BK182.out),(below_go HB.out)⟩)
    ·skip
     refine Kd.R_lit_step k34 _ 34 ?hg (N:=42) ?hd (xs:=([(⟨0,(⟨#[]⟩ : ByteArray)⟩ : S34)] : List (S34))) (inner:=[.int .i64 0,.string (⟨#[]⟩ : ByteArray)]) (ok:=fun _=>True) (okp:=fun _=>True) ?hr ?hp (fun _ hk=>hk) trivial (Below.refl _ _) (Nat.le_refl _) (by simp) ?_;(case hd=>rfl);(case hg=>rfl);(case hr=>first|(go_simp;done)|(go_simp;rfl));(case hp=>exact (Reps.c2 (show Kd.M k34 _ _ _ (⟨0,(⟨#[]⟩ : ByteArray)⟩ : S34) [.int .i64 0,.string (⟨#[]⟩ : ByteArray)] from (k34_mkM _ _ _ (⟨0,(⟨#[]⟩ : ByteArray)⟩ : S34) )) (Reps.none _ _)))
     intro v201 w149 ho150 hb hg_ hnew_
     clear hg_ hnew_
     (first|rw [← Ny200.out] at ho150|(simp only [Int.reduceToNat] at ho150;rw [← Ny200.out] at ho150))
     have n0_:=Aside0.mk (Kd.R_below (R_up HO178.out) hb)
     have n1_:=Aside0.mk (Kd.R_elder' (R_up HO185.out) (Kd.R_base ho150) hb)
     have n2_:=Aside0.mk (Kd.R_elder' (R_up HO191.out) (Kd.R_base ho150) hb)
     have n3_:=Aside0.mk (Kd.R_lower (Kd.R_new' (Kd.R_new' ho150 (Kd.R_lt (R_up HO185.out))) (Kd.R_lt (R_up HO191.out))) (below_size (below_go HB.out)))
     have n4_:=Aside0.mk (blk_below (blk_up BK174.out) hb)
     have n5_:=Aside0.mk (blk_below (blk_up BK182.out) hb)
     have n6_:=Aside0.mk (below_step (below_go HB.out) hb)
     clear HO178
     clear HO185
     clear HO191
     clear BK174
     clear BK182
     clear HB
     have HO178:=n0_
     have HO185:=n1_
     have HO191:=n2_
     have HO202:=n3_
     have BK174:=n4_
     have BK182:=n5_
     have HB:=n6_
     clear n0_ n1_ n2_ n3_ n4_ n5_ n6_
     clear hb ho150
     refine hK.out _ _ ⟨(blk_cell BK182.out 0).trans rfl,(blk_cell BK182.out 1).trans rfl,(blk_cell BK182.out 2).trans rfl,(blk_cell BK182.out 3).trans rfl⟩ (fun hHeld=>?_)
     clear hK K
     refine norm_ (a':=?_) ?_ ?_
     rotate_left
     ·show Act.put _ (some 42) _=_
      simp only [Act.put,List.setIfInBounds_toArray,List.set_cons_zero,List.set_cons_succ,i64_w,i32_w]
      rfl
     refine one_ (i:=1) (N:=some 38) #[true,true,true,false,true,true,false,false,false] rfl rfl (one_of HT_.out (by kernel_rfl)) (by decide) (fun K hK=>?_)
     refine Kd.R_lit_step k34 _ 34 ?hg (N:=38) ?hd (xs:=([] : List (S34))) (inner:=[]) (ok:=fun _=>True) (okp:=fun _=>True) ?hr ?hp (fun _ hk=>hk) trivial (Below.refl _ _) (Nat.le_refl _) (by simp) ?_;(case hd=>rfl);(case hg=>rfl);(case hr=>first|(go_simp;done)|(go_simp;rfl));(case hp=>exact (Reps.none _ _))
     intro v195 w151 ho152 hb hg_ hnew_
     clear hg_ hnew_
     (first|rw [← Ny194.out] at ho152|(simp only [Int.reduceToNat] at ho152;rw [← Ny194.out] at ho152))
     have n0_:=Aside0.mk (Kd.R_below (R_up HO178.out) hb)
     have n1_:=Aside0.mk (Kd.R_elder' (R_up HO185.out) (Kd.R_base ho152) hb)
     have n2_:=Aside0.mk (Kd.R_elder' (R_up HO191.out) (Kd.R_base ho152) hb)
     have n3_:=Aside0.mk (Kd.R_elder' (R_up HO202.out) (Kd.R_base ho152) hb)
     have n4_:=Aside0.mk (Kd.R_lower (Kd.R_new' (Kd.R_new' (Kd.R_new' ho152 (Kd.R_lt (R_up HO185.out))) (Kd.R_lt (R_up HO191.out))) (Kd.R_lt (R_up HO202.out))) (below_size (below_go HB.out)))
     have n5_:=Aside0.mk (blk_below (blk_up BK174.out) hb)
     have n6_:=Aside0.mk (blk_below (blk_up BK182.out) hb)
     have n7_:=Aside0.mk (below_step (below_go HB.out) hb)
     clear HO178
     clear HO185
     clear HO191
     clear HO202
     clear BK174
     clear BK182
     clear HB
     have HO178:=n0_
     have HO185:=n1_
     have HO191:=n2_
     have HO202:=n3_
     have HO196:=n4_
     have BK174:=n5_
     have BK182:=n6_
     have HB:=n7_
     clear n0_ n1_ n2_ n3_ n4_ n5_ n6_ n7_
     clear hb ho152
     refine hK.out _ _ ⟨(blk_cell BK182.out 0).trans rfl,(blk_cell BK182.out 1).trans rfl,(blk_cell BK182.out 2).trans rfl,(blk_cell BK182.out 3).trans rfl⟩ (fun hHeld=>?_)
     clear hK K
     refine norm_ (a':=?_) ?_ ?_
     rotate_left
     ·show Act.put _ (some 38) _=_
      simp only [Act.put,List.setIfInBounds_toArray,List.set_cons_zero,List.set_cons_succ,i64_w,i32_w]
      rfl
     refine one_ (i:=3) (N:=some 40) #[true,true,true,true,true,true,false,false,false] rfl rfl (one_of HT_.out (by kernel_rfl)) (by decide) (fun K hK=>?_)
     refine Kd.R_append_rows_step k34 (w0:=w) w.heap.size (by rfl) (.tmp 38) (.tmp 39) 26 34 (.agg #[(.int .i64 0),(.string ⟨#[]⟩)]) 24 rfl Try.underlying26 info34 rfl (by decide) (by omega) v195 y194 t183 _ _ _ (fun k_=>some k_≠(.slice Ao140 t183.length co140 : Value).ownBlock∧some k_≠(.slice (some ⟨go12,0,none⟩) y189.length co12 : Value).ownBlock∧some k_≠(v201 : Value).ownBlock) (fun _=>False) rfl rfl ?aO ?aR (fun _ _ h=>h) (fun _ h=>h.elim) ?aF ?aB ?aS ?aL ?_
     (case aR=>repeat (first|exact (Kd.R_reads' HO185.out).2.2|(with_reducible refine Kd.C_alloc ?_ _)|(with_reducible refine Kd.C_drewN ?_ _)|(with_reducible refine Kd.C_drew ?_)))
     (case aB=>exact (below_go HB.out))
     (case aF=>exact (fun k_ hk=>⟨Kd.fresh' (Kd.R_lt (R_up HO185.out)) k_ hk,Kd.fresh' (Kd.R_lt (R_up HO191.out)) k_ hk,Kd.fresh' (Kd.R_lt (R_up HO202.out)) k_ hk⟩))
     (case aO=>exact (by (with_reducible repeat (first|apply Kd.R_alloc|apply Kd.R_drewN|apply Kd.R_drew));exact Kd.R_mono HO196.out (fun _ hk=>⟨hk.1.1.2,⟨hk.1.2,hk.2⟩⟩)))
     (case aS=>exact (below_size (below_go HB.out)))
     (case aL=>have:=LMc14.out;omega)
     intro v198 w153 ho hb hg hat
     rw [← Ny197.out] at ho
     have n0_:=Aside0.mk (blk_grown (blk_up BK174.out) hg (Kd.R_ne HO196.out BK174.out (by decide)))
     have n1_:=Aside0.mk (Kd.R_over' (R_up HO178.out) (Kd.R_typed (R_up HO196.out)) (by decide) hg)
     have n2_:=Aside0.mk (blk_grown (blk_up BK182.out) hg (Kd.R_ne HO196.out BK182.out (by decide)))
     have n3_:=Aside0.mk (Kd.R_after (ok:=(fun k_=>some k_≠(.slice (some ⟨go12,0,none⟩) y189.length co12 : Value).ownBlock∧some k_≠(v201 : Value).ownBlock)) (by (with_reducible repeat (first|apply Kd.R_alloc|apply Kd.R_drewN|apply Kd.R_drew));exact Kd.R_mono HO185.out (fun _ hk=>⟨⟨hk.1.1.2,hk.1.2⟩,hk.2⟩)) hg hat)
     have n4_:=Aside0.mk (Kd.R_after (ok:=(fun k_=>some k_≠(.slice Ao140 t183.length co140 : Value).ownBlock∧some k_≠(v201 : Value).ownBlock)) (R_up HO191.out) hg hat)
     have n5_:=Aside0.mk (Kd.R_after (ok:=(fun k_=>some k_≠(.slice Ao140 t183.length co140 : Value).ownBlock∧some k_≠(.slice (some ⟨go12,0,none⟩) y189.length co12 : Value).ownBlock)) (by (with_reducible repeat (first|apply Kd.R_alloc|apply Kd.R_drewN|apply Kd.R_drew));exact Kd.R_mono HO202.out (fun _ hk=>⟨⟨hk.1.1.2,hk.1.2⟩,hk.2⟩)) hg hat)
     have n6_:=Aside0.mk (hb)
     have n7_:=Aside0.mk (ho)
     clear BK174
     clear HO178
     clear BK182
     clear HO185
     clear HO191
     clear HO202
     clear HB
     clear HO196
     have BK174:=n0_
     have HO178:=n1_
     have BK182:=n2_
     have HO185:=n3_
     have HO191:=n4_
     have HO202:=n5_
     have HB:=n6_
     have HO199:=n7_
     clear n0_ n1_ n2_ n3_ n4_ n5_ n6_ n7_
     clear ho hb hg hat
     refine hK.out _ _ ⟨(blk_cell BK182.out 0).trans rfl,(blk_cell BK182.out 1).trans rfl,(blk_cell BK182.out 2).trans rfl,(blk_cell BK182.out 3).trans rfl⟩ (fun hHeld=>?_)
     clear hK K
     refine norm_ (a':=?_) ?_ ?_
     rotate_left
     ·show Act.put _ (some 40) _=_
      simp only [Act.put,List.setIfInBounds_toArray,List.set_cons_zero,List.set_cons_succ,i64_w,i32_w]
      rfl
     exact norm_ (by simp only [putAll,Act.put,List.setIfInBounds_toArray,List.set_cons_zero,List.set_cons_succ]) (hCont (v195,v198,v201) _ ⟨hHeld,(R_up HO178.out),(by (with_reducible repeat (first|apply Kd.R_alloc|apply Kd.R_drewN|apply Kd.R_drew));exact Kd.R_mono HO185.out (fun _ hk=>⟨hk.1.1,⟨hk.2,hk.1.2⟩⟩)),(by (with_reducible repeat (first|apply Kd.R_alloc|apply Kd.R_drewN|apply Kd.R_drew));exact Kd.R_mono HO191.out (fun _ hk=>⟨hk.1.1,⟨hk.2,hk.1.2⟩⟩)),(R_up HO199.out),(by (with_reducible repeat (first|apply Kd.R_alloc|apply Kd.R_drewN|apply Kd.R_drew));exact Kd.R_mono HO202.out (fun _ hk=>⟨hk.1.1,⟨hk.1.2,hk.2⟩⟩)),(blk_up BK174.out),(blk_up BK182.out),(below_go HB.out)⟩)
   rintro ⟨v195,v198,v201⟩ w154 ⟨hS_,h0_,h1_,h2_,h3_,h4_,h5_,h6_,h7_⟩
   have n0_ : Aside0 (Kd.R (Kd.int .i64) 3 w154 w.heap.size (fun _=>True) (.slice Ao136 t176.length co136) t176):=⟨h0_⟩
   have n1_ : Aside0 (Kd.R k34 34 w154 w.heap.size (fun k_=>some k_≠(.slice (some ⟨go12,0,none⟩) y189.length co12 : Value).ownBlock∧some k_≠(v198 : Value).ownBlock∧some k_≠(v201 : Value).ownBlock) (.slice Ao140 t183.length co140) t183):=⟨h1_⟩
   have n2_ : Aside0 (Kd.R k34 34 w154 w.heap.size (fun k_=>some k_≠(.slice Ao140 t183.length co140 : Value).ownBlock∧some k_≠(v198 : Value).ownBlock∧some k_≠(v201 : Value).ownBlock) (.slice (some ⟨go12,0,none⟩) y189.length co12) y192):=⟨h2_⟩
   have n3_ : Aside0 (Kd.R k34 34 w154 w.heap.size (fun k_=>some k_≠(.slice Ao140 t183.length co140 : Value).ownBlock∧some k_≠(.slice (some ⟨go12,0,none⟩) y189.length co12 : Value).ownBlock∧some k_≠(v201 : Value).ownBlock) v198 y197):=⟨h3_⟩
   have n4_ : Aside0 (Kd.R k34 34 w154 w.heap.size (fun k_=>some k_≠(.slice Ao140 t183.length co140 : Value).ownBlock∧some k_≠(.slice (some ⟨go12,0,none⟩) y189.length co12 : Value).ownBlock∧some k_≠(v198 : Value).ownBlock) v201 y200):=⟨h4_⟩
   have n5_ : Aside0 (w154.heap[gb174]?=some (.cells #[.int .u8 a0_0,.int .u8 a0_1,.int .u8 a0_2,.int .u8 a0_3,.int .u8 a0_4,.int .u8 a0_5,.int .u8 a0_6,.int .u8 a0_7,.int .u8 a0_8,.int .u8 a0_9,.int .u8 a0_10,.int .u8 a0_11] 24 (0,0))):=⟨h5_⟩
   have n6_ : Aside0 (w154.heap[gb182]?=some (.cells #[.slice Ao136 t176.length co136,.int .i64 t179,.int .i64 t180,.int .i64 t181] 30 (0,0))):=⟨h6_⟩
   have n7_ : Aside0 (Below w.heap.size w w154):=⟨h7_⟩
   clear HO178
   clear HO185
   clear HO191
   clear BK174
   clear BK182
   clear HB
   clear h0_ h1_ h2_ h3_ h4_ h5_ h6_ h7_
   have HO178:=n0_
   have HO185:=n1_
   have HO191:=n2_
   have HO199:=n3_
   have HO202:=n4_
   have BK174:=n5_
   have BK182:=n6_
   have HB:=n7_
   clear n0_ n1_ n2_ n3_ n4_ n5_ n6_ n7_
   have hHeld : w154.cell? ⟨gb182,0,none⟩=some (.slice Ao136 t176.length co136)∧w154.cell? ⟨gb182,1,none⟩=some (.int .i64 t179)∧w154.cell? ⟨gb182,2,none⟩=some (.int .i64 t180)∧w154.cell? ⟨gb182,3,none⟩=some (.int .i64 t181):=hS_
   obtain ⟨Ao156,co156,eo156⟩:=Kd.R_slice HO202.out
   (first|subst eo156|(injection eo156 with f1_ f2_ f3_;have f4_:=f1_.symm;have f5_:=f3_.symm;clear f1_ f2_ f3_;subst f4_;subst f5_))
   refine norm_ (a':=?_) ?_ ?_
   rotate_left
   ·simp only [putAll,Act.put,List.setIfInBounds_toArray,List.set_cons_zero,List.set_cons_succ]
    rfl
   refine one_ (i:=6) (N:=some 43) #[true,true,true,true,true,true,true,false,false] rfl rfl (one_of HT_.out (by kernel_rfl)) (by decide) (fun K hK=>?_)
   refine Kd.R_append_rows_step k34 (w0:=w) w.heap.size (by rfl) (.tmp 40) (.tmp 42) 26 34 (.agg #[(.int .i64 0),(.string ⟨#[]⟩)]) 24 rfl Try.underlying26 info34 rfl (by decide) (by omega) v198 y197 y200 _ _ _ (fun k_=>some k_≠(.slice Ao140 t183.length co140 : Value).ownBlock∧some k_≠(.slice (some ⟨go12,0,none⟩) y189.length co12 : Value).ownBlock∧some k_≠(.slice Ao156 y200.length co156 : Value).ownBlock) (fun _=>False) rfl rfl ?aO ?aR (fun _ _ h=>h) (fun _ h=>h.elim) ?aF ?aB ?aS ?aL ?_
   (case aR=>repeat (first|exact (Kd.R_reads' HO202.out).2.2|(with_reducible refine Kd.C_alloc ?_ _)|(with_reducible refine Kd.C_drewN ?_ _)|(with_reducible refine Kd.C_drew ?_)))
   (case aB=>exact (below_go HB.out))
   (case aF=>exact (fun k_ hk=>⟨Kd.fresh' (Kd.R_lt (R_up HO185.out)) k_ hk,Kd.fresh' (Kd.R_lt (R_up HO191.out)) k_ hk,Kd.fresh' (Kd.R_lt (R_up HO202.out)) k_ hk⟩))
   (case aO=>exact (R_up HO199.out))
   (case aS=>exact (below_size (below_go HB.out)))
   (case aL=>have:=LMc15.out;omega)
   intro v204 w155 ho hb hg hat
   rw [← Ny203.out] at ho
   have n0_:=Aside0.mk (blk_grown (blk_up BK174.out) hg (Kd.R_ne HO199.out BK174.out (by decide)))
   have n1_:=Aside0.mk (Kd.R_over' (R_up HO178.out) (Kd.R_typed (R_up HO199.out)) (by decide) hg)
   have n2_:=Aside0.mk (blk_grown (blk_up BK182.out) hg (Kd.R_ne HO199.out BK182.out (by decide)))
   have n3_:=Aside0.mk (Kd.R_after (ok:=(fun k_=>some k_≠(.slice (some ⟨go12,0,none⟩) y189.length co12 : Value).ownBlock∧some k_≠(.slice Ao156 y200.length co156 : Value).ownBlock)) (by (with_reducible repeat (first|apply Kd.R_alloc|apply Kd.R_drewN|apply Kd.R_drew));exact Kd.R_mono HO185.out (fun _ hk=>⟨⟨hk.1,hk.2.2⟩,hk.2.1⟩)) hg hat)
   have n4_:=Aside0.mk (Kd.R_after (ok:=(fun k_=>some k_≠(.slice Ao140 t183.length co140 : Value).ownBlock∧some k_≠(.slice Ao156 y200.length co156 : Value).ownBlock)) (by (with_reducible repeat (first|apply Kd.R_alloc|apply Kd.R_drewN|apply Kd.R_drew));exact Kd.R_mono HO191.out (fun _ hk=>⟨⟨hk.1,hk.2.2⟩,hk.2.1⟩)) hg hat)
   have n5_:=Aside0.mk (Kd.R_after (ok:=(fun k_=>some k_≠(.slice Ao140 t183.length co140 : Value).ownBlock∧some k_≠(.slice (some ⟨go12,0,none⟩) y189.length co12 : Value).ownBlock)) (by (with_reducible repeat (first|apply Kd.R_alloc|apply Kd.R_drewN|apply Kd.R_drew));exact Kd.R_mono HO202.out (fun _ hk=>⟨⟨hk.1,hk.2.1⟩,hk.2.2⟩)) hg hat)
   have n6_:=Aside0.mk (hb)
   have n7_:=Aside0.mk (ho)
   clear BK174
   clear HO178
   clear BK182
   clear HO185
   clear HO191
   clear HO202
   clear HB
   clear HO199
   have BK174:=n0_
   have HO178:=n1_
   have BK182:=n2_
   have HO185:=n3_
   have HO191:=n4_
   have HO202:=n5_
   have HB:=n6_
   have HO205:=n7_
   clear n0_ n1_ n2_ n3_ n4_ n5_ n6_ n7_
   clear ho hb hg hat
   obtain ⟨Ao157,co157,eo157⟩:=Kd.R_slice HO205.out
   (first|subst eo157|(injection eo157 with f1_ f2_ f3_;have f4_:=f1_.symm;have f5_:=f3_.symm;clear f1_ f2_ f3_;subst f4_;subst f5_))
   refine hK.out _ _ ⟨(blk_cell BK182.out 0).trans rfl,(blk_cell BK182.out 1).trans rfl,(blk_cell BK182.out 2).trans rfl,(blk_cell BK182.out 3).trans rfl⟩ (fun hHeld=>?_)
   clear hK K
   refine norm_ (a':=?_) ?_ ?_
   rotate_left
   ·show Act.put _ (some 43) _=_
    simp only [Act.put,List.setIfInBounds_toArray,List.set_cons_zero,List.set_cons_succ,i64_w,i32_w]
    rfl
   refine one_ (i:=7) (N:=some 44) #[true,true,true,true,true,true,true,true,false] rfl rfl (one_of HT_.out (by kernel_rfl)) (by decide) (fun K hK=>?_)
   refine goes_ Try.func12 (by kernel_rfl) rfl #[.agg #[.slice Ao136 t176.length co136,.int .i64 t179,.int .i64 t180,.int .i64 t181],.slice Ao157 y203.length co157] (by rfl) rfl rfl (by (try simp only [List.map_toArray,List.map_cons,List.map_nil]);first|done|rfl|(simp only [List.length_drop,List.length_take];rfl)) ?_
   with_reducible refine (schema_Row.calls _ _ t176 t179 t180 t181 _ _ y203 false _ ?side1 ?side2 ?side3 ?side4 A16.out).mono ?_
   (case side1=>repeat (first|exact (Kd.R_reads' HO178.out).2.2|(with_reducible refine Kd.C_alloc ?_ _)|(with_reducible refine Kd.C_drewN ?_ _)|(with_reducible refine Kd.C_drew ?_)))
   (case side2=>exact (Kd.R_reads' HO178.out).2.1)
   (case side3=>repeat (first|exact (Kd.R_reads' HO205.out).2.2|(with_reducible refine Kd.C_alloc ?_ _)|(with_reducible refine Kd.C_drewN ?_ _)|(with_reducible refine Kd.C_drew ?_)))
   (case side4=>exact (Kd.R_reads' HO205.out).2.1)
   rintro e w158 ⟨rfl,hb⟩
   refine ⟨_,rfl,?_⟩
   have n0_:=Aside0.mk (Kd.R_below (R_up HO178.out) hb)
   have n1_:=Aside0.mk (Kd.R_below (R_up HO185.out) hb)
   have n2_:=Aside0.mk (Kd.R_below (R_up HO191.out) hb)
   have n3_:=Aside0.mk (Kd.R_below (R_up HO202.out) hb)
   have n4_:=Aside0.mk (Kd.R_below (R_up HO205.out) hb)
   have n5_:=Aside0.mk (blk_below (blk_up BK174.out) hb)
   have n6_:=Aside0.mk (blk_below (blk_up BK182.out) hb)
   have n7_:=Aside0.mk (below_step (below_go HB.out) hb)
   clear HO178
   clear HO185
   clear HO191
   clear HO202
   clear HO205
   clear BK174
   clear BK182
   clear HB
   have HO178:=n0_
   have HO185:=n1_
   have HO191:=n2_
   have HO202:=n3_
   have HO205:=n4_
   have BK174:=n5_
   have BK182:=n6_
   have HB:=n7_
   clear n0_ n1_ n2_ n3_ n4_ n5_ n6_ n7_
   (try clear hb)
   (try clear hb2)
   (try clear hk)
   (try clear hi)
   refine hK.out _ _ ⟨(blk_cell BK182.out 0).trans rfl,(blk_cell BK182.out 1).trans rfl,(blk_cell BK182.out 2).trans rfl,(blk_cell BK182.out 3).trans rfl⟩ (fun hHeld=>?_)
   clear hK K
   refine norm_ (a':=?_) ?_ ?_
   rotate_left
   ·show Act.put _ (some 44) _=_
    simp only [Act.put,List.setIfInBounds_toArray,List.set_cons_zero,List.set_cons_succ,i64_w,i32_w]
    rfl
   refine pure_ (i:=8) (N:=some 13) (v:=?_) (a':=?_) #[true,true,true,true,true,true,true,true,true] rfl rfl (any_of HT_.out (by kernel_rfl)) (fun _ _ _ h=>h) (Or.inl ⟨by rfl,?_⟩) ?_ ?_
   rotate_left;(intro w';go_simp;with_reducible rfl);rotate_left;(simp only [Act.put,List.setIfInBounds_toArray,List.set_cons_zero,List.set_cons_succ,i64_w,i32_w];rfl)
   refine done_ (done_of HT_.out (by kernel_rfl)) ?_
   (try clear hHeld)
   try go_wp2
   have n0_:=Aside0.mk (Kd.R_drew HO178.out)
   have n1_:=Aside0.mk (Kd.R_drew HO185.out)
   have n2_:=Aside0.mk (Kd.R_drew HO191.out)
   have n3_:=Aside0.mk (Kd.R_drew HO202.out)
   have n4_:=Aside0.mk (Kd.R_drew HO205.out)
   have n5_:=Aside0.mk (blk_drew BK174.out)
   have n6_:=Aside0.mk (blk_drew BK182.out)
   have n7_:=Aside0.mk (below_drew1 HB.out)
   clear HO178
   clear HO185
   clear HO191
   clear HO202
   clear HO205
   clear BK174
   clear BK182
   clear HB
   have HO178:=n0_
   have HO185:=n1_
   have HO191:=n2_
   have HO202:=n3_
   have HO205:=n4_
   have BK174:=n5_
   have BK182:=n6_
   have HB:=n7_
   clear n0_ n1_ n2_ n3_ n4_ n5_ n6_ n7_
   have q160 : ((ji17) : Int)≤((t183.length : Int) : Int):=of_decide_eq_true (by first|(with_reducible assumption)|assumption)
   obtain ⟨i0160,hi0160,_,hsz160,_⟩:=info_parts info34
   have hroom160 : t183.length≤co140:=(Kd.R_reads' HO185.out).2.1
   have hC160 : Kd.F k34 _ _ Ao140 t183.length t183:=(Kd.V_at (base:=w.heap.size) (Kd.R_V (Kd.R_types (Kd.R_types (Kd.R_apart' (HO185.out) (Kd.R_typed HO178.out) (by decide)) BK174.out (by decide)) BK182.out (by decide)))).2.2
   have hcut160:=cut_to (P:=Try.prog) 26 34 .i64 Try.underlying26 hi0160 Ao140 t183.length co140 (ji17) (of_decide_eq_true (by first|(with_reducible assumption)|assumption)) q160 hroom160
   have hr160:=Kd.F_take (m:=((ji17) : Int).toNat) hC160 (by omega)
   have hy160 : y207.length=((ji17) : Int).toNat:=(by rw [Ny207.out,List.length_take];omega)
   rw [← Ny207.out] at hr160
   rw [← hy160] at hcut160
   have HO211:=Aside0.mk (show Kd.V k34 34 _ w.heap.size _ (.slice Ao140 y207.length co140) y207 from Kd.V_mk (by omega) hr160)
   have HC211:=Aside0.mk (show y207.length≤co140 from by omega)
   clear hr160 hC160 hroom160 hi0160 hsz160
   have KY160:=Aside0.mk hy160
   clear hy160
   replace q160:=eq_true q160
   refine start_ (n:=8) (S:=fun w'=>w'.cell? ⟨gb182,0,none⟩=some (.slice Ao136 t176.length co136)∧w'.cell? ⟨gb182,1,none⟩=some (.int .i64 t179)∧w'.cell? ⟨gb182,2,none⟩=some (.int .i64 t180)∧w'.cell? ⟨gb182,3,none⟩=some (.int .i64 t181)) (ds:=[]) #[false,false,false,false,false,false,false,false] (by kernel_rfl) rfl rfl ⟨(blk_cell BK182.out 0).trans rfl,(blk_cell BK182.out 1).trans rfl,(blk_cell BK182.out 2).trans rfl,(blk_cell BK182.out 3).trans rfl⟩ (fun hHeld=>?_);refine with_tabW thresherlaw04_SchemaRows.tab9 thresherlaw04_SchemaRows.bits9 (fun HT_ HW_=>?_)
   generalize w158.drew=w159 at HO178 HO185 HO191 HO202 HO205 BK174 BK182 HB HO211 hHeld ⊢
   refine pure_ (i:=1) (N:=some 46) (v:=?_) (a':=?_) #[false,true,false,false,false,false,false,false] rfl rfl (any_of HT_.out (by kernel_rfl)) (fun _ _ _ h=>h) (Or.inl ⟨by rfl,?_⟩) ?_ ?_
   rotate_left;(intro w';go_simp;with_reducible rfl);rotate_left;(simp only [Act.put,List.setIfInBounds_toArray,List.set_cons_zero,List.set_cons_succ,i64_w,i32_w];rfl)
   refine pure_ (i:=2) (N:=some 47) (v:=?_) (a':=?_) #[false,true,true,false,false,false,false,false] rfl rfl (any_of HT_.out (by kernel_rfl)) (fun _ _ _ h=>h) (Or.inl ⟨by rfl,?_⟩) ?_ ?_
   rotate_left;(intro w';go_simp;with_reducible rfl);rotate_left;(simp only [Act.put,List.setIfInBounds_toArray,List.set_cons_zero,List.set_cons_succ,i64_w,i32_w];rfl)
   refine pure_ (i:=3) (N:=some 48) (v:=?_) (a':=?_) #[false,true,true,true,false,false,false,false] rfl rfl (any_of HT_.out (by kernel_rfl)) (fun _ _ _ h=>h) (Or.inl ⟨by rfl,?_⟩) ?_ ?_
   rotate_left;(intro w';go_simp;with_reducible rfl);rotate_left;(simp only [Act.put,List.setIfInBounds_toArray,List.set_cons_zero,List.set_cons_succ,i64_w,i32_w];rfl)
   refine pure_ (i:=4) (N:=some 49) (v:=?_) (a':=?_) #[false,true,true,true,true,false,false,false] rfl rfl (any_of HT_.out (by kernel_rfl)) (fun _ _ _ h=>h) (Or.inl ⟨by rfl,?_⟩) ?_ ?_
   rotate_left;(intro w';go_simp;with_reducible rfl);rotate_left;(simp only [Act.put,List.setIfInBounds_toArray,List.set_cons_zero,List.set_cons_succ,i64_w,i32_w];rfl)
   refine pure_ (i:=5) (N:=some 50) (v:=?_) (a':=?_) #[false,true,true,true,true,true,false,false] rfl rfl (any_of HT_.out (by kernel_rfl)) (fun _ _ _ h=>h) (Or.inl ⟨by rfl,?_⟩) ?_ ?_
   rotate_left;(intro w';go_simp;with_reducible rfl);rotate_left;(simp only [Act.put,List.setIfInBounds_toArray,List.set_cons_zero,List.set_cons_succ,i64_w,i32_w];rfl)
   refine take_ (i:=0) (N:=some 45) (v:=?_) (a':=?_) #[true,true,true,true,true,true,false,false] rfl rfl (take_ofW HT_.out HW_.out (by kernel_rfl)) (fun _ _ _ h=>h) (Or.inl ⟨by rfl,?_⟩) hHeld ?_ ?_
   rotate_left;(rintro w' ⟨s0,s1,s2,s3⟩;go_simp;with_reducible rfl);rotate_left;(simp only [Act.put,List.setIfInBounds_toArray,List.set_cons_zero,List.set_cons_succ,i64_w,i32_w];rfl)
   refine one_ (i:=6) (N:=some 51) #[true,true,true,true,true,true,true,false] rfl rfl (one_of HT_.out (by kernel_rfl)) (by decide) (fun K hK=>?_)
   refine goes_ Try.func12 (by kernel_rfl) rfl #[.agg #[.slice Ao136 t176.length co136,.int .i64 t179,.int .i64 t180,.int .i64 t181],.slice Ao140 y207.length co140] (by rfl) rfl rfl (by (try simp only [List.map_toArray,List.map_cons,List.map_nil]);first|done|rfl|(simp only [List.length_drop,List.length_take];rfl)) ?_
   with_reducible refine (schema_Row.calls _ _ t176 t179 t180 t181 _ _ y207 false _ ?side1 ?side2 ?side3 ?side4 A20.out).mono ?_
   (case side1=>repeat (first|exact (Kd.R_reads' HO178.out).2.2|(with_reducible refine Kd.C_alloc ?_ _)|(with_reducible refine Kd.C_drewN ?_ _)|(with_reducible refine Kd.C_drew ?_)))
   (case side2=>exact (Kd.R_reads' HO178.out).2.1)
   (case side3=>repeat (first|exact (Kd.V_reads' HO211.out).2.2|(with_reducible refine Kd.C_alloc ?_ _)|(with_reducible refine Kd.C_drewN ?_ _)|(with_reducible refine Kd.C_drew ?_)))
   (case side4=>exact (Kd.V_reads' HO211.out).2.1)
   rintro e w161 ⟨rfl,hb⟩
   refine ⟨_,rfl,?_⟩
   have n0_:=Aside0.mk (Kd.R_below (R_up HO178.out) hb)
   have n1_:=Aside0.mk (Kd.R_below (R_up HO185.out) hb)
   have n2_:=Aside0.mk (Kd.R_below (R_up HO191.out) hb)
   have n3_:=Aside0.mk (Kd.R_below (R_up HO202.out) hb)
   have n4_:=Aside0.mk (Kd.R_below (R_up HO205.out) hb)
   have n5_:=Aside0.mk (Kd.V_below (V_up HO211.out) hb)
   have n6_:=Aside0.mk (blk_below (blk_up BK174.out) hb)
   have n7_:=Aside0.mk (blk_below (blk_up BK182.out) hb)
   have n8_:=Aside0.mk (below_step (below_go HB.out) hb)
   clear HO178
   clear HO185
   clear HO191
   clear HO202
   clear HO205
   clear HO211
   clear BK174
   clear BK182
   clear HB
   have HO178:=n0_
   have HO185:=n1_
   have HO191:=n2_
   have HO202:=n3_
   have HO205:=n4_
   have HO211:=n5_
   have BK174:=n6_
   have BK182:=n7_
   have HB:=n8_
   clear n0_ n1_ n2_ n3_ n4_ n5_ n6_ n7_ n8_
   (try clear hb)
   (try clear hb2)
   (try clear hk)
   (try clear hi)
   refine hK.out _ _ ⟨(blk_cell BK182.out 0).trans rfl,(blk_cell BK182.out 1).trans rfl,(blk_cell BK182.out 2).trans rfl,(blk_cell BK182.out 3).trans rfl⟩ (fun hHeld=>?_)
   clear hK K
   refine norm_ (a':=?_) ?_ ?_
   rotate_left
   ·show Act.put _ (some 51) _=_
    simp only [Act.put,List.setIfInBounds_toArray,List.set_cons_zero,List.set_cons_succ,i64_w,i32_w]
    rfl
   refine pure_ (i:=7) (N:=some 14) (v:=?_) (a':=?_) #[true,true,true,true,true,true,true,true] rfl rfl (any_of HT_.out (by kernel_rfl)) (fun _ _ _ h=>h) (Or.inl ⟨by rfl,?_⟩) ?_ ?_
   rotate_left;(intro w';go_simp;with_reducible rfl);rotate_left;(simp only [Act.put,List.setIfInBounds_toArray,List.set_cons_zero,List.set_cons_succ,i64_w,i32_w];rfl)
   refine done_ (done_of HT_.out (by kernel_rfl)) ?_
   (try clear hHeld)
   have hcz162_0 : w161.cell? ⟨gb182,0,none⟩=some (.slice Ao136 t176.length co136):=(blk_cell BK182.out 0).trans rfl
   have hcz162_1 : w161.cell? ⟨gb182,1,none⟩=some (.int .i64 t179):=(blk_cell BK182.out 1).trans rfl
   have hcz162_2 : w161.cell? ⟨gb182,2,none⟩=some (.int .i64 t180):=(blk_cell BK182.out 2).trans rfl
   have hcz162_3 : w161.cell? ⟨gb182,3,none⟩=some (.int .i64 t181):=(blk_cell BK182.out 3).trans rfl
   have hfz162_0:=blk_frozen BK182.out 0
   have hfz162_1:=blk_frozen BK182.out 1
   have hfz162_2:=blk_frozen BK182.out 2
   have hfz162_3:=blk_frozen BK182.out 3
   try go_wp2_with (first|((with_reducible refine gate_callee (f:=12) rfl ?_);refine goesL_ (some 54) rfl rfl Try.func12 (by kernel_rfl) rfl #[.agg #[.slice Ao136 t176.length co136,.int .i64 t179,.int .i64 t180,.int .i64 t181],.slice (some ⟨go12,0,none⟩) y192.length co12] rfl (by (try simp only [List.map_toArray,List.map_cons,List.map_nil]);first|done|(rw [show y192.length=y189.length from (Kd.R_reads' HO191.out).1.symm] <;> rfl)|rfl|(simp only [List.length_drop,List.length_take];rfl)) ?_;(with_reducible refine (schema_Row.calls _ _ t176 t179 t180 t181 _ _ y192 false _ ?side1 ?side2 ?side3 ?side4 A21.out).mono ?_);(case side1=>repeat (first|exact (Kd.R_reads' HO178.out).2.2|(with_reducible refine Kd.C_alloc ?_ _)|(with_reducible refine Kd.C_drewN ?_ _)|(with_reducible refine Kd.C_drew ?_)));(case side2=>exact (Kd.R_reads' HO178.out).2.1);(case side3=>repeat (first|exact (Kd.R_reads' HO191.out).2.2|(with_reducible refine Kd.C_alloc ?_ _)|(with_reducible refine Kd.C_drewN ?_ _)|(with_reducible refine Kd.C_drew ?_)));(case side4=>rw [show y192.length=y189.length from (Kd.R_reads' HO191.out).1.symm];exact (Kd.R_reads' HO191.out).2.1);rintro e w163 ⟨rfl,hb⟩;refine ⟨_,rfl,?_⟩;have n0_:=Aside0.mk (Kd.R_below (R_up HO178.out) hb);have n1_:=Aside0.mk (Kd.R_below (R_up HO185.out) hb);have n2_:=Aside0.mk (Kd.R_below (R_up HO191.out) hb);have n3_:=Aside0.mk (Kd.R_below (R_up HO202.out) hb);have n4_:=Aside0.mk (Kd.R_below (R_up HO205.out) hb);have n5_:=Aside0.mk (Kd.V_below (V_up HO211.out) hb);have n6_:=Aside0.mk (blk_below (blk_up BK174.out) hb);have n7_:=Aside0.mk (blk_below (blk_up BK182.out) hb);have n8_:=Aside0.mk (below_step (below_go HB.out) hb);clear HO178;clear HO185;clear HO191;clear HO202;clear HO205;clear HO211;clear BK174;clear BK182;clear HB;have HO178:=n0_;have HO185:=n1_;have HO191:=n2_;have HO202:=n3_;have HO205:=n4_;have HO211:=n5_;have BK174:=n6_;have BK182:=n7_;have HB:=n8_;clear n0_ n1_ n2_ n3_ n4_ n5_ n6_ n7_ n8_;(try clear hb);(try clear hb2);(try clear hk);(try clear hi);have hcz164_0 : w163.cell? ⟨gb182,0,none⟩=some (.slice Ao136 t176.length co136):=(blk_cell BK182.out 0).trans rfl;have hcz164_1 : w163.cell? ⟨gb182,1,none⟩=some (.int .i64 t179):=(blk_cell BK182.out 1).trans rfl;have hcz164_2 : w163.cell? ⟨gb182,2,none⟩=some (.int .i64 t180):=(blk_cell BK182.out 2).trans rfl;have hcz164_3 : w163.cell? ⟨gb182,3,none⟩=some (.int .i64 t181):=(blk_cell BK182.out 3).trans rfl;have hfz164_0:=blk_frozen BK182.out 0;have hfz164_1:=blk_frozen BK182.out 1;have hfz164_2:=blk_frozen BK182.out 2;have hfz164_3:=blk_frozen BK182.out 3)|((with_reducible refine gate_dst (N:=75) rfl ?_);(try (refine gate_guard (by rfl) ?_;dsimp only));refine Kd.N_lit (Kd.slice 34 k34) _ 26 ?hg (N':=75) ?hd (xs:=([t183,y192] : List (List (S34)))) (inner:=[.slice Ao140 t183.length co140,.slice (some ⟨go12,0,none⟩) y189.length co12]) (ok:=(fun k_=>some k_≠(.slice Ao136 t176.length co136 : Value).ownBlock∧some k_≠(.slice Ao156 y200.length co156 : Value).ownBlock∧some k_≠(.slice Ao157 y203.length co157 : Value).ownBlock∧k_≠gb174∧k_≠gb182)) (okp:=(fun k_=>some k_≠(.slice Ao136 t176.length co136 : Value).ownBlock∧some k_≠(.slice Ao156 y200.length co156 : Value).ownBlock∧some k_≠(.slice Ao157 y203.length co157 : Value).ownBlock∧k_≠gb174∧k_≠gb182)) ?hr ?hp (fun _ hk=>hk) ((show ∀ k_,w163.heap.size≤k_→(fun k_=>some k_≠(.slice Ao136 t176.length co136 : Value).ownBlock∧some k_≠(.slice Ao156 y200.length co156 : Value).ownBlock∧some k_≠(.slice Ao157 y203.length co157 : Value).ownBlock∧k_≠gb174∧k_≠gb182) k_ from fun k_ hk=>⟨Kd.fresh' (Kd.R_lt (R_up HO178.out)) k_ hk,Kd.fresh' (Kd.R_lt (R_up HO202.out)) k_ hk,Kd.fresh' (Kd.R_lt (R_up HO205.out)) k_ hk,Kd.freshB (blk_up BK174.out) k_ hk,Kd.freshB (blk_up BK182.out) k_ hk⟩) _ (Nat.le_refl _)) (Below.refl _ _) (Nat.le_refl _) (by simp) ?_;(case hd=>rfl);(case hg=>rfl);(case hr=>first|(go_simp;done)|(go_simp;rfl));(case hp=>exact (Reps.one (show Kd.FK (Kd.slice 34 k34) _ _ t183 [.slice Ao140 t183.length co140] from (Kd.FK_slice_mk (Kd.R_reads' (Kd.R_mono (ok':=(fun k_=>some k_≠(.slice Ao136 t176.length co136 : Value).ownBlock∧some k_≠(.slice Ao156 y200.length co156 : Value).ownBlock∧some k_≠(.slice Ao157 y203.length co157 : Value).ownBlock∧k_≠gb174∧k_≠gb182)) (Kd.R_types (Kd.R_types (Kd.R_apart' (HO185.out) (Kd.R_typed HO178.out) (by decide)) BK174.out (by decide)) BK182.out (by decide)) (fun k_ hk=>⟨hk.1.1.2,⟨hk.1.1.1.1.2,⟨hk.1.1.1.2,⟨hk.1.2,hk.2⟩⟩⟩⟩))).2.1 (Kd.R_F (Kd.R_mono (ok':=(fun k_=>some k_≠(.slice Ao136 t176.length co136 : Value).ownBlock∧some k_≠(.slice Ao156 y200.length co156 : Value).ownBlock∧some k_≠(.slice Ao157 y203.length co157 : Value).ownBlock∧k_≠gb174∧k_≠gb182)) (Kd.R_types (Kd.R_types (Kd.R_apart' (HO185.out) (Kd.R_typed HO178.out) (by decide)) BK174.out (by decide)) BK182.out (by decide)) (fun k_ hk=>⟨hk.1.1.2,⟨hk.1.1.1.1.2,⟨hk.1.1.1.2,⟨hk.1.2,hk.2⟩⟩⟩⟩))))) (Reps.one (show Kd.FK (Kd.slice 34 k34) _ _ y192 [.slice (some ⟨go12,0,none⟩) y189.length co12] from (by have h_:=HO191.out;have e_:=(Kd.R_reads' h_).1;rw [e_] at h_ ⊢;exact (Kd.FK_slice_mk (Kd.R_reads' (Kd.R_mono (ok':=(fun k_=>some k_≠(.slice Ao136 t176.length co136 : Value).ownBlock∧some k_≠(.slice Ao156 y200.length co156 : Value).ownBlock∧some k_≠(.slice Ao157 y203.length co157 : Value).ownBlock∧k_≠gb174∧k_≠gb182)) (Kd.R_types (Kd.R_types (Kd.R_apart' (h_) (Kd.R_typed HO178.out) (by decide)) BK174.out (by decide)) BK182.out (by decide)) (fun k_ hk=>⟨hk.1.1.2,⟨hk.1.1.1.1.2,⟨hk.1.1.1.2,⟨hk.1.2,hk.2⟩⟩⟩⟩))).2.1 (Kd.R_F (Kd.R_mono (ok':=(fun k_=>some k_≠(.slice Ao136 t176.length co136 : Value).ownBlock∧some k_≠(.slice Ao156 y200.length co156 : Value).ownBlock∧some k_≠(.slice Ao157 y203.length co157 : Value).ownBlock∧k_≠gb174∧k_≠gb182)) (Kd.R_types (Kd.R_types (Kd.R_apart' (h_) (Kd.R_typed HO178.out) (by decide)) BK174.out (by decide)) BK182.out (by decide)) (fun k_ hk=>⟨hk.1.1.2,⟨hk.1.1.1.1.2,⟨hk.1.1.1.2,⟨hk.1.2,hk.2⟩⟩⟩⟩)))))) (Reps.none _ _))));intro v215 w165 ho166 hb hg_ hnew_;clear hg_ hnew_;(first|rw [← Ny214.out] at ho166|(simp only [Int.reduceToNat] at ho166;rw [← Ny214.out] at ho166));have n0_:=Aside0.mk (Kd.R_below (R_up HO178.out) hb);have n1_:=Aside0.mk (Kd.R_below (R_up HO185.out) hb);have n2_:=Aside0.mk (Kd.R_below (R_up HO191.out) hb);have n3_:=Aside0.mk (Kd.R_below (R_up HO202.out) hb);have n4_:=Aside0.mk (Kd.R_below (R_up HO205.out) hb);have n5_:=Aside0.mk (Kd.V_elder' (V_up HO211.out) (Kd.N_base ho166) hb);have n6_:=Aside0.mk (Kd.N_lower ho166 (below_size (below_go HB.out)));have n7_:=Aside0.mk (blk_below (blk_up BK174.out) hb);have n8_:=Aside0.mk (blk_below (blk_up BK182.out) hb);have n9_:=Aside0.mk (below_step (below_go HB.out) hb);clear HO178;clear HO185;clear HO191;clear HO202;clear HO205;clear HO211;clear BK174;clear BK182;clear HB;have HO178:=n0_;have HO185:=n1_;have HO191:=n2_;have HO202:=n3_;have HO205:=n4_;have HO211:=n5_;have HO216:=n6_;have BK174:=n7_;have BK182:=n8_;have HB:=n9_;clear n0_ n1_ n2_ n3_ n4_ n5_ n6_ n7_ n8_ n9_;clear hb ho166;obtain ⟨Ao167,co167,eo167⟩:=Kd.N_slice HO216.out;subst eo167)|(go_at_call 13;(with_reducible refine (schema_Batch.calls _ _ t176 t179 t180 t181 _ _ y214 t217 _ ?side1 ?side2 ?side3 ?side4 A126.out).mono ?_);(case side1=>repeat (first|exact (Kd.R_reads' HO178.out).2.2|(with_reducible refine Kd.C_alloc ?_ _)|(with_reducible refine Kd.C_drewN ?_ _)|(with_reducible refine Kd.C_drew ?_)));(case side2=>exact (Kd.R_reads' HO178.out).2.1);(case side3=>repeat (first|exact (Kd.N_reads' HO216.out).2.2|(with_reducible refine Kd.C_alloc ?_ _)|(with_reducible refine Kd.C_drewN ?_ _)|(with_reducible refine Kd.C_drew ?_)));(case side4=>exact (Kd.N_reads' HO216.out).2.1);rintro e w168 ⟨rfl,hb⟩;have n0_:=Aside0.mk (Kd.R_below (R_up HO178.out) hb);have n1_:=Aside0.mk (Kd.R_below (R_up HO185.out) hb);have n2_:=Aside0.mk (Kd.R_below (R_up HO191.out) hb);have n3_:=Aside0.mk (Kd.R_below (R_up HO202.out) hb);have n4_:=Aside0.mk (Kd.R_below (R_up HO205.out) hb);have n5_:=Aside0.mk (Kd.V_below (V_up HO211.out) hb);have n6_:=Aside0.mk (Kd.N_below (N_up HO216.out) hb);have n7_:=Aside0.mk (blk_below (blk_up BK174.out) hb);have n8_:=Aside0.mk (blk_below (blk_up BK182.out) hb);have n9_:=Aside0.mk (below_step (below_go HB.out) hb);clear HO178;clear HO185;clear HO191;clear HO202;clear HO205;clear HO211;clear HO216;clear BK174;clear BK182;clear HB;have HO178:=n0_;have HO185:=n1_;have HO191:=n2_;have HO202:=n3_;have HO205:=n4_;have HO211:=n5_;have HO216:=n6_;have BK174:=n7_;have BK182:=n8_;have HB:=n9_;clear n0_ n1_ n2_ n3_ n4_ n5_ n6_ n7_ n8_ n9_;(try clear hb);(try clear hb2);(try clear hk);(try clear hi);have hcz169_0 : w168.cell? ⟨gb182,0,none⟩=some (.slice Ao136 t176.length co136):=(blk_cell BK182.out 0).trans rfl;have hcz169_1 : w168.cell? ⟨gb182,1,none⟩=some (.int .i64 t179):=(blk_cell BK182.out 1).trans rfl;have hcz169_2 : w168.cell? ⟨gb182,2,none⟩=some (.int .i64 t180):=(blk_cell BK182.out 2).trans rfl;have hcz169_3 : w168.cell? ⟨gb182,3,none⟩=some (.int .i64 t181):=(blk_cell BK182.out 3).trans rfl;have hfz169_0:=blk_frozen BK182.out 0;have hfz169_1:=blk_frozen BK182.out 1;have hfz169_2:=blk_frozen BK182.out 2;have hfz169_3:=blk_frozen BK182.out 3)|((with_reducible refine gate_dst (N:=82) rfl ?_);(try (refine gate_guard (by rfl) ?_;dsimp only));refine Kd.N_lit (Kd.slice 34 k34) _ 26 ?hg (N':=82) ?hd (xs:=([t183] : List (List (S34)))) (inner:=[.slice Ao140 t183.length co140]) (ok:=(fun k_=>some k_≠(.slice Ao136 t176.length co136 : Value).ownBlock∧some k_≠(.slice (some ⟨go12,0,none⟩) y189.length co12 : Value).ownBlock∧some k_≠(.slice Ao156 y200.length co156 : Value).ownBlock∧some k_≠(.slice Ao157 y203.length co157 : Value).ownBlock∧some k_≠(.slice Ao167 y214.length co167 : Value).ownBlock∧k_≠gb174∧k_≠gb182)) (okp:=(fun k_=>some k_≠(.slice Ao136 t176.length co136 : Value).ownBlock∧some k_≠(.slice (some ⟨go12,0,none⟩) y189.length co12 : Value).ownBlock∧some k_≠(.slice Ao156 y200.length co156 : Value).ownBlock∧some k_≠(.slice Ao157 y203.length co157 : Value).ownBlock∧some k_≠(.slice Ao167 y214.length co167 : Value).ownBlock∧k_≠gb174∧k_≠gb182)) ?hr ?hp (fun _ hk=>hk) ((show ∀ k_,w168.heap.size≤k_→(fun k_=>some k_≠(.slice Ao136 t176.length co136 : Value).ownBlock∧some k_≠(.slice (some ⟨go12,0,none⟩) y189.length co12 : Value).ownBlock∧some k_≠(.slice Ao156 y200.length co156 : Value).ownBlock∧some k_≠(.slice Ao157 y203.length co157 : Value).ownBlock∧some k_≠(.slice Ao167 y214.length co167 : Value).ownBlock∧k_≠gb174∧k_≠gb182) k_ from fun k_ hk=>⟨Kd.fresh' (Kd.R_lt (R_up HO178.out)) k_ hk,Kd.fresh' (Kd.R_lt (R_up HO191.out)) k_ hk,Kd.fresh' (Kd.R_lt (R_up HO202.out)) k_ hk,Kd.fresh' (Kd.R_lt (R_up HO205.out)) k_ hk,Kd.fresh' (Kd.N_lt (N_up HO216.out)) k_ hk,Kd.freshB (blk_up BK174.out) k_ hk,Kd.freshB (blk_up BK182.out) k_ hk⟩) _ (Nat.le_refl _)) (Below.refl _ _) (Nat.le_refl _) (by simp) ?_;(case hd=>rfl);(case hg=>rfl);(case hr=>first|(go_simp;done)|(go_simp;rfl));(case hp=>exact (Reps.one (show Kd.FK (Kd.slice 34 k34) _ _ t183 [.slice Ao140 t183.length co140] from (Kd.FK_slice_mk (Kd.R_reads' (Kd.R_mono (ok':=(fun k_=>some k_≠(.slice Ao136 t176.length co136 : Value).ownBlock∧some k_≠(.slice (some ⟨go12,0,none⟩) y189.length co12 : Value).ownBlock∧some k_≠(.slice Ao156 y200.length co156 : Value).ownBlock∧some k_≠(.slice Ao157 y203.length co157 : Value).ownBlock∧some k_≠(.slice Ao167 y214.length co167 : Value).ownBlock∧k_≠gb174∧k_≠gb182)) (Kd.R_types (Kd.R_types (Kd.R_apart' (Kd.R_apart' (HO185.out) (Kd.R_typed HO178.out) (by decide)) (Kd.N_typed HO216.out) (by decide)) BK174.out (by decide)) BK182.out (by decide)) (fun k_ hk=>⟨hk.1.1.1.2,⟨hk.1.1.1.1.1.1,⟨hk.1.1.1.1.1.2,⟨hk.1.1.1.1.2,⟨hk.1.1.2,⟨hk.1.2,hk.2⟩⟩⟩⟩⟩⟩))).2.1 (Kd.R_F (Kd.R_mono (ok':=(fun k_=>some k_≠(.slice Ao136 t176.length co136 : Value).ownBlock∧some k_≠(.slice (some ⟨go12,0,none⟩) y189.length co12 : Value).ownBlock∧some k_≠(.slice Ao156 y200.length co156 : Value).ownBlock∧some k_≠(.slice Ao157 y203.length co157 : Value).ownBlock∧some k_≠(.slice Ao167 y214.length co167 : Value).ownBlock∧k_≠gb174∧k_≠gb182)) (Kd.R_types (Kd.R_types (Kd.R_apart' (Kd.R_apart' (HO185.out) (Kd.R_typed HO178.out) (by decide)) (Kd.N_typed HO216.out) (by decide)) BK174.out (by decide)) BK182.out (by decide)) (fun k_ hk=>⟨hk.1.1.1.2,⟨hk.1.1.1.1.1.1,⟨hk.1.1.1.1.1.2,⟨hk.1.1.1.1.2,⟨hk.1.1.2,⟨hk.1.2,hk.2⟩⟩⟩⟩⟩⟩))))) (Reps.none _ _)));intro v219 w170 ho171 hb hg_ hnew_;clear hg_ hnew_;(first|rw [← Ny218.out] at ho171|(simp only [Int.reduceToNat] at ho171;rw [← Ny218.out] at ho171));have n0_:=Aside0.mk (Kd.R_below (R_up HO178.out) hb);have n1_:=Aside0.mk (Kd.R_below (R_up HO185.out) hb);have n2_:=Aside0.mk (Kd.R_below (R_up HO191.out) hb);have n3_:=Aside0.mk (Kd.R_below (R_up HO202.out) hb);have n4_:=Aside0.mk (Kd.R_below (R_up HO205.out) hb);have n5_:=Aside0.mk (Kd.V_elder' (V_up HO211.out) (Kd.N_base ho171) hb);have n6_:=Aside0.mk (Kd.N_elder' (N_up HO216.out) (Kd.N_base ho171) hb);have n7_:=Aside0.mk (Kd.N_lower ho171 (below_size (below_go HB.out)));have n8_:=Aside0.mk (blk_below (blk_up BK174.out) hb);have n9_:=Aside0.mk (blk_below (blk_up BK182.out) hb);have n10_:=Aside0.mk (below_step (below_go HB.out) hb);clear HO178;clear HO185;clear HO191;clear HO202;clear HO205;clear HO211;clear HO216;clear BK174;clear BK182;clear HB;have HO178:=n0_;have HO185:=n1_;have HO191:=n2_;have HO202:=n3_;have HO205:=n4_;have HO211:=n5_;have HO216:=n6_;have HO220:=n7_;have BK174:=n8_;have BK182:=n9_;have HB:=n10_;clear n0_ n1_ n2_ n3_ n4_ n5_ n6_ n7_ n8_ n9_ n10_;clear hb ho171;obtain ⟨Ao172,co172,eo172⟩:=Kd.N_slice HO220.out;subst eo172)|(go_at_call 13;(with_reducible refine (schema_Batch.calls _ _ t176 t179 t180 t181 _ _ y218 t221 _ ?side1 ?side2 ?side3 ?side4 A128.out).mono ?_);(case side1=>repeat (first|exact (Kd.R_reads' HO178.out).2.2|(with_reducible refine Kd.C_alloc ?_ _)|(with_reducible refine Kd.C_drewN ?_ _)|(with_reducible refine Kd.C_drew ?_)));(case side2=>exact (Kd.R_reads' HO178.out).2.1);(case side3=>repeat (first|exact (Kd.N_reads' HO220.out).2.2|(with_reducible refine Kd.C_alloc ?_ _)|(with_reducible refine Kd.C_drewN ?_ _)|(with_reducible refine Kd.C_drew ?_)));(case side4=>exact (Kd.N_reads' HO220.out).2.1);rintro e w173 ⟨rfl,hb⟩;have n0_:=Aside0.mk (Kd.R_below (R_up HO178.out) hb);have n1_:=Aside0.mk (Kd.R_below (R_up HO185.out) hb);have n2_:=Aside0.mk (Kd.R_below (R_up HO191.out) hb);have n3_:=Aside0.mk (Kd.R_below (R_up HO202.out) hb);have n4_:=Aside0.mk (Kd.R_below (R_up HO205.out) hb);have n5_:=Aside0.mk (Kd.V_below (V_up HO211.out) hb);have n6_:=Aside0.mk (Kd.N_below (N_up HO216.out) hb);have n7_:=Aside0.mk (Kd.N_below (N_up HO220.out) hb);have n8_:=Aside0.mk (blk_below (blk_up BK174.out) hb);have n9_:=Aside0.mk (blk_below (blk_up BK182.out) hb);have n10_:=Aside0.mk (below_step (below_go HB.out) hb);clear HO178;clear HO185;clear HO191;clear HO202;clear HO205;clear HO211;clear HO216;clear HO220;clear BK174;clear BK182;clear HB;have HO178:=n0_;have HO185:=n1_;have HO191:=n2_;have HO202:=n3_;have HO205:=n4_;have HO211:=n5_;have HO216:=n6_;have HO220:=n7_;have BK174:=n8_;have BK182:=n9_;have HB:=n10_;clear n0_ n1_ n2_ n3_ n4_ n5_ n6_ n7_ n8_ n9_ n10_;(try clear hb);(try clear hb2);(try clear hk);(try clear hi);have hcz174_0 : w173.cell? ⟨gb182,0,none⟩=some (.slice Ao136 t176.length co136):=(blk_cell BK182.out 0).trans rfl;have hcz174_1 : w173.cell? ⟨gb182,1,none⟩=some (.int .i64 t179):=(blk_cell BK182.out 1).trans rfl;have hcz174_2 : w173.cell? ⟨gb182,2,none⟩=some (.int .i64 t180):=(blk_cell BK182.out 2).trans rfl;have hcz174_3 : w173.cell? ⟨gb182,3,none⟩=some (.int .i64 t181):=(blk_cell BK182.out 3).trans rfl;have hfz174_0:=blk_frozen BK182.out 0;have hfz174_1:=blk_frozen BK182.out 1;have hfz174_2:=blk_frozen BK182.out 2;have hfz174_3:=blk_frozen BK182.out 3)|(go_at_call 13;(refine (schema_Batch.calls _ _ t176 t179 t180 t181 _ _ ([] : List (List (S34))) t222 _ ?side1 ?side2 ?side3 ?side4 A130.out).mono ?_);(case side1=>repeat (first|exact (Kd.R_reads' HO178.out).2.2|(with_reducible refine Kd.C_alloc ?_ _)|(with_reducible refine Kd.C_drewN ?_ _)|(with_reducible refine Kd.C_drew ?_)));(case side2=>exact (Kd.R_reads' HO178.out).2.1);(case side3=>exact Kd.C_nil _ _);(case side4=>exact Nat.le_refl _);rintro e w175 ⟨rfl,hb⟩;have n0_:=Aside0.mk (Kd.R_below (R_up HO178.out) hb);have n1_:=Aside0.mk (Kd.R_below (R_up HO185.out) hb);have n2_:=Aside0.mk (Kd.R_below (R_up HO191.out) hb);have n3_:=Aside0.mk (Kd.R_below (R_up HO202.out) hb);have n4_:=Aside0.mk (Kd.R_below (R_up HO205.out) hb);have n5_:=Aside0.mk (Kd.V_below (V_up HO211.out) hb);have n6_:=Aside0.mk (Kd.N_below (N_up HO216.out) hb);have n7_:=Aside0.mk (Kd.N_below (N_up HO220.out) hb);have n8_:=Aside0.mk (blk_below (blk_up BK174.out) hb);have n9_:=Aside0.mk (blk_below (blk_up BK182.out) hb);have n10_:=Aside0.mk (below_step (below_go HB.out) hb);clear HO178;clear HO185;clear HO191;clear HO202;clear HO205;clear HO211;clear HO216;clear HO220;clear BK174;clear BK182;clear HB;have HO178:=n0_;have HO185:=n1_;have HO191:=n2_;have HO202:=n3_;have HO205:=n4_;have HO211:=n5_;have HO216:=n6_;have HO220:=n7_;have BK174:=n8_;have BK182:=n9_;have HB:=n10_;clear n0_ n1_ n2_ n3_ n4_ n5_ n6_ n7_ n8_ n9_ n10_;(try clear hb);(try clear hb2);(try clear hk);(try clear hi)))
   go_ret
   exact ⟨by first|rfl|(simp [errW_none,errW_some] <;> rfl)|(simp only [← hji9,← hji17];first|rfl|(simp [errW_none,errW_some] <;> rfl))|(simp [*,errW_none,errW_some] <;> rfl),by repeat (first|(with_reducible first|exact HB.out|apply below_alloc|apply pw_below_drewN|apply below_drew1|refine below_set ?_ GE174.out|refine below_set ?_ GE182.out)|exact HB.out)⟩
  ·rw [if_neg c129] at H
   have c129b0 : (t221 == 0)=false:=beq_eq_false_iff_ne.mpr c129
   have c129b1 : (t221 != 0)=true:=bne_iff_ne.mpr c129
   obtain rfl:=Option.some.inj H
   go_enter Try.func3,Try.ntmps3
   try go_wp2_with (first|((with_reducible refine gate_dst (N:=3) rfl ?_);(try (refine gate_guard (by rfl) ?_;dsimp only));refine box_event ?hg (N:=3) ?hd (cs:=#[.int .u8 a0_0,.int .u8 a0_1,.int .u8 a0_2,.int .u8 a0_3,.int .u8 a0_4,.int .u8 a0_5,.int .u8 a0_6,.int .u8 a0_7,.int .u8 a0_8,.int .u8 a0_9,.int .u8 a0_10,.int .u8 a0_11]) (t:=24) ?hr ?_;(case hd=>rfl);(case hg=>rfl);(case hr=>first|(go_simp;done)|(go_simp;rfl));intro gb174 hg w176 hbox hb;have n0_:=Aside0.mk (below_step (below_up HB.out) hb);have n1_:=Aside0.mk (hbox);have n2_:=Aside0.mk ((by rw [hg];exact (below_size (below_up HB.out)) : w.heap.size≤gb174));have n3_:=Aside0.mk ((by rw [hg];exact (below_size (below_up HB.out)) : w.heap.size≤gb174));clear HB;have HB:=n0_;have BK174:=n1_;have GW174:=n2_;have GE174:=n3_;clear n0_ n1_ n2_ n3_;clear hb hbox hg)|((with_reducible refine gate_callee (f:=9) rfl ?_);refine goesL_ (some 16) rfl rfl Try.func9 (by kernel_rfl) rfl #[] rfl (by (try simp only [List.map_toArray,List.map_cons,List.map_nil]);first|done|rfl|(simp only [List.length_drop,List.length_take];rfl)) ?_;(with_reducible refine (thresherlaw04_shown.calls k  true _ A4.out).mono ?_);rintro e w177 ⟨rfl,hb⟩;refine ⟨_,rfl,?_⟩;have n0_:=Aside0.mk (blk_below (blk_up BK174.out) hb);have n1_:=Aside0.mk (below_step (below_go HB.out) hb);clear BK174;clear HB;have BK174:=n0_;have HB:=n1_;clear n0_ n1_;(try clear hb);(try clear hb2);(try clear hk);(try clear hi);have hcz178_0 : w177.cell? ⟨gb174,0,none⟩=some (.int .u8 a0_0):=(blk_cell BK174.out 0).trans rfl;have hcz178_1 : w177.cell? ⟨gb174,1,none⟩=some (.int .u8 a0_1):=(blk_cell BK174.out 1).trans rfl;have hcz178_2 : w177.cell? ⟨gb174,2,none⟩=some (.int .u8 a0_2):=(blk_cell BK174.out 2).trans rfl;have hcz178_3 : w177.cell? ⟨gb174,3,none⟩=some (.int .u8 a0_3):=(blk_cell BK174.out 3).trans rfl;have hcz178_4 : w177.cell? ⟨gb174,4,none⟩=some (.int .u8 a0_4):=(blk_cell BK174.out 4).trans rfl;have hcz178_5 : w177.cell? ⟨gb174,5,none⟩=some (.int .u8 a0_5):=(blk_cell BK174.out 5).trans rfl;have hcz178_6 : w177.cell? ⟨gb174,6,none⟩=some (.int .u8 a0_6):=(blk_cell BK174.out 6).trans rfl;have hcz178_7 : w177.cell? ⟨gb174,7,none⟩=some (.int .u8 a0_7):=(blk_cell BK174.out 7).trans rfl;have hcz178_8 : w177.cell? ⟨gb174,8,none⟩=some (.int .u8 a0_8):=(blk_cell BK174.out 8).trans rfl;have hcz178_9 : w177.cell? ⟨gb174,9,none⟩=some (.int .u8 a0_9):=(blk_cell BK174.out 9).trans rfl;have hcz178_10 : w177.cell? ⟨gb174,10,none⟩=some (.int .u8 a0_10):=(blk_cell BK174.out 10).trans rfl;have hcz178_11 : w177.cell? ⟨gb174,11,none⟩=some (.int .u8 a0_11):=(blk_cell BK174.out 11).trans rfl;have hfz178_0:=blk_frozen BK174.out 0;have hfz178_1:=blk_frozen BK174.out 1;have hfz178_2:=blk_frozen BK174.out 2;have hfz178_3:=blk_frozen BK174.out 3;have hfz178_4:=blk_frozen BK174.out 4;have hfz178_5:=blk_frozen BK174.out 5;have hfz178_6:=blk_frozen BK174.out 6;have hfz178_7:=blk_frozen BK174.out 7;have hfz178_8:=blk_frozen BK174.out 8;have hfz178_9:=blk_frozen BK174.out 9;have hfz178_10:=blk_frozen BK174.out 10;have hfz178_11:=blk_frozen BK174.out 11)|((with_reducible refine gate_callee (f:=10) rfl ?_);refine goesL_ (some 18) rfl rfl Try.func10 (by kernel_rfl) rfl #[.agg #[.int .u8 a0_0,.int .u8 a0_1,.int .u8 a0_2,.int .u8 a0_3,.int .u8 a0_4,.int .u8 a0_5,.int .u8 a0_6,.int .u8 a0_7,.int .u8 a0_8,.int .u8 a0_9,.int .u8 a0_10,.int .u8 a0_11]] rfl (by (try simp only [List.map_toArray,List.map_cons,List.map_nil]);first|done|rfl|(simp only [List.length_drop,List.length_take];rfl)) ?_;(with_reducible refine (thresherlaw04_made.calls k a0_0 a0_1 a0_2 a0_3 a0_4 a0_5 a0_6 a0_7 a0_8 a0_9 a0_10 a0_11 t176 t179 t180 t181 _ A5.out).mono ?_);rintro e w179 ⟨v177,rfl,ho0,hb⟩;refine ⟨_,rfl,?_⟩;have n0_:=Aside0.mk (Kd.R_lower ho0 (below_size (below_go HB.out)));have n1_:=Aside0.mk (blk_below (blk_up BK174.out) hb);have n2_:=Aside0.mk (below_step (below_go HB.out) hb);clear BK174;clear HB;have HO178:=n0_;have BK174:=n1_;have HB:=n2_;clear n0_ n1_ n2_;(try clear hb);(try clear hb2);(try clear hk);(try clear hi);(try clear ho0))|((with_reducible refine gate_dst (N:=8) rfl ?_);(try (refine gate_guard (by rfl) ?_;dsimp only));refine box_event ?hg (N:=8) ?hd (cs:=#[.slice none 0 0,.int .i64 0,.int .i64 0,.int .i64 0]) (t:=30) ?hr ?_;(case hd=>rfl);(case hg=>rfl);(case hr=>first|(go_simp;done)|(go_simp;rfl));intro gb182 hg w180 hbox hb;have n0_:=Aside0.mk (Kd.R_below (R_up HO178.out) hb);have n1_:=Aside0.mk (blk_below (blk_up BK174.out) hb);have n2_:=Aside0.mk (below_step (below_go HB.out) hb);have n3_:=Aside0.mk (hbox);have n4_:=Aside0.mk ((by rw [hg];exact (below_size (below_go HB.out)) : w.heap.size≤gb182));have n5_:=Aside0.mk ((by rw [hg];exact (below_size (below_go HB.out)) : w.heap.size≤gb182));have n6_:=Aside0.mk ((by rw [hg];exact Nat.ne_of_lt (blk_lt (blk_up BK174.out)) : gb174≠gb182));have n7_:=Aside0.mk ((by rw [hg];exact Nat.ne_of_gt (blk_lt (blk_up BK174.out)) : gb182≠gb174));clear HO178;clear BK174;clear HB;have HO178:=n0_;have BK174:=n1_;have HB:=n2_;have BK182:=n3_;have GW182:=n4_;have GE182:=n5_;have NB174_182:=n6_;have NB182_174:=n7_;clear n0_ n1_ n2_ n3_ n4_ n5_ n6_ n7_;clear hb hbox hg;obtain ⟨Ao181,co181,eo181⟩:=Kd.R_slice HO178.out;subst eo181;have hnb182:=NB182_174.out;have hnc182:=NB174_182.out;have hcz183_0 : w180.cell? ⟨gb182,0,none⟩=some (.slice none 0 0):=(blk_cell BK182.out 0).trans rfl;have hcz183_1 : w180.cell? ⟨gb182,1,none⟩=some (.int .i64 0):=(blk_cell BK182.out 1).trans rfl;have hcz183_2 : w180.cell? ⟨gb182,2,none⟩=some (.int .i64 0):=(blk_cell BK182.out 2).trans rfl;have hcz183_3 : w180.cell? ⟨gb182,3,none⟩=some (.int .i64 0):=(blk_cell BK182.out 3).trans rfl;have hfz183_0:=blk_frozen BK182.out 0;have hfz183_1:=blk_frozen BK182.out 1;have hfz183_2:=blk_frozen BK182.out 2;have hfz183_3:=blk_frozen BK182.out 3)|((with_reducible refine gate_callee (f:=11) rfl ?_);refine goesL_ (some 21) rfl rfl Try.func11 (by kernel_rfl) rfl #[.agg #[.slice Ao181 t176.length co181,.int .i64 t179,.int .i64 t180,.int .i64 t181],.slice A1 l1.length c1] rfl (by (try simp only [List.map_toArray,List.map_cons,List.map_nil]);first|done|rfl|(simp only [List.length_drop,List.length_take];rfl)) ?_;(with_reducible refine (thresherref04_Fit.calls k _ _ t176 t179 t180 t181 _ _ l1 t183 _ ?side1 ?side2 ?side3 ?side4 A6.out).mono ?_);(case side1=>refine (Kd.R_reads' (e:=3) (base:=w.heap.size) (ok:=fun k_=>True) (n:=t176.length) (c:=co181) ?_).2.2;exact (by (with_reducible repeat (first|apply Kd.R_alloc|apply Kd.R_drewN|apply Kd.R_drew));exact (Kd.R_mono (Kd.R_far (p:=⟨gb182,3,none⟩) (Kd.R_far (p:=⟨gb182,2,none⟩) (Kd.R_far (p:=⟨gb182,1,none⟩) (Kd.R_far (p:=⟨gb182,0,none⟩) (Kd.R_types HO178.out BK182.out (by decide)) (fun _ hk=>hk.2) (.slice Ao181 t176.length co181)) (fun _ hk=>hk.2) (.int .i64 t179)) (fun _ hk=>hk.2) (.int .i64 t180)) (fun _ hk=>hk.2) (.int .i64 t181)) (fun _ h_=>h_.1))));(case side2=>exact (Kd.R_reads' HO178.out).2.1);(case side3=>exact Kd.C_below HR1.out (below_go HB.out));(case side4=>exact HC1.out);rintro e w184 ⟨v184,rfl,ho0,hb⟩;refine ⟨_,rfl,?_⟩;have n0_:=Aside0.mk (Kd.R_below (by (with_reducible repeat (first|apply Kd.R_alloc|apply Kd.R_drewN|apply Kd.R_drew));exact (Kd.R_mono (Kd.R_far (p:=⟨gb182,3,none⟩) (Kd.R_far (p:=⟨gb182,2,none⟩) (Kd.R_far (p:=⟨gb182,1,none⟩) (Kd.R_far (p:=⟨gb182,0,none⟩) (Kd.R_types HO178.out BK182.out (by decide)) (fun _ hk=>hk.2) (.slice Ao181 t176.length co181)) (fun _ hk=>hk.2) (.int .i64 t179)) (fun _ hk=>hk.2) (.int .i64 t180)) (fun _ hk=>hk.2) (.int .i64 t181)) (fun _ h_=>h_.1))) hb);have n1_:=Aside0.mk (Kd.R_lower ho0 (below_size (below_go HB.out)));have n2_:=Aside0.mk (blk_below (g:=gb174) (o:=.cells #[.int .u8 a0_0,.int .u8 a0_1,.int .u8 a0_2,.int .u8 a0_3,.int .u8 a0_4,.int .u8 a0_5,.int .u8 a0_6,.int .u8 a0_7,.int .u8 a0_8,.int .u8 a0_9,.int .u8 a0_10,.int .u8 a0_11] 24 (0,0)) (by (with_reducible repeat (first|refine blk_drewN ?_ _|refine blk_drew ?_|refine blk_alloc ?_ _));refine blk_far ?_ NB174_182.out _;(with_reducible repeat (first|refine blk_drewN ?_ _|refine blk_drew ?_|refine blk_alloc ?_ _));refine blk_far ?_ NB174_182.out _;(with_reducible repeat (first|refine blk_drewN ?_ _|refine blk_drew ?_|refine blk_alloc ?_ _));refine blk_far ?_ NB174_182.out _;(with_reducible repeat (first|refine blk_drewN ?_ _|refine blk_drew ?_|refine blk_alloc ?_ _));refine blk_far ?_ NB174_182.out _;(with_reducible repeat (first|refine blk_drewN ?_ _|refine blk_drew ?_|refine blk_alloc ?_ _));exact BK174.out) hb);have n3_:=Aside0.mk (blk_below (g:=gb182) (o:=.cells #[.slice Ao181 t176.length co181,.int .i64 t179,.int .i64 t180,.int .i64 t181] 30 (0,0)) (by (with_reducible repeat (first|refine blk_drewN ?_ _|refine blk_drew ?_|refine blk_alloc ?_ _));refine blk_put (cs:=#[.slice Ao181 t176.length co181,.int .i64 t179,.int .i64 t180,.int .i64 0]) ?_ 3 _ rfl;(with_reducible repeat (first|refine blk_drewN ?_ _|refine blk_drew ?_|refine blk_alloc ?_ _));refine blk_put (cs:=#[.slice Ao181 t176.length co181,.int .i64 t179,.int .i64 0,.int .i64 0]) ?_ 2 _ rfl;(with_reducible repeat (first|refine blk_drewN ?_ _|refine blk_drew ?_|refine blk_alloc ?_ _));refine blk_put (cs:=#[.slice Ao181 t176.length co181,.int .i64 0,.int .i64 0,.int .i64 0]) ?_ 1 _ rfl;(with_reducible repeat (first|refine blk_drewN ?_ _|refine blk_drew ?_|refine blk_alloc ?_ _));refine blk_put (cs:=#[.slice none 0 0,.int .i64 0,.int .i64 0,.int .i64 0]) ?_ 0 _ rfl;(with_reducible repeat (first|refine blk_drewN ?_ _|refine blk_drew ?_|refine blk_alloc ?_ _));exact BK182.out) hb);have n4_:=Aside0.mk (below_step (below_go HB.out) hb);clear HO178;clear BK174;clear BK182;clear HB;have HO178:=n0_;have HO185:=n1_;have BK174:=n2_;have BK182:=n3_;have HB:=n4_;clear n0_ n1_ n2_ n3_ n4_;(try clear hb);(try clear hb2);(try clear hk);(try clear hi);(try clear ho0);obtain ⟨Ao185,co185,eo185⟩:=Kd.R_slice HO185.out;subst eo185)|((with_reducible refine gate_dst (N:=27) rfl ?_);(try (refine gate_guard (by rfl) ?_;dsimp only));refine Kd.R_lit k34 _ 34 ?hg (N:=27) ?hd (xs:=([] : List (S34))) (inner:=[]) (ok:=fun _=>True) (okp:=fun _=>True) ?hr ?hp (fun _ hk=>hk) trivial (Below.refl _ _) (Nat.le_refl _) (by simp) ?_;(case hd=>rfl);(case hg=>rfl);(case hr=>first|(go_simp;done)|(go_simp;rfl));(case hp=>exact (Reps.none _ _));intro v187 w186 ho187 hb hg_ hnew_;clear hg_ hnew_;(first|rw [← Ny186.out] at ho187|(simp only [Int.reduceToNat] at ho187;rw [← Ny186.out] at ho187));have n0_:=Aside0.mk (Kd.R_below (R_up HO178.out) hb);have n1_:=Aside0.mk (Kd.R_elder' (R_up HO185.out) (Kd.R_base ho187) hb);have n2_:=Aside0.mk (Kd.R_lower (Kd.R_new' ho187 (Kd.R_lt (R_up HO185.out))) (below_size (below_go HB.out)));have n3_:=Aside0.mk (blk_below (blk_up BK174.out) hb);have n4_:=Aside0.mk (blk_below (blk_up BK182.out) hb);have n5_:=Aside0.mk (below_step (below_go HB.out) hb);clear HO178;clear HO185;clear BK174;clear BK182;clear HB;have HO178:=n0_;have HO185:=n1_;have HO188:=n2_;have BK174:=n3_;have BK182:=n4_;have HB:=n5_;clear n0_ n1_ n2_ n3_ n4_ n5_;clear hb ho187)|((with_reducible refine gate_builtin (b:=.append) (xs:=#[.tmp 27,.tmp 28]) rfl ?_);(try (refine gate_guard (by rfl) ?_;dsimp only));at_builtin;refine Kd.R_append_rows k34 (w0:=w) w.heap.size rfl (.tmp 27) (.tmp 28) 26 34 (.agg #[(.int .i64 0),(.string ⟨#[]⟩)]) 24 rfl Try.underlying26 info34 rfl (by decide) (by omega) v187 y186 t183 _ _ _ (fun k_=>some k_≠(.slice Ao185 t183.length co185 : Value).ownBlock) (fun _=>False) rfl rfl ?aO ?aR (fun _ _ h=>h) (fun _ h=>h.elim) ?aF ?aB ?aS ?aL ?_;(case aR=>repeat (first|exact (Kd.R_reads' HO185.out).2.2|(with_reducible refine Kd.C_alloc ?_ _)|(with_reducible refine Kd.C_drewN ?_ _)|(with_reducible refine Kd.C_drew ?_)));(case aB=>exact (below_go HB.out));(case aF=>exact (fun k_ hk=>Kd.fresh' (Kd.R_lt (R_up HO185.out)) k_ hk));(case aO=>exact (by (with_reducible repeat (first|apply Kd.R_alloc|apply Kd.R_drewN|apply Kd.R_drew));exact Kd.R_mono HO188.out (fun _ hk=>hk.2)));(case aS=>exact (below_size (below_go HB.out)));(case aL=>have:=LMc8.out;omega);intro v190 w188 ho hb hg hat;rw [← Ny189.out] at ho;have n0_:=Aside0.mk (blk_grown (blk_up BK174.out) hg (Kd.R_ne HO188.out BK174.out (by decide)));have n1_:=Aside0.mk (Kd.R_over' (R_up HO178.out) (Kd.R_typed (R_up HO188.out)) (by decide) hg);have n2_:=Aside0.mk (blk_grown (blk_up BK182.out) hg (Kd.R_ne HO188.out BK182.out (by decide)));have n3_:=Aside0.mk (Kd.R_after (ok:=(fun _=>True)) (R_up HO185.out) hg hat);have n4_:=Aside0.mk (hb);have n5_:=Aside0.mk (ho);clear BK174;clear HO178;clear BK182;clear HO185;clear HB;clear HO188;have BK174:=n0_;have HO178:=n1_;have BK182:=n2_;have HO185:=n3_;have HB:=n4_;have HO191:=n5_;clear n0_ n1_ n2_ n3_ n4_ n5_;clear ho hb hg hat;have p12 : 0≤((ji9) : Int):=of_decide_eq_true (by first|(with_reducible assumption)|assumption);have q12 : ((ji9) : Int) < ((y189.length : Int) : Int):=of_decide_eq_true (by first|(with_reducible assumption)|assumption);obtain ⟨go12,co12,eo12,gb12,gl12,cl12,HG12⟩:=Kd.R_form HO191.out (by omega);(first|cases eo12|(injection eo12 with ea_ en_ ec_;(first|subst ea_|(injection ea_ with ea_;subst ea_));subst ec_;clear en_));have GB12:=Aside0.mk gb12;have GG12:=Aside0.mk HG12;clear gb12 gl12 HG12;obtain ⟨ce12,hcl12,hM12,hcc12,hfr12⟩:=Kd.R_elem HO191.out z34 ((ji9) : Int) p12 q12;obtain rfl:=k34_openM hM12;have hx12_0 : w188.cell? ⟨go12,((ji9) : Int).toNat * 2,none⟩=some (.int .i64 ((rd_T34 y189 (ji9)).f0)):=hcc12 0 _ rfl;have hx12_1 : w188.cell? ⟨go12,((ji9) : Int).toNat * 2 + 1,none⟩=some (.string ((rd_T34 y189 (ji9)).f1)):=hcc12 1 _ rfl;have hf12_0 : w188.frozen? ⟨go12,((ji9) : Int).toNat * 2,none⟩=false:=hfr12 0;have hf12_1 : w188.frozen? ⟨go12,((ji9) : Int).toNat * 2 + 1,none⟩=false:=hfr12 1;clear hcl12 hcc12 hfr12 hM12;replace p12:=eq_true p12;replace q12:=eq_true q12;have HX189:=Aside0.mk (show Kd.R k34 34 w188 w.heap.size (fun k_=>some k_≠(.slice Ao185 t183.length co185 : Value).ownBlock) (.slice (some ⟨go12,0,none⟩) y189.length co12) y189 from (R_up HO191.out));obtain ⟨ce189,hcl189,hM189,hcc189,hfr189⟩:=Kd.R_elem HX189.out z34 ((ji9) : Int) (of_decide_eq_true (by first|(with_reducible assumption)|assumption)) (by have h_ : ((ji9) : Int) < ((y189.length : Int) : Int):=of_decide_eq_true (by first|(with_reducible assumption)|assumption);first|exact h_|(have e_:=(Kd.R_reads' HO191.out).1;omega)|simpa using h_);obtain rfl:=k34_openM hM189;have HP189:=Kd.R_seg HX189.out ((ji9) : Int) (of_decide_eq_true (by first|(with_reducible assumption)|assumption)) (by have h_ : ((ji9) : Int) < ((y189.length : Int) : Int):=of_decide_eq_true (by first|(with_reducible assumption)|assumption);first|exact h_|(have e_:=(Kd.R_reads' HO191.out).1;omega)|simpa using h_) (seg:=[.int .i64 1,.string (⟨#[120]⟩ : ByteArray)]) (j:=0) hcl189 hcc189 (show 2≤2 from by decide) (x':=(⟨1,(⟨#[120]⟩ : ByteArray)⟩ : S34)) (k34_mkM _ _ _ (⟨1,(⟨#[120]⟩ : ByteArray)⟩ : S34) ) (fun _ hk=>hk);have hx189_0:=hcc189 0 _ rfl;(try simp only [show (k34).sz=2 from rfl,Nat.mul_one,Nat.add_zero] at hx189_0);have hf189_0:=hfr189 0;(try simp only [show (k34).sz=2 from rfl,Nat.mul_one,Nat.add_zero] at hf189_0);have hx189_1:=hcc189 1 _ rfl;(try simp only [show (k34).sz=2 from rfl,Nat.mul_one,Nat.add_zero] at hx189_1);have hf189_1:=hfr189 1;(try simp only [show (k34).sz=2 from rfl,Nat.mul_one,Nat.add_zero] at hf189_1);clear hcl189 hcc189 hfr189 hM189)|((with_reducible refine gate_store (t:=34) (p:=33) rfl ?_);refine store_event (t:=34) (p:=33) (v:=?vo_w190) (w1:=((w188.setCell ⟨go12,((ji9) : Int).toNat * 2,none⟩ (.int .i64 1)).setCell ⟨go12,((ji9) : Int).toNat * 2 + 1,none⟩ (.string (⟨#[120]⟩ : ByteArray)))) ?hg ?ho ?hn ?hr ?_;(case ho=>rfl);(case hg=>rfl);(case hn=>rfl);(case hr=>first|(go_simp;done)|(go_simp;rfl));intro w190 hw;have hg : w188.grownBy w190 (some go12):=(by rw [hw];exact HP189.2);have hp_ : Kd.R k34 34 w190 w.heap.size (fun k_=>some k_≠(.slice Ao185 t183.length co185 : Value).ownBlock) (.slice (some ⟨go12,0,none⟩) y189.length co12) y192:=(by rw [hw,Ny192.out];exact HP189.1);clear HP189;have n0_:=Aside0.mk (blk_grown (blk_up BK174.out) hg (Kd.R_ne HO191.out BK174.out (by decide)));have n1_:=Aside0.mk (Kd.R_over' (v:=(.slice (some ⟨go12,0,none⟩) y189.length co12)) (R_up HO178.out) (Kd.R_typed HO191.out) (by decide) hg);have n2_:=Aside0.mk (blk_grown (blk_up BK182.out) hg (Kd.R_ne HO191.out BK182.out (by decide)));have n3_:=Aside0.mk (Kd.R_after (v:=(.slice (some ⟨go12,0,none⟩) y189.length co12)) (v1:=(.slice (some ⟨go12,0,none⟩) y189.length co12)) (ok:=(fun _=>True)) (R_up HO185.out) hg (.inl rfl));have n4_:=Aside0.mk (hp_);have n5_:=Aside0.mk ((by rw [hw];exact below_set (below_set (HB.out) GB12.out) GB12.out : Below w.heap.size w w190));clear BK174;clear HO178;clear BK182;clear HO185;clear HO191;clear HB;have BK174:=n0_;have HO178:=n1_;have BK182:=n2_;have HO185:=n3_;have HO191:=n4_;have HB:=n5_;clear n0_ n1_ n2_ n3_ n4_ n5_;clear hg hw hp_;have hcz191_0 : w190.cell? ⟨gb182,0,none⟩=some (.slice Ao181 t176.length co181):=(blk_cell BK182.out 0).trans rfl;have hcz191_1 : w190.cell? ⟨gb182,1,none⟩=some (.int .i64 t179):=(blk_cell BK182.out 1).trans rfl;have hcz191_2 : w190.cell? ⟨gb182,2,none⟩=some (.int .i64 t180):=(blk_cell BK182.out 2).trans rfl;have hcz191_3 : w190.cell? ⟨gb182,3,none⟩=some (.int .i64 t181):=(blk_cell BK182.out 3).trans rfl;have hfz191_0:=blk_frozen BK182.out 0;have hfz191_1:=blk_frozen BK182.out 1;have hfz191_2:=blk_frozen BK182.out 2;have hfz191_3:=blk_frozen BK182.out 3)|((with_reducible refine gate_callee (f:=12) rfl ?_);refine goesL_ (some 36) rfl rfl Try.func12 (by kernel_rfl) rfl #[.agg #[.slice Ao181 t176.length co181,.int .i64 t179,.int .i64 t180,.int .i64 t181],.slice Ao185 t183.length co185] rfl (by (try simp only [List.map_toArray,List.map_cons,List.map_nil]);first|done|rfl|(simp only [List.length_drop,List.length_take];rfl)) ?_;(with_reducible refine (schema_Row.calls _ _ t176 t179 t180 t181 _ _ t183 true _ ?side1 ?side2 ?side3 ?side4 A13.out).mono ?_);(case side1=>repeat (first|exact (Kd.R_reads' HO178.out).2.2|(with_reducible refine Kd.C_alloc ?_ _)|(with_reducible refine Kd.C_drewN ?_ _)|(with_reducible refine Kd.C_drew ?_)));(case side2=>exact (Kd.R_reads' HO178.out).2.1);(case side3=>repeat (first|exact (Kd.R_reads' HO185.out).2.2|(with_reducible refine Kd.C_alloc ?_ _)|(with_reducible refine Kd.C_drewN ?_ _)|(with_reducible refine Kd.C_drew ?_)));(case side4=>exact (Kd.R_reads' HO185.out).2.1);rintro e w192 ⟨rfl,hb⟩;refine ⟨_,rfl,?_⟩;have n0_:=Aside0.mk (Kd.R_below (R_up HO178.out) hb);have n1_:=Aside0.mk (Kd.R_below (R_up HO185.out) hb);have n2_:=Aside0.mk (Kd.R_below (R_up HO191.out) hb);have n3_:=Aside0.mk (blk_below (blk_up BK174.out) hb);have n4_:=Aside0.mk (blk_below (blk_up BK182.out) hb);have n5_:=Aside0.mk (below_step (below_go HB.out) hb);clear HO178;clear HO185;clear HO191;clear BK174;clear BK182;clear HB;have HO178:=n0_;have HO185:=n1_;have HO191:=n2_;have BK174:=n3_;have BK182:=n4_;have HB:=n5_;clear n0_ n1_ n2_ n3_ n4_ n5_;(try clear hb);(try clear hb2);(try clear hk);(try clear hi)))
   have n0_:=Aside0.mk (Kd.R_drew HO178.out)
   have n1_:=Aside0.mk (Kd.R_drew HO185.out)
   have n2_:=Aside0.mk (Kd.R_drew HO191.out)
   have n3_:=Aside0.mk (blk_drew BK174.out)
   have n4_:=Aside0.mk (blk_drew BK182.out)
   have n5_:=Aside0.mk (below_drew1 HB.out)
   clear HO178
   clear HO185
   clear HO191
   clear BK174
   clear BK182
   clear HB
   have HO178:=n0_
   have HO185:=n1_
   have HO191:=n2_
   have BK174:=n3_
   have BK182:=n4_
   have HB:=n5_
   clear n0_ n1_ n2_ n3_ n4_ n5_
   refine start_ (n:=9) (S:=fun w'=>w'.cell? ⟨gb182,0,none⟩=some (.slice Ao181 t176.length co181)∧w'.cell? ⟨gb182,1,none⟩=some (.int .i64 t179)∧w'.cell? ⟨gb182,2,none⟩=some (.int .i64 t180)∧w'.cell? ⟨gb182,3,none⟩=some (.int .i64 t181)) (ds:=[]) #[false,false,false,false,false,false,false,false,false] (by kernel_rfl) rfl rfl ⟨(blk_cell BK182.out 0).trans rfl,(blk_cell BK182.out 1).trans rfl,(blk_cell BK182.out 2).trans rfl,(blk_cell BK182.out 3).trans rfl⟩ (fun hHeld=>?_);refine with_tabW thresherlaw04_SchemaRows.tab8 thresherlaw04_SchemaRows.bits8 (fun HT_ HW_=>?_)
   generalize w192.drew=w193 at HO178 HO185 HO191 BK174 BK182 HB hHeld ⊢
   refine pure_ (i:=2) (N:=some 39) (v:=?_) (a':=?_) #[false,false,true,false,false,false,false,false,false] rfl rfl (any_of HT_.out (by kernel_rfl)) (fun _ _ _ h=>h) (Or.inl ⟨by rfl,?_⟩) ?_ ?_
   rotate_left;(intro w';go_simp;with_reducible rfl);rotate_left;(simp only [Act.put,List.setIfInBounds_toArray,List.set_cons_zero,List.set_cons_succ,i64_w,i32_w];rfl)
   refine pure_ (i:=4) (N:=some 41) (v:=?_) (a':=?_) #[false,false,true,false,true,false,false,false,false] rfl rfl (any_of HT_.out (by kernel_rfl)) (fun _ _ _ h=>h) (Or.inl ⟨by rfl,?_⟩) ?_ ?_
   rotate_left;(intro w';go_simp;with_reducible rfl);rotate_left;(simp only [Act.put,List.setIfInBounds_toArray,List.set_cons_zero,List.set_cons_succ,i64_w,i32_w];rfl)
   refine take_ (i:=0) (N:=some 37) (v:=?_) (a':=?_) #[true,false,true,false,true,false,false,false,false] rfl rfl (take_ofW HT_.out HW_.out (by kernel_rfl)) (fun _ _ _ h=>h) (Or.inl ⟨by rfl,?_⟩) hHeld ?_ ?_
   rotate_left;(rintro w' ⟨s0,s1,s2,s3⟩;go_simp;with_reducible rfl);rotate_left;(simp only [Act.put,List.setIfInBounds_toArray,List.set_cons_zero,List.set_cons_succ,i64_w,i32_w];rfl)
   refine join_ (σ:=Value × Value × Value) 3 #[true,true,true,true,true,true,false,false,false] (fun s_=>[(38,s_.1),(40,s_.2.1),(42,s_.2.2)]) (fun s_ w'=>(w'.cell? ⟨gb182,0,none⟩=some (.slice Ao181 t176.length co181)∧w'.cell? ⟨gb182,1,none⟩=some (.int .i64 t179)∧w'.cell? ⟨gb182,2,none⟩=some (.int .i64 t180)∧w'.cell? ⟨gb182,3,none⟩=some (.int .i64 t181))∧(Kd.R (Kd.int .i64) 3 w' w.heap.size (fun _=>True) (.slice Ao181 t176.length co181) t176)∧(Kd.R k34 34 w' w.heap.size (fun k_=>some k_≠(.slice (some ⟨go12,0,none⟩) y189.length co12 : Value).ownBlock∧some k_≠(s_.2.1 : Value).ownBlock∧some k_≠(s_.2.2 : Value).ownBlock) (.slice Ao185 t183.length co185) t183)∧(Kd.R k34 34 w' w.heap.size (fun k_=>some k_≠(.slice Ao185 t183.length co185 : Value).ownBlock∧some k_≠(s_.2.1 : Value).ownBlock∧some k_≠(s_.2.2 : Value).ownBlock) (.slice (some ⟨go12,0,none⟩) y189.length co12) y192)∧(Kd.R k34 34 w' w.heap.size (fun k_=>some k_≠(.slice Ao185 t183.length co185 : Value).ownBlock∧some k_≠(.slice (some ⟨go12,0,none⟩) y189.length co12 : Value).ownBlock∧some k_≠(s_.2.2 : Value).ownBlock) s_.2.1 y197)∧(Kd.R k34 34 w' w.heap.size (fun k_=>some k_≠(.slice Ao185 t183.length co185 : Value).ownBlock∧some k_≠(.slice (some ⟨go12,0,none⟩) y189.length co12 : Value).ownBlock∧some k_≠(s_.2.1 : Value).ownBlock) s_.2.2 y200)∧(w'.heap[gb174]?=some (.cells #[.int .u8 a0_0,.int .u8 a0_1,.int .u8 a0_2,.int .u8 a0_3,.int .u8 a0_4,.int .u8 a0_5,.int .u8 a0_6,.int .u8 a0_7,.int .u8 a0_8,.int .u8 a0_9,.int .u8 a0_10,.int .u8 a0_11] 24 (0,0)))∧(w'.heap[gb182]?=some (.cells #[.slice Ao181 t176.length co181,.int .i64 t179,.int .i64 t180,.int .i64 t181] 30 (0,0)))∧(Below w.heap.size w w')) ?_ ?_
   rotate_left
   ·intro hCont
    refine two_ (i:=1) (j:=5) (Ni:=some 38) (Nj:=some 42) #[true,true,true,false,true,false,false,false,false] #[true,false,true,false,true,true,false,false,false] rfl rfl rfl rfl (two_of HT_.out (by kernel_rfl)) (by decide) (by decide) (fun K hK=>?_) (fun K hK=>?_)
    ·skip
     refine Kd.R_lit_step k34 _ 34 ?hg (N:=38) ?hd (xs:=([] : List (S34))) (inner:=[]) (ok:=fun _=>True) (okp:=fun _=>True) ?hr ?hp (fun _ hk=>hk) trivial (Below.refl _ _) (Nat.le_refl _) (by simp) ?_;(case hd=>rfl);(case hg=>rfl);(case hr=>first|(go_simp;done)|(go_simp;rfl));(case hp=>exact (Reps.none _ _))
     intro v195 w194 ho195 hb hg_ hnew_
     clear hg_ hnew_
     (first|rw [← Ny194.out] at ho195|(simp only [Int.reduceToNat] at ho195;rw [← Ny194.out] at ho195))
     have n0_:=Aside0.mk (Kd.R_below (R_up HO178.out) hb)
     have n1_:=Aside0.mk (Kd.R_elder' (R_up HO185.out) (Kd.R_base ho195) hb)
     have n2_:=Aside0.mk (Kd.R_elder' (R_up HO191.out) (Kd.R_base ho195) hb)
     have n3_:=Aside0.mk (Kd.R_lower (Kd.R_new' (Kd.R_new' ho195 (Kd.R_lt (R_up HO185.out))) (Kd.R_lt (R_up HO191.out))) (below_size (below_go HB.out)))
     have n4_:=Aside0.mk (blk_below (blk_up BK174.out) hb)
     have n5_:=Aside0.mk (blk_below (blk_up BK182.out) hb)
     have n6_:=Aside0.mk (below_step (below_go HB.out) hb)
     clear HO178
     clear HO185
     clear HO191
     clear BK174
     clear BK182
     clear HB
     have HO178:=n0_
     have HO185:=n1_
     have HO191:=n2_
     have HO196:=n3_
     have BK174:=n4_
     have BK182:=n5_
     have HB:=n6_
     clear n0_ n1_ n2_ n3_ n4_ n5_ n6_
     clear hb ho195
     refine hK.out _ _ ⟨(blk_cell BK182.out 0).trans rfl,(blk_cell BK182.out 1).trans rfl,(blk_cell BK182.out 2).trans rfl,(blk_cell BK182.out 3).trans rfl⟩ (fun hHeld=>?_)
     clear hK K
     refine norm_ (a':=?_) ?_ ?_
     rotate_left
     ·show Act.put _ (some 38) _=_
      simp only [Act.put,List.setIfInBounds_toArray,List.set_cons_zero,List.set_cons_succ,i64_w,i32_w]
      rfl
     refine two_ (i:=3) (j:=5) (Ni:=some 40) (Nj:=some 42) #[true,true,true,true,true,false,false,false,false] #[true,true,true,false,true,true,false,false,false] rfl rfl rfl rfl (two_of HT_.out (by kernel_rfl)) (by decide) (by decide) (fun K hK=>?_) (fun K hK=>?_)
     ·skip
      refine Kd.R_append_rows_step k34 (w0:=w) w.heap.size (by rfl) (.tmp 38) (.tmp 39) 26 34 (.agg #[(.int .i64 0),(.string ⟨#[]⟩)]) 24 rfl Try.underlying26 info34 rfl (by decide) (by omega) v195 y194 t183 _ _ _ (fun k_=>some k_≠(.slice Ao185 t183.length co185 : Value).ownBlock∧some k_≠(.slice (some ⟨go12,0,none⟩) y189.length co12 : Value).ownBlock) (fun _=>False) rfl rfl ?aO ?aR (fun _ _ h=>h) (fun _ h=>h.elim) ?aF ?aB ?aS ?aL ?_
      (case aR=>repeat (first|exact (Kd.R_reads' HO185.out).2.2|(with_reducible refine Kd.C_alloc ?_ _)|(with_reducible refine Kd.C_drewN ?_ _)|(with_reducible refine Kd.C_drew ?_)))
      (case aB=>exact (below_go HB.out))
      (case aF=>exact (fun k_ hk=>⟨Kd.fresh' (Kd.R_lt (R_up HO185.out)) k_ hk,Kd.fresh' (Kd.R_lt (R_up HO191.out)) k_ hk⟩))
      (case aO=>exact (by (with_reducible repeat (first|apply Kd.R_alloc|apply Kd.R_drewN|apply Kd.R_drew));exact Kd.R_mono HO196.out (fun _ hk=>⟨hk.1.2,hk.2⟩)))
      (case aS=>exact (below_size (below_go HB.out)))
      (case aL=>have:=LMc14.out;omega)
      intro v198 w196 ho hb hg hat
      rw [← Ny197.out] at ho
      have n0_:=Aside0.mk (blk_grown (blk_up BK174.out) hg (Kd.R_ne HO196.out BK174.out (by decide)))
      have n1_:=Aside0.mk (Kd.R_over' (R_up HO178.out) (Kd.R_typed (R_up HO196.out)) (by decide) hg)
      have n2_:=Aside0.mk (blk_grown (blk_up BK182.out) hg (Kd.R_ne HO196.out BK182.out (by decide)))
      have n3_:=Aside0.mk (Kd.R_after (ok:=(fun k_=>some k_≠(.slice (some ⟨go12,0,none⟩) y189.length co12 : Value).ownBlock)) (by (with_reducible repeat (first|apply Kd.R_alloc|apply Kd.R_drewN|apply Kd.R_drew));exact Kd.R_mono HO185.out (fun _ hk=>⟨hk.1.2,hk.2⟩)) hg hat)
      have n4_:=Aside0.mk (Kd.R_after (ok:=(fun k_=>some k_≠(.slice Ao185 t183.length co185 : Value).ownBlock)) (R_up HO191.out) hg hat)
      have n5_:=Aside0.mk (hb)
      have n6_:=Aside0.mk (ho)
      clear BK174
      clear HO178
      clear BK182
      clear HO185
      clear HO191
      clear HB
      clear HO196
      have BK174:=n0_
      have HO178:=n1_
      have BK182:=n2_
      have HO185:=n3_
      have HO191:=n4_
      have HB:=n5_
      have HO199:=n6_
      clear n0_ n1_ n2_ n3_ n4_ n5_ n6_
      clear ho hb hg hat
      refine hK.out _ _ ⟨(blk_cell BK182.out 0).trans rfl,(blk_cell BK182.out 1).trans rfl,(blk_cell BK182.out 2).trans rfl,(blk_cell BK182.out 3).trans rfl⟩ (fun hHeld=>?_)
      clear hK K
      refine norm_ (a':=?_) ?_ ?_
      rotate_left
      ·show Act.put _ (some 40) _=_
       simp only [Act.put,List.setIfInBounds_toArray,List.set_cons_zero,List.set_cons_succ,i64_w,i32_w]
       rfl
      refine one_ (i:=5) (N:=some 42) #[true,true,true,true,true,true,false,false,false] rfl rfl (one_of HT_.out (by kernel_rfl)) (by decide) (fun K hK=>?_)
      refine Kd.R_lit_step k34 _ 34 ?hg (N:=42) ?hd (xs:=([(⟨0,(⟨#[]⟩ : ByteArray)⟩ : S34)] : List (S34))) (inner:=[.int .i64 0,.string (⟨#[]⟩ : ByteArray)]) (ok:=fun _=>True) (okp:=fun _=>True) ?hr ?hp (fun _ hk=>hk) trivial (Below.refl _ _) (Nat.le_refl _) (by simp) ?_;(case hd=>rfl);(case hg=>rfl);(case hr=>first|(go_simp;done)|(go_simp;rfl));(case hp=>exact (Reps.c2 (show Kd.M k34 _ _ _ (⟨0,(⟨#[]⟩ : ByteArray)⟩ : S34) [.int .i64 0,.string (⟨#[]⟩ : ByteArray)] from (k34_mkM _ _ _ (⟨0,(⟨#[]⟩ : ByteArray)⟩ : S34) )) (Reps.none _ _)))
      intro v201 w197 ho198 hb hg_ hnew_
      clear hg_ hnew_
      (first|rw [← Ny200.out] at ho198|(simp only [Int.reduceToNat] at ho198;rw [← Ny200.out] at ho198))
      have n0_:=Aside0.mk (Kd.R_below (R_up HO178.out) hb)
      have n1_:=Aside0.mk (Kd.R_elder' (R_up HO185.out) (Kd.R_base ho198) hb)
      have n2_:=Aside0.mk (Kd.R_elder' (R_up HO191.out) (Kd.R_base ho198) hb)
      have n3_:=Aside0.mk (Kd.R_elder' (R_up HO199.out) (Kd.R_base ho198) hb)
      have n4_:=Aside0.mk (Kd.R_lower (Kd.R_new' (Kd.R_new' (Kd.R_new' ho198 (Kd.R_lt (R_up HO185.out))) (Kd.R_lt (R_up HO191.out))) (Kd.R_lt (R_up HO199.out))) (below_size (below_go HB.out)))
      have n5_:=Aside0.mk (blk_below (blk_up BK174.out) hb)
      have n6_:=Aside0.mk (blk_below (blk_up BK182.out) hb)
      have n7_:=Aside0.mk (below_step (below_go HB.out) hb)
      clear HO178
      clear HO185
      clear HO191
      clear HO199
      clear BK174
      clear BK182
      clear HB
      have HO178:=n0_
      have HO185:=n1_
      have HO191:=n2_
      have HO199:=n3_
      have HO202:=n4_
      have BK174:=n5_
      have BK182:=n6_
      have HB:=n7_
      clear n0_ n1_ n2_ n3_ n4_ n5_ n6_ n7_
      clear hb ho198
      refine hK.out _ _ ⟨(blk_cell BK182.out 0).trans rfl,(blk_cell BK182.out 1).trans rfl,(blk_cell BK182.out 2).trans rfl,(blk_cell BK182.out 3).trans rfl⟩ (fun hHeld=>?_)
      clear hK K
      refine norm_ (a':=?_) ?_ ?_
      rotate_left
      ·show Act.put _ (some 42) _=_
       simp only [Act.put,List.setIfInBounds_toArray,List.set_cons_zero,List.set_cons_succ,i64_w,i32_w]
       rfl
      exact norm_ (by simp only [putAll,Act.put,List.setIfInBounds_toArray,List.set_cons_zero,List.set_cons_succ]) (hCont (v195,v198,v201) _ ⟨hHeld,(R_up HO178.out),(by (with_reducible repeat (first|apply Kd.R_alloc|apply Kd.R_drewN|apply Kd.R_drew));exact Kd.R_mono HO185.out (fun _ hk=>⟨hk.1.1,⟨hk.1.2,hk.2⟩⟩)),(by (with_reducible repeat (first|apply Kd.R_alloc|apply Kd.R_drewN|apply Kd.R_drew));exact Kd.R_mono HO191.out (fun _ hk=>⟨hk.1.1,⟨hk.1.2,hk.2⟩⟩)),(by (with_reducible repeat (first|apply Kd.R_alloc|apply Kd.R_drewN|apply Kd.R_drew));exact Kd.R_mono HO199.out (fun _ hk=>⟨hk.1.1,⟨hk.1.2,hk.2⟩⟩)),(by (with_reducible repeat (first|apply Kd.R_alloc|apply Kd.R_drewN|apply Kd.R_drew));exact Kd.R_mono HO202.out (fun _ hk=>⟨hk.1.1.2,⟨hk.1.2,hk.2⟩⟩)),(blk_up BK174.out),(blk_up BK182.out),(below_go HB.out)⟩)
     ·skip
      refine Kd.R_lit_step k34 _ 34 ?hg (N:=42) ?hd (xs:=([(⟨0,(⟨#[]⟩ : ByteArray)⟩ : S34)] : List (S34))) (inner:=[.int .i64 0,.string (⟨#[]⟩ : ByteArray)]) (ok:=fun _=>True) (okp:=fun _=>True) ?hr ?hp (fun _ hk=>hk) trivial (Below.refl _ _) (Nat.le_refl _) (by simp) ?_;(case hd=>rfl);(case hg=>rfl);(case hr=>first|(go_simp;done)|(go_simp;rfl));(case hp=>exact (Reps.c2 (show Kd.M k34 _ _ _ (⟨0,(⟨#[]⟩ : ByteArray)⟩ : S34) [.int .i64 0,.string (⟨#[]⟩ : ByteArray)] from (k34_mkM _ _ _ (⟨0,(⟨#[]⟩ : ByteArray)⟩ : S34) )) (Reps.none _ _)))
      intro v201 w196 ho197 hb hg_ hnew_
      clear hg_ hnew_
      (first|rw [← Ny200.out] at ho197|(simp only [Int.reduceToNat] at ho197;rw [← Ny200.out] at ho197))
      have n0_:=Aside0.mk (Kd.R_below (R_up HO178.out) hb)
      have n1_:=Aside0.mk (Kd.R_elder' (R_up HO185.out) (Kd.R_base ho197) hb)
      have n2_:=Aside0.mk (Kd.R_elder' (R_up HO191.out) (Kd.R_base ho197) hb)
      have n3_:=Aside0.mk (Kd.R_elder' (R_up HO196.out) (Kd.R_base ho197) hb)
      have n4_:=Aside0.mk (Kd.R_lower (Kd.R_new' (Kd.R_new' (Kd.R_new' ho197 (Kd.R_lt (R_up HO185.out))) (Kd.R_lt (R_up HO191.out))) (Kd.R_lt (R_up HO196.out))) (below_size (below_go HB.out)))
      have n5_:=Aside0.mk (blk_below (blk_up BK174.out) hb)
      have n6_:=Aside0.mk (blk_below (blk_up BK182.out) hb)
      have n7_:=Aside0.mk (below_step (below_go HB.out) hb)
      clear HO178
      clear HO185
      clear HO191
      clear HO196
      clear BK174
      clear BK182
      clear HB
      have HO178:=n0_
      have HO185:=n1_
      have HO191:=n2_
      have HO196:=n3_
      have HO202:=n4_
      have BK174:=n5_
      have BK182:=n6_
      have HB:=n7_
      clear n0_ n1_ n2_ n3_ n4_ n5_ n6_ n7_
      clear hb ho197
      refine hK.out _ _ ⟨(blk_cell BK182.out 0).trans rfl,(blk_cell BK182.out 1).trans rfl,(blk_cell BK182.out 2).trans rfl,(blk_cell BK182.out 3).trans rfl⟩ (fun hHeld=>?_)
      clear hK K
      refine norm_ (a':=?_) ?_ ?_
      rotate_left
      ·show Act.put _ (some 42) _=_
       simp only [Act.put,List.setIfInBounds_toArray,List.set_cons_zero,List.set_cons_succ,i64_w,i32_w]
       rfl
      refine one_ (i:=3) (N:=some 40) #[true,true,true,true,true,true,false,false,false] rfl rfl (one_of HT_.out (by kernel_rfl)) (by decide) (fun K hK=>?_)
      refine Kd.R_append_rows_step k34 (w0:=w) w.heap.size (by rfl) (.tmp 38) (.tmp 39) 26 34 (.agg #[(.int .i64 0),(.string ⟨#[]⟩)]) 24 rfl Try.underlying26 info34 rfl (by decide) (by omega) v195 y194 t183 _ _ _ (fun k_=>some k_≠(.slice Ao185 t183.length co185 : Value).ownBlock∧some k_≠(.slice (some ⟨go12,0,none⟩) y189.length co12 : Value).ownBlock∧some k_≠(v201 : Value).ownBlock) (fun _=>False) rfl rfl ?aO ?aR (fun _ _ h=>h) (fun _ h=>h.elim) ?aF ?aB ?aS ?aL ?_
      (case aR=>repeat (first|exact (Kd.R_reads' HO185.out).2.2|(with_reducible refine Kd.C_alloc ?_ _)|(with_reducible refine Kd.C_drewN ?_ _)|(with_reducible refine Kd.C_drew ?_)))
      (case aB=>exact (below_go HB.out))
      (case aF=>exact (fun k_ hk=>⟨Kd.fresh' (Kd.R_lt (R_up HO185.out)) k_ hk,Kd.fresh' (Kd.R_lt (R_up HO191.out)) k_ hk,Kd.fresh' (Kd.R_lt (R_up HO202.out)) k_ hk⟩))
      (case aO=>exact (by (with_reducible repeat (first|apply Kd.R_alloc|apply Kd.R_drewN|apply Kd.R_drew));exact Kd.R_mono HO196.out (fun _ hk=>⟨hk.1.1.2,⟨hk.1.2,hk.2⟩⟩)))
      (case aS=>exact (below_size (below_go HB.out)))
      (case aL=>have:=LMc14.out;omega)
      intro v198 w198 ho hb hg hat
      rw [← Ny197.out] at ho
      have n0_:=Aside0.mk (blk_grown (blk_up BK174.out) hg (Kd.R_ne HO196.out BK174.out (by decide)))
      have n1_:=Aside0.mk (Kd.R_over' (R_up HO178.out) (Kd.R_typed (R_up HO196.out)) (by decide) hg)
      have n2_:=Aside0.mk (blk_grown (blk_up BK182.out) hg (Kd.R_ne HO196.out BK182.out (by decide)))
      have n3_:=Aside0.mk (Kd.R_after (ok:=(fun k_=>some k_≠(.slice (some ⟨go12,0,none⟩) y189.length co12 : Value).ownBlock∧some k_≠(v201 : Value).ownBlock)) (by (with_reducible repeat (first|apply Kd.R_alloc|apply Kd.R_drewN|apply Kd.R_drew));exact Kd.R_mono HO185.out (fun _ hk=>⟨⟨hk.1.1.2,hk.2⟩,hk.1.2⟩)) hg hat)
      have n4_:=Aside0.mk (Kd.R_after (ok:=(fun k_=>some k_≠(.slice Ao185 t183.length co185 : Value).ownBlock∧some k_≠(v201 : Value).ownBlock)) (by (with_reducible repeat (first|apply Kd.R_alloc|apply Kd.R_drewN|apply Kd.R_drew));exact Kd.R_mono HO191.out (fun _ hk=>⟨⟨hk.1.1,hk.2⟩,hk.1.2⟩)) hg hat)
      have n5_:=Aside0.mk (Kd.R_after (ok:=(fun k_=>some k_≠(.slice Ao185 t183.length co185 : Value).ownBlock∧some k_≠(.slice (some ⟨go12,0,none⟩) y189.length co12 : Value).ownBlock)) (by (with_reducible repeat (first|apply Kd.R_alloc|apply Kd.R_drewN|apply Kd.R_drew));exact Kd.R_mono HO202.out (fun _ hk=>⟨⟨hk.1.1.2,hk.1.2⟩,hk.2⟩)) hg hat)
      have n6_:=Aside0.mk (hb)
      have n7_:=Aside0.mk (ho)
      clear BK174
      clear HO178
      clear BK182
      clear HO185
      clear HO191
      clear HO202
      clear HB
      clear HO196
      have BK174:=n0_
      have HO178:=n1_
      have BK182:=n2_
      have HO185:=n3_
      have HO191:=n4_
      have HO202:=n5_
      have HB:=n6_
      have HO199:=n7_
      clear n0_ n1_ n2_ n3_ n4_ n5_ n6_ n7_
      clear ho hb hg hat
      refine hK.out _ _ ⟨(blk_cell BK182.out 0).trans rfl,(blk_cell BK182.out 1).trans rfl,(blk_cell BK182.out 2).trans rfl,(blk_cell BK182.out 3).trans rfl⟩ (fun hHeld=>?_)
      clear hK K
      refine norm_ (a':=?_) ?_ ?_
      rotate_left
      ·show Act.put _ (some 40) _=_
       simp only [Act.put,List.setIfInBounds_toArray,List.set_cons_zero,List.set_cons_succ,i64_w,i32_w]
       rfl
      exact norm_ (by simp only [putAll,Act.put,List.setIfInBounds_toArray,List.set_cons_zero,List.set_cons_succ]) (hCont (v195,v198,v201) _ ⟨hHeld,(R_up HO178.out),(by (with_reducible repeat (first|apply Kd.R_alloc|apply Kd.R_drewN|apply Kd.R_drew));exact Kd.R_mono HO185.out (fun _ hk=>⟨hk.1.1,⟨hk.2,hk.1.2⟩⟩)),(by (with_reducible repeat (first|apply Kd.R_alloc|apply Kd.R_drewN|apply Kd.R_drew));exact Kd.R_mono HO191.out (fun _ hk=>⟨hk.1.1,⟨hk.2,hk.1.2⟩⟩)),(R_up HO199.out),(by (with_reducible repeat (first|apply Kd.R_alloc|apply Kd.R_drewN|apply Kd.R_drew));exact Kd.R_mono HO202.out (fun _ hk=>⟨hk.1.1,⟨hk.1.2,hk.2⟩⟩)),(blk_up BK174.out),(blk_up BK182.out),(below_go HB.out)⟩)
    ·skip
     refine Kd.R_lit_step k34 _ 34 ?hg (N:=42) ?hd (xs:=([(⟨0,(⟨#[]⟩ : ByteArray)⟩ : S34)] : List (S34))) (inner:=[.int .i64 0,.string (⟨#[]⟩ : ByteArray)]) (ok:=fun _=>True) (okp:=fun _=>True) ?hr ?hp (fun _ hk=>hk) trivial (Below.refl _ _) (Nat.le_refl _) (by simp) ?_;(case hd=>rfl);(case hg=>rfl);(case hr=>first|(go_simp;done)|(go_simp;rfl));(case hp=>exact (Reps.c2 (show Kd.M k34 _ _ _ (⟨0,(⟨#[]⟩ : ByteArray)⟩ : S34) [.int .i64 0,.string (⟨#[]⟩ : ByteArray)] from (k34_mkM _ _ _ (⟨0,(⟨#[]⟩ : ByteArray)⟩ : S34) )) (Reps.none _ _)))
     intro v201 w194 ho195 hb hg_ hnew_
     clear hg_ hnew_
     (first|rw [← Ny200.out] at ho195|(simp only [Int.reduceToNat] at ho195;rw [← Ny200.out] at ho195))
     have n0_:=Aside0.mk (Kd.R_below (R_up HO178.out) hb)
     have n1_:=Aside0.mk (Kd.R_elder' (R_up HO185.out) (Kd.R_base ho195) hb)
     have n2_:=Aside0.mk (Kd.R_elder' (R_up HO191.out) (Kd.R_base ho195) hb)
     have n3_:=Aside0.mk (Kd.R_lower (Kd.R_new' (Kd.R_new' ho195 (Kd.R_lt (R_up HO185.out))) (Kd.R_lt (R_up HO191.out))) (below_size (below_go HB.out)))
     have n4_:=Aside0.mk (blk_below (blk_up BK174.out) hb)
     have n5_:=Aside0.mk (blk_below (blk_up BK182.out) hb)
     have n6_:=Aside0.mk (below_step (below_go HB.out) hb)
     clear HO178
     clear HO185
     clear HO191
     clear BK174
     clear BK182
     clear HB
     have HO178:=n0_
     have HO185:=n1_
     have HO191:=n2_
     have HO202:=n3_
     have BK174:=n4_
     have BK182:=n5_
     have HB:=n6_
     clear n0_ n1_ n2_ n3_ n4_ n5_ n6_
     clear hb ho195
     refine hK.out _ _ ⟨(blk_cell BK182.out 0).trans rfl,(blk_cell BK182.out 1).trans rfl,(blk_cell BK182.out 2).trans rfl,(blk_cell BK182.out 3).trans rfl⟩ (fun hHeld=>?_)
     clear hK K
     refine norm_ (a':=?_) ?_ ?_
     rotate_left
     ·show Act.put _ (some 42) _=_
      simp only [Act.put,List.setIfInBounds_toArray,List.set_cons_zero,List.set_cons_succ,i64_w,i32_w]
      rfl
     refine one_ (i:=1) (N:=some 38) #[true,true,true,false,true,true,false,false,false] rfl rfl (one_of HT_.out (by kernel_rfl)) (by decide) (fun K hK=>?_)
     refine Kd.R_lit_step k34 _ 34 ?hg (N:=38) ?hd (xs:=([] : List (S34))) (inner:=[]) (ok:=fun _=>True) (okp:=fun _=>True) ?hr ?hp (fun _ hk=>hk) trivial (Below.refl _ _) (Nat.le_refl _) (by simp) ?_;(case hd=>rfl);(case hg=>rfl);(case hr=>first|(go_simp;done)|(go_simp;rfl));(case hp=>exact (Reps.none _ _))
     intro v195 w196 ho197 hb hg_ hnew_
     clear hg_ hnew_
     (first|rw [← Ny194.out] at ho197|(simp only [Int.reduceToNat] at ho197;rw [← Ny194.out] at ho197))
     have n0_:=Aside0.mk (Kd.R_below (R_up HO178.out) hb)
     have n1_:=Aside0.mk (Kd.R_elder' (R_up HO185.out) (Kd.R_base ho197) hb)
     have n2_:=Aside0.mk (Kd.R_elder' (R_up HO191.out) (Kd.R_base ho197) hb)
     have n3_:=Aside0.mk (Kd.R_elder' (R_up HO202.out) (Kd.R_base ho197) hb)
     have n4_:=Aside0.mk (Kd.R_lower (Kd.R_new' (Kd.R_new' (Kd.R_new' ho197 (Kd.R_lt (R_up HO185.out))) (Kd.R_lt (R_up HO191.out))) (Kd.R_lt (R_up HO202.out))) (below_size (below_go HB.out)))
     have n5_:=Aside0.mk (blk_below (blk_up BK174.out) hb)
     have n6_:=Aside0.mk (blk_below (blk_up BK182.out) hb)
     have n7_:=Aside0.mk (below_step (below_go HB.out) hb)
     clear HO178
     clear HO185
     clear HO191
     clear HO202
     clear BK174
     clear BK182
     clear HB
     have HO178:=n0_
     have HO185:=n1_
     have HO191:=n2_
     have HO202:=n3_
     have HO196:=n4_
     have BK174:=n5_
     have BK182:=n6_
     have HB:=n7_
     clear n0_ n1_ n2_ n3_ n4_ n5_ n6_ n7_
     clear hb ho197
     refine hK.out _ _ ⟨(blk_cell BK182.out 0).trans rfl,(blk_cell BK182.out 1).trans rfl,(blk_cell BK182.out 2).trans rfl,(blk_cell BK182.out 3).trans rfl⟩ (fun hHeld=>?_)
     clear hK K
     refine norm_ (a':=?_) ?_ ?_
     rotate_left
     ·show Act.put _ (some 38) _=_
      simp only [Act.put,List.setIfInBounds_toArray,List.set_cons_zero,List.set_cons_succ,i64_w,i32_w]
      rfl
     refine one_ (i:=3) (N:=some 40) #[true,true,true,true,true,true,false,false,false] rfl rfl (one_of HT_.out (by kernel_rfl)) (by decide) (fun K hK=>?_)
     refine Kd.R_append_rows_step k34 (w0:=w) w.heap.size (by rfl) (.tmp 38) (.tmp 39) 26 34 (.agg #[(.int .i64 0),(.string ⟨#[]⟩)]) 24 rfl Try.underlying26 info34 rfl (by decide) (by omega) v195 y194 t183 _ _ _ (fun k_=>some k_≠(.slice Ao185 t183.length co185 : Value).ownBlock∧some k_≠(.slice (some ⟨go12,0,none⟩) y189.length co12 : Value).ownBlock∧some k_≠(v201 : Value).ownBlock) (fun _=>False) rfl rfl ?aO ?aR (fun _ _ h=>h) (fun _ h=>h.elim) ?aF ?aB ?aS ?aL ?_
     (case aR=>repeat (first|exact (Kd.R_reads' HO185.out).2.2|(with_reducible refine Kd.C_alloc ?_ _)|(with_reducible refine Kd.C_drewN ?_ _)|(with_reducible refine Kd.C_drew ?_)))
     (case aB=>exact (below_go HB.out))
     (case aF=>exact (fun k_ hk=>⟨Kd.fresh' (Kd.R_lt (R_up HO185.out)) k_ hk,Kd.fresh' (Kd.R_lt (R_up HO191.out)) k_ hk,Kd.fresh' (Kd.R_lt (R_up HO202.out)) k_ hk⟩))
     (case aO=>exact (by (with_reducible repeat (first|apply Kd.R_alloc|apply Kd.R_drewN|apply Kd.R_drew));exact Kd.R_mono HO196.out (fun _ hk=>⟨hk.1.1.2,⟨hk.1.2,hk.2⟩⟩)))
     (case aS=>exact (below_size (below_go HB.out)))
     (case aL=>have:=LMc14.out;omega)
     intro v198 w198 ho hb hg hat
     rw [← Ny197.out] at ho
     have n0_:=Aside0.mk (blk_grown (blk_up BK174.out) hg (Kd.R_ne HO196.out BK174.out (by decide)))
     have n1_:=Aside0.mk (Kd.R_over' (R_up HO178.out) (Kd.R_typed (R_up HO196.out)) (by decide) hg)
     have n2_:=Aside0.mk (blk_grown (blk_up BK182.out) hg (Kd.R_ne HO196.out BK182.out (by decide)))
     have n3_:=Aside0.mk (Kd.R_after (ok:=(fun k_=>some k_≠(.slice (some ⟨go12,0,none⟩) y189.length co12 : Value).ownBlock∧some k_≠(v201 : Value).ownBlock)) (by (with_reducible repeat (first|apply Kd.R_alloc|apply Kd.R_drewN|apply Kd.R_drew));exact Kd.R_mono HO185.out (fun _ hk=>⟨⟨hk.1.1.2,hk.1.2⟩,hk.2⟩)) hg hat)
     have n4_:=Aside0.mk (Kd.R_after (ok:=(fun k_=>some k_≠(.slice Ao185 t183.length co185 : Value).ownBlock∧some k_≠(v201 : Value).ownBlock)) (R_up HO191.out) hg hat)
     have n5_:=Aside0.mk (Kd.R_after (ok:=(fun k_=>some k_≠(.slice Ao185 t183.length co185 : Value).ownBlock∧some k_≠(.slice (some ⟨go12,0,none⟩) y189.length co12 : Value).ownBlock)) (by (with_reducible repeat (first|apply Kd.R_alloc|apply Kd.R_drewN|apply Kd.R_drew));exact Kd.R_mono HO202.out (fun _ hk=>⟨⟨hk.1.1.2,hk.1.2⟩,hk.2⟩)) hg hat)
     have n6_:=Aside0.mk (hb)
     have n7_:=Aside0.mk (ho)
     clear BK174
     clear HO178
     clear BK182
     clear HO185
     clear HO191
     clear HO202
     clear HB
     clear HO196
     have BK174:=n0_
     have HO178:=n1_
     have BK182:=n2_
     have HO185:=n3_
     have HO191:=n4_
     have HO202:=n5_
     have HB:=n6_
     have HO199:=n7_
     clear n0_ n1_ n2_ n3_ n4_ n5_ n6_ n7_
     clear ho hb hg hat
     refine hK.out _ _ ⟨(blk_cell BK182.out 0).trans rfl,(blk_cell BK182.out 1).trans rfl,(blk_cell BK182.out 2).trans rfl,(blk_cell BK182.out 3).trans rfl⟩ (fun hHeld=>?_)
     clear hK K
     refine norm_ (a':=?_) ?_ ?_
     rotate_left
     ·show Act.put _ (some 40) _=_
      simp only [Act.put,List.setIfInBounds_toArray,List.set_cons_zero,List.set_cons_succ,i64_w,i32_w]
      rfl
     exact norm_ (by simp only [putAll,Act.put,List.setIfInBounds_toArray,List.set_cons_zero,List.set_cons_succ]) (hCont (v195,v198,v201) _ ⟨hHeld,(R_up HO178.out),(by (with_reducible repeat (first|apply Kd.R_alloc|apply Kd.R_drewN|apply Kd.R_drew));exact Kd.R_mono HO185.out (fun _ hk=>⟨hk.1.1,⟨hk.2,hk.1.2⟩⟩)),(by (with_reducible repeat (first|apply Kd.R_alloc|apply Kd.R_drewN|apply Kd.R_drew));exact Kd.R_mono HO191.out (fun _ hk=>⟨hk.1.1,⟨hk.2,hk.1.2⟩⟩)),(R_up HO199.out),(by (with_reducible repeat (first|apply Kd.R_alloc|apply Kd.R_drewN|apply Kd.R_drew));exact Kd.R_mono HO202.out (fun _ hk=>⟨hk.1.1,⟨hk.1.2,hk.2⟩⟩)),(blk_up BK174.out),(blk_up BK182.out),(below_go HB.out)⟩)
   rintro ⟨v195,v198,v201⟩ w199 ⟨hS_,h0_,h1_,h2_,h3_,h4_,h5_,h6_,h7_⟩
   have n0_ : Aside0 (Kd.R (Kd.int .i64) 3 w199 w.heap.size (fun _=>True) (.slice Ao181 t176.length co181) t176):=⟨h0_⟩
   have n1_ : Aside0 (Kd.R k34 34 w199 w.heap.size (fun k_=>some k_≠(.slice (some ⟨go12,0,none⟩) y189.length co12 : Value).ownBlock∧some k_≠(v198 : Value).ownBlock∧some k_≠(v201 : Value).ownBlock) (.slice Ao185 t183.length co185) t183):=⟨h1_⟩
   have n2_ : Aside0 (Kd.R k34 34 w199 w.heap.size (fun k_=>some k_≠(.slice Ao185 t183.length co185 : Value).ownBlock∧some k_≠(v198 : Value).ownBlock∧some k_≠(v201 : Value).ownBlock) (.slice (some ⟨go12,0,none⟩) y189.length co12) y192):=⟨h2_⟩
   have n3_ : Aside0 (Kd.R k34 34 w199 w.heap.size (fun k_=>some k_≠(.slice Ao185 t183.length co185 : Value).ownBlock∧some k_≠(.slice (some ⟨go12,0,none⟩) y189.length co12 : Value).ownBlock∧some k_≠(v201 : Value).ownBlock) v198 y197):=⟨h3_⟩
   have n4_ : Aside0 (Kd.R k34 34 w199 w.heap.size (fun k_=>some k_≠(.slice Ao185 t183.length co185 : Value).ownBlock∧some k_≠(.slice (some ⟨go12,0,none⟩) y189.length co12 : Value).ownBlock∧some k_≠(v198 : Value).ownBlock) v201 y200):=⟨h4_⟩
   have n5_ : Aside0 (w199.heap[gb174]?=some (.cells #[.int .u8 a0_0,.int .u8 a0_1,.int .u8 a0_2,.int .u8 a0_3,.int .u8 a0_4,.int .u8 a0_5,.int .u8 a0_6,.int .u8 a0_7,.int .u8 a0_8,.int .u8 a0_9,.int .u8 a0_10,.int .u8 a0_11] 24 (0,0))):=⟨h5_⟩
   have n6_ : Aside0 (w199.heap[gb182]?=some (.cells #[.slice Ao181 t176.length co181,.int .i64 t179,.int .i64 t180,.int .i64 t181] 30 (0,0))):=⟨h6_⟩
   have n7_ : Aside0 (Below w.heap.size w w199):=⟨h7_⟩
   clear HO178
   clear HO185
   clear HO191
   clear BK174
   clear BK182
   clear HB
   clear h0_ h1_ h2_ h3_ h4_ h5_ h6_ h7_
   have HO178:=n0_
   have HO185:=n1_
   have HO191:=n2_
   have HO199:=n3_
   have HO202:=n4_
   have BK174:=n5_
   have BK182:=n6_
   have HB:=n7_
   clear n0_ n1_ n2_ n3_ n4_ n5_ n6_ n7_
   have hHeld : w199.cell? ⟨gb182,0,none⟩=some (.slice Ao181 t176.length co181)∧w199.cell? ⟨gb182,1,none⟩=some (.int .i64 t179)∧w199.cell? ⟨gb182,2,none⟩=some (.int .i64 t180)∧w199.cell? ⟨gb182,3,none⟩=some (.int .i64 t181):=hS_
   obtain ⟨Ao201,co201,eo201⟩:=Kd.R_slice HO202.out
   (first|subst eo201|(injection eo201 with f1_ f2_ f3_;have f4_:=f1_.symm;have f5_:=f3_.symm;clear f1_ f2_ f3_;subst f4_;subst f5_))
   refine norm_ (a':=?_) ?_ ?_
   rotate_left
   ·simp only [putAll,Act.put,List.setIfInBounds_toArray,List.set_cons_zero,List.set_cons_succ]
    rfl
   refine one_ (i:=6) (N:=some 43) #[true,true,true,true,true,true,true,false,false] rfl rfl (one_of HT_.out (by kernel_rfl)) (by decide) (fun K hK=>?_)
   refine Kd.R_append_rows_step k34 (w0:=w) w.heap.size (by rfl) (.tmp 40) (.tmp 42) 26 34 (.agg #[(.int .i64 0),(.string ⟨#[]⟩)]) 24 rfl Try.underlying26 info34 rfl (by decide) (by omega) v198 y197 y200 _ _ _ (fun k_=>some k_≠(.slice Ao185 t183.length co185 : Value).ownBlock∧some k_≠(.slice (some ⟨go12,0,none⟩) y189.length co12 : Value).ownBlock∧some k_≠(.slice Ao201 y200.length co201 : Value).ownBlock) (fun _=>False) rfl rfl ?aO ?aR (fun _ _ h=>h) (fun _ h=>h.elim) ?aF ?aB ?aS ?aL ?_
   (case aR=>repeat (first|exact (Kd.R_reads' HO202.out).2.2|(with_reducible refine Kd.C_alloc ?_ _)|(with_reducible refine Kd.C_drewN ?_ _)|(with_reducible refine Kd.C_drew ?_)))
   (case aB=>exact (below_go HB.out))
   (case aF=>exact (fun k_ hk=>⟨Kd.fresh' (Kd.R_lt (R_up HO185.out)) k_ hk,Kd.fresh' (Kd.R_lt (R_up HO191.out)) k_ hk,Kd.fresh' (Kd.R_lt (R_up HO202.out)) k_ hk⟩))
   (case aO=>exact (R_up HO199.out))
   (case aS=>exact (below_size (below_go HB.out)))
   (case aL=>have:=LMc15.out;omega)
   intro v204 w200 ho hb hg hat
   rw [← Ny203.out] at ho
   have n0_:=Aside0.mk (blk_grown (blk_up BK174.out) hg (Kd.R_ne HO199.out BK174.out (by decide)))
   have n1_:=Aside0.mk (Kd.R_over' (R_up HO178.out) (Kd.R_typed (R_up HO199.out)) (by decide) hg)
   have n2_:=Aside0.mk (blk_grown (blk_up BK182.out) hg (Kd.R_ne HO199.out BK182.out (by decide)))
   have n3_:=Aside0.mk (Kd.R_after (ok:=(fun k_=>some k_≠(.slice (some ⟨go12,0,none⟩) y189.length co12 : Value).ownBlock∧some k_≠(.slice Ao201 y200.length co201 : Value).ownBlock)) (by (with_reducible repeat (first|apply Kd.R_alloc|apply Kd.R_drewN|apply Kd.R_drew));exact Kd.R_mono HO185.out (fun _ hk=>⟨⟨hk.1,hk.2.2⟩,hk.2.1⟩)) hg hat)
   have n4_:=Aside0.mk (Kd.R_after (ok:=(fun k_=>some k_≠(.slice Ao185 t183.length co185 : Value).ownBlock∧some k_≠(.slice Ao201 y200.length co201 : Value).ownBlock)) (by (with_reducible repeat (first|apply Kd.R_alloc|apply Kd.R_drewN|apply Kd.R_drew));exact Kd.R_mono HO191.out (fun _ hk=>⟨⟨hk.1,hk.2.2⟩,hk.2.1⟩)) hg hat)
   have n5_:=Aside0.mk (Kd.R_after (ok:=(fun k_=>some k_≠(.slice Ao185 t183.length co185 : Value).ownBlock∧some k_≠(.slice (some ⟨go12,0,none⟩) y189.length co12 : Value).ownBlock)) (by (with_reducible repeat (first|apply Kd.R_alloc|apply Kd.R_drewN|apply Kd.R_drew));exact Kd.R_mono HO202.out (fun _ hk=>⟨⟨hk.1,hk.2.1⟩,hk.2.2⟩)) hg hat)
   have n6_:=Aside0.mk (hb)
   have n7_:=Aside0.mk (ho)
   clear BK174
   clear HO178
   clear BK182
   clear HO185
   clear HO191
   clear HO202
   clear HB
   clear HO199
   have BK174:=n0_
   have HO178:=n1_
   have BK182:=n2_
   have HO185:=n3_
   have HO191:=n4_
   have HO202:=n5_
   have HB:=n6_
   have HO205:=n7_
   clear n0_ n1_ n2_ n3_ n4_ n5_ n6_ n7_
   clear ho hb hg hat
   obtain ⟨Ao202,co202,eo202⟩:=Kd.R_slice HO205.out
   (first|subst eo202|(injection eo202 with f1_ f2_ f3_;have f4_:=f1_.symm;have f5_:=f3_.symm;clear f1_ f2_ f3_;subst f4_;subst f5_))
   refine hK.out _ _ ⟨(blk_cell BK182.out 0).trans rfl,(blk_cell BK182.out 1).trans rfl,(blk_cell BK182.out 2).trans rfl,(blk_cell BK182.out 3).trans rfl⟩ (fun hHeld=>?_)
   clear hK K
   refine norm_ (a':=?_) ?_ ?_
   rotate_left
   ·show Act.put _ (some 43) _=_
    simp only [Act.put,List.setIfInBounds_toArray,List.set_cons_zero,List.set_cons_succ,i64_w,i32_w]
    rfl
   refine one_ (i:=7) (N:=some 44) #[true,true,true,true,true,true,true,true,false] rfl rfl (one_of HT_.out (by kernel_rfl)) (by decide) (fun K hK=>?_)
   refine goes_ Try.func12 (by kernel_rfl) rfl #[.agg #[.slice Ao181 t176.length co181,.int .i64 t179,.int .i64 t180,.int .i64 t181],.slice Ao202 y203.length co202] (by rfl) rfl rfl (by (try simp only [List.map_toArray,List.map_cons,List.map_nil]);first|done|rfl|(simp only [List.length_drop,List.length_take];rfl)) ?_
   with_reducible refine (schema_Row.calls _ _ t176 t179 t180 t181 _ _ y203 false _ ?side1 ?side2 ?side3 ?side4 A16.out).mono ?_
   (case side1=>repeat (first|exact (Kd.R_reads' HO178.out).2.2|(with_reducible refine Kd.C_alloc ?_ _)|(with_reducible refine Kd.C_drewN ?_ _)|(with_reducible refine Kd.C_drew ?_)))
   (case side2=>exact (Kd.R_reads' HO178.out).2.1)
   (case side3=>repeat (first|exact (Kd.R_reads' HO205.out).2.2|(with_reducible refine Kd.C_alloc ?_ _)|(with_reducible refine Kd.C_drewN ?_ _)|(with_reducible refine Kd.C_drew ?_)))
   (case side4=>exact (Kd.R_reads' HO205.out).2.1)
   rintro e w203 ⟨rfl,hb⟩
   refine ⟨_,rfl,?_⟩
   have n0_:=Aside0.mk (Kd.R_below (R_up HO178.out) hb)
   have n1_:=Aside0.mk (Kd.R_below (R_up HO185.out) hb)
   have n2_:=Aside0.mk (Kd.R_below (R_up HO191.out) hb)
   have n3_:=Aside0.mk (Kd.R_below (R_up HO202.out) hb)
   have n4_:=Aside0.mk (Kd.R_below (R_up HO205.out) hb)
   have n5_:=Aside0.mk (blk_below (blk_up BK174.out) hb)
   have n6_:=Aside0.mk (blk_below (blk_up BK182.out) hb)
   have n7_:=Aside0.mk (below_step (below_go HB.out) hb)
   clear HO178
   clear HO185
   clear HO191
   clear HO202
   clear HO205
   clear BK174
   clear BK182
   clear HB
   have HO178:=n0_
   have HO185:=n1_
   have HO191:=n2_
   have HO202:=n3_
   have HO205:=n4_
   have BK174:=n5_
   have BK182:=n6_
   have HB:=n7_
   clear n0_ n1_ n2_ n3_ n4_ n5_ n6_ n7_
   (try clear hb)
   (try clear hb2)
   (try clear hk)
   (try clear hi)
   refine hK.out _ _ ⟨(blk_cell BK182.out 0).trans rfl,(blk_cell BK182.out 1).trans rfl,(blk_cell BK182.out 2).trans rfl,(blk_cell BK182.out 3).trans rfl⟩ (fun hHeld=>?_)
   clear hK K
   refine norm_ (a':=?_) ?_ ?_
   rotate_left
   ·show Act.put _ (some 44) _=_
    simp only [Act.put,List.setIfInBounds_toArray,List.set_cons_zero,List.set_cons_succ,i64_w,i32_w]
    rfl
   refine pure_ (i:=8) (N:=some 13) (v:=?_) (a':=?_) #[true,true,true,true,true,true,true,true,true] rfl rfl (any_of HT_.out (by kernel_rfl)) (fun _ _ _ h=>h) (Or.inl ⟨by rfl,?_⟩) ?_ ?_
   rotate_left;(intro w';go_simp;with_reducible rfl);rotate_left;(simp only [Act.put,List.setIfInBounds_toArray,List.set_cons_zero,List.set_cons_succ,i64_w,i32_w];rfl)
   refine done_ (done_of HT_.out (by kernel_rfl)) ?_
   (try clear hHeld)
   try go_wp2
   have n0_:=Aside0.mk (Kd.R_drew HO178.out)
   have n1_:=Aside0.mk (Kd.R_drew HO185.out)
   have n2_:=Aside0.mk (Kd.R_drew HO191.out)
   have n3_:=Aside0.mk (Kd.R_drew HO202.out)
   have n4_:=Aside0.mk (Kd.R_drew HO205.out)
   have n5_:=Aside0.mk (blk_drew BK174.out)
   have n6_:=Aside0.mk (blk_drew BK182.out)
   have n7_:=Aside0.mk (below_drew1 HB.out)
   clear HO178
   clear HO185
   clear HO191
   clear HO202
   clear HO205
   clear BK174
   clear BK182
   clear HB
   have HO178:=n0_
   have HO185:=n1_
   have HO191:=n2_
   have HO202:=n3_
   have HO205:=n4_
   have BK174:=n5_
   have BK182:=n6_
   have HB:=n7_
   clear n0_ n1_ n2_ n3_ n4_ n5_ n6_ n7_
   have q205 : ((ji17) : Int)≤((t183.length : Int) : Int):=of_decide_eq_true (by first|(with_reducible assumption)|assumption)
   obtain ⟨i0205,hi0205,_,hsz205,_⟩:=info_parts info34
   have hroom205 : t183.length≤co185:=(Kd.R_reads' HO185.out).2.1
   have hC205 : Kd.F k34 _ _ Ao185 t183.length t183:=(Kd.V_at (base:=w.heap.size) (Kd.R_V (Kd.R_types (Kd.R_types (Kd.R_apart' (HO185.out) (Kd.R_typed HO178.out) (by decide)) BK174.out (by decide)) BK182.out (by decide)))).2.2
   have hcut205:=cut_to (P:=Try.prog) 26 34 .i64 Try.underlying26 hi0205 Ao185 t183.length co185 (ji17) (of_decide_eq_true (by first|(with_reducible assumption)|assumption)) q205 hroom205
   have hr205:=Kd.F_take (m:=((ji17) : Int).toNat) hC205 (by omega)
   have hy205 : y207.length=((ji17) : Int).toNat:=(by rw [Ny207.out,List.length_take];omega)
   rw [← Ny207.out] at hr205
   rw [← hy205] at hcut205
   have HO211:=Aside0.mk (show Kd.V k34 34 _ w.heap.size _ (.slice Ao185 y207.length co185) y207 from Kd.V_mk (by omega) hr205)
   have HC211:=Aside0.mk (show y207.length≤co185 from by omega)
   clear hr205 hC205 hroom205 hi0205 hsz205
   have KY205:=Aside0.mk hy205
   clear hy205
   replace q205:=eq_true q205
   refine start_ (n:=8) (S:=fun w'=>w'.cell? ⟨gb182,0,none⟩=some (.slice Ao181 t176.length co181)∧w'.cell? ⟨gb182,1,none⟩=some (.int .i64 t179)∧w'.cell? ⟨gb182,2,none⟩=some (.int .i64 t180)∧w'.cell? ⟨gb182,3,none⟩=some (.int .i64 t181)) (ds:=[]) #[false,false,false,false,false,false,false,false] (by kernel_rfl) rfl rfl ⟨(blk_cell BK182.out 0).trans rfl,(blk_cell BK182.out 1).trans rfl,(blk_cell BK182.out 2).trans rfl,(blk_cell BK182.out 3).trans rfl⟩ (fun hHeld=>?_);refine with_tabW thresherlaw04_SchemaRows.tab9 thresherlaw04_SchemaRows.bits9 (fun HT_ HW_=>?_)
   generalize w203.drew=w204 at HO178 HO185 HO191 HO202 HO205 BK174 BK182 HB HO211 hHeld ⊢
   refine pure_ (i:=1) (N:=some 46) (v:=?_) (a':=?_) #[false,true,false,false,false,false,false,false] rfl rfl (any_of HT_.out (by kernel_rfl)) (fun _ _ _ h=>h) (Or.inl ⟨by rfl,?_⟩) ?_ ?_
   rotate_left;(intro w';go_simp;with_reducible rfl);rotate_left;(simp only [Act.put,List.setIfInBounds_toArray,List.set_cons_zero,List.set_cons_succ,i64_w,i32_w];rfl)
   refine pure_ (i:=2) (N:=some 47) (v:=?_) (a':=?_) #[false,true,true,false,false,false,false,false] rfl rfl (any_of HT_.out (by kernel_rfl)) (fun _ _ _ h=>h) (Or.inl ⟨by rfl,?_⟩) ?_ ?_
   rotate_left;(intro w';go_simp;with_reducible rfl);rotate_left;(simp only [Act.put,List.setIfInBounds_toArray,List.set_cons_zero,List.set_cons_succ,i64_w,i32_w];rfl)
   refine pure_ (i:=3) (N:=some 48) (v:=?_) (a':=?_) #[false,true,true,true,false,false,false,false] rfl rfl (any_of HT_.out (by kernel_rfl)) (fun _ _ _ h=>h) (Or.inl ⟨by rfl,?_⟩) ?_ ?_
   rotate_left;(intro w';go_simp;with_reducible rfl);rotate_left;(simp only [Act.put,List.setIfInBounds_toArray,List.set_cons_zero,List.set_cons_succ,i64_w,i32_w];rfl)
   refine pure_ (i:=4) (N:=some 49) (v:=?_) (a':=?_) #[false,true,true,true,true,false,false,false] rfl rfl (any_of HT_.out (by kernel_rfl)) (fun _ _ _ h=>h) (Or.inl ⟨by rfl,?_⟩) ?_ ?_
   rotate_left;(intro w';go_simp;with_reducible rfl);rotate_left;(simp only [Act.put,List.setIfInBounds_toArray,List.set_cons_zero,List.set_cons_succ,i64_w,i32_w];rfl)
   refine pure_ (i:=5) (N:=some 50) (v:=?_) (a':=?_) #[false,true,true,true,true,true,false,false] rfl rfl (any_of HT_.out (by kernel_rfl)) (fun _ _ _ h=>h) (Or.inl ⟨by rfl,?_⟩) ?_ ?_
   rotate_left;(intro w';go_simp;with_reducible rfl);rotate_left;(simp only [Act.put,List.setIfInBounds_toArray,List.set_cons_zero,List.set_cons_succ,i64_w,i32_w];rfl)
   refine take_ (i:=0) (N:=some 45) (v:=?_) (a':=?_) #[true,true,true,true,true,true,false,false] rfl rfl (take_ofW HT_.out HW_.out (by kernel_rfl)) (fun _ _ _ h=>h) (Or.inl ⟨by rfl,?_⟩) hHeld ?_ ?_
   rotate_left;(rintro w' ⟨s0,s1,s2,s3⟩;go_simp;with_reducible rfl);rotate_left;(simp only [Act.put,List.setIfInBounds_toArray,List.set_cons_zero,List.set_cons_succ,i64_w,i32_w];rfl)
   refine one_ (i:=6) (N:=some 51) #[true,true,true,true,true,true,true,false] rfl rfl (one_of HT_.out (by kernel_rfl)) (by decide) (fun K hK=>?_)
   refine goes_ Try.func12 (by kernel_rfl) rfl #[.agg #[.slice Ao181 t176.length co181,.int .i64 t179,.int .i64 t180,.int .i64 t181],.slice Ao185 y207.length co185] (by rfl) rfl rfl (by (try simp only [List.map_toArray,List.map_cons,List.map_nil]);first|done|rfl|(simp only [List.length_drop,List.length_take];rfl)) ?_
   with_reducible refine (schema_Row.calls _ _ t176 t179 t180 t181 _ _ y207 false _ ?side1 ?side2 ?side3 ?side4 A20.out).mono ?_
   (case side1=>repeat (first|exact (Kd.R_reads' HO178.out).2.2|(with_reducible refine Kd.C_alloc ?_ _)|(with_reducible refine Kd.C_drewN ?_ _)|(with_reducible refine Kd.C_drew ?_)))
   (case side2=>exact (Kd.R_reads' HO178.out).2.1)
   (case side3=>repeat (first|exact (Kd.V_reads' HO211.out).2.2|(with_reducible refine Kd.C_alloc ?_ _)|(with_reducible refine Kd.C_drewN ?_ _)|(with_reducible refine Kd.C_drew ?_)))
   (case side4=>exact (Kd.V_reads' HO211.out).2.1)
   rintro e w206 ⟨rfl,hb⟩
   refine ⟨_,rfl,?_⟩
   have n0_:=Aside0.mk (Kd.R_below (R_up HO178.out) hb)
   have n1_:=Aside0.mk (Kd.R_below (R_up HO185.out) hb)
   have n2_:=Aside0.mk (Kd.R_below (R_up HO191.out) hb)
   have n3_:=Aside0.mk (Kd.R_below (R_up HO202.out) hb)
   have n4_:=Aside0.mk (Kd.R_below (R_up HO205.out) hb)
   have n5_:=Aside0.mk (Kd.V_below (V_up HO211.out) hb)
   have n6_:=Aside0.mk (blk_below (blk_up BK174.out) hb)
   have n7_:=Aside0.mk (blk_below (blk_up BK182.out) hb)
   have n8_:=Aside0.mk (below_step (below_go HB.out) hb)
   clear HO178
   clear HO185
   clear HO191
   clear HO202
   clear HO205
   clear HO211
   clear BK174
   clear BK182
   clear HB
   have HO178:=n0_
   have HO185:=n1_
   have HO191:=n2_
   have HO202:=n3_
   have HO205:=n4_
   have HO211:=n5_
   have BK174:=n6_
   have BK182:=n7_
   have HB:=n8_
   clear n0_ n1_ n2_ n3_ n4_ n5_ n6_ n7_ n8_
   (try clear hb)
   (try clear hb2)
   (try clear hk)
   (try clear hi)
   refine hK.out _ _ ⟨(blk_cell BK182.out 0).trans rfl,(blk_cell BK182.out 1).trans rfl,(blk_cell BK182.out 2).trans rfl,(blk_cell BK182.out 3).trans rfl⟩ (fun hHeld=>?_)
   clear hK K
   refine norm_ (a':=?_) ?_ ?_
   rotate_left
   ·show Act.put _ (some 51) _=_
    simp only [Act.put,List.setIfInBounds_toArray,List.set_cons_zero,List.set_cons_succ,i64_w,i32_w]
    rfl
   refine pure_ (i:=7) (N:=some 14) (v:=?_) (a':=?_) #[true,true,true,true,true,true,true,true] rfl rfl (any_of HT_.out (by kernel_rfl)) (fun _ _ _ h=>h) (Or.inl ⟨by rfl,?_⟩) ?_ ?_
   rotate_left;(intro w';go_simp;with_reducible rfl);rotate_left;(simp only [Act.put,List.setIfInBounds_toArray,List.set_cons_zero,List.set_cons_succ,i64_w,i32_w];rfl)
   refine done_ (done_of HT_.out (by kernel_rfl)) ?_
   (try clear hHeld)
   have hcz207_0 : w206.cell? ⟨gb182,0,none⟩=some (.slice Ao181 t176.length co181):=(blk_cell BK182.out 0).trans rfl
   have hcz207_1 : w206.cell? ⟨gb182,1,none⟩=some (.int .i64 t179):=(blk_cell BK182.out 1).trans rfl
   have hcz207_2 : w206.cell? ⟨gb182,2,none⟩=some (.int .i64 t180):=(blk_cell BK182.out 2).trans rfl
   have hcz207_3 : w206.cell? ⟨gb182,3,none⟩=some (.int .i64 t181):=(blk_cell BK182.out 3).trans rfl
   have hfz207_0:=blk_frozen BK182.out 0
   have hfz207_1:=blk_frozen BK182.out 1
   have hfz207_2:=blk_frozen BK182.out 2
   have hfz207_3:=blk_frozen BK182.out 3
   try go_wp2_with (first|((with_reducible refine gate_callee (f:=12) rfl ?_);refine goesL_ (some 54) rfl rfl Try.func12 (by kernel_rfl) rfl #[.agg #[.slice Ao181 t176.length co181,.int .i64 t179,.int .i64 t180,.int .i64 t181],.slice (some ⟨go12,0,none⟩) y192.length co12] rfl (by (try simp only [List.map_toArray,List.map_cons,List.map_nil]);first|done|(rw [show y192.length=y189.length from (Kd.R_reads' HO191.out).1.symm] <;> rfl)|rfl|(simp only [List.length_drop,List.length_take];rfl)) ?_;(with_reducible refine (schema_Row.calls _ _ t176 t179 t180 t181 _ _ y192 false _ ?side1 ?side2 ?side3 ?side4 A21.out).mono ?_);(case side1=>repeat (first|exact (Kd.R_reads' HO178.out).2.2|(with_reducible refine Kd.C_alloc ?_ _)|(with_reducible refine Kd.C_drewN ?_ _)|(with_reducible refine Kd.C_drew ?_)));(case side2=>exact (Kd.R_reads' HO178.out).2.1);(case side3=>repeat (first|exact (Kd.R_reads' HO191.out).2.2|(with_reducible refine Kd.C_alloc ?_ _)|(with_reducible refine Kd.C_drewN ?_ _)|(with_reducible refine Kd.C_drew ?_)));(case side4=>rw [show y192.length=y189.length from (Kd.R_reads' HO191.out).1.symm];exact (Kd.R_reads' HO191.out).2.1);rintro e w208 ⟨rfl,hb⟩;refine ⟨_,rfl,?_⟩;have n0_:=Aside0.mk (Kd.R_below (R_up HO178.out) hb);have n1_:=Aside0.mk (Kd.R_below (R_up HO185.out) hb);have n2_:=Aside0.mk (Kd.R_below (R_up HO191.out) hb);have n3_:=Aside0.mk (Kd.R_below (R_up HO202.out) hb);have n4_:=Aside0.mk (Kd.R_below (R_up HO205.out) hb);have n5_:=Aside0.mk (Kd.V_below (V_up HO211.out) hb);have n6_:=Aside0.mk (blk_below (blk_up BK174.out) hb);have n7_:=Aside0.mk (blk_below (blk_up BK182.out) hb);have n8_:=Aside0.mk (below_step (below_go HB.out) hb);clear HO178;clear HO185;clear HO191;clear HO202;clear HO205;clear HO211;clear BK174;clear BK182;clear HB;have HO178:=n0_;have HO185:=n1_;have HO191:=n2_;have HO202:=n3_;have HO205:=n4_;have HO211:=n5_;have BK174:=n6_;have BK182:=n7_;have HB:=n8_;clear n0_ n1_ n2_ n3_ n4_ n5_ n6_ n7_ n8_;(try clear hb);(try clear hb2);(try clear hk);(try clear hi);have hcz209_0 : w208.cell? ⟨gb182,0,none⟩=some (.slice Ao181 t176.length co181):=(blk_cell BK182.out 0).trans rfl;have hcz209_1 : w208.cell? ⟨gb182,1,none⟩=some (.int .i64 t179):=(blk_cell BK182.out 1).trans rfl;have hcz209_2 : w208.cell? ⟨gb182,2,none⟩=some (.int .i64 t180):=(blk_cell BK182.out 2).trans rfl;have hcz209_3 : w208.cell? ⟨gb182,3,none⟩=some (.int .i64 t181):=(blk_cell BK182.out 3).trans rfl;have hfz209_0:=blk_frozen BK182.out 0;have hfz209_1:=blk_frozen BK182.out 1;have hfz209_2:=blk_frozen BK182.out 2;have hfz209_3:=blk_frozen BK182.out 3)|((with_reducible refine gate_dst (N:=75) rfl ?_);(try (refine gate_guard (by rfl) ?_;dsimp only));refine Kd.N_lit (Kd.slice 34 k34) _ 26 ?hg (N':=75) ?hd (xs:=([t183,y192] : List (List (S34)))) (inner:=[.slice Ao185 t183.length co185,.slice (some ⟨go12,0,none⟩) y189.length co12]) (ok:=(fun k_=>some k_≠(.slice Ao181 t176.length co181 : Value).ownBlock∧some k_≠(.slice Ao201 y200.length co201 : Value).ownBlock∧some k_≠(.slice Ao202 y203.length co202 : Value).ownBlock∧k_≠gb174∧k_≠gb182)) (okp:=(fun k_=>some k_≠(.slice Ao181 t176.length co181 : Value).ownBlock∧some k_≠(.slice Ao201 y200.length co201 : Value).ownBlock∧some k_≠(.slice Ao202 y203.length co202 : Value).ownBlock∧k_≠gb174∧k_≠gb182)) ?hr ?hp (fun _ hk=>hk) ((show ∀ k_,w208.heap.size≤k_→(fun k_=>some k_≠(.slice Ao181 t176.length co181 : Value).ownBlock∧some k_≠(.slice Ao201 y200.length co201 : Value).ownBlock∧some k_≠(.slice Ao202 y203.length co202 : Value).ownBlock∧k_≠gb174∧k_≠gb182) k_ from fun k_ hk=>⟨Kd.fresh' (Kd.R_lt (R_up HO178.out)) k_ hk,Kd.fresh' (Kd.R_lt (R_up HO202.out)) k_ hk,Kd.fresh' (Kd.R_lt (R_up HO205.out)) k_ hk,Kd.freshB (blk_up BK174.out) k_ hk,Kd.freshB (blk_up BK182.out) k_ hk⟩) _ (Nat.le_refl _)) (Below.refl _ _) (Nat.le_refl _) (by simp) ?_;(case hd=>rfl);(case hg=>rfl);(case hr=>first|(go_simp;done)|(go_simp;rfl));(case hp=>exact (Reps.one (show Kd.FK (Kd.slice 34 k34) _ _ t183 [.slice Ao185 t183.length co185] from (Kd.FK_slice_mk (Kd.R_reads' (Kd.R_mono (ok':=(fun k_=>some k_≠(.slice Ao181 t176.length co181 : Value).ownBlock∧some k_≠(.slice Ao201 y200.length co201 : Value).ownBlock∧some k_≠(.slice Ao202 y203.length co202 : Value).ownBlock∧k_≠gb174∧k_≠gb182)) (Kd.R_types (Kd.R_types (Kd.R_apart' (HO185.out) (Kd.R_typed HO178.out) (by decide)) BK174.out (by decide)) BK182.out (by decide)) (fun k_ hk=>⟨hk.1.1.2,⟨hk.1.1.1.1.2,⟨hk.1.1.1.2,⟨hk.1.2,hk.2⟩⟩⟩⟩))).2.1 (Kd.R_F (Kd.R_mono (ok':=(fun k_=>some k_≠(.slice Ao181 t176.length co181 : Value).ownBlock∧some k_≠(.slice Ao201 y200.length co201 : Value).ownBlock∧some k_≠(.slice Ao202 y203.length co202 : Value).ownBlock∧k_≠gb174∧k_≠gb182)) (Kd.R_types (Kd.R_types (Kd.R_apart' (HO185.out) (Kd.R_typed HO178.out) (by decide)) BK174.out (by decide)) BK182.out (by decide)) (fun k_ hk=>⟨hk.1.1.2,⟨hk.1.1.1.1.2,⟨hk.1.1.1.2,⟨hk.1.2,hk.2⟩⟩⟩⟩))))) (Reps.one (show Kd.FK (Kd.slice 34 k34) _ _ y192 [.slice (some ⟨go12,0,none⟩) y189.length co12] from (by have h_:=HO191.out;have e_:=(Kd.R_reads' h_).1;rw [e_] at h_ ⊢;exact (Kd.FK_slice_mk (Kd.R_reads' (Kd.R_mono (ok':=(fun k_=>some k_≠(.slice Ao181 t176.length co181 : Value).ownBlock∧some k_≠(.slice Ao201 y200.length co201 : Value).ownBlock∧some k_≠(.slice Ao202 y203.length co202 : Value).ownBlock∧k_≠gb174∧k_≠gb182)) (Kd.R_types (Kd.R_types (Kd.R_apart' (h_) (Kd.R_typed HO178.out) (by decide)) BK174.out (by decide)) BK182.out (by decide)) (fun k_ hk=>⟨hk.1.1.2,⟨hk.1.1.1.1.2,⟨hk.1.1.1.2,⟨hk.1.2,hk.2⟩⟩⟩⟩))).2.1 (Kd.R_F (Kd.R_mono (ok':=(fun k_=>some k_≠(.slice Ao181 t176.length co181 : Value).ownBlock∧some k_≠(.slice Ao201 y200.length co201 : Value).ownBlock∧some k_≠(.slice Ao202 y203.length co202 : Value).ownBlock∧k_≠gb174∧k_≠gb182)) (Kd.R_types (Kd.R_types (Kd.R_apart' (h_) (Kd.R_typed HO178.out) (by decide)) BK174.out (by decide)) BK182.out (by decide)) (fun k_ hk=>⟨hk.1.1.2,⟨hk.1.1.1.1.2,⟨hk.1.1.1.2,⟨hk.1.2,hk.2⟩⟩⟩⟩)))))) (Reps.none _ _))));intro v215 w210 ho211 hb hg_ hnew_;clear hg_ hnew_;(first|rw [← Ny214.out] at ho211|(simp only [Int.reduceToNat] at ho211;rw [← Ny214.out] at ho211));have n0_:=Aside0.mk (Kd.R_below (R_up HO178.out) hb);have n1_:=Aside0.mk (Kd.R_below (R_up HO185.out) hb);have n2_:=Aside0.mk (Kd.R_below (R_up HO191.out) hb);have n3_:=Aside0.mk (Kd.R_below (R_up HO202.out) hb);have n4_:=Aside0.mk (Kd.R_below (R_up HO205.out) hb);have n5_:=Aside0.mk (Kd.V_elder' (V_up HO211.out) (Kd.N_base ho211) hb);have n6_:=Aside0.mk (Kd.N_lower ho211 (below_size (below_go HB.out)));have n7_:=Aside0.mk (blk_below (blk_up BK174.out) hb);have n8_:=Aside0.mk (blk_below (blk_up BK182.out) hb);have n9_:=Aside0.mk (below_step (below_go HB.out) hb);clear HO178;clear HO185;clear HO191;clear HO202;clear HO205;clear HO211;clear BK174;clear BK182;clear HB;have HO178:=n0_;have HO185:=n1_;have HO191:=n2_;have HO202:=n3_;have HO205:=n4_;have HO211:=n5_;have HO216:=n6_;have BK174:=n7_;have BK182:=n8_;have HB:=n9_;clear n0_ n1_ n2_ n3_ n4_ n5_ n6_ n7_ n8_ n9_;clear hb ho211;obtain ⟨Ao212,co212,eo212⟩:=Kd.N_slice HO216.out;subst eo212)|(go_at_call 13;(with_reducible refine (schema_Batch.calls _ _ t176 t179 t180 t181 _ _ y214 t217 _ ?side1 ?side2 ?side3 ?side4 A126.out).mono ?_);(case side1=>repeat (first|exact (Kd.R_reads' HO178.out).2.2|(with_reducible refine Kd.C_alloc ?_ _)|(with_reducible refine Kd.C_drewN ?_ _)|(with_reducible refine Kd.C_drew ?_)));(case side2=>exact (Kd.R_reads' HO178.out).2.1);(case side3=>repeat (first|exact (Kd.N_reads' HO216.out).2.2|(with_reducible refine Kd.C_alloc ?_ _)|(with_reducible refine Kd.C_drewN ?_ _)|(with_reducible refine Kd.C_drew ?_)));(case side4=>exact (Kd.N_reads' HO216.out).2.1);rintro e w213 ⟨rfl,hb⟩;have n0_:=Aside0.mk (Kd.R_below (R_up HO178.out) hb);have n1_:=Aside0.mk (Kd.R_below (R_up HO185.out) hb);have n2_:=Aside0.mk (Kd.R_below (R_up HO191.out) hb);have n3_:=Aside0.mk (Kd.R_below (R_up HO202.out) hb);have n4_:=Aside0.mk (Kd.R_below (R_up HO205.out) hb);have n5_:=Aside0.mk (Kd.V_below (V_up HO211.out) hb);have n6_:=Aside0.mk (Kd.N_below (N_up HO216.out) hb);have n7_:=Aside0.mk (blk_below (blk_up BK174.out) hb);have n8_:=Aside0.mk (blk_below (blk_up BK182.out) hb);have n9_:=Aside0.mk (below_step (below_go HB.out) hb);clear HO178;clear HO185;clear HO191;clear HO202;clear HO205;clear HO211;clear HO216;clear BK174;clear BK182;clear HB;have HO178:=n0_;have HO185:=n1_;have HO191:=n2_;have HO202:=n3_;have HO205:=n4_;have HO211:=n5_;have HO216:=n6_;have BK174:=n7_;have BK182:=n8_;have HB:=n9_;clear n0_ n1_ n2_ n3_ n4_ n5_ n6_ n7_ n8_ n9_;(try clear hb);(try clear hb2);(try clear hk);(try clear hi);have hcz214_0 : w213.cell? ⟨gb182,0,none⟩=some (.slice Ao181 t176.length co181):=(blk_cell BK182.out 0).trans rfl;have hcz214_1 : w213.cell? ⟨gb182,1,none⟩=some (.int .i64 t179):=(blk_cell BK182.out 1).trans rfl;have hcz214_2 : w213.cell? ⟨gb182,2,none⟩=some (.int .i64 t180):=(blk_cell BK182.out 2).trans rfl;have hcz214_3 : w213.cell? ⟨gb182,3,none⟩=some (.int .i64 t181):=(blk_cell BK182.out 3).trans rfl;have hfz214_0:=blk_frozen BK182.out 0;have hfz214_1:=blk_frozen BK182.out 1;have hfz214_2:=blk_frozen BK182.out 2;have hfz214_3:=blk_frozen BK182.out 3)|((with_reducible refine gate_dst (N:=82) rfl ?_);(try (refine gate_guard (by rfl) ?_;dsimp only));refine Kd.N_lit (Kd.slice 34 k34) _ 26 ?hg (N':=82) ?hd (xs:=([t183] : List (List (S34)))) (inner:=[.slice Ao185 t183.length co185]) (ok:=(fun k_=>some k_≠(.slice Ao181 t176.length co181 : Value).ownBlock∧some k_≠(.slice (some ⟨go12,0,none⟩) y189.length co12 : Value).ownBlock∧some k_≠(.slice Ao201 y200.length co201 : Value).ownBlock∧some k_≠(.slice Ao202 y203.length co202 : Value).ownBlock∧some k_≠(.slice Ao212 y214.length co212 : Value).ownBlock∧k_≠gb174∧k_≠gb182)) (okp:=(fun k_=>some k_≠(.slice Ao181 t176.length co181 : Value).ownBlock∧some k_≠(.slice (some ⟨go12,0,none⟩) y189.length co12 : Value).ownBlock∧some k_≠(.slice Ao201 y200.length co201 : Value).ownBlock∧some k_≠(.slice Ao202 y203.length co202 : Value).ownBlock∧some k_≠(.slice Ao212 y214.length co212 : Value).ownBlock∧k_≠gb174∧k_≠gb182)) ?hr ?hp (fun _ hk=>hk) ((show ∀ k_,w213.heap.size≤k_→(fun k_=>some k_≠(.slice Ao181 t176.length co181 : Value).ownBlock∧some k_≠(.slice (some ⟨go12,0,none⟩) y189.length co12 : Value).ownBlock∧some k_≠(.slice Ao201 y200.length co201 : Value).ownBlock∧some k_≠(.slice Ao202 y203.length co202 : Value).ownBlock∧some k_≠(.slice Ao212 y214.length co212 : Value).ownBlock∧k_≠gb174∧k_≠gb182) k_ from fun k_ hk=>⟨Kd.fresh' (Kd.R_lt (R_up HO178.out)) k_ hk,Kd.fresh' (Kd.R_lt (R_up HO191.out)) k_ hk,Kd.fresh' (Kd.R_lt (R_up HO202.out)) k_ hk,Kd.fresh' (Kd.R_lt (R_up HO205.out)) k_ hk,Kd.fresh' (Kd.N_lt (N_up HO216.out)) k_ hk,Kd.freshB (blk_up BK174.out) k_ hk,Kd.freshB (blk_up BK182.out) k_ hk⟩) _ (Nat.le_refl _)) (Below.refl _ _) (Nat.le_refl _) (by simp) ?_;(case hd=>rfl);(case hg=>rfl);(case hr=>first|(go_simp;done)|(go_simp;rfl));(case hp=>exact (Reps.one (show Kd.FK (Kd.slice 34 k34) _ _ t183 [.slice Ao185 t183.length co185] from (Kd.FK_slice_mk (Kd.R_reads' (Kd.R_mono (ok':=(fun k_=>some k_≠(.slice Ao181 t176.length co181 : Value).ownBlock∧some k_≠(.slice (some ⟨go12,0,none⟩) y189.length co12 : Value).ownBlock∧some k_≠(.slice Ao201 y200.length co201 : Value).ownBlock∧some k_≠(.slice Ao202 y203.length co202 : Value).ownBlock∧some k_≠(.slice Ao212 y214.length co212 : Value).ownBlock∧k_≠gb174∧k_≠gb182)) (Kd.R_types (Kd.R_types (Kd.R_apart' (Kd.R_apart' (HO185.out) (Kd.R_typed HO178.out) (by decide)) (Kd.N_typed HO216.out) (by decide)) BK174.out (by decide)) BK182.out (by decide)) (fun k_ hk=>⟨hk.1.1.1.2,⟨hk.1.1.1.1.1.1,⟨hk.1.1.1.1.1.2,⟨hk.1.1.1.1.2,⟨hk.1.1.2,⟨hk.1.2,hk.2⟩⟩⟩⟩⟩⟩))).2.1 (Kd.R_F (Kd.R_mono (ok':=(fun k_=>some k_≠(.slice Ao181 t176.length co181 : Value).ownBlock∧some k_≠(.slice (some ⟨go12,0,none⟩) y189.length co12 : Value).ownBlock∧some k_≠(.slice Ao201 y200.length co201 : Value).ownBlock∧some k_≠(.slice Ao202 y203.length co202 : Value).ownBlock∧some k_≠(.slice Ao212 y214.length co212 : Value).ownBlock∧k_≠gb174∧k_≠gb182)) (Kd.R_types (Kd.R_types (Kd.R_apart' (Kd.R_apart' (HO185.out) (Kd.R_typed HO178.out) (by decide)) (Kd.N_typed HO216.out) (by decide)) BK174.out (by decide)) BK182.out (by decide)) (fun k_ hk=>⟨hk.1.1.1.2,⟨hk.1.1.1.1.1.1,⟨hk.1.1.1.1.1.2,⟨hk.1.1.1.1.2,⟨hk.1.1.2,⟨hk.1.2,hk.2⟩⟩⟩⟩⟩⟩))))) (Reps.none _ _)));intro v219 w215 ho216 hb hg_ hnew_;clear hg_ hnew_;(first|rw [← Ny218.out] at ho216|(simp only [Int.reduceToNat] at ho216;rw [← Ny218.out] at ho216));have n0_:=Aside0.mk (Kd.R_below (R_up HO178.out) hb);have n1_:=Aside0.mk (Kd.R_below (R_up HO185.out) hb);have n2_:=Aside0.mk (Kd.R_below (R_up HO191.out) hb);have n3_:=Aside0.mk (Kd.R_below (R_up HO202.out) hb);have n4_:=Aside0.mk (Kd.R_below (R_up HO205.out) hb);have n5_:=Aside0.mk (Kd.V_elder' (V_up HO211.out) (Kd.N_base ho216) hb);have n6_:=Aside0.mk (Kd.N_elder' (N_up HO216.out) (Kd.N_base ho216) hb);have n7_:=Aside0.mk (Kd.N_lower ho216 (below_size (below_go HB.out)));have n8_:=Aside0.mk (blk_below (blk_up BK174.out) hb);have n9_:=Aside0.mk (blk_below (blk_up BK182.out) hb);have n10_:=Aside0.mk (below_step (below_go HB.out) hb);clear HO178;clear HO185;clear HO191;clear HO202;clear HO205;clear HO211;clear HO216;clear BK174;clear BK182;clear HB;have HO178:=n0_;have HO185:=n1_;have HO191:=n2_;have HO202:=n3_;have HO205:=n4_;have HO211:=n5_;have HO216:=n6_;have HO220:=n7_;have BK174:=n8_;have BK182:=n9_;have HB:=n10_;clear n0_ n1_ n2_ n3_ n4_ n5_ n6_ n7_ n8_ n9_ n10_;clear hb ho216;obtain ⟨Ao217,co217,eo217⟩:=Kd.N_slice HO220.out;subst eo217)|(go_at_call 13;(with_reducible refine (schema_Batch.calls _ _ t176 t179 t180 t181 _ _ y218 t221 _ ?side1 ?side2 ?side3 ?side4 A128.out).mono ?_);(case side1=>repeat (first|exact (Kd.R_reads' HO178.out).2.2|(with_reducible refine Kd.C_alloc ?_ _)|(with_reducible refine Kd.C_drewN ?_ _)|(with_reducible refine Kd.C_drew ?_)));(case side2=>exact (Kd.R_reads' HO178.out).2.1);(case side3=>repeat (first|exact (Kd.N_reads' HO220.out).2.2|(with_reducible refine Kd.C_alloc ?_ _)|(with_reducible refine Kd.C_drewN ?_ _)|(with_reducible refine Kd.C_drew ?_)));(case side4=>exact (Kd.N_reads' HO220.out).2.1);rintro e w218 ⟨rfl,hb⟩;have n0_:=Aside0.mk (Kd.R_below (R_up HO178.out) hb);have n1_:=Aside0.mk (Kd.R_below (R_up HO185.out) hb);have n2_:=Aside0.mk (Kd.R_below (R_up HO191.out) hb);have n3_:=Aside0.mk (Kd.R_below (R_up HO202.out) hb);have n4_:=Aside0.mk (Kd.R_below (R_up HO205.out) hb);have n5_:=Aside0.mk (Kd.V_below (V_up HO211.out) hb);have n6_:=Aside0.mk (Kd.N_below (N_up HO216.out) hb);have n7_:=Aside0.mk (Kd.N_below (N_up HO220.out) hb);have n8_:=Aside0.mk (blk_below (blk_up BK174.out) hb);have n9_:=Aside0.mk (blk_below (blk_up BK182.out) hb);have n10_:=Aside0.mk (below_step (below_go HB.out) hb);clear HO178;clear HO185;clear HO191;clear HO202;clear HO205;clear HO211;clear HO216;clear HO220;clear BK174;clear BK182;clear HB;have HO178:=n0_;have HO185:=n1_;have HO191:=n2_;have HO202:=n3_;have HO205:=n4_;have HO211:=n5_;have HO216:=n6_;have HO220:=n7_;have BK174:=n8_;have BK182:=n9_;have HB:=n10_;clear n0_ n1_ n2_ n3_ n4_ n5_ n6_ n7_ n8_ n9_ n10_;(try clear hb);(try clear hb2);(try clear hk);(try clear hi)))
   go_ret
   exact ⟨by first|rfl|(simp [errW_none,errW_some] <;> rfl)|(simp only [← hji9,← hji17];first|rfl|(simp [errW_none,errW_some] <;> rfl))|(simp [*,errW_none,errW_some] <;> rfl),by repeat (first|(with_reducible first|exact HB.out|apply below_alloc|apply pw_below_drewN|apply below_drew1|refine below_set ?_ GE174.out|refine below_set ?_ GE182.out)|exact HB.out)⟩
 ·rw [if_neg c127] at H
  have c127b0 : (t217 == 21)=false:=beq_eq_false_iff_ne.mpr c127
  have c127b1 : (t217 != 21)=true:=bne_iff_ne.mpr c127
  obtain rfl:=Option.some.inj H
  go_enter Try.func3,Try.ntmps3
  try go_wp2_with (first|((with_reducible refine gate_dst (N:=3) rfl ?_);(try (refine gate_guard (by rfl) ?_;dsimp only));refine box_event ?hg (N:=3) ?hd (cs:=#[.int .u8 a0_0,.int .u8 a0_1,.int .u8 a0_2,.int .u8 a0_3,.int .u8 a0_4,.int .u8 a0_5,.int .u8 a0_6,.int .u8 a0_7,.int .u8 a0_8,.int .u8 a0_9,.int .u8 a0_10,.int .u8 a0_11]) (t:=24) ?hr ?_;(case hd=>rfl);(case hg=>rfl);(case hr=>first|(go_simp;done)|(go_simp;rfl));intro gb174 hg w219 hbox hb;have n0_:=Aside0.mk (below_step (below_up HB.out) hb);have n1_:=Aside0.mk (hbox);have n2_:=Aside0.mk ((by rw [hg];exact (below_size (below_up HB.out)) : w.heap.size≤gb174));have n3_:=Aside0.mk ((by rw [hg];exact (below_size (below_up HB.out)) : w.heap.size≤gb174));clear HB;have HB:=n0_;have BK174:=n1_;have GW174:=n2_;have GE174:=n3_;clear n0_ n1_ n2_ n3_;clear hb hbox hg)|((with_reducible refine gate_callee (f:=9) rfl ?_);refine goesL_ (some 16) rfl rfl Try.func9 (by kernel_rfl) rfl #[] rfl (by (try simp only [List.map_toArray,List.map_cons,List.map_nil]);first|done|rfl|(simp only [List.length_drop,List.length_take];rfl)) ?_;(with_reducible refine (thresherlaw04_shown.calls k  true _ A4.out).mono ?_);rintro e w220 ⟨rfl,hb⟩;refine ⟨_,rfl,?_⟩;have n0_:=Aside0.mk (blk_below (blk_up BK174.out) hb);have n1_:=Aside0.mk (below_step (below_go HB.out) hb);clear BK174;clear HB;have BK174:=n0_;have HB:=n1_;clear n0_ n1_;(try clear hb);(try clear hb2);(try clear hk);(try clear hi);have hcz221_0 : w220.cell? ⟨gb174,0,none⟩=some (.int .u8 a0_0):=(blk_cell BK174.out 0).trans rfl;have hcz221_1 : w220.cell? ⟨gb174,1,none⟩=some (.int .u8 a0_1):=(blk_cell BK174.out 1).trans rfl;have hcz221_2 : w220.cell? ⟨gb174,2,none⟩=some (.int .u8 a0_2):=(blk_cell BK174.out 2).trans rfl;have hcz221_3 : w220.cell? ⟨gb174,3,none⟩=some (.int .u8 a0_3):=(blk_cell BK174.out 3).trans rfl;have hcz221_4 : w220.cell? ⟨gb174,4,none⟩=some (.int .u8 a0_4):=(blk_cell BK174.out 4).trans rfl;have hcz221_5 : w220.cell? ⟨gb174,5,none⟩=some (.int .u8 a0_5):=(blk_cell BK174.out 5).trans rfl;have hcz221_6 : w220.cell? ⟨gb174,6,none⟩=some (.int .u8 a0_6):=(blk_cell BK174.out 6).trans rfl;have hcz221_7 : w220.cell? ⟨gb174,7,none⟩=some (.int .u8 a0_7):=(blk_cell BK174.out 7).trans rfl;have hcz221_8 : w220.cell? ⟨gb174,8,none⟩=some (.int .u8 a0_8):=(blk_cell BK174.out 8).trans rfl;have hcz221_9 : w220.cell? ⟨gb174,9,none⟩=some (.int .u8 a0_9):=(blk_cell BK174.out 9).trans rfl;have hcz221_10 : w220.cell? ⟨gb174,10,none⟩=some (.int .u8 a0_10):=(blk_cell BK174.out 10).trans rfl;have hcz221_11 : w220.cell? ⟨gb174,11,none⟩=some (.int .u8 a0_11):=(blk_cell BK174.out 11).trans rfl;have hfz221_0:=blk_frozen BK174.out 0;have hfz221_1:=blk_frozen BK174.out 1;have hfz221_2:=blk_frozen BK174.out 2;have hfz221_3:=blk_frozen BK174.out 3;have hfz221_4:=blk_frozen BK174.out 4;have hfz221_5:=blk_frozen BK174.out 5;have hfz221_6:=blk_frozen BK174.out 6;have hfz221_7:=blk_frozen BK174.out 7;have hfz221_8:=blk_frozen BK174.out 8;have hfz221_9:=blk_frozen BK174.out 9;have hfz221_10:=blk_frozen BK174.out 10;have hfz221_11:=blk_frozen BK174.out 11)|((with_reducible refine gate_callee (f:=10) rfl ?_);refine goesL_ (some 18) rfl rfl Try.func10 (by kernel_rfl) rfl #[.agg #[.int .u8 a0_0,.int .u8 a0_1,.int .u8 a0_2,.int .u8 a0_3,.int .u8 a0_4,.int .u8 a0_5,.int .u8 a0_6,.int .u8 a0_7,.int .u8 a0_8,.int .u8 a0_9,.int .u8 a0_10,.int .u8 a0_11]] rfl (by (try simp only [List.map_toArray,List.map_cons,List.map_nil]);first|done|rfl|(simp only [List.length_drop,List.length_take];rfl)) ?_;(with_reducible refine (thresherlaw04_made.calls k a0_0 a0_1 a0_2 a0_3 a0_4 a0_5 a0_6 a0_7 a0_8 a0_9 a0_10 a0_11 t176 t179 t180 t181 _ A5.out).mono ?_);rintro e w222 ⟨v177,rfl,ho0,hb⟩;refine ⟨_,rfl,?_⟩;have n0_:=Aside0.mk (Kd.R_lower ho0 (below_size (below_go HB.out)));have n1_:=Aside0.mk (blk_below (blk_up BK174.out) hb);have n2_:=Aside0.mk (below_step (below_go HB.out) hb);clear BK174;clear HB;have HO178:=n0_;have BK174:=n1_;have HB:=n2_;clear n0_ n1_ n2_;(try clear hb);(try clear hb2);(try clear hk);(try clear hi);(try clear ho0))|((with_reducible refine gate_dst (N:=8) rfl ?_);(try (refine gate_guard (by rfl) ?_;dsimp only));refine box_event ?hg (N:=8) ?hd (cs:=#[.slice none 0 0,.int .i64 0,.int .i64 0,.int .i64 0]) (t:=30) ?hr ?_;(case hd=>rfl);(case hg=>rfl);(case hr=>first|(go_simp;done)|(go_simp;rfl));intro gb182 hg w223 hbox hb;have n0_:=Aside0.mk (Kd.R_below (R_up HO178.out) hb);have n1_:=Aside0.mk (blk_below (blk_up BK174.out) hb);have n2_:=Aside0.mk (below_step (below_go HB.out) hb);have n3_:=Aside0.mk (hbox);have n4_:=Aside0.mk ((by rw [hg];exact (below_size (below_go HB.out)) : w.heap.size≤gb182));have n5_:=Aside0.mk ((by rw [hg];exact (below_size (below_go HB.out)) : w.heap.size≤gb182));have n6_:=Aside0.mk ((by rw [hg];exact Nat.ne_of_lt (blk_lt (blk_up BK174.out)) : gb174≠gb182));have n7_:=Aside0.mk ((by rw [hg];exact Nat.ne_of_gt (blk_lt (blk_up BK174.out)) : gb182≠gb174));clear HO178;clear BK174;clear HB;have HO178:=n0_;have BK174:=n1_;have HB:=n2_;have BK182:=n3_;have GW182:=n4_;have GE182:=n5_;have NB174_182:=n6_;have NB182_174:=n7_;clear n0_ n1_ n2_ n3_ n4_ n5_ n6_ n7_;clear hb hbox hg;obtain ⟨Ao224,co224,eo224⟩:=Kd.R_slice HO178.out;subst eo224;have hnb225:=NB182_174.out;have hnc225:=NB174_182.out;have hcz226_0 : w223.cell? ⟨gb182,0,none⟩=some (.slice none 0 0):=(blk_cell BK182.out 0).trans rfl;have hcz226_1 : w223.cell? ⟨gb182,1,none⟩=some (.int .i64 0):=(blk_cell BK182.out 1).trans rfl;have hcz226_2 : w223.cell? ⟨gb182,2,none⟩=some (.int .i64 0):=(blk_cell BK182.out 2).trans rfl;have hcz226_3 : w223.cell? ⟨gb182,3,none⟩=some (.int .i64 0):=(blk_cell BK182.out 3).trans rfl;have hfz226_0:=blk_frozen BK182.out 0;have hfz226_1:=blk_frozen BK182.out 1;have hfz226_2:=blk_frozen BK182.out 2;have hfz226_3:=blk_frozen BK182.out 3)|((with_reducible refine gate_callee (f:=11) rfl ?_);refine goesL_ (some 21) rfl rfl Try.func11 (by kernel_rfl) rfl #[.agg #[.slice Ao224 t176.length co224,.int .i64 t179,.int .i64 t180,.int .i64 t181],.slice A1 l1.length c1] rfl (by (try simp only [List.map_toArray,List.map_cons,List.map_nil]);first|done|rfl|(simp only [List.length_drop,List.length_take];rfl)) ?_;(with_reducible refine (thresherref04_Fit.calls k _ _ t176 t179 t180 t181 _ _ l1 t183 _ ?side1 ?side2 ?side3 ?side4 A6.out).mono ?_);(case side1=>refine (Kd.R_reads' (e:=3) (base:=w.heap.size) (ok:=fun k_=>True) (n:=t176.length) (c:=co224) ?_).2.2;exact (by (with_reducible repeat (first|apply Kd.R_alloc|apply Kd.R_drewN|apply Kd.R_drew));exact (Kd.R_mono (Kd.R_far (p:=⟨gb182,3,none⟩) (Kd.R_far (p:=⟨gb182,2,none⟩) (Kd.R_far (p:=⟨gb182,1,none⟩) (Kd.R_far (p:=⟨gb182,0,none⟩) (Kd.R_types HO178.out BK182.out (by decide)) (fun _ hk=>hk.2) (.slice Ao224 t176.length co224)) (fun _ hk=>hk.2) (.int .i64 t179)) (fun _ hk=>hk.2) (.int .i64 t180)) (fun _ hk=>hk.2) (.int .i64 t181)) (fun _ h_=>h_.1))));(case side2=>exact (Kd.R_reads' HO178.out).2.1);(case side3=>exact Kd.C_below HR1.out (below_go HB.out));(case side4=>exact HC1.out);rintro e w227 ⟨v184,rfl,ho0,hb⟩;refine ⟨_,rfl,?_⟩;have n0_:=Aside0.mk (Kd.R_below (by (with_reducible repeat (first|apply Kd.R_alloc|apply Kd.R_drewN|apply Kd.R_drew));exact (Kd.R_mono (Kd.R_far (p:=⟨gb182,3,none⟩) (Kd.R_far (p:=⟨gb182,2,none⟩) (Kd.R_far (p:=⟨gb182,1,none⟩) (Kd.R_far (p:=⟨gb182,0,none⟩) (Kd.R_types HO178.out BK182.out (by decide)) (fun _ hk=>hk.2) (.slice Ao224 t176.length co224)) (fun _ hk=>hk.2) (.int .i64 t179)) (fun _ hk=>hk.2) (.int .i64 t180)) (fun _ hk=>hk.2) (.int .i64 t181)) (fun _ h_=>h_.1))) hb);have n1_:=Aside0.mk (Kd.R_lower ho0 (below_size (below_go HB.out)));have n2_:=Aside0.mk (blk_below (g:=gb174) (o:=.cells #[.int .u8 a0_0,.int .u8 a0_1,.int .u8 a0_2,.int .u8 a0_3,.int .u8 a0_4,.int .u8 a0_5,.int .u8 a0_6,.int .u8 a0_7,.int .u8 a0_8,.int .u8 a0_9,.int .u8 a0_10,.int .u8 a0_11] 24 (0,0)) (by (with_reducible repeat (first|refine blk_drewN ?_ _|refine blk_drew ?_|refine blk_alloc ?_ _));refine blk_far ?_ NB174_182.out _;(with_reducible repeat (first|refine blk_drewN ?_ _|refine blk_drew ?_|refine blk_alloc ?_ _));refine blk_far ?_ NB174_182.out _;(with_reducible repeat (first|refine blk_drewN ?_ _|refine blk_drew ?_|refine blk_alloc ?_ _));refine blk_far ?_ NB174_182.out _;(with_reducible repeat (first|refine blk_drewN ?_ _|refine blk_drew ?_|refine blk_alloc ?_ _));refine blk_far ?_ NB174_182.out _;(with_reducible repeat (first|refine blk_drewN ?_ _|refine blk_drew ?_|refine blk_alloc ?_ _));exact BK174.out) hb);have n3_:=Aside0.mk (blk_below (g:=gb182) (o:=.cells #[.slice Ao224 t176.length co224,.int .i64 t179,.int .i64 t180,.int .i64 t181] 30 (0,0)) (by (with_reducible repeat (first|refine blk_drewN ?_ _|refine blk_drew ?_|refine blk_alloc ?_ _));refine blk_put (cs:=#[.slice Ao224 t176.length co224,.int .i64 t179,.int .i64 t180,.int .i64 0]) ?_ 3 _ rfl;(with_reducible repeat (first|refine blk_drewN ?_ _|refine blk_drew ?_|refine blk_alloc ?_ _));refine blk_put (cs:=#[.slice Ao224 t176.length co224,.int .i64 t179,.int .i64 0,.int .i64 0]) ?_ 2 _ rfl;(with_reducible repeat (first|refine blk_drewN ?_ _|refine blk_drew ?_|refine blk_alloc ?_ _));refine blk_put (cs:=#[.slice Ao224 t176.length co224,.int .i64 0,.int .i64 0,.int .i64 0]) ?_ 1 _ rfl;(with_reducible repeat (first|refine blk_drewN ?_ _|refine blk_drew ?_|refine blk_alloc ?_ _));refine blk_put (cs:=#[.slice none 0 0,.int .i64 0,.int .i64 0,.int .i64 0]) ?_ 0 _ rfl;(with_reducible repeat (first|refine blk_drewN ?_ _|refine blk_drew ?_|refine blk_alloc ?_ _));exact BK182.out) hb);have n4_:=Aside0.mk (below_step (below_go HB.out) hb);clear HO178;clear BK174;clear BK182;clear HB;have HO178:=n0_;have HO185:=n1_;have BK174:=n2_;have BK182:=n3_;have HB:=n4_;clear n0_ n1_ n2_ n3_ n4_;(try clear hb);(try clear hb2);(try clear hk);(try clear hi);(try clear ho0);obtain ⟨Ao228,co228,eo228⟩:=Kd.R_slice HO185.out;subst eo228)|((with_reducible refine gate_dst (N:=27) rfl ?_);(try (refine gate_guard (by rfl) ?_;dsimp only));refine Kd.R_lit k34 _ 34 ?hg (N:=27) ?hd (xs:=([] : List (S34))) (inner:=[]) (ok:=fun _=>True) (okp:=fun _=>True) ?hr ?hp (fun _ hk=>hk) trivial (Below.refl _ _) (Nat.le_refl _) (by simp) ?_;(case hd=>rfl);(case hg=>rfl);(case hr=>first|(go_simp;done)|(go_simp;rfl));(case hp=>exact (Reps.none _ _));intro v187 w229 ho230 hb hg_ hnew_;clear hg_ hnew_;(first|rw [← Ny186.out] at ho230|(simp only [Int.reduceToNat] at ho230;rw [← Ny186.out] at ho230));have n0_:=Aside0.mk (Kd.R_below (R_up HO178.out) hb);have n1_:=Aside0.mk (Kd.R_elder' (R_up HO185.out) (Kd.R_base ho230) hb);have n2_:=Aside0.mk (Kd.R_lower (Kd.R_new' ho230 (Kd.R_lt (R_up HO185.out))) (below_size (below_go HB.out)));have n3_:=Aside0.mk (blk_below (blk_up BK174.out) hb);have n4_:=Aside0.mk (blk_below (blk_up BK182.out) hb);have n5_:=Aside0.mk (below_step (below_go HB.out) hb);clear HO178;clear HO185;clear BK174;clear BK182;clear HB;have HO178:=n0_;have HO185:=n1_;have HO188:=n2_;have BK174:=n3_;have BK182:=n4_;have HB:=n5_;clear n0_ n1_ n2_ n3_ n4_ n5_;clear hb ho230)|((with_reducible refine gate_builtin (b:=.append) (xs:=#[.tmp 27,.tmp 28]) rfl ?_);(try (refine gate_guard (by rfl) ?_;dsimp only));at_builtin;refine Kd.R_append_rows k34 (w0:=w) w.heap.size rfl (.tmp 27) (.tmp 28) 26 34 (.agg #[(.int .i64 0),(.string ⟨#[]⟩)]) 24 rfl Try.underlying26 info34 rfl (by decide) (by omega) v187 y186 t183 _ _ _ (fun k_=>some k_≠(.slice Ao228 t183.length co228 : Value).ownBlock) (fun _=>False) rfl rfl ?aO ?aR (fun _ _ h=>h) (fun _ h=>h.elim) ?aF ?aB ?aS ?aL ?_;(case aR=>repeat (first|exact (Kd.R_reads' HO185.out).2.2|(with_reducible refine Kd.C_alloc ?_ _)|(with_reducible refine Kd.C_drewN ?_ _)|(with_reducible refine Kd.C_drew ?_)));(case aB=>exact (below_go HB.out));(case aF=>exact (fun k_ hk=>Kd.fresh' (Kd.R_lt (R_up HO185.out)) k_ hk));(case aO=>exact (by (with_reducible repeat (first|apply Kd.R_alloc|apply Kd.R_drewN|apply Kd.R_drew));exact Kd.R_mono HO188.out (fun _ hk=>hk.2)));(case aS=>exact (below_size (below_go HB.out)));(case aL=>have:=LMc8.out;omega);intro v190 w231 ho hb hg hat;rw [← Ny189.out] at ho;have n0_:=Aside0.mk (blk_grown (blk_up BK174.out) hg (Kd.R_ne HO188.out BK174.out (by decide)));have n1_:=Aside0.mk (Kd.R_over' (R_up HO178.out) (Kd.R_typed (R_up HO188.out)) (by decide) hg);have n2_:=Aside0.mk (blk_grown (blk_up BK182.out) hg (Kd.R_ne HO188.out BK182.out (by decide)));have n3_:=Aside0.mk (Kd.R_after (ok:=(fun _=>True)) (R_up HO185.out) hg hat);have n4_:=Aside0.mk (hb);have n5_:=Aside0.mk (ho);clear BK174;clear HO178;clear BK182;clear HO185;clear HB;clear HO188;have BK174:=n0_;have HO178:=n1_;have BK182:=n2_;have HO185:=n3_;have HB:=n4_;have HO191:=n5_;clear n0_ n1_ n2_ n3_ n4_ n5_;clear ho hb hg hat;have p12 : 0≤((ji9) : Int):=of_decide_eq_true (by first|(with_reducible assumption)|assumption);have q12 : ((ji9) : Int) < ((y189.length : Int) : Int):=of_decide_eq_true (by first|(with_reducible assumption)|assumption);obtain ⟨go12,co12,eo12,gb12,gl12,cl12,HG12⟩:=Kd.R_form HO191.out (by omega);(first|cases eo12|(injection eo12 with ea_ en_ ec_;(first|subst ea_|(injection ea_ with ea_;subst ea_));subst ec_;clear en_));have GB12:=Aside0.mk gb12;have GG12:=Aside0.mk HG12;clear gb12 gl12 HG12;obtain ⟨ce12,hcl12,hM12,hcc12,hfr12⟩:=Kd.R_elem HO191.out z34 ((ji9) : Int) p12 q12;obtain rfl:=k34_openM hM12;have hx12_0 : w231.cell? ⟨go12,((ji9) : Int).toNat * 2,none⟩=some (.int .i64 ((rd_T34 y189 (ji9)).f0)):=hcc12 0 _ rfl;have hx12_1 : w231.cell? ⟨go12,((ji9) : Int).toNat * 2 + 1,none⟩=some (.string ((rd_T34 y189 (ji9)).f1)):=hcc12 1 _ rfl;have hf12_0 : w231.frozen? ⟨go12,((ji9) : Int).toNat * 2,none⟩=false:=hfr12 0;have hf12_1 : w231.frozen? ⟨go12,((ji9) : Int).toNat * 2 + 1,none⟩=false:=hfr12 1;clear hcl12 hcc12 hfr12 hM12;replace p12:=eq_true p12;replace q12:=eq_true q12;have HX232:=Aside0.mk (show Kd.R k34 34 w231 w.heap.size (fun k_=>some k_≠(.slice Ao228 t183.length co228 : Value).ownBlock) (.slice (some ⟨go12,0,none⟩) y189.length co12) y189 from (R_up HO191.out));obtain ⟨ce232,hcl232,hM232,hcc232,hfr232⟩:=Kd.R_elem HX232.out z34 ((ji9) : Int) (of_decide_eq_true (by first|(with_reducible assumption)|assumption)) (by have h_ : ((ji9) : Int) < ((y189.length : Int) : Int):=of_decide_eq_true (by first|(with_reducible assumption)|assumption);first|exact h_|(have e_:=(Kd.R_reads' HO191.out).1;omega)|simpa using h_);obtain rfl:=k34_openM hM232;have HP232:=Kd.R_seg HX232.out ((ji9) : Int) (of_decide_eq_true (by first|(with_reducible assumption)|assumption)) (by have h_ : ((ji9) : Int) < ((y189.length : Int) : Int):=of_decide_eq_true (by first|(with_reducible assumption)|assumption);first|exact h_|(have e_:=(Kd.R_reads' HO191.out).1;omega)|simpa using h_) (seg:=[.int .i64 1,.string (⟨#[120]⟩ : ByteArray)]) (j:=0) hcl232 hcc232 (show 2≤2 from by decide) (x':=(⟨1,(⟨#[120]⟩ : ByteArray)⟩ : S34)) (k34_mkM _ _ _ (⟨1,(⟨#[120]⟩ : ByteArray)⟩ : S34) ) (fun _ hk=>hk);have hx232_0:=hcc232 0 _ rfl;(try simp only [show (k34).sz=2 from rfl,Nat.mul_one,Nat.add_zero] at hx232_0);have hf232_0:=hfr232 0;(try simp only [show (k34).sz=2 from rfl,Nat.mul_one,Nat.add_zero] at hf232_0);have hx232_1:=hcc232 1 _ rfl;(try simp only [show (k34).sz=2 from rfl,Nat.mul_one,Nat.add_zero] at hx232_1);have hf232_1:=hfr232 1;(try simp only [show (k34).sz=2 from rfl,Nat.mul_one,Nat.add_zero] at hf232_1);clear hcl232 hcc232 hfr232 hM232)|((with_reducible refine gate_store (t:=34) (p:=33) rfl ?_);refine store_event (t:=34) (p:=33) (v:=?vo_w233) (w1:=((w231.setCell ⟨go12,((ji9) : Int).toNat * 2,none⟩ (.int .i64 1)).setCell ⟨go12,((ji9) : Int).toNat * 2 + 1,none⟩ (.string (⟨#[120]⟩ : ByteArray)))) ?hg ?ho ?hn ?hr ?_;(case ho=>rfl);(case hg=>rfl);(case hn=>rfl);(case hr=>first|(go_simp;done)|(go_simp;rfl));intro w233 hw;have hg : w231.grownBy w233 (some go12):=(by rw [hw];exact HP232.2);have hp_ : Kd.R k34 34 w233 w.heap.size (fun k_=>some k_≠(.slice Ao228 t183.length co228 : Value).ownBlock) (.slice (some ⟨go12,0,none⟩) y189.length co12) y192:=(by rw [hw,Ny192.out];exact HP232.1);clear HP232;have n0_:=Aside0.mk (blk_grown (blk_up BK174.out) hg (Kd.R_ne HO191.out BK174.out (by decide)));have n1_:=Aside0.mk (Kd.R_over' (v:=(.slice (some ⟨go12,0,none⟩) y189.length co12)) (R_up HO178.out) (Kd.R_typed HO191.out) (by decide) hg);have n2_:=Aside0.mk (blk_grown (blk_up BK182.out) hg (Kd.R_ne HO191.out BK182.out (by decide)));have n3_:=Aside0.mk (Kd.R_after (v:=(.slice (some ⟨go12,0,none⟩) y189.length co12)) (v1:=(.slice (some ⟨go12,0,none⟩) y189.length co12)) (ok:=(fun _=>True)) (R_up HO185.out) hg (.inl rfl));have n4_:=Aside0.mk (hp_);have n5_:=Aside0.mk ((by rw [hw];exact below_set (below_set (HB.out) GB12.out) GB12.out : Below w.heap.size w w233));clear BK174;clear HO178;clear BK182;clear HO185;clear HO191;clear HB;have BK174:=n0_;have HO178:=n1_;have BK182:=n2_;have HO185:=n3_;have HO191:=n4_;have HB:=n5_;clear n0_ n1_ n2_ n3_ n4_ n5_;clear hg hw hp_;have hcz234_0 : w233.cell? ⟨gb182,0,none⟩=some (.slice Ao224 t176.length co224):=(blk_cell BK182.out 0).trans rfl;have hcz234_1 : w233.cell? ⟨gb182,1,none⟩=some (.int .i64 t179):=(blk_cell BK182.out 1).trans rfl;have hcz234_2 : w233.cell? ⟨gb182,2,none⟩=some (.int .i64 t180):=(blk_cell BK182.out 2).trans rfl;have hcz234_3 : w233.cell? ⟨gb182,3,none⟩=some (.int .i64 t181):=(blk_cell BK182.out 3).trans rfl;have hfz234_0:=blk_frozen BK182.out 0;have hfz234_1:=blk_frozen BK182.out 1;have hfz234_2:=blk_frozen BK182.out 2;have hfz234_3:=blk_frozen BK182.out 3)|((with_reducible refine gate_callee (f:=12) rfl ?_);refine goesL_ (some 36) rfl rfl Try.func12 (by kernel_rfl) rfl #[.agg #[.slice Ao224 t176.length co224,.int .i64 t179,.int .i64 t180,.int .i64 t181],.slice Ao228 t183.length co228] rfl (by (try simp only [List.map_toArray,List.map_cons,List.map_nil]);first|done|rfl|(simp only [List.length_drop,List.length_take];rfl)) ?_;(with_reducible refine (schema_Row.calls _ _ t176 t179 t180 t181 _ _ t183 true _ ?side1 ?side2 ?side3 ?side4 A13.out).mono ?_);(case side1=>repeat (first|exact (Kd.R_reads' HO178.out).2.2|(with_reducible refine Kd.C_alloc ?_ _)|(with_reducible refine Kd.C_drewN ?_ _)|(with_reducible refine Kd.C_drew ?_)));(case side2=>exact (Kd.R_reads' HO178.out).2.1);(case side3=>repeat (first|exact (Kd.R_reads' HO185.out).2.2|(with_reducible refine Kd.C_alloc ?_ _)|(with_reducible refine Kd.C_drewN ?_ _)|(with_reducible refine Kd.C_drew ?_)));(case side4=>exact (Kd.R_reads' HO185.out).2.1);rintro e w235 ⟨rfl,hb⟩;refine ⟨_,rfl,?_⟩;have n0_:=Aside0.mk (Kd.R_below (R_up HO178.out) hb);have n1_:=Aside0.mk (Kd.R_below (R_up HO185.out) hb);have n2_:=Aside0.mk (Kd.R_below (R_up HO191.out) hb);have n3_:=Aside0.mk (blk_below (blk_up BK174.out) hb);have n4_:=Aside0.mk (blk_below (blk_up BK182.out) hb);have n5_:=Aside0.mk (below_step (below_go HB.out) hb);clear HO178;clear HO185;clear HO191;clear BK174;clear BK182;clear HB;have HO178:=n0_;have HO185:=n1_;have HO191:=n2_;have BK174:=n3_;have BK182:=n4_;have HB:=n5_;clear n0_ n1_ n2_ n3_ n4_ n5_;(try clear hb);(try clear hb2);(try clear hk);(try clear hi)))
  have n0_:=Aside0.mk (Kd.R_drew HO178.out)
  have n1_:=Aside0.mk (Kd.R_drew HO185.out)
  have n2_:=Aside0.mk (Kd.R_drew HO191.out)
  have n3_:=Aside0.mk (blk_drew BK174.out)
  have n4_:=Aside0.mk (blk_drew BK182.out)
  have n5_:=Aside0.mk (below_drew1 HB.out)
  clear HO178
  clear HO185
  clear HO191
  clear BK174
  clear BK182
  clear HB
  have HO178:=n0_
  have HO185:=n1_
  have HO191:=n2_
  have BK174:=n3_
  have BK182:=n4_
  have HB:=n5_
  clear n0_ n1_ n2_ n3_ n4_ n5_
  refine start_ (n:=9) (S:=fun w'=>w'.cell? ⟨gb182,0,none⟩=some (.slice Ao224 t176.length co224)∧w'.cell? ⟨gb182,1,none⟩=some (.int .i64 t179)∧w'.cell? ⟨gb182,2,none⟩=some (.int .i64 t180)∧w'.cell? ⟨gb182,3,none⟩=some (.int .i64 t181)) (ds:=[]) #[false,false,false,false,false,false,false,false,false] (by kernel_rfl) rfl rfl ⟨(blk_cell BK182.out 0).trans rfl,(blk_cell BK182.out 1).trans rfl,(blk_cell BK182.out 2).trans rfl,(blk_cell BK182.out 3).trans rfl⟩ (fun hHeld=>?_);refine with_tabW thresherlaw04_SchemaRows.tab8 thresherlaw04_SchemaRows.bits8 (fun HT_ HW_=>?_)
  generalize w235.drew=w236 at HO178 HO185 HO191 BK174 BK182 HB hHeld ⊢
  refine pure_ (i:=2) (N:=some 39) (v:=?_) (a':=?_) #[false,false,true,false,false,false,false,false,false] rfl rfl (any_of HT_.out (by kernel_rfl)) (fun _ _ _ h=>h) (Or.inl ⟨by rfl,?_⟩) ?_ ?_
  rotate_left;(intro w';go_simp;with_reducible rfl);rotate_left;(simp only [Act.put,List.setIfInBounds_toArray,List.set_cons_zero,List.set_cons_succ,i64_w,i32_w];rfl)
  refine pure_ (i:=4) (N:=some 41) (v:=?_) (a':=?_) #[false,false,true,false,true,false,false,false,false] rfl rfl (any_of HT_.out (by kernel_rfl)) (fun _ _ _ h=>h) (Or.inl ⟨by rfl,?_⟩) ?_ ?_
  rotate_left;(intro w';go_simp;with_reducible rfl);rotate_left;(simp only [Act.put,List.setIfInBounds_toArray,List.set_cons_zero,List.set_cons_succ,i64_w,i32_w];rfl)
  refine take_ (i:=0) (N:=some 37) (v:=?_) (a':=?_) #[true,false,true,false,true,false,false,false,false] rfl rfl (take_ofW HT_.out HW_.out (by kernel_rfl)) (fun _ _ _ h=>h) (Or.inl ⟨by rfl,?_⟩) hHeld ?_ ?_
  rotate_left;(rintro w' ⟨s0,s1,s2,s3⟩;go_simp;with_reducible rfl);rotate_left;(simp only [Act.put,List.setIfInBounds_toArray,List.set_cons_zero,List.set_cons_succ,i64_w,i32_w];rfl)
  refine join_ (σ:=Value × Value × Value) 3 #[true,true,true,true,true,true,false,false,false] (fun s_=>[(38,s_.1),(40,s_.2.1),(42,s_.2.2)]) (fun s_ w'=>(w'.cell? ⟨gb182,0,none⟩=some (.slice Ao224 t176.length co224)∧w'.cell? ⟨gb182,1,none⟩=some (.int .i64 t179)∧w'.cell? ⟨gb182,2,none⟩=some (.int .i64 t180)∧w'.cell? ⟨gb182,3,none⟩=some (.int .i64 t181))∧(Kd.R (Kd.int .i64) 3 w' w.heap.size (fun _=>True) (.slice Ao224 t176.length co224) t176)∧(Kd.R k34 34 w' w.heap.size (fun k_=>some k_≠(.slice (some ⟨go12,0,none⟩) y189.length co12 : Value).ownBlock∧some k_≠(s_.2.1 : Value).ownBlock∧some k_≠(s_.2.2 : Value).ownBlock) (.slice Ao228 t183.length co228) t183)∧(Kd.R k34 34 w' w.heap.size (fun k_=>some k_≠(.slice Ao228 t183.length co228 : Value).ownBlock∧some k_≠(s_.2.1 : Value).ownBlock∧some k_≠(s_.2.2 : Value).ownBlock) (.slice (some ⟨go12,0,none⟩) y189.length co12) y192)∧(Kd.R k34 34 w' w.heap.size (fun k_=>some k_≠(.slice Ao228 t183.length co228 : Value).ownBlock∧some k_≠(.slice (some ⟨go12,0,none⟩) y189.length co12 : Value).ownBlock∧some k_≠(s_.2.2 : Value).ownBlock) s_.2.1 y197)∧(Kd.R k34 34 w' w.heap.size (fun k_=>some k_≠(.slice Ao228 t183.length co228 : Value).ownBlock∧some k_≠(.slice (some ⟨go12,0,none⟩) y189.length co12 : Value).ownBlock∧some k_≠(s_.2.1 : Value).ownBlock) s_.2.2 y200)∧(w'.heap[gb174]?=some (.cells #[.int .u8 a0_0,.int .u8 a0_1,.int .u8 a0_2,.int .u8 a0_3,.int .u8 a0_4,.int .u8 a0_5,.int .u8 a0_6,.int .u8 a0_7,.int .u8 a0_8,.int .u8 a0_9,.int .u8 a0_10,.int .u8 a0_11] 24 (0,0)))∧(w'.heap[gb182]?=some (.cells #[.slice Ao224 t176.length co224,.int .i64 t179,.int .i64 t180,.int .i64 t181] 30 (0,0)))∧(Below w.heap.size w w')) ?_ ?_
  rotate_left
  ·intro hCont
   refine two_ (i:=1) (j:=5) (Ni:=some 38) (Nj:=some 42) #[true,true,true,false,true,false,false,false,false] #[true,false,true,false,true,true,false,false,false] rfl rfl rfl rfl (two_of HT_.out (by kernel_rfl)) (by decide) (by decide) (fun K hK=>?_) (fun K hK=>?_)
   ·skip
    refine Kd.R_lit_step k34 _ 34 ?hg (N:=38) ?hd (xs:=([] : List (S34))) (inner:=[]) (ok:=fun _=>True) (okp:=fun _=>True) ?hr ?hp (fun _ hk=>hk) trivial (Below.refl _ _) (Nat.le_refl _) (by simp) ?_;(case hd=>rfl);(case hg=>rfl);(case hr=>first|(go_simp;done)|(go_simp;rfl));(case hp=>exact (Reps.none _ _))
    intro v195 w237 ho238 hb hg_ hnew_
    clear hg_ hnew_
    (first|rw [← Ny194.out] at ho238|(simp only [Int.reduceToNat] at ho238;rw [← Ny194.out] at ho238))
    have n0_:=Aside0.mk (Kd.R_below (R_up HO178.out) hb)
    have n1_:=Aside0.mk (Kd.R_elder' (R_up HO185.out) (Kd.R_base ho238) hb)
    have n2_:=Aside0.mk (Kd.R_elder' (R_up HO191.out) (Kd.R_base ho238) hb)
    have n3_:=Aside0.mk (Kd.R_lower (Kd.R_new' (Kd.R_new' ho238 (Kd.R_lt (R_up HO185.out))) (Kd.R_lt (R_up HO191.out))) (below_size (below_go HB.out)))
    have n4_:=Aside0.mk (blk_below (blk_up BK174.out) hb)
    have n5_:=Aside0.mk (blk_below (blk_up BK182.out) hb)
    have n6_:=Aside0.mk (below_step (below_go HB.out) hb)
    clear HO178
    clear HO185
    clear HO191
    clear BK174
    clear BK182
    clear HB
    have HO178:=n0_
    have HO185:=n1_
    have HO191:=n2_
    have HO196:=n3_
    have BK174:=n4_
    have BK182:=n5_
    have HB:=n6_
    clear n0_ n1_ n2_ n3_ n4_ n5_ n6_
    clear hb ho238
    refine hK.out _ _ ⟨(blk_cell BK182.out 0).trans rfl,(blk_cell BK182.out 1).trans rfl,(blk_cell BK182.out 2).trans rfl,(blk_cell BK182.out 3).trans rfl⟩ (fun hHeld=>?_)
    clear hK K
    refine norm_ (a':=?_) ?_ ?_
    rotate_left
    ·show Act.put _ (some 38) _=_
     simp only [Act.put,List.setIfInBounds_toArray,List.set_cons_zero,List.set_cons_succ,i64_w,i32_w]
     rfl
    refine two_ (i:=3) (j:=5) (Ni:=some 40) (Nj:=some 42) #[true,true,true,true,true,false,false,false,false] #[true,true,true,false,true,true,false,false,false] rfl rfl rfl rfl (two_of HT_.out (by kernel_rfl)) (by decide) (by decide) (fun K hK=>?_) (fun K hK=>?_)
    ·skip
     refine Kd.R_append_rows_step k34 (w0:=w) w.heap.size (by rfl) (.tmp 38) (.tmp 39) 26 34 (.agg #[(.int .i64 0),(.string ⟨#[]⟩)]) 24 rfl Try.underlying26 info34 rfl (by decide) (by omega) v195 y194 t183 _ _ _ (fun k_=>some k_≠(.slice Ao228 t183.length co228 : Value).ownBlock∧some k_≠(.slice (some ⟨go12,0,none⟩) y189.length co12 : Value).ownBlock) (fun _=>False) rfl rfl ?aO ?aR (fun _ _ h=>h) (fun _ h=>h.elim) ?aF ?aB ?aS ?aL ?_
     (case aR=>repeat (first|exact (Kd.R_reads' HO185.out).2.2|(with_reducible refine Kd.C_alloc ?_ _)|(with_reducible refine Kd.C_drewN ?_ _)|(with_reducible refine Kd.C_drew ?_)))
     (case aB=>exact (below_go HB.out))
     (case aF=>exact (fun k_ hk=>⟨Kd.fresh' (Kd.R_lt (R_up HO185.out)) k_ hk,Kd.fresh' (Kd.R_lt (R_up HO191.out)) k_ hk⟩))
     (case aO=>exact (by (with_reducible repeat (first|apply Kd.R_alloc|apply Kd.R_drewN|apply Kd.R_drew));exact Kd.R_mono HO196.out (fun _ hk=>⟨hk.1.2,hk.2⟩)))
     (case aS=>exact (below_size (below_go HB.out)))
     (case aL=>have:=LMc14.out;omega)
     intro v198 w239 ho hb hg hat
     rw [← Ny197.out] at ho
     have n0_:=Aside0.mk (blk_grown (blk_up BK174.out) hg (Kd.R_ne HO196.out BK174.out (by decide)))
     have n1_:=Aside0.mk (Kd.R_over' (R_up HO178.out) (Kd.R_typed (R_up HO196.out)) (by decide) hg)
     have n2_:=Aside0.mk (blk_grown (blk_up BK182.out) hg (Kd.R_ne HO196.out BK182.out (by decide)))
     have n3_:=Aside0.mk (Kd.R_after (ok:=(fun k_=>some k_≠(.slice (some ⟨go12,0,none⟩) y189.length co12 : Value).ownBlock)) (by (with_reducible repeat (first|apply Kd.R_alloc|apply Kd.R_drewN|apply Kd.R_drew));exact Kd.R_mono HO185.out (fun _ hk=>⟨hk.1.2,hk.2⟩)) hg hat)
     have n4_:=Aside0.mk (Kd.R_after (ok:=(fun k_=>some k_≠(.slice Ao228 t183.length co228 : Value).ownBlock)) (R_up HO191.out) hg hat)
     have n5_:=Aside0.mk (hb)
     have n6_:=Aside0.mk (ho)
     clear BK174
     clear HO178
     clear BK182
     clear HO185
     clear HO191
     clear HB
     clear HO196
     have BK174:=n0_
     have HO178:=n1_
     have BK182:=n2_
     have HO185:=n3_
     have HO191:=n4_
     have HB:=n5_
     have HO199:=n6_
     clear n0_ n1_ n2_ n3_ n4_ n5_ n6_
     clear ho hb hg hat
     refine hK.out _ _ ⟨(blk_cell BK182.out 0).trans rfl,(blk_cell BK182.out 1).trans rfl,(blk_cell BK182.out 2).trans rfl,(blk_cell BK182.out 3).trans rfl⟩ (fun hHeld=>?_)
     clear hK K
     refine norm_ (a':=?_) ?_ ?_
     rotate_left
     ·show Act.put _ (some 40) _=_
      simp only [Act.put,List.setIfInBounds_toArray,List.set_cons_zero,List.set_cons_succ,i64_w,i32_w]
      rfl
     refine one_ (i:=5) (N:=some 42) #[true,true,true,true,true,true,false,false,false] rfl rfl (one_of HT_.out (by kernel_rfl)) (by decide) (fun K hK=>?_)
     refine Kd.R_lit_step k34 _ 34 ?hg (N:=42) ?hd (xs:=([(⟨0,(⟨#[]⟩ : ByteArray)⟩ : S34)] : List (S34))) (inner:=[.int .i64 0,.string (⟨#[]⟩ : ByteArray)]) (ok:=fun _=>True) (okp:=fun _=>True) ?hr ?hp (fun _ hk=>hk) trivial (Below.refl _ _) (Nat.le_refl _) (by simp) ?_;(case hd=>rfl);(case hg=>rfl);(case hr=>first|(go_simp;done)|(go_simp;rfl));(case hp=>exact (Reps.c2 (show Kd.M k34 _ _ _ (⟨0,(⟨#[]⟩ : ByteArray)⟩ : S34) [.int .i64 0,.string (⟨#[]⟩ : ByteArray)] from (k34_mkM _ _ _ (⟨0,(⟨#[]⟩ : ByteArray)⟩ : S34) )) (Reps.none _ _)))
     intro v201 w240 ho241 hb hg_ hnew_
     clear hg_ hnew_
     (first|rw [← Ny200.out] at ho241|(simp only [Int.reduceToNat] at ho241;rw [← Ny200.out] at ho241))
     have n0_:=Aside0.mk (Kd.R_below (R_up HO178.out) hb)
     have n1_:=Aside0.mk (Kd.R_elder' (R_up HO185.out) (Kd.R_base ho241) hb)
     have n2_:=Aside0.mk (Kd.R_elder' (R_up HO191.out) (Kd.R_base ho241) hb)
     have n3_:=Aside0.mk (Kd.R_elder' (R_up HO199.out) (Kd.R_base ho241) hb)
     have n4_:=Aside0.mk (Kd.R_lower (Kd.R_new' (Kd.R_new' (Kd.R_new' ho241 (Kd.R_lt (R_up HO185.out))) (Kd.R_lt (R_up HO191.out))) (Kd.R_lt (R_up HO199.out))) (below_size (below_go HB.out)))
     have n5_:=Aside0.mk (blk_below (blk_up BK174.out) hb)
     have n6_:=Aside0.mk (blk_below (blk_up BK182.out) hb)
     have n7_:=Aside0.mk (below_step (below_go HB.out) hb)
     clear HO178
     clear HO185
     clear HO191
     clear HO199
     clear BK174
     clear BK182
     clear HB
     have HO178:=n0_
     have HO185:=n1_
     have HO191:=n2_
     have HO199:=n3_
     have HO202:=n4_
     have BK174:=n5_
     have BK182:=n6_
     have HB:=n7_
     clear n0_ n1_ n2_ n3_ n4_ n5_ n6_ n7_
     clear hb ho241
     refine hK.out _ _ ⟨(blk_cell BK182.out 0).trans rfl,(blk_cell BK182.out 1).trans rfl,(blk_cell BK182.out 2).trans rfl,(blk_cell BK182.out 3).trans rfl⟩ (fun hHeld=>?_)
     clear hK K
     refine norm_ (a':=?_) ?_ ?_
     rotate_left
     ·show Act.put _ (some 42) _=_
      simp only [Act.put,List.setIfInBounds_toArray,List.set_cons_zero,List.set_cons_succ,i64_w,i32_w]
      rfl
     exact norm_ (by simp only [putAll,Act.put,List.setIfInBounds_toArray,List.set_cons_zero,List.set_cons_succ]) (hCont (v195,v198,v201) _ ⟨hHeld,(R_up HO178.out),(by (with_reducible repeat (first|apply Kd.R_alloc|apply Kd.R_drewN|apply Kd.R_drew));exact Kd.R_mono HO185.out (fun _ hk=>⟨hk.1.1,⟨hk.1.2,hk.2⟩⟩)),(by (with_reducible repeat (first|apply Kd.R_alloc|apply Kd.R_drewN|apply Kd.R_drew));exact Kd.R_mono HO191.out (fun _ hk=>⟨hk.1.1,⟨hk.1.2,hk.2⟩⟩)),(by (with_reducible repeat (first|apply Kd.R_alloc|apply Kd.R_drewN|apply Kd.R_drew));exact Kd.R_mono HO199.out (fun _ hk=>⟨hk.1.1,⟨hk.1.2,hk.2⟩⟩)),(by (with_reducible repeat (first|apply Kd.R_alloc|apply Kd.R_drewN|apply Kd.R_drew));exact Kd.R_mono HO202.out (fun _ hk=>⟨hk.1.1.2,⟨hk.1.2,hk.2⟩⟩)),(blk_up BK174.out),(blk_up BK182.out),(below_go HB.out)⟩)
    ·skip
     refine Kd.R_lit_step k34 _ 34 ?hg (N:=42) ?hd (xs:=([(⟨0,(⟨#[]⟩ : ByteArray)⟩ : S34)] : List (S34))) (inner:=[.int .i64 0,.string (⟨#[]⟩ : ByteArray)]) (ok:=fun _=>True) (okp:=fun _=>True) ?hr ?hp (fun _ hk=>hk) trivial (Below.refl _ _) (Nat.le_refl _) (by simp) ?_;(case hd=>rfl);(case hg=>rfl);(case hr=>first|(go_simp;done)|(go_simp;rfl));(case hp=>exact (Reps.c2 (show Kd.M k34 _ _ _ (⟨0,(⟨#[]⟩ : ByteArray)⟩ : S34) [.int .i64 0,.string (⟨#[]⟩ : ByteArray)] from (k34_mkM _ _ _ (⟨0,(⟨#[]⟩ : ByteArray)⟩ : S34) )) (Reps.none _ _)))
     intro v201 w239 ho240 hb hg_ hnew_
     clear hg_ hnew_
     (first|rw [← Ny200.out] at ho240|(simp only [Int.reduceToNat] at ho240;rw [← Ny200.out] at ho240))
     have n0_:=Aside0.mk (Kd.R_below (R_up HO178.out) hb)
     have n1_:=Aside0.mk (Kd.R_elder' (R_up HO185.out) (Kd.R_base ho240) hb)
     have n2_:=Aside0.mk (Kd.R_elder' (R_up HO191.out) (Kd.R_base ho240) hb)
     have n3_:=Aside0.mk (Kd.R_elder' (R_up HO196.out) (Kd.R_base ho240) hb)
     have n4_:=Aside0.mk (Kd.R_lower (Kd.R_new' (Kd.R_new' (Kd.R_new' ho240 (Kd.R_lt (R_up HO185.out))) (Kd.R_lt (R_up HO191.out))) (Kd.R_lt (R_up HO196.out))) (below_size (below_go HB.out)))
     have n5_:=Aside0.mk (blk_below (blk_up BK174.out) hb)
     have n6_:=Aside0.mk (blk_below (blk_up BK182.out) hb)
     have n7_:=Aside0.mk (below_step (below_go HB.out) hb)
     clear HO178
     clear HO185
     clear HO191
     clear HO196
     clear BK174
     clear BK182
     clear HB
     have HO178:=n0_
     have HO185:=n1_
     have HO191:=n2_
     have HO196:=n3_
     have HO202:=n4_
     have BK174:=n5_
     have BK182:=n6_
     have HB:=n7_
     clear n0_ n1_ n2_ n3_ n4_ n5_ n6_ n7_
     clear hb ho240
     refine hK.out _ _ ⟨(blk_cell BK182.out 0).trans rfl,(blk_cell BK182.out 1).trans rfl,(blk_cell BK182.out 2).trans rfl,(blk_cell BK182.out 3).trans rfl⟩ (fun hHeld=>?_)
     clear hK K
     refine norm_ (a':=?_) ?_ ?_
     rotate_left
     ·show Act.put _ (some 42) _=_
      simp only [Act.put,List.setIfInBounds_toArray,List.set_cons_zero,List.set_cons_succ,i64_w,i32_w]
      rfl
     refine one_ (i:=3) (N:=some 40) #[true,true,true,true,true,true,false,false,false] rfl rfl (one_of HT_.out (by kernel_rfl)) (by decide) (fun K hK=>?_)
     refine Kd.R_append_rows_step k34 (w0:=w) w.heap.size (by rfl) (.tmp 38) (.tmp 39) 26 34 (.agg #[(.int .i64 0),(.string ⟨#[]⟩)]) 24 rfl Try.underlying26 info34 rfl (by decide) (by omega) v195 y194 t183 _ _ _ (fun k_=>some k_≠(.slice Ao228 t183.length co228 : Value).ownBlock∧some k_≠(.slice (some ⟨go12,0,none⟩) y189.length co12 : Value).ownBlock∧some k_≠(v201 : Value).ownBlock) (fun _=>False) rfl rfl ?aO ?aR (fun _ _ h=>h) (fun _ h=>h.elim) ?aF ?aB ?aS ?aL ?_
     (case aR=>repeat (first|exact (Kd.R_reads' HO185.out).2.2|(with_reducible refine Kd.C_alloc ?_ _)|(with_reducible refine Kd.C_drewN ?_ _)|(with_reducible refine Kd.C_drew ?_)))
     (case aB=>exact (below_go HB.out))
     (case aF=>exact (fun k_ hk=>⟨Kd.fresh' (Kd.R_lt (R_up HO185.out)) k_ hk,Kd.fresh' (Kd.R_lt (R_up HO191.out)) k_ hk,Kd.fresh' (Kd.R_lt (R_up HO202.out)) k_ hk⟩))
     (case aO=>exact (by (with_reducible repeat (first|apply Kd.R_alloc|apply Kd.R_drewN|apply Kd.R_drew));exact Kd.R_mono HO196.out (fun _ hk=>⟨hk.1.1.2,⟨hk.1.2,hk.2⟩⟩)))
     (case aS=>exact (below_size (below_go HB.out)))
     (case aL=>have:=LMc14.out;omega)
     intro v198 w241 ho hb hg hat
     rw [← Ny197.out] at ho
     have n0_:=Aside0.mk (blk_grown (blk_up BK174.out) hg (Kd.R_ne HO196.out BK174.out (by decide)))
     have n1_:=Aside0.mk (Kd.R_over' (R_up HO178.out) (Kd.R_typed (R_up HO196.out)) (by decide) hg)
     have n2_:=Aside0.mk (blk_grown (blk_up BK182.out) hg (Kd.R_ne HO196.out BK182.out (by decide)))
     have n3_:=Aside0.mk (Kd.R_after (ok:=(fun k_=>some k_≠(.slice (some ⟨go12,0,none⟩) y189.length co12 : Value).ownBlock∧some k_≠(v201 : Value).ownBlock)) (by (with_reducible repeat (first|apply Kd.R_alloc|apply Kd.R_drewN|apply Kd.R_drew));exact Kd.R_mono HO185.out (fun _ hk=>⟨⟨hk.1.1.2,hk.2⟩,hk.1.2⟩)) hg hat)
     have n4_:=Aside0.mk (Kd.R_after (ok:=(fun k_=>some k_≠(.slice Ao228 t183.length co228 : Value).ownBlock∧some k_≠(v201 : Value).ownBlock)) (by (with_reducible repeat (first|apply Kd.R_alloc|apply Kd.R_drewN|apply Kd.R_drew));exact Kd.R_mono HO191.out (fun _ hk=>⟨⟨hk.1.1,hk.2⟩,hk.1.2⟩)) hg hat)
     have n5_:=Aside0.mk (Kd.R_after (ok:=(fun k_=>some k_≠(.slice Ao228 t183.length co228 : Value).ownBlock∧some k_≠(.slice (some ⟨go12,0,none⟩) y189.length co12 : Value).ownBlock)) (by (with_reducible repeat (first|apply Kd.R_alloc|apply Kd.R_drewN|apply Kd.R_drew));exact Kd.R_mono HO202.out (fun _ hk=>⟨⟨hk.1.1.2,hk.1.2⟩,hk.2⟩)) hg hat)
     have n6_:=Aside0.mk (hb)
     have n7_:=Aside0.mk (ho)
     clear BK174
     clear HO178
     clear BK182
     clear HO185
     clear HO191
     clear HO202
     clear HB
     clear HO196
     have BK174:=n0_
     have HO178:=n1_
     have BK182:=n2_
     have HO185:=n3_
     have HO191:=n4_
     have HO202:=n5_
     have HB:=n6_
     have HO199:=n7_
     clear n0_ n1_ n2_ n3_ n4_ n5_ n6_ n7_
     clear ho hb hg hat
     refine hK.out _ _ ⟨(blk_cell BK182.out 0).trans rfl,(blk_cell BK182.out 1).trans rfl,(blk_cell BK182.out 2).trans rfl,(blk_cell BK182.out 3).trans rfl⟩ (fun hHeld=>?_)
     clear hK K
     refine norm_ (a':=?_) ?_ ?_
     rotate_left
     ·show Act.put _ (some 40) _=_
      simp only [Act.put,List.setIfInBounds_toArray,List.set_cons_zero,List.set_cons_succ,i64_w,i32_w]
      rfl
     exact norm_ (by simp only [putAll,Act.put,List.setIfInBounds_toArray,List.set_cons_zero,List.set_cons_succ]) (hCont (v195,v198,v201) _ ⟨hHeld,(R_up HO178.out),(by (with_reducible repeat (first|apply Kd.R_alloc|apply Kd.R_drewN|apply Kd.R_drew));exact Kd.R_mono HO185.out (fun _ hk=>⟨hk.1.1,⟨hk.2,hk.1.2⟩⟩)),(by (with_reducible repeat (first|apply Kd.R_alloc|apply Kd.R_drewN|apply Kd.R_drew));exact Kd.R_mono HO191.out (fun _ hk=>⟨hk.1.1,⟨hk.2,hk.1.2⟩⟩)),(R_up HO199.out),(by (with_reducible repeat (first|apply Kd.R_alloc|apply Kd.R_drewN|apply Kd.R_drew));exact Kd.R_mono HO202.out (fun _ hk=>⟨hk.1.1,⟨hk.1.2,hk.2⟩⟩)),(blk_up BK174.out),(blk_up BK182.out),(below_go HB.out)⟩)
   ·skip
    refine Kd.R_lit_step k34 _ 34 ?hg (N:=42) ?hd (xs:=([(⟨0,(⟨#[]⟩ : ByteArray)⟩ : S34)] : List (S34))) (inner:=[.int .i64 0,.string (⟨#[]⟩ : ByteArray)]) (ok:=fun _=>True) (okp:=fun _=>True) ?hr ?hp (fun _ hk=>hk) trivial (Below.refl _ _) (Nat.le_refl _) (by simp) ?_;(case hd=>rfl);(case hg=>rfl);(case hr=>first|(go_simp;done)|(go_simp;rfl));(case hp=>exact (Reps.c2 (show Kd.M k34 _ _ _ (⟨0,(⟨#[]⟩ : ByteArray)⟩ : S34) [.int .i64 0,.string (⟨#[]⟩ : ByteArray)] from (k34_mkM _ _ _ (⟨0,(⟨#[]⟩ : ByteArray)⟩ : S34) )) (Reps.none _ _)))
    intro v201 w237 ho238 hb hg_ hnew_
    clear hg_ hnew_
    (first|rw [← Ny200.out] at ho238|(simp only [Int.reduceToNat] at ho238;rw [← Ny200.out] at ho238))
    have n0_:=Aside0.mk (Kd.R_below (R_up HO178.out) hb)
    have n1_:=Aside0.mk (Kd.R_elder' (R_up HO185.out) (Kd.R_base ho238) hb)
    have n2_:=Aside0.mk (Kd.R_elder' (R_up HO191.out) (Kd.R_base ho238) hb)
    have n3_:=Aside0.mk (Kd.R_lower (Kd.R_new' (Kd.R_new' ho238 (Kd.R_lt (R_up HO185.out))) (Kd.R_lt (R_up HO191.out))) (below_size (below_go HB.out)))
    have n4_:=Aside0.mk (blk_below (blk_up BK174.out) hb)
    have n5_:=Aside0.mk (blk_below (blk_up BK182.out) hb)
    have n6_:=Aside0.mk (below_step (below_go HB.out) hb)
    clear HO178
    clear HO185
    clear HO191
    clear BK174
    clear BK182
    clear HB
    have HO178:=n0_
    have HO185:=n1_
    have HO191:=n2_
    have HO202:=n3_
    have BK174:=n4_
    have BK182:=n5_
    have HB:=n6_
    clear n0_ n1_ n2_ n3_ n4_ n5_ n6_
    clear hb ho238
    refine hK.out _ _ ⟨(blk_cell BK182.out 0).trans rfl,(blk_cell BK182.out 1).trans rfl,(blk_cell BK182.out 2).trans rfl,(blk_cell BK182.out 3).trans rfl⟩ (fun hHeld=>?_)
    clear hK K
    refine norm_ (a':=?_) ?_ ?_
    rotate_left
    ·show Act.put _ (some 42) _=_
     simp only [Act.put,List.setIfInBounds_toArray,List.set_cons_zero,List.set_cons_succ,i64_w,i32_w]
     rfl
    refine one_ (i:=1) (N:=some 38) #[true,true,true,false,true,true,false,false,false] rfl rfl (one_of HT_.out (by kernel_rfl)) (by decide) (fun K hK=>?_)
    refine Kd.R_lit_step k34 _ 34 ?hg (N:=38) ?hd (xs:=([] : List (S34))) (inner:=[]) (ok:=fun _=>True) (okp:=fun _=>True) ?hr ?hp (fun _ hk=>hk) trivial (Below.refl _ _) (Nat.le_refl _) (by simp) ?_;(case hd=>rfl);(case hg=>rfl);(case hr=>first|(go_simp;done)|(go_simp;rfl));(case hp=>exact (Reps.none _ _))
    intro v195 w239 ho240 hb hg_ hnew_
    clear hg_ hnew_
    (first|rw [← Ny194.out] at ho240|(simp only [Int.reduceToNat] at ho240;rw [← Ny194.out] at ho240))
    have n0_:=Aside0.mk (Kd.R_below (R_up HO178.out) hb)
    have n1_:=Aside0.mk (Kd.R_elder' (R_up HO185.out) (Kd.R_base ho240) hb)
    have n2_:=Aside0.mk (Kd.R_elder' (R_up HO191.out) (Kd.R_base ho240) hb)
    have n3_:=Aside0.mk (Kd.R_elder' (R_up HO202.out) (Kd.R_base ho240) hb)
    have n4_:=Aside0.mk (Kd.R_lower (Kd.R_new' (Kd.R_new' (Kd.R_new' ho240 (Kd.R_lt (R_up HO185.out))) (Kd.R_lt (R_up HO191.out))) (Kd.R_lt (R_up HO202.out))) (below_size (below_go HB.out)))
    have n5_:=Aside0.mk (blk_below (blk_up BK174.out) hb)
    have n6_:=Aside0.mk (blk_below (blk_up BK182.out) hb)
    have n7_:=Aside0.mk (below_step (below_go HB.out) hb)
    clear HO178
    clear HO185
    clear HO191
    clear HO202
    clear BK174
    clear BK182
    clear HB
    have HO178:=n0_
    have HO185:=n1_
    have HO191:=n2_
    have HO202:=n3_
    have HO196:=n4_
    have BK174:=n5_
    have BK182:=n6_
    have HB:=n7_
    clear n0_ n1_ n2_ n3_ n4_ n5_ n6_ n7_
    clear hb ho240
    refine hK.out _ _ ⟨(blk_cell BK182.out 0).trans rfl,(blk_cell BK182.out 1).trans rfl,(blk_cell BK182.out 2).trans rfl,(blk_cell BK182.out 3).trans rfl⟩ (fun hHeld=>?_)
    clear hK K
    refine norm_ (a':=?_) ?_ ?_
    rotate_left
    ·show Act.put _ (some 38) _=_
     simp only [Act.put,List.setIfInBounds_toArray,List.set_cons_zero,List.set_cons_succ,i64_w,i32_w]
     rfl
    refine one_ (i:=3) (N:=some 40) #[true,true,true,true,true,true,false,false,false] rfl rfl (one_of HT_.out (by kernel_rfl)) (by decide) (fun K hK=>?_)
    refine Kd.R_append_rows_step k34 (w0:=w) w.heap.size (by rfl) (.tmp 38) (.tmp 39) 26 34 (.agg #[(.int .i64 0),(.string ⟨#[]⟩)]) 24 rfl Try.underlying26 info34 rfl (by decide) (by omega) v195 y194 t183 _ _ _ (fun k_=>some k_≠(.slice Ao228 t183.length co228 : Value).ownBlock∧some k_≠(.slice (some ⟨go12,0,none⟩) y189.length co12 : Value).ownBlock∧some k_≠(v201 : Value).ownBlock) (fun _=>False) rfl rfl ?aO ?aR (fun _ _ h=>h) (fun _ h=>h.elim) ?aF ?aB ?aS ?aL ?_
    (case aR=>repeat (first|exact (Kd.R_reads' HO185.out).2.2|(with_reducible refine Kd.C_alloc ?_ _)|(with_reducible refine Kd.C_drewN ?_ _)|(with_reducible refine Kd.C_drew ?_)))
    (case aB=>exact (below_go HB.out))
    (case aF=>exact (fun k_ hk=>⟨Kd.fresh' (Kd.R_lt (R_up HO185.out)) k_ hk,Kd.fresh' (Kd.R_lt (R_up HO191.out)) k_ hk,Kd.fresh' (Kd.R_lt (R_up HO202.out)) k_ hk⟩))
    (case aO=>exact (by (with_reducible repeat (first|apply Kd.R_alloc|apply Kd.R_drewN|apply Kd.R_drew));exact Kd.R_mono HO196.out (fun _ hk=>⟨hk.1.1.2,⟨hk.1.2,hk.2⟩⟩)))
    (case aS=>exact (below_size (below_go HB.out)))
    (case aL=>have:=LMc14.out;omega)
    intro v198 w241 ho hb hg hat
    rw [← Ny197.out] at ho
    have n0_:=Aside0.mk (blk_grown (blk_up BK174.out) hg (Kd.R_ne HO196.out BK174.out (by decide)))
    have n1_:=Aside0.mk (Kd.R_over' (R_up HO178.out) (Kd.R_typed (R_up HO196.out)) (by decide) hg)
    have n2_:=Aside0.mk (blk_grown (blk_up BK182.out) hg (Kd.R_ne HO196.out BK182.out (by decide)))
    have n3_:=Aside0.mk (Kd.R_after (ok:=(fun k_=>some k_≠(.slice (some ⟨go12,0,none⟩) y189.length co12 : Value).ownBlock∧some k_≠(v201 : Value).ownBlock)) (by (with_reducible repeat (first|apply Kd.R_alloc|apply Kd.R_drewN|apply Kd.R_drew));exact Kd.R_mono HO185.out (fun _ hk=>⟨⟨hk.1.1.2,hk.1.2⟩,hk.2⟩)) hg hat)
    have n4_:=Aside0.mk (Kd.R_after (ok:=(fun k_=>some k_≠(.slice Ao228 t183.length co228 : Value).ownBlock∧some k_≠(v201 : Value).ownBlock)) (R_up HO191.out) hg hat)
    have n5_:=Aside0.mk (Kd.R_after (ok:=(fun k_=>some k_≠(.slice Ao228 t183.length co228 : Value).ownBlock∧some k_≠(.slice (some ⟨go12,0,none⟩) y189.length co12 : Value).ownBlock)) (by (with_reducible repeat (first|apply Kd.R_alloc|apply Kd.R_drewN|apply Kd.R_drew));exact Kd.R_mono HO202.out (fun _ hk=>⟨⟨hk.1.1.2,hk.1.2⟩,hk.2⟩)) hg hat)
    have n6_:=Aside0.mk (hb)
    have n7_:=Aside0.mk (ho)
    clear BK174
    clear HO178
    clear BK182
    clear HO185
    clear HO191
    clear HO202
    clear HB
    clear HO196
    have BK174:=n0_
    have HO178:=n1_
    have BK182:=n2_
    have HO185:=n3_
    have HO191:=n4_
    have HO202:=n5_
    have HB:=n6_
    have HO199:=n7_
    clear n0_ n1_ n2_ n3_ n4_ n5_ n6_ n7_
    clear ho hb hg hat
    refine hK.out _ _ ⟨(blk_cell BK182.out 0).trans rfl,(blk_cell BK182.out 1).trans rfl,(blk_cell BK182.out 2).trans rfl,(blk_cell BK182.out 3).trans rfl⟩ (fun hHeld=>?_)
    clear hK K
    refine norm_ (a':=?_) ?_ ?_
    rotate_left
    ·show Act.put _ (some 40) _=_
     simp only [Act.put,List.setIfInBounds_toArray,List.set_cons_zero,List.set_cons_succ,i64_w,i32_w]
     rfl
    exact norm_ (by simp only [putAll,Act.put,List.setIfInBounds_toArray,List.set_cons_zero,List.set_cons_succ]) (hCont (v195,v198,v201) _ ⟨hHeld,(R_up HO178.out),(by (with_reducible repeat (first|apply Kd.R_alloc|apply Kd.R_drewN|apply Kd.R_drew));exact Kd.R_mono HO185.out (fun _ hk=>⟨hk.1.1,⟨hk.2,hk.1.2⟩⟩)),(by (with_reducible repeat (first|apply Kd.R_alloc|apply Kd.R_drewN|apply Kd.R_drew));exact Kd.R_mono HO191.out (fun _ hk=>⟨hk.1.1,⟨hk.2,hk.1.2⟩⟩)),(R_up HO199.out),(by (with_reducible repeat (first|apply Kd.R_alloc|apply Kd.R_drewN|apply Kd.R_drew));exact Kd.R_mono HO202.out (fun _ hk=>⟨hk.1.1,⟨hk.1.2,hk.2⟩⟩)),(blk_up BK174.out),(blk_up BK182.out),(below_go HB.out)⟩)
  rintro ⟨v195,v198,v201⟩ w242 ⟨hS_,h0_,h1_,h2_,h3_,h4_,h5_,h6_,h7_⟩
  have n0_ : Aside0 (Kd.R (Kd.int .i64) 3 w242 w.heap.size (fun _=>True) (.slice Ao224 t176.length co224) t176):=⟨h0_⟩
  have n1_ : Aside0 (Kd.R k34 34 w242 w.heap.size (fun k_=>some k_≠(.slice (some ⟨go12,0,none⟩) y189.length co12 : Value).ownBlock∧some k_≠(v198 : Value).ownBlock∧some k_≠(v201 : Value).ownBlock) (.slice Ao228 t183.length co228) t183):=⟨h1_⟩
  have n2_ : Aside0 (Kd.R k34 34 w242 w.heap.size (fun k_=>some k_≠(.slice Ao228 t183.length co228 : Value).ownBlock∧some k_≠(v198 : Value).ownBlock∧some k_≠(v201 : Value).ownBlock) (.slice (some ⟨go12,0,none⟩) y189.length co12) y192):=⟨h2_⟩
  have n3_ : Aside0 (Kd.R k34 34 w242 w.heap.size (fun k_=>some k_≠(.slice Ao228 t183.length co228 : Value).ownBlock∧some k_≠(.slice (some ⟨go12,0,none⟩) y189.length co12 : Value).ownBlock∧some k_≠(v201 : Value).ownBlock) v198 y197):=⟨h3_⟩
  have n4_ : Aside0 (Kd.R k34 34 w242 w.heap.size (fun k_=>some k_≠(.slice Ao228 t183.length co228 : Value).ownBlock∧some k_≠(.slice (some ⟨go12,0,none⟩) y189.length co12 : Value).ownBlock∧some k_≠(v198 : Value).ownBlock) v201 y200):=⟨h4_⟩
  have n5_ : Aside0 (w242.heap[gb174]?=some (.cells #[.int .u8 a0_0,.int .u8 a0_1,.int .u8 a0_2,.int .u8 a0_3,.int .u8 a0_4,.int .u8 a0_5,.int .u8 a0_6,.int .u8 a0_7,.int .u8 a0_8,.int .u8 a0_9,.int .u8 a0_10,.int .u8 a0_11] 24 (0,0))):=⟨h5_⟩
  have n6_ : Aside0 (w242.heap[gb182]?=some (.cells #[.slice Ao224 t176.length co224,.int .i64 t179,.int .i64 t180,.int .i64 t181] 30 (0,0))):=⟨h6_⟩
  have n7_ : Aside0 (Below w.heap.size w w242):=⟨h7_⟩
  clear HO178
  clear HO185
  clear HO191
  clear BK174
  clear BK182
  clear HB
  clear h0_ h1_ h2_ h3_ h4_ h5_ h6_ h7_
  have HO178:=n0_
  have HO185:=n1_
  have HO191:=n2_
  have HO199:=n3_
  have HO202:=n4_
  have BK174:=n5_
  have BK182:=n6_
  have HB:=n7_
  clear n0_ n1_ n2_ n3_ n4_ n5_ n6_ n7_
  have hHeld : w242.cell? ⟨gb182,0,none⟩=some (.slice Ao224 t176.length co224)∧w242.cell? ⟨gb182,1,none⟩=some (.int .i64 t179)∧w242.cell? ⟨gb182,2,none⟩=some (.int .i64 t180)∧w242.cell? ⟨gb182,3,none⟩=some (.int .i64 t181):=hS_
  obtain ⟨Ao244,co244,eo244⟩:=Kd.R_slice HO202.out
  (first|subst eo244|(injection eo244 with f1_ f2_ f3_;have f4_:=f1_.symm;have f5_:=f3_.symm;clear f1_ f2_ f3_;subst f4_;subst f5_))
  refine norm_ (a':=?_) ?_ ?_
  rotate_left
  ·simp only [putAll,Act.put,List.setIfInBounds_toArray,List.set_cons_zero,List.set_cons_succ]
   rfl
  refine one_ (i:=6) (N:=some 43) #[true,true,true,true,true,true,true,false,false] rfl rfl (one_of HT_.out (by kernel_rfl)) (by decide) (fun K hK=>?_)
  refine Kd.R_append_rows_step k34 (w0:=w) w.heap.size (by rfl) (.tmp 40) (.tmp 42) 26 34 (.agg #[(.int .i64 0),(.string ⟨#[]⟩)]) 24 rfl Try.underlying26 info34 rfl (by decide) (by omega) v198 y197 y200 _ _ _ (fun k_=>some k_≠(.slice Ao228 t183.length co228 : Value).ownBlock∧some k_≠(.slice (some ⟨go12,0,none⟩) y189.length co12 : Value).ownBlock∧some k_≠(.slice Ao244 y200.length co244 : Value).ownBlock) (fun _=>False) rfl rfl ?aO ?aR (fun _ _ h=>h) (fun _ h=>h.elim) ?aF ?aB ?aS ?aL ?_
  (case aR=>repeat (first|exact (Kd.R_reads' HO202.out).2.2|(with_reducible refine Kd.C_alloc ?_ _)|(with_reducible refine Kd.C_drewN ?_ _)|(with_reducible refine Kd.C_drew ?_)))
  (case aB=>exact (below_go HB.out))
  (case aF=>exact (fun k_ hk=>⟨Kd.fresh' (Kd.R_lt (R_up HO185.out)) k_ hk,Kd.fresh' (Kd.R_lt (R_up HO191.out)) k_ hk,Kd.fresh' (Kd.R_lt (R_up HO202.out)) k_ hk⟩))
  (case aO=>exact (R_up HO199.out))
  (case aS=>exact (below_size (below_go HB.out)))
  (case aL=>have:=LMc15.out;omega)
  intro v204 w243 ho hb hg hat
  rw [← Ny203.out] at ho
  have n0_:=Aside0.mk (blk_grown (blk_up BK174.out) hg (Kd.R_ne HO199.out BK174.out (by decide)))
  have n1_:=Aside0.mk (Kd.R_over' (R_up HO178.out) (Kd.R_typed (R_up HO199.out)) (by decide) hg)
  have n2_:=Aside0.mk (blk_grown (blk_up BK182.out) hg (Kd.R_ne HO199.out BK182.out (by decide)))
  have n3_:=Aside0.mk (Kd.R_after (ok:=(fun k_=>some k_≠(.slice (some ⟨go12,0,none⟩) y189.length co12 : Value).ownBlock∧some k_≠(.slice Ao244 y200.length co244 : Value).ownBlock)) (by (with_reducible repeat (first|apply Kd.R_alloc|apply Kd.R_drewN|apply Kd.R_drew));exact Kd.R_mono HO185.out (fun _ hk=>⟨⟨hk.1,hk.2.2⟩,hk.2.1⟩)) hg hat)
  have n4_:=Aside0.mk (Kd.R_after (ok:=(fun k_=>some k_≠(.slice Ao228 t183.length co228 : Value).ownBlock∧some k_≠(.slice Ao244 y200.length co244 : Value).ownBlock)) (by (with_reducible repeat (first|apply Kd.R_alloc|apply Kd.R_drewN|apply Kd.R_drew));exact Kd.R_mono HO191.out (fun _ hk=>⟨⟨hk.1,hk.2.2⟩,hk.2.1⟩)) hg hat)
  have n5_:=Aside0.mk (Kd.R_after (ok:=(fun k_=>some k_≠(.slice Ao228 t183.length co228 : Value).ownBlock∧some k_≠(.slice (some ⟨go12,0,none⟩) y189.length co12 : Value).ownBlock)) (by (with_reducible repeat (first|apply Kd.R_alloc|apply Kd.R_drewN|apply Kd.R_drew));exact Kd.R_mono HO202.out (fun _ hk=>⟨⟨hk.1,hk.2.1⟩,hk.2.2⟩)) hg hat)
  have n6_:=Aside0.mk (hb)
  have n7_:=Aside0.mk (ho)
  clear BK174
  clear HO178
  clear BK182
  clear HO185
  clear HO191
  clear HO202
  clear HB
  clear HO199
  have BK174:=n0_
  have HO178:=n1_
  have BK182:=n2_
  have HO185:=n3_
  have HO191:=n4_
  have HO202:=n5_
  have HB:=n6_
  have HO205:=n7_
  clear n0_ n1_ n2_ n3_ n4_ n5_ n6_ n7_
  clear ho hb hg hat
  obtain ⟨Ao245,co245,eo245⟩:=Kd.R_slice HO205.out
  (first|subst eo245|(injection eo245 with f1_ f2_ f3_;have f4_:=f1_.symm;have f5_:=f3_.symm;clear f1_ f2_ f3_;subst f4_;subst f5_))
  refine hK.out _ _ ⟨(blk_cell BK182.out 0).trans rfl,(blk_cell BK182.out 1).trans rfl,(blk_cell BK182.out 2).trans rfl,(blk_cell BK182.out 3).trans rfl⟩ (fun hHeld=>?_)
  clear hK K
  refine norm_ (a':=?_) ?_ ?_
  rotate_left
  ·show Act.put _ (some 43) _=_
   simp only [Act.put,List.setIfInBounds_toArray,List.set_cons_zero,List.set_cons_succ,i64_w,i32_w]
   rfl
  refine one_ (i:=7) (N:=some 44) #[true,true,true,true,true,true,true,true,false] rfl rfl (one_of HT_.out (by kernel_rfl)) (by decide) (fun K hK=>?_)
  refine goes_ Try.func12 (by kernel_rfl) rfl #[.agg #[.slice Ao224 t176.length co224,.int .i64 t179,.int .i64 t180,.int .i64 t181],.slice Ao245 y203.length co245] (by rfl) rfl rfl (by (try simp only [List.map_toArray,List.map_cons,List.map_nil]);first|done|rfl|(simp only [List.length_drop,List.length_take];rfl)) ?_
  with_reducible refine (schema_Row.calls _ _ t176 t179 t180 t181 _ _ y203 false _ ?side1 ?side2 ?side3 ?side4 A16.out).mono ?_
  (case side1=>repeat (first|exact (Kd.R_reads' HO178.out).2.2|(with_reducible refine Kd.C_alloc ?_ _)|(with_reducible refine Kd.C_drewN ?_ _)|(with_reducible refine Kd.C_drew ?_)))
  (case side2=>exact (Kd.R_reads' HO178.out).2.1)
  (case side3=>repeat (first|exact (Kd.R_reads' HO205.out).2.2|(with_reducible refine Kd.C_alloc ?_ _)|(with_reducible refine Kd.C_drewN ?_ _)|(with_reducible refine Kd.C_drew ?_)))
  (case side4=>exact (Kd.R_reads' HO205.out).2.1)
  rintro e w246 ⟨rfl,hb⟩
  refine ⟨_,rfl,?_⟩
  have n0_:=Aside0.mk (Kd.R_below (R_up HO178.out) hb)
  have n1_:=Aside0.mk (Kd.R_below (R_up HO185.out) hb)
  have n2_:=Aside0.mk (Kd.R_below (R_up HO191.out) hb)
  have n3_:=Aside0.mk (Kd.R_below (R_up HO202.out) hb)
  have n4_:=Aside0.mk (Kd.R_below (R_up HO205.out) hb)
  have n5_:=Aside0.mk (blk_below (blk_up BK174.out) hb)
  have n6_:=Aside0.mk (blk_below (blk_up BK182.out) hb)
  have n7_:=Aside0.mk (below_step (below_go HB.out) hb)
  clear HO178
  clear HO185
  clear HO191
  clear HO202
  clear HO205
  clear BK174
  clear BK182
  clear HB
  have HO178:=n0_
  have HO185:=n1_
  have HO191:=n2_
  have HO202:=n3_
  have HO205:=n4_
  have BK174:=n5_
  have BK182:=n6_
  have HB:=n7_
  clear n0_ n1_ n2_ n3_ n4_ n5_ n6_ n7_
  (try clear hb)
  (try clear hb2)
  (try clear hk)
  (try clear hi)
  refine hK.out _ _ ⟨(blk_cell BK182.out 0).trans rfl,(blk_cell BK182.out 1).trans rfl,(blk_cell BK182.out 2).trans rfl,(blk_cell BK182.out 3).trans rfl⟩ (fun hHeld=>?_)
  clear hK K
  refine norm_ (a':=?_) ?_ ?_
  rotate_left
  ·show Act.put _ (some 44) _=_
   simp only [Act.put,List.setIfInBounds_toArray,List.set_cons_zero,List.set_cons_succ,i64_w,i32_w]
   rfl
  refine pure_ (i:=8) (N:=some 13) (v:=?_) (a':=?_) #[true,true,true,true,true,true,true,true,true] rfl rfl (any_of HT_.out (by kernel_rfl)) (fun _ _ _ h=>h) (Or.inl ⟨by rfl,?_⟩) ?_ ?_
  rotate_left;(intro w';go_simp;with_reducible rfl);rotate_left;(simp only [Act.put,List.setIfInBounds_toArray,List.set_cons_zero,List.set_cons_succ,i64_w,i32_w];rfl)
  refine done_ (done_of HT_.out (by kernel_rfl)) ?_
  (try clear hHeld)
  try go_wp2
  have n0_:=Aside0.mk (Kd.R_drew HO178.out)
  have n1_:=Aside0.mk (Kd.R_drew HO185.out)
  have n2_:=Aside0.mk (Kd.R_drew HO191.out)
  have n3_:=Aside0.mk (Kd.R_drew HO202.out)
  have n4_:=Aside0.mk (Kd.R_drew HO205.out)
  have n5_:=Aside0.mk (blk_drew BK174.out)
  have n6_:=Aside0.mk (blk_drew BK182.out)
  have n7_:=Aside0.mk (below_drew1 HB.out)
  clear HO178
  clear HO185
  clear HO191
  clear HO202
  clear HO205
  clear BK174
  clear BK182
  clear HB
  have HO178:=n0_
  have HO185:=n1_
  have HO191:=n2_
  have HO202:=n3_
  have HO205:=n4_
  have BK174:=n5_
  have BK182:=n6_
  have HB:=n7_
  clear n0_ n1_ n2_ n3_ n4_ n5_ n6_ n7_
  have q248 : ((ji17) : Int)≤((t183.length : Int) : Int):=of_decide_eq_true (by first|(with_reducible assumption)|assumption)
  obtain ⟨i0248,hi0248,_,hsz248,_⟩:=info_parts info34
  have hroom248 : t183.length≤co228:=(Kd.R_reads' HO185.out).2.1
  have hC248 : Kd.F k34 _ _ Ao228 t183.length t183:=(Kd.V_at (base:=w.heap.size) (Kd.R_V (Kd.R_types (Kd.R_types (Kd.R_apart' (HO185.out) (Kd.R_typed HO178.out) (by decide)) BK174.out (by decide)) BK182.out (by decide)))).2.2
  have hcut248:=cut_to (P:=Try.prog) 26 34 .i64 Try.underlying26 hi0248 Ao228 t183.length co228 (ji17) (of_decide_eq_true (by first|(with_reducible assumption)|assumption)) q248 hroom248
  have hr248:=Kd.F_take (m:=((ji17) : Int).toNat) hC248 (by omega)
  have hy248 : y207.length=((ji17) : Int).toNat:=(by rw [Ny207.out,List.length_take];omega)
  rw [← Ny207.out] at hr248
  rw [← hy248] at hcut248
  have HO211:=Aside0.mk (show Kd.V k34 34 _ w.heap.size _ (.slice Ao228 y207.length co228) y207 from Kd.V_mk (by omega) hr248)
  have HC211:=Aside0.mk (show y207.length≤co228 from by omega)
  clear hr248 hC248 hroom248 hi0248 hsz248
  have KY248:=Aside0.mk hy248
  clear hy248
  replace q248:=eq_true q248
  refine start_ (n:=8) (S:=fun w'=>w'.cell? ⟨gb182,0,none⟩=some (.slice Ao224 t176.length co224)∧w'.cell? ⟨gb182,1,none⟩=some (.int .i64 t179)∧w'.cell? ⟨gb182,2,none⟩=some (.int .i64 t180)∧w'.cell? ⟨gb182,3,none⟩=some (.int .i64 t181)) (ds:=[]) #[false,false,false,false,false,false,false,false] (by kernel_rfl) rfl rfl ⟨(blk_cell BK182.out 0).trans rfl,(blk_cell BK182.out 1).trans rfl,(blk_cell BK182.out 2).trans rfl,(blk_cell BK182.out 3).trans rfl⟩ (fun hHeld=>?_);refine with_tabW thresherlaw04_SchemaRows.tab9 thresherlaw04_SchemaRows.bits9 (fun HT_ HW_=>?_)
  generalize w246.drew=w247 at HO178 HO185 HO191 HO202 HO205 BK174 BK182 HB HO211 hHeld ⊢
  refine pure_ (i:=1) (N:=some 46) (v:=?_) (a':=?_) #[false,true,false,false,false,false,false,false] rfl rfl (any_of HT_.out (by kernel_rfl)) (fun _ _ _ h=>h) (Or.inl ⟨by rfl,?_⟩) ?_ ?_
  rotate_left;(intro w';go_simp;with_reducible rfl);rotate_left;(simp only [Act.put,List.setIfInBounds_toArray,List.set_cons_zero,List.set_cons_succ,i64_w,i32_w];rfl)
  refine pure_ (i:=2) (N:=some 47) (v:=?_) (a':=?_) #[false,true,true,false,false,false,false,false] rfl rfl (any_of HT_.out (by kernel_rfl)) (fun _ _ _ h=>h) (Or.inl ⟨by rfl,?_⟩) ?_ ?_
  rotate_left;(intro w';go_simp;with_reducible rfl);rotate_left;(simp only [Act.put,List.setIfInBounds_toArray,List.set_cons_zero,List.set_cons_succ,i64_w,i32_w];rfl)
  refine pure_ (i:=3) (N:=some 48) (v:=?_) (a':=?_) #[false,true,true,true,false,false,false,false] rfl rfl (any_of HT_.out (by kernel_rfl)) (fun _ _ _ h=>h) (Or.inl ⟨by rfl,?_⟩) ?_ ?_
  rotate_left;(intro w';go_simp;with_reducible rfl);rotate_left;(simp only [Act.put,List.setIfInBounds_toArray,List.set_cons_zero,List.set_cons_succ,i64_w,i32_w];rfl)
  refine pure_ (i:=4) (N:=some 49) (v:=?_) (a':=?_) #[false,true,true,true,true,false,false,false] rfl rfl (any_of HT_.out (by kernel_rfl)) (fun _ _ _ h=>h) (Or.inl ⟨by rfl,?_⟩) ?_ ?_
  rotate_left;(intro w';go_simp;with_reducible rfl);rotate_left;(simp only [Act.put,List.setIfInBounds_toArray,List.set_cons_zero,List.set_cons_succ,i64_w,i32_w];rfl)
  refine pure_ (i:=5) (N:=some 50) (v:=?_) (a':=?_) #[false,true,true,true,true,true,false,false] rfl rfl (any_of HT_.out (by kernel_rfl)) (fun _ _ _ h=>h) (Or.inl ⟨by rfl,?_⟩) ?_ ?_
  rotate_left;(intro w';go_simp;with_reducible rfl);rotate_left;(simp only [Act.put,List.setIfInBounds_toArray,List.set_cons_zero,List.set_cons_succ,i64_w,i32_w];rfl)
  refine take_ (i:=0) (N:=some 45) (v:=?_) (a':=?_) #[true,true,true,true,true,true,false,false] rfl rfl (take_ofW HT_.out HW_.out (by kernel_rfl)) (fun _ _ _ h=>h) (Or.inl ⟨by rfl,?_⟩) hHeld ?_ ?_
  rotate_left;(rintro w' ⟨s0,s1,s2,s3⟩;go_simp;with_reducible rfl);rotate_left;(simp only [Act.put,List.setIfInBounds_toArray,List.set_cons_zero,List.set_cons_succ,i64_w,i32_w];rfl)
  refine one_ (i:=6) (N:=some 51) #[true,true,true,true,true,true,true,false] rfl rfl (one_of HT_.out (by kernel_rfl)) (by decide) (fun K hK=>?_)
  refine goes_ Try.func12 (by kernel_rfl) rfl #[.agg #[.slice Ao224 t176.length co224,.int .i64 t179,.int .i64 t180,.int .i64 t181],.slice Ao228 y207.length co228] (by rfl) rfl rfl (by (try simp only [List.map_toArray,List.map_cons,List.map_nil]);first|done|rfl|(simp only [List.length_drop,List.length_take];rfl)) ?_
  with_reducible refine (schema_Row.calls _ _ t176 t179 t180 t181 _ _ y207 false _ ?side1 ?side2 ?side3 ?side4 A20.out).mono ?_
  (case side1=>repeat (first|exact (Kd.R_reads' HO178.out).2.2|(with_reducible refine Kd.C_alloc ?_ _)|(with_reducible refine Kd.C_drewN ?_ _)|(with_reducible refine Kd.C_drew ?_)))
  (case side2=>exact (Kd.R_reads' HO178.out).2.1)
  (case side3=>repeat (first|exact (Kd.V_reads' HO211.out).2.2|(with_reducible refine Kd.C_alloc ?_ _)|(with_reducible refine Kd.C_drewN ?_ _)|(with_reducible refine Kd.C_drew ?_)))
  (case side4=>exact (Kd.V_reads' HO211.out).2.1)
  rintro e w249 ⟨rfl,hb⟩
  refine ⟨_,rfl,?_⟩
  have n0_:=Aside0.mk (Kd.R_below (R_up HO178.out) hb)
  have n1_:=Aside0.mk (Kd.R_below (R_up HO185.out) hb)
  have n2_:=Aside0.mk (Kd.R_below (R_up HO191.out) hb)
  have n3_:=Aside0.mk (Kd.R_below (R_up HO202.out) hb)
  have n4_:=Aside0.mk (Kd.R_below (R_up HO205.out) hb)
  have n5_:=Aside0.mk (Kd.V_below (V_up HO211.out) hb)
  have n6_:=Aside0.mk (blk_below (blk_up BK174.out) hb)
  have n7_:=Aside0.mk (blk_below (blk_up BK182.out) hb)
  have n8_:=Aside0.mk (below_step (below_go HB.out) hb)
  clear HO178
  clear HO185
  clear HO191
  clear HO202
  clear HO205
  clear HO211
  clear BK174
  clear BK182
  clear HB
  have HO178:=n0_
  have HO185:=n1_
  have HO191:=n2_
  have HO202:=n3_
  have HO205:=n4_
  have HO211:=n5_
  have BK174:=n6_
  have BK182:=n7_
  have HB:=n8_
  clear n0_ n1_ n2_ n3_ n4_ n5_ n6_ n7_ n8_
  (try clear hb)
  (try clear hb2)
  (try clear hk)
  (try clear hi)
  refine hK.out _ _ ⟨(blk_cell BK182.out 0).trans rfl,(blk_cell BK182.out 1).trans rfl,(blk_cell BK182.out 2).trans rfl,(blk_cell BK182.out 3).trans rfl⟩ (fun hHeld=>?_)
  clear hK K
  refine norm_ (a':=?_) ?_ ?_
  rotate_left
  ·show Act.put _ (some 51) _=_
   simp only [Act.put,List.setIfInBounds_toArray,List.set_cons_zero,List.set_cons_succ,i64_w,i32_w]
   rfl
  refine pure_ (i:=7) (N:=some 14) (v:=?_) (a':=?_) #[true,true,true,true,true,true,true,true] rfl rfl (any_of HT_.out (by kernel_rfl)) (fun _ _ _ h=>h) (Or.inl ⟨by rfl,?_⟩) ?_ ?_
  rotate_left;(intro w';go_simp;with_reducible rfl);rotate_left;(simp only [Act.put,List.setIfInBounds_toArray,List.set_cons_zero,List.set_cons_succ,i64_w,i32_w];rfl)
  refine done_ (done_of HT_.out (by kernel_rfl)) ?_
  (try clear hHeld)
  have hcz250_0 : w249.cell? ⟨gb182,0,none⟩=some (.slice Ao224 t176.length co224):=(blk_cell BK182.out 0).trans rfl
  have hcz250_1 : w249.cell? ⟨gb182,1,none⟩=some (.int .i64 t179):=(blk_cell BK182.out 1).trans rfl
  have hcz250_2 : w249.cell? ⟨gb182,2,none⟩=some (.int .i64 t180):=(blk_cell BK182.out 2).trans rfl
  have hcz250_3 : w249.cell? ⟨gb182,3,none⟩=some (.int .i64 t181):=(blk_cell BK182.out 3).trans rfl
  have hfz250_0:=blk_frozen BK182.out 0
  have hfz250_1:=blk_frozen BK182.out 1
  have hfz250_2:=blk_frozen BK182.out 2
  have hfz250_3:=blk_frozen BK182.out 3
  try go_wp2_with (first|((with_reducible refine gate_callee (f:=12) rfl ?_);refine goesL_ (some 54) rfl rfl Try.func12 (by kernel_rfl) rfl #[.agg #[.slice Ao224 t176.length co224,.int .i64 t179,.int .i64 t180,.int .i64 t181],.slice (some ⟨go12,0,none⟩) y192.length co12] rfl (by (try simp only [List.map_toArray,List.map_cons,List.map_nil]);first|done|(rw [show y192.length=y189.length from (Kd.R_reads' HO191.out).1.symm] <;> rfl)|rfl|(simp only [List.length_drop,List.length_take];rfl)) ?_;(with_reducible refine (schema_Row.calls _ _ t176 t179 t180 t181 _ _ y192 false _ ?side1 ?side2 ?side3 ?side4 A21.out).mono ?_);(case side1=>repeat (first|exact (Kd.R_reads' HO178.out).2.2|(with_reducible refine Kd.C_alloc ?_ _)|(with_reducible refine Kd.C_drewN ?_ _)|(with_reducible refine Kd.C_drew ?_)));(case side2=>exact (Kd.R_reads' HO178.out).2.1);(case side3=>repeat (first|exact (Kd.R_reads' HO191.out).2.2|(with_reducible refine Kd.C_alloc ?_ _)|(with_reducible refine Kd.C_drewN ?_ _)|(with_reducible refine Kd.C_drew ?_)));(case side4=>rw [show y192.length=y189.length from (Kd.R_reads' HO191.out).1.symm];exact (Kd.R_reads' HO191.out).2.1);rintro e w251 ⟨rfl,hb⟩;refine ⟨_,rfl,?_⟩;have n0_:=Aside0.mk (Kd.R_below (R_up HO178.out) hb);have n1_:=Aside0.mk (Kd.R_below (R_up HO185.out) hb);have n2_:=Aside0.mk (Kd.R_below (R_up HO191.out) hb);have n3_:=Aside0.mk (Kd.R_below (R_up HO202.out) hb);have n4_:=Aside0.mk (Kd.R_below (R_up HO205.out) hb);have n5_:=Aside0.mk (Kd.V_below (V_up HO211.out) hb);have n6_:=Aside0.mk (blk_below (blk_up BK174.out) hb);have n7_:=Aside0.mk (blk_below (blk_up BK182.out) hb);have n8_:=Aside0.mk (below_step (below_go HB.out) hb);clear HO178;clear HO185;clear HO191;clear HO202;clear HO205;clear HO211;clear BK174;clear BK182;clear HB;have HO178:=n0_;have HO185:=n1_;have HO191:=n2_;have HO202:=n3_;have HO205:=n4_;have HO211:=n5_;have BK174:=n6_;have BK182:=n7_;have HB:=n8_;clear n0_ n1_ n2_ n3_ n4_ n5_ n6_ n7_ n8_;(try clear hb);(try clear hb2);(try clear hk);(try clear hi);have hcz252_0 : w251.cell? ⟨gb182,0,none⟩=some (.slice Ao224 t176.length co224):=(blk_cell BK182.out 0).trans rfl;have hcz252_1 : w251.cell? ⟨gb182,1,none⟩=some (.int .i64 t179):=(blk_cell BK182.out 1).trans rfl;have hcz252_2 : w251.cell? ⟨gb182,2,none⟩=some (.int .i64 t180):=(blk_cell BK182.out 2).trans rfl;have hcz252_3 : w251.cell? ⟨gb182,3,none⟩=some (.int .i64 t181):=(blk_cell BK182.out 3).trans rfl;have hfz252_0:=blk_frozen BK182.out 0;have hfz252_1:=blk_frozen BK182.out 1;have hfz252_2:=blk_frozen BK182.out 2;have hfz252_3:=blk_frozen BK182.out 3)|((with_reducible refine gate_dst (N:=75) rfl ?_);(try (refine gate_guard (by rfl) ?_;dsimp only));refine Kd.N_lit (Kd.slice 34 k34) _ 26 ?hg (N':=75) ?hd (xs:=([t183,y192] : List (List (S34)))) (inner:=[.slice Ao228 t183.length co228,.slice (some ⟨go12,0,none⟩) y189.length co12]) (ok:=(fun k_=>some k_≠(.slice Ao224 t176.length co224 : Value).ownBlock∧some k_≠(.slice Ao244 y200.length co244 : Value).ownBlock∧some k_≠(.slice Ao245 y203.length co245 : Value).ownBlock∧k_≠gb174∧k_≠gb182)) (okp:=(fun k_=>some k_≠(.slice Ao224 t176.length co224 : Value).ownBlock∧some k_≠(.slice Ao244 y200.length co244 : Value).ownBlock∧some k_≠(.slice Ao245 y203.length co245 : Value).ownBlock∧k_≠gb174∧k_≠gb182)) ?hr ?hp (fun _ hk=>hk) ((show ∀ k_,w251.heap.size≤k_→(fun k_=>some k_≠(.slice Ao224 t176.length co224 : Value).ownBlock∧some k_≠(.slice Ao244 y200.length co244 : Value).ownBlock∧some k_≠(.slice Ao245 y203.length co245 : Value).ownBlock∧k_≠gb174∧k_≠gb182) k_ from fun k_ hk=>⟨Kd.fresh' (Kd.R_lt (R_up HO178.out)) k_ hk,Kd.fresh' (Kd.R_lt (R_up HO202.out)) k_ hk,Kd.fresh' (Kd.R_lt (R_up HO205.out)) k_ hk,Kd.freshB (blk_up BK174.out) k_ hk,Kd.freshB (blk_up BK182.out) k_ hk⟩) _ (Nat.le_refl _)) (Below.refl _ _) (Nat.le_refl _) (by simp) ?_;(case hd=>rfl);(case hg=>rfl);(case hr=>first|(go_simp;done)|(go_simp;rfl));(case hp=>exact (Reps.one (show Kd.FK (Kd.slice 34 k34) _ _ t183 [.slice Ao228 t183.length co228] from (Kd.FK_slice_mk (Kd.R_reads' (Kd.R_mono (ok':=(fun k_=>some k_≠(.slice Ao224 t176.length co224 : Value).ownBlock∧some k_≠(.slice Ao244 y200.length co244 : Value).ownBlock∧some k_≠(.slice Ao245 y203.length co245 : Value).ownBlock∧k_≠gb174∧k_≠gb182)) (Kd.R_types (Kd.R_types (Kd.R_apart' (HO185.out) (Kd.R_typed HO178.out) (by decide)) BK174.out (by decide)) BK182.out (by decide)) (fun k_ hk=>⟨hk.1.1.2,⟨hk.1.1.1.1.2,⟨hk.1.1.1.2,⟨hk.1.2,hk.2⟩⟩⟩⟩))).2.1 (Kd.R_F (Kd.R_mono (ok':=(fun k_=>some k_≠(.slice Ao224 t176.length co224 : Value).ownBlock∧some k_≠(.slice Ao244 y200.length co244 : Value).ownBlock∧some k_≠(.slice Ao245 y203.length co245 : Value).ownBlock∧k_≠gb174∧k_≠gb182)) (Kd.R_types (Kd.R_types (Kd.R_apart' (HO185.out) (Kd.R_typed HO178.out) (by decide)) BK174.out (by decide)) BK182.out (by decide)) (fun k_ hk=>⟨hk.1.1.2,⟨hk.1.1.1.1.2,⟨hk.1.1.1.2,⟨hk.1.2,hk.2⟩⟩⟩⟩))))) (Reps.one (show Kd.FK (Kd.slice 34 k34) _ _ y192 [.slice (some ⟨go12,0,none⟩) y189.length co12] from (by have h_:=HO191.out;have e_:=(Kd.R_reads' h_).1;rw [e_] at h_ ⊢;exact (Kd.FK_slice_mk (Kd.R_reads' (Kd.R_mono (ok':=(fun k_=>some k_≠(.slice Ao224 t176.length co224 : Value).ownBlock∧some k_≠(.slice Ao244 y200.length co244 : Value).ownBlock∧some k_≠(.slice Ao245 y203.length co245 : Value).ownBlock∧k_≠gb174∧k_≠gb182)) (Kd.R_types (Kd.R_types (Kd.R_apart' (h_) (Kd.R_typed HO178.out) (by decide)) BK174.out (by decide)) BK182.out (by decide)) (fun k_ hk=>⟨hk.1.1.2,⟨hk.1.1.1.1.2,⟨hk.1.1.1.2,⟨hk.1.2,hk.2⟩⟩⟩⟩))).2.1 (Kd.R_F (Kd.R_mono (ok':=(fun k_=>some k_≠(.slice Ao224 t176.length co224 : Value).ownBlock∧some k_≠(.slice Ao244 y200.length co244 : Value).ownBlock∧some k_≠(.slice Ao245 y203.length co245 : Value).ownBlock∧k_≠gb174∧k_≠gb182)) (Kd.R_types (Kd.R_types (Kd.R_apart' (h_) (Kd.R_typed HO178.out) (by decide)) BK174.out (by decide)) BK182.out (by decide)) (fun k_ hk=>⟨hk.1.1.2,⟨hk.1.1.1.1.2,⟨hk.1.1.1.2,⟨hk.1.2,hk.2⟩⟩⟩⟩)))))) (Reps.none _ _))));intro v215 w253 ho254 hb hg_ hnew_;clear hg_ hnew_;(first|rw [← Ny214.out] at ho254|(simp only [Int.reduceToNat] at ho254;rw [← Ny214.out] at ho254));have n0_:=Aside0.mk (Kd.R_below (R_up HO178.out) hb);have n1_:=Aside0.mk (Kd.R_below (R_up HO185.out) hb);have n2_:=Aside0.mk (Kd.R_below (R_up HO191.out) hb);have n3_:=Aside0.mk (Kd.R_below (R_up HO202.out) hb);have n4_:=Aside0.mk (Kd.R_below (R_up HO205.out) hb);have n5_:=Aside0.mk (Kd.V_elder' (V_up HO211.out) (Kd.N_base ho254) hb);have n6_:=Aside0.mk (Kd.N_lower ho254 (below_size (below_go HB.out)));have n7_:=Aside0.mk (blk_below (blk_up BK174.out) hb);have n8_:=Aside0.mk (blk_below (blk_up BK182.out) hb);have n9_:=Aside0.mk (below_step (below_go HB.out) hb);clear HO178;clear HO185;clear HO191;clear HO202;clear HO205;clear HO211;clear BK174;clear BK182;clear HB;have HO178:=n0_;have HO185:=n1_;have HO191:=n2_;have HO202:=n3_;have HO205:=n4_;have HO211:=n5_;have HO216:=n6_;have BK174:=n7_;have BK182:=n8_;have HB:=n9_;clear n0_ n1_ n2_ n3_ n4_ n5_ n6_ n7_ n8_ n9_;clear hb ho254;obtain ⟨Ao255,co255,eo255⟩:=Kd.N_slice HO216.out;subst eo255)|(go_at_call 13;(with_reducible refine (schema_Batch.calls _ _ t176 t179 t180 t181 _ _ y214 t217 _ ?side1 ?side2 ?side3 ?side4 A126.out).mono ?_);(case side1=>repeat (first|exact (Kd.R_reads' HO178.out).2.2|(with_reducible refine Kd.C_alloc ?_ _)|(with_reducible refine Kd.C_drewN ?_ _)|(with_reducible refine Kd.C_drew ?_)));(case side2=>exact (Kd.R_reads' HO178.out).2.1);(case side3=>repeat (first|exact (Kd.N_reads' HO216.out).2.2|(with_reducible refine Kd.C_alloc ?_ _)|(with_reducible refine Kd.C_drewN ?_ _)|(with_reducible refine Kd.C_drew ?_)));(case side4=>exact (Kd.N_reads' HO216.out).2.1);rintro e w256 ⟨rfl,hb⟩;have n0_:=Aside0.mk (Kd.R_below (R_up HO178.out) hb);have n1_:=Aside0.mk (Kd.R_below (R_up HO185.out) hb);have n2_:=Aside0.mk (Kd.R_below (R_up HO191.out) hb);have n3_:=Aside0.mk (Kd.R_below (R_up HO202.out) hb);have n4_:=Aside0.mk (Kd.R_below (R_up HO205.out) hb);have n5_:=Aside0.mk (Kd.V_below (V_up HO211.out) hb);have n6_:=Aside0.mk (Kd.N_below (N_up HO216.out) hb);have n7_:=Aside0.mk (blk_below (blk_up BK174.out) hb);have n8_:=Aside0.mk (blk_below (blk_up BK182.out) hb);have n9_:=Aside0.mk (below_step (below_go HB.out) hb);clear HO178;clear HO185;clear HO191;clear HO202;clear HO205;clear HO211;clear HO216;clear BK174;clear BK182;clear HB;have HO178:=n0_;have HO185:=n1_;have HO191:=n2_;have HO202:=n3_;have HO205:=n4_;have HO211:=n5_;have HO216:=n6_;have BK174:=n7_;have BK182:=n8_;have HB:=n9_;clear n0_ n1_ n2_ n3_ n4_ n5_ n6_ n7_ n8_ n9_;(try clear hb);(try clear hb2);(try clear hk);(try clear hi)))
  go_ret
  exact ⟨by first|rfl|(simp [errW_none,errW_some] <;> rfl)|(simp only [← hji9,← hji17];first|rfl|(simp [errW_none,errW_some] <;> rfl))|(simp [*,errW_none,errW_some] <;> rfl),by repeat (first|(with_reducible first|exact HB.out|apply below_alloc|apply pw_below_drewN|apply below_drew1|refine below_set ?_ GE174.out|refine below_set ?_ GE182.out)|exact HB.out)⟩
end Go.Proofs.Ytkodpbellndelaa.P

