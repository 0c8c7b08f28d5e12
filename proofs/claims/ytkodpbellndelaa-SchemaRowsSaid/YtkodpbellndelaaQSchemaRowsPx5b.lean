/- Texts of SchemaRows. Merged: Px5b. -/
import Derived.Test.YtkodpbellndelaaQSchemaRowsPx5a
import Derived.Test.YtkodpbellndelaaQSchemaRowsPx0
import Derived.Test.YtkodpbellndelaaQSchemaRowsPx3
import Derived.Test.YtkodpbellndelaaQSchemaRowsHBatch
import Derived.Test.YtkodpbellndelaaQSchemaRowsHRow
namespace Go.Proofs.Ytkodpbellndelaa.P
open Go.RowKit Go.Proofs.YtkodpbellndelaaW.PrintWords Go.Proofs.YtkodpbellndelaaW.PrintLast Go.Proofs.YtkodpbellndelaaW.PrintMore
attribute [local go_sem] max2_int min2_int max_two min_two max_three min_three max_four min_four   -- for this text's walks alone
set_option linter.unusedVariables false
set_option linter.unusedSimpArgs false
set_option maxHeartbeats 8000000 in
set_option maxRecDepth 100000 in
theorem thresherlaw04_SchemaRows.calls_rest0 : thresherlaw04_SchemaRows.calls_part.1 := by
 intro k a0_0 a0_1 a0_2 a0_3 a0_4 a0_5 a0_6 a0_7 a0_8 a0_9 a0_10 a0_11 A1 c1 l1 a2 r w hu24 hu30 hu34 HR1 HC1 HB t176 t179 t180 t181 A5 t183 A6 c7 c7b0 c7b1 c7b2 y186 Ny186 LMc8 y189 Ny189 ji9 hji9 c10b0 c11b0 y192 Ny192 y194 Ny194 LMc14 y197 Ny197 y200 Ny200 LMc15 y203 Ny203 ji17 hji17 hji17w c18b0 c18b1 c19b0 c19b1 y207 Ny207 t212 A20 t213 A21 A4 A13 A16 H c58
 subst c58
 have H1 : (some false)=some r:=by rw [if_pos rfl] at H;exact H
 clear H
 have H:=H1
 clear H1
 obtain rfl:=Option.some.inj H
 go_enter Try.func3,Try.ntmps3
 try go_wp2_with (first|((with_reducible refine gate_dst (N:=3) rfl ?_);(try (refine gate_guard (by rfl) ?_;dsimp only));refine box_event ?hg (N:=3) ?hd (cs:=#[.int .u8 a0_0,.int .u8 a0_1,.int .u8 a0_2,.int .u8 a0_3,.int .u8 a0_4,.int .u8 a0_5,.int .u8 a0_6,.int .u8 a0_7,.int .u8 a0_8,.int .u8 a0_9,.int .u8 a0_10,.int .u8 a0_11]) (t:=24) ?hr ?_;(case hd=>rfl);(case hg=>rfl);(case hr=>first|(go_simp;done)|(go_simp;rfl));intro gb174 hg w59 hbox hb;have n0_:=Aside0.mk (below_step (below_up HB.out) hb);have n1_:=Aside0.mk (hbox);have n2_:=Aside0.mk ((by rw [hg];exact (below_size (below_up HB.out)) : w.heap.size≤gb174));have n3_:=Aside0.mk ((by rw [hg];exact (below_size (below_up HB.out)) : w.heap.size≤gb174));clear HB;have HB:=n0_;have BK174:=n1_;have GW174:=n2_;have GE174:=n3_;clear n0_ n1_ n2_ n3_;clear hb hbox hg)|((with_reducible refine gate_callee (f:=9) rfl ?_);refine goesL_ (some 16) rfl rfl Try.func9 (by kernel_rfl) rfl #[] rfl (by (try simp only [List.map_toArray,List.map_cons,List.map_nil]);first|done|rfl|(simp only [List.length_drop,List.length_take];rfl)) ?_;(with_reducible refine (thresherlaw04_shown.calls k  true _ A4.out).mono ?_);rintro e w60 ⟨rfl,hb⟩;refine ⟨_,rfl,?_⟩;have n0_:=Aside0.mk (blk_below (blk_up BK174.out) hb);have n1_:=Aside0.mk (below_step (below_go HB.out) hb);clear BK174;clear HB;have BK174:=n0_;have HB:=n1_;clear n0_ n1_;(try clear hb);(try clear hb2);(try clear hk);(try clear hi);have hcz61_0 : w60.cell? ⟨gb174,0,none⟩=some (.int .u8 a0_0):=(blk_cell BK174.out 0).trans rfl;have hcz61_1 : w60.cell? ⟨gb174,1,none⟩=some (.int .u8 a0_1):=(blk_cell BK174.out 1).trans rfl;have hcz61_2 : w60.cell? ⟨gb174,2,none⟩=some (.int .u8 a0_2):=(blk_cell BK174.out 2).trans rfl;have hcz61_3 : w60.cell? ⟨gb174,3,none⟩=some (.int .u8 a0_3):=(blk_cell BK174.out 3).trans rfl;have hcz61_4 : w60.cell? ⟨gb174,4,none⟩=some (.int .u8 a0_4):=(blk_cell BK174.out 4).trans rfl;have hcz61_5 : w60.cell? ⟨gb174,5,none⟩=some (.int .u8 a0_5):=(blk_cell BK174.out 5).trans rfl;have hcz61_6 : w60.cell? ⟨gb174,6,none⟩=some (.int .u8 a0_6):=(blk_cell BK174.out 6).trans rfl;have hcz61_7 : w60.cell? ⟨gb174,7,none⟩=some (.int .u8 a0_7):=(blk_cell BK174.out 7).trans rfl;have hcz61_8 : w60.cell? ⟨gb174,8,none⟩=some (.int .u8 a0_8):=(blk_cell BK174.out 8).trans rfl;have hcz61_9 : w60.cell? ⟨gb174,9,none⟩=some (.int .u8 a0_9):=(blk_cell BK174.out 9).trans rfl;have hcz61_10 : w60.cell? ⟨gb174,10,none⟩=some (.int .u8 a0_10):=(blk_cell BK174.out 10).trans rfl;have hcz61_11 : w60.cell? ⟨gb174,11,none⟩=some (.int .u8 a0_11):=(blk_cell BK174.out 11).trans rfl;have hfz61_0:=blk_frozen BK174.out 0;have hfz61_1:=blk_frozen BK174.out 1;have hfz61_2:=blk_frozen BK174.out 2;have hfz61_3:=blk_frozen BK174.out 3;have hfz61_4:=blk_frozen BK174.out 4;have hfz61_5:=blk_frozen BK174.out 5;have hfz61_6:=blk_frozen BK174.out 6;have hfz61_7:=blk_frozen BK174.out 7;have hfz61_8:=blk_frozen BK174.out 8;have hfz61_9:=blk_frozen BK174.out 9;have hfz61_10:=blk_frozen BK174.out 10;have hfz61_11:=blk_frozen BK174.out 11)|((with_reducible refine gate_callee (f:=10) rfl ?_);refine goesL_ (some 18) rfl rfl Try.func10 (by kernel_rfl) rfl #[.agg #[.int .u8 a0_0,.int .u8 a0_1,.int .u8 a0_2,.int .u8 a0_3,.int .u8 a0_4,.int .u8 a0_5,.int .u8 a0_6,.int .u8 a0_7,.int .u8 a0_8,.int .u8 a0_9,.int .u8 a0_10,.int .u8 a0_11]] rfl (by (try simp only [List.map_toArray,List.map_cons,List.map_nil]);first|done|rfl|(simp only [List.length_drop,List.length_take];rfl)) ?_;(with_reducible refine (thresherlaw04_made.calls k a0_0 a0_1 a0_2 a0_3 a0_4 a0_5 a0_6 a0_7 a0_8 a0_9 a0_10 a0_11 t176 t179 t180 t181 _ A5.out).mono ?_);rintro e w62 ⟨v177,rfl,ho0,hb⟩;refine ⟨_,rfl,?_⟩;have n0_:=Aside0.mk (Kd.R_lower ho0 (below_size (below_go HB.out)));have n1_:=Aside0.mk (blk_below (blk_up BK174.out) hb);have n2_:=Aside0.mk (below_step (below_go HB.out) hb);clear BK174;clear HB;have HO178:=n0_;have BK174:=n1_;have HB:=n2_;clear n0_ n1_ n2_;(try clear hb);(try clear hb2);(try clear hk);(try clear hi);(try clear ho0))|((with_reducible refine gate_dst (N:=8) rfl ?_);(try (refine gate_guard (by rfl) ?_;dsimp only));refine box_event ?hg (N:=8) ?hd (cs:=#[.slice none 0 0,.int .i64 0,.int .i64 0,.int .i64 0]) (t:=30) ?hr ?_;(case hd=>rfl);(case hg=>rfl);(case hr=>first|(go_simp;done)|(go_simp;rfl));intro gb182 hg w63 hbox hb;have n0_:=Aside0.mk (Kd.R_below (R_up HO178.out) hb);have n1_:=Aside0.mk (blk_below (blk_up BK174.out) hb);have n2_:=Aside0.mk (below_step (below_go HB.out) hb);have n3_:=Aside0.mk (hbox);have n4_:=Aside0.mk ((by rw [hg];exact (below_size (below_go HB.out)) : w.heap.size≤gb182));have n5_:=Aside0.mk ((by rw [hg];exact (below_size (below_go HB.out)) : w.heap.size≤gb182));have n6_:=Aside0.mk ((by rw [hg];exact Nat.ne_of_lt (blk_lt (blk_up BK174.out)) : gb174≠gb182));have n7_:=Aside0.mk ((by rw [hg];exact Nat.ne_of_gt (blk_lt (blk_up BK174.out)) : gb182≠gb174));clear HO178;clear BK174;clear HB;have HO178:=n0_;have BK174:=n1_;have HB:=n2_;have BK182:=n3_;have GW182:=n4_;have GE182:=n5_;have NB174_182:=n6_;have NB182_174:=n7_;clear n0_ n1_ n2_ n3_ n4_ n5_ n6_ n7_;clear hb hbox hg;obtain ⟨Ao64,co64,eo64⟩:=Kd.R_slice HO178.out;subst eo64;have hnb65:=NB182_174.out;have hnc65:=NB174_182.out;have hcz66_0 : w63.cell? ⟨gb182,0,none⟩=some (.slice none 0 0):=(blk_cell BK182.out 0).trans rfl;have hcz66_1 : w63.cell? ⟨gb182,1,none⟩=some (.int .i64 0):=(blk_cell BK182.out 1).trans rfl;have hcz66_2 : w63.cell? ⟨gb182,2,none⟩=some (.int .i64 0):=(blk_cell BK182.out 2).trans rfl;have hcz66_3 : w63.cell? ⟨gb182,3,none⟩=some (.int .i64 0):=(blk_cell BK182.out 3).trans rfl;have hfz66_0:=blk_frozen BK182.out 0;have hfz66_1:=blk_frozen BK182.out 1;have hfz66_2:=blk_frozen BK182.out 2;have hfz66_3:=blk_frozen BK182.out 3)|((with_reducible refine gate_callee (f:=11) rfl ?_);refine goesL_ (some 21) rfl rfl Try.func11 (by kernel_rfl) rfl #[.agg #[.slice Ao64 t176.length co64,.int .i64 t179,.int .i64 t180,.int .i64 t181],.slice A1 l1.length c1] rfl (by (try simp only [List.map_toArray,List.map_cons,List.map_nil]);first|done|rfl|(simp only [List.length_drop,List.length_take];rfl)) ?_;(with_reducible refine (thresherref04_Fit.calls k _ _ t176 t179 t180 t181 _ _ l1 t183 _ ?side1 ?side2 ?side3 ?side4 A6.out).mono ?_);(case side1=>refine (Kd.R_reads' (e:=3) (base:=w.heap.size) (ok:=fun k_=>True) (n:=t176.length) (c:=co64) ?_).2.2;exact (by (with_reducible repeat (first|apply Kd.R_alloc|apply Kd.R_drewN|apply Kd.R_drew));exact (Kd.R_mono (Kd.R_far (p:=⟨gb182,3,none⟩) (Kd.R_far (p:=⟨gb182,2,none⟩) (Kd.R_far (p:=⟨gb182,1,none⟩) (Kd.R_far (p:=⟨gb182,0,none⟩) (Kd.R_types HO178.out BK182.out (by decide)) (fun _ hk=>hk.2) (.slice Ao64 t176.length co64)) (fun _ hk=>hk.2) (.int .i64 t179)) (fun _ hk=>hk.2) (.int .i64 t180)) (fun _ hk=>hk.2) (.int .i64 t181)) (fun _ h_=>h_.1))));(case side2=>exact (Kd.R_reads' HO178.out).2.1);(case side3=>exact Kd.C_below HR1.out (below_go HB.out));(case side4=>exact HC1.out);rintro e w67 ⟨v184,rfl,ho0,hb⟩;refine ⟨_,rfl,?_⟩;have n0_:=Aside0.mk (Kd.R_below (by (with_reducible repeat (first|apply Kd.R_alloc|apply Kd.R_drewN|apply Kd.R_drew));exact (Kd.R_mono (Kd.R_far (p:=⟨gb182,3,none⟩) (Kd.R_far (p:=⟨gb182,2,none⟩) (Kd.R_far (p:=⟨gb182,1,none⟩) (Kd.R_far (p:=⟨gb182,0,none⟩) (Kd.R_types HO178.out BK182.out (by decide)) (fun _ hk=>hk.2) (.slice Ao64 t176.length co64)) (fun _ hk=>hk.2) (.int .i64 t179)) (fun _ hk=>hk.2) (.int .i64 t180)) (fun _ hk=>hk.2) (.int .i64 t181)) (fun _ h_=>h_.1))) hb);have n1_:=Aside0.mk (Kd.R_lower ho0 (below_size (below_go HB.out)));have n2_:=Aside0.mk (blk_below (g:=gb174) (o:=.cells #[.int .u8 a0_0,.int .u8 a0_1,.int .u8 a0_2,.int .u8 a0_3,.int .u8 a0_4,.int .u8 a0_5,.int .u8 a0_6,.int .u8 a0_7,.int .u8 a0_8,.int .u8 a0_9,.int .u8 a0_10,.int .u8 a0_11] 24 (0,0)) (by (with_reducible repeat (first|refine blk_drewN ?_ _|refine blk_drew ?_|refine blk_alloc ?_ _));refine blk_far ?_ NB174_182.out _;(with_reducible repeat (first|refine blk_drewN ?_ _|refine blk_drew ?_|refine blk_alloc ?_ _));refine blk_far ?_ NB174_182.out _;(with_reducible repeat (first|refine blk_drewN ?_ _|refine blk_drew ?_|refine blk_alloc ?_ _));refine blk_far ?_ NB174_182.out _;(with_reducible repeat (first|refine blk_drewN ?_ _|refine blk_drew ?_|refine blk_alloc ?_ _));refine blk_far ?_ NB174_182.out _;(with_reducible repeat (first|refine blk_drewN ?_ _|refine blk_drew ?_|refine blk_alloc ?_ _));exact BK174.out) hb);have n3_:=Aside0.mk (blk_below (g:=gb182) (o:=.cells #[.slice Ao64 t176.length co64,.int .i64 t179,.int .i64 t180,.int .i64 t181] 30 (0,0)) (by (with_reducible repeat (first|refine blk_drewN ?_ _|refine blk_drew ?_|refine blk_alloc ?_ _));refine blk_put (cs:=#[.slice Ao64 t176.length co64,.int .i64 t179,.int .i64 t180,.int .i64 0]) ?_ 3 _ rfl;(with_reducible repeat (first|refine blk_drewN ?_ _|refine blk_drew ?_|refine blk_alloc ?_ _));refine blk_put (cs:=#[.slice Ao64 t176.length co64,.int .i64 t179,.int .i64 0,.int .i64 0]) ?_ 2 _ rfl;(with_reducible repeat (first|refine blk_drewN ?_ _|refine blk_drew ?_|refine blk_alloc ?_ _));refine blk_put (cs:=#[.slice Ao64 t176.length co64,.int .i64 0,.int .i64 0,.int .i64 0]) ?_ 1 _ rfl;(with_reducible repeat (first|refine blk_drewN ?_ _|refine blk_drew ?_|refine blk_alloc ?_ _));refine blk_put (cs:=#[.slice none 0 0,.int .i64 0,.int .i64 0,.int .i64 0]) ?_ 0 _ rfl;(with_reducible repeat (first|refine blk_drewN ?_ _|refine blk_drew ?_|refine blk_alloc ?_ _));exact BK182.out) hb);have n4_:=Aside0.mk (below_step (below_go HB.out) hb);clear HO178;clear BK174;clear BK182;clear HB;have HO178:=n0_;have HO185:=n1_;have BK174:=n2_;have BK182:=n3_;have HB:=n4_;clear n0_ n1_ n2_ n3_ n4_;(try clear hb);(try clear hb2);(try clear hk);(try clear hi);(try clear ho0);obtain ⟨Ao68,co68,eo68⟩:=Kd.R_slice HO185.out;subst eo68)|((with_reducible refine gate_dst (N:=27) rfl ?_);(try (refine gate_guard (by rfl) ?_;dsimp only));refine Kd.R_lit k34 _ 34 ?hg (N:=27) ?hd (xs:=([] : List (S34))) (inner:=[]) (ok:=fun _=>True) (okp:=fun _=>True) ?hr ?hp (fun _ hk=>hk) trivial (Below.refl _ _) (Nat.le_refl _) (by simp) ?_;(case hd=>rfl);(case hg=>rfl);(case hr=>first|(go_simp;done)|(go_simp;rfl));(case hp=>exact (Reps.none _ _));intro v187 w69 ho70 hb hg_ hnew_;clear hg_ hnew_;(first|rw [← Ny186.out] at ho70|(simp only [Int.reduceToNat] at ho70;rw [← Ny186.out] at ho70));have n0_:=Aside0.mk (Kd.R_below (R_up HO178.out) hb);have n1_:=Aside0.mk (Kd.R_elder' (R_up HO185.out) (Kd.R_base ho70) hb);have n2_:=Aside0.mk (Kd.R_lower (Kd.R_new' ho70 (Kd.R_lt (R_up HO185.out))) (below_size (below_go HB.out)));have n3_:=Aside0.mk (blk_below (blk_up BK174.out) hb);have n4_:=Aside0.mk (blk_below (blk_up BK182.out) hb);have n5_:=Aside0.mk (below_step (below_go HB.out) hb);clear HO178;clear HO185;clear BK174;clear BK182;clear HB;have HO178:=n0_;have HO185:=n1_;have HO188:=n2_;have BK174:=n3_;have BK182:=n4_;have HB:=n5_;clear n0_ n1_ n2_ n3_ n4_ n5_;clear hb ho70)|((with_reducible refine gate_builtin (b:=.append) (xs:=#[.tmp 27,.tmp 28]) rfl ?_);(try (refine gate_guard (by rfl) ?_;dsimp only));at_builtin;refine Kd.R_append_rows k34 (w0:=w) w.heap.size rfl (.tmp 27) (.tmp 28) 26 34 (.agg #[(.int .i64 0),(.string ⟨#[]⟩)]) 24 rfl Try.underlying26 info34 rfl (by decide) (by omega) v187 y186 t183 _ _ _ (fun k_=>some k_≠(.slice Ao68 t183.length co68 : Value).ownBlock) (fun _=>False) rfl rfl ?aO ?aR (fun _ _ h=>h) (fun _ h=>h.elim) ?aF ?aB ?aS ?aL ?_;(case aR=>repeat (first|exact (Kd.R_reads' HO185.out).2.2|(with_reducible refine Kd.C_alloc ?_ _)|(with_reducible refine Kd.C_drewN ?_ _)|(with_reducible refine Kd.C_drew ?_)));(case aB=>exact (below_go HB.out));(case aF=>exact (fun k_ hk=>Kd.fresh' (Kd.R_lt (R_up HO185.out)) k_ hk));(case aO=>exact (by (with_reducible repeat (first|apply Kd.R_alloc|apply Kd.R_drewN|apply Kd.R_drew));exact Kd.R_mono HO188.out (fun _ hk=>hk.2)));(case aS=>exact (below_size (below_go HB.out)));(case aL=>have:=LMc8.out;omega);intro v190 w71 ho hb hg hat;rw [← Ny189.out] at ho;have n0_:=Aside0.mk (blk_grown (blk_up BK174.out) hg (Kd.R_ne HO188.out BK174.out (by decide)));have n1_:=Aside0.mk (Kd.R_over' (R_up HO178.out) (Kd.R_typed (R_up HO188.out)) (by decide) hg);have n2_:=Aside0.mk (blk_grown (blk_up BK182.out) hg (Kd.R_ne HO188.out BK182.out (by decide)));have n3_:=Aside0.mk (Kd.R_after (ok:=(fun _=>True)) (R_up HO185.out) hg hat);have n4_:=Aside0.mk (hb);have n5_:=Aside0.mk (ho);clear BK174;clear HO178;clear BK182;clear HO185;clear HB;clear HO188;have BK174:=n0_;have HO178:=n1_;have BK182:=n2_;have HO185:=n3_;have HB:=n4_;have HO191:=n5_;clear n0_ n1_ n2_ n3_ n4_ n5_;clear ho hb hg hat;have p12 : 0≤((ji9) : Int):=of_decide_eq_true (by first|(with_reducible assumption)|assumption);have q12 : ((ji9) : Int) < ((y189.length : Int) : Int):=of_decide_eq_true (by first|(with_reducible assumption)|assumption);obtain ⟨go12,co12,eo12,gb12,gl12,cl12,HG12⟩:=Kd.R_form HO191.out (by omega);(first|cases eo12|(injection eo12 with ea_ en_ ec_;(first|subst ea_|(injection ea_ with ea_;subst ea_));subst ec_;clear en_));have GB12:=Aside0.mk gb12;have GG12:=Aside0.mk HG12;clear gb12 gl12 HG12;obtain ⟨ce12,hcl12,hM12,hcc12,hfr12⟩:=Kd.R_elem HO191.out z34 ((ji9) : Int) p12 q12;obtain rfl:=k34_openM hM12;have hx12_0 : w71.cell? ⟨go12,((ji9) : Int).toNat * 2,none⟩=some (.int .i64 ((rd_T34 y189 (ji9)).f0)):=hcc12 0 _ rfl;have hx12_1 : w71.cell? ⟨go12,((ji9) : Int).toNat * 2 + 1,none⟩=some (.string ((rd_T34 y189 (ji9)).f1)):=hcc12 1 _ rfl;have hf12_0 : w71.frozen? ⟨go12,((ji9) : Int).toNat * 2,none⟩=false:=hfr12 0;have hf12_1 : w71.frozen? ⟨go12,((ji9) : Int).toNat * 2 + 1,none⟩=false:=hfr12 1;clear hcl12 hcc12 hfr12 hM12;replace p12:=eq_true p12;replace q12:=eq_true q12;have HX72:=Aside0.mk (show Kd.R k34 34 w71 w.heap.size (fun k_=>some k_≠(.slice Ao68 t183.length co68 : Value).ownBlock) (.slice (some ⟨go12,0,none⟩) y189.length co12) y189 from (R_up HO191.out));obtain ⟨ce72,hcl72,hM72,hcc72,hfr72⟩:=Kd.R_elem HX72.out z34 ((ji9) : Int) (of_decide_eq_true (by first|(with_reducible assumption)|assumption)) (by have h_ : ((ji9) : Int) < ((y189.length : Int) : Int):=of_decide_eq_true (by first|(with_reducible assumption)|assumption);first|exact h_|(have e_:=(Kd.R_reads' HO191.out).1;omega)|simpa using h_);obtain rfl:=k34_openM hM72;have HP72:=Kd.R_seg HX72.out ((ji9) : Int) (of_decide_eq_true (by first|(with_reducible assumption)|assumption)) (by have h_ : ((ji9) : Int) < ((y189.length : Int) : Int):=of_decide_eq_true (by first|(with_reducible assumption)|assumption);first|exact h_|(have e_:=(Kd.R_reads' HO191.out).1;omega)|simpa using h_) (seg:=[.int .i64 1,.string (⟨#[120]⟩ : ByteArray)]) (j:=0) hcl72 hcc72 (show 2≤2 from by decide) (x':=(⟨1,(⟨#[120]⟩ : ByteArray)⟩ : S34)) (k34_mkM _ _ _ (⟨1,(⟨#[120]⟩ : ByteArray)⟩ : S34) ) (fun _ hk=>hk);have hx72_0:=hcc72 0 _ rfl;(try simp only [show (k34).sz=2 from rfl,Nat.mul_one,Nat.add_zero] at hx72_0);have hf72_0:=hfr72 0;(try simp only [show (k34).sz=2 from rfl,Nat.mul_one,Nat.add_zero] at hf72_0);have hx72_1:=hcc72 1 _ rfl;(try simp only [show (k34).sz=2 from rfl,Nat.mul_one,Nat.add_zero] at hx72_1);have hf72_1:=hfr72 1;(try simp only [show (k34).sz=2 from rfl,Nat.mul_one,Nat.add_zero] at hf72_1);clear hcl72 hcc72 hfr72 hM72)|((with_reducible refine gate_store (t:=34) (p:=33) rfl ?_);refine store_event (t:=34) (p:=33) (v:=?vo_w73) (w1:=((w71.setCell ⟨go12,((ji9) : Int).toNat * 2,none⟩ (.int .i64 1)).setCell ⟨go12,((ji9) : Int).toNat * 2 + 1,none⟩ (.string (⟨#[120]⟩ : ByteArray)))) ?hg ?ho ?hn ?hr ?_;(case ho=>rfl);(case hg=>rfl);(case hn=>rfl);(case hr=>first|(go_simp;done)|(go_simp;rfl));intro w73 hw;have hg : w71.grownBy w73 (some go12):=(by rw [hw];exact HP72.2);have hp_ : Kd.R k34 34 w73 w.heap.size (fun k_=>some k_≠(.slice Ao68 t183.length co68 : Value).ownBlock) (.slice (some ⟨go12,0,none⟩) y189.length co12) y192:=(by rw [hw,Ny192.out];exact HP72.1);clear HP72;have n0_:=Aside0.mk (blk_grown (blk_up BK174.out) hg (Kd.R_ne HO191.out BK174.out (by decide)));have n1_:=Aside0.mk (Kd.R_over' (v:=(.slice (some ⟨go12,0,none⟩) y189.length co12)) (R_up HO178.out) (Kd.R_typed HO191.out) (by decide) hg);have n2_:=Aside0.mk (blk_grown (blk_up BK182.out) hg (Kd.R_ne HO191.out BK182.out (by decide)));have n3_:=Aside0.mk (Kd.R_after (v:=(.slice (some ⟨go12,0,none⟩) y189.length co12)) (v1:=(.slice (some ⟨go12,0,none⟩) y189.length co12)) (ok:=(fun _=>True)) (R_up HO185.out) hg (.inl rfl));have n4_:=Aside0.mk (hp_);have n5_:=Aside0.mk ((by rw [hw];exact below_set (below_set (HB.out) GB12.out) GB12.out : Below w.heap.size w w73));clear BK174;clear HO178;clear BK182;clear HO185;clear HO191;clear HB;have BK174:=n0_;have HO178:=n1_;have BK182:=n2_;have HO185:=n3_;have HO191:=n4_;have HB:=n5_;clear n0_ n1_ n2_ n3_ n4_ n5_;clear hg hw hp_;have hcz74_0 : w73.cell? ⟨gb182,0,none⟩=some (.slice Ao64 t176.length co64):=(blk_cell BK182.out 0).trans rfl;have hcz74_1 : w73.cell? ⟨gb182,1,none⟩=some (.int .i64 t179):=(blk_cell BK182.out 1).trans rfl;have hcz74_2 : w73.cell? ⟨gb182,2,none⟩=some (.int .i64 t180):=(blk_cell BK182.out 2).trans rfl;have hcz74_3 : w73.cell? ⟨gb182,3,none⟩=some (.int .i64 t181):=(blk_cell BK182.out 3).trans rfl;have hfz74_0:=blk_frozen BK182.out 0;have hfz74_1:=blk_frozen BK182.out 1;have hfz74_2:=blk_frozen BK182.out 2;have hfz74_3:=blk_frozen BK182.out 3)|((with_reducible refine gate_callee (f:=12) rfl ?_);refine goesL_ (some 36) rfl rfl Try.func12 (by kernel_rfl) rfl #[.agg #[.slice Ao64 t176.length co64,.int .i64 t179,.int .i64 t180,.int .i64 t181],.slice Ao68 t183.length co68] rfl (by (try simp only [List.map_toArray,List.map_cons,List.map_nil]);first|done|rfl|(simp only [List.length_drop,List.length_take];rfl)) ?_;(with_reducible refine (schema_Row.calls _ _ t176 t179 t180 t181 _ _ t183 true _ ?side1 ?side2 ?side3 ?side4 A13.out).mono ?_);(case side1=>repeat (first|exact (Kd.R_reads' HO178.out).2.2|(with_reducible refine Kd.C_alloc ?_ _)|(with_reducible refine Kd.C_drewN ?_ _)|(with_reducible refine Kd.C_drew ?_)));(case side2=>exact (Kd.R_reads' HO178.out).2.1);(case side3=>repeat (first|exact (Kd.R_reads' HO185.out).2.2|(with_reducible refine Kd.C_alloc ?_ _)|(with_reducible refine Kd.C_drewN ?_ _)|(with_reducible refine Kd.C_drew ?_)));(case side4=>exact (Kd.R_reads' HO185.out).2.1);rintro e w75 ⟨rfl,hb⟩;refine ⟨_,rfl,?_⟩;have n0_:=Aside0.mk (Kd.R_below (R_up HO178.out) hb);have n1_:=Aside0.mk (Kd.R_below (R_up HO185.out) hb);have n2_:=Aside0.mk (Kd.R_below (R_up HO191.out) hb);have n3_:=Aside0.mk (blk_below (blk_up BK174.out) hb);have n4_:=Aside0.mk (blk_below (blk_up BK182.out) hb);have n5_:=Aside0.mk (below_step (below_go HB.out) hb);clear HO178;clear HO185;clear HO191;clear BK174;clear BK182;clear HB;have HO178:=n0_;have HO185:=n1_;have HO191:=n2_;have BK174:=n3_;have BK182:=n4_;have HB:=n5_;clear n0_ n1_ n2_ n3_ n4_ n5_;(try clear hb);(try clear hb2);(try clear hk);(try clear hi)))
 have n0_:=Aside0.mk (Kd.R_drew HO178.out)
 have n1_:=Aside0.mk (Kd.R_drew HO185.out)
 have n2_:=Aside0.mk (Kd.R_drew HO191.out)
 have n3_:=Aside0.mk (blk_drew BK174.out)
 have n4_:=Aside0.mk (blk_drew BK182.out)
 have n5_:=Aside0.mk (below_drew1 HB.out)
 clear HO178
 clear HO185
 clear HO191
 clear BK174
 clear BK182
 clear HB
 have HO178:=n0_
 have HO185:=n1_
 have HO191:=n2_
 have BK174:=n3_
 have BK182:=n4_
 have HB:=n5_
 clear n0_ n1_ n2_ n3_ n4_ n5_
 refine start_ (n:=9) (S:=fun w'=>w'.cell? ⟨gb182,0,none⟩=some (.slice Ao64 t176.length co64)∧w'.cell? ⟨gb182,1,none⟩=some (.int .i64 t179)∧w'.cell? ⟨gb182,2,none⟩=some (.int .i64 t180)∧w'.cell? ⟨gb182,3,none⟩=some (.int .i64 t181)) (ds:=[]) #[false,false,false,false,false,false,false,false,false] (by kernel_rfl) rfl rfl ⟨(blk_cell BK182.out 0).trans rfl,(blk_cell BK182.out 1).trans rfl,(blk_cell BK182.out 2).trans rfl,(blk_cell BK182.out 3).trans rfl⟩ (fun hHeld=>?_);refine with_tabW thresherlaw04_SchemaRows.tab8 thresherlaw04_SchemaRows.bits8 (fun HT_ HW_=>?_)
 generalize w75.drew=w76 at HO178 HO185 HO191 BK174 BK182 HB hHeld ⊢
 refine pure_ (i:=2) (N:=some 39) (v:=?_) (a':=?_) #[false,false,true,false,false,false,false,false,false] rfl rfl (any_of HT_.out (by kernel_rfl)) (fun _ _ _ h=>h) (Or.inl ⟨by rfl,?_⟩) ?_ ?_
 rotate_left;(intro w';go_simp;with_reducible rfl);rotate_left;(simp only [Act.put,List.setIfInBounds_toArray,List.set_cons_zero,List.set_cons_succ,i64_w,i32_w];rfl)
 refine pure_ (i:=4) (N:=some 41) (v:=?_) (a':=?_) #[false,false,true,false,true,false,false,false,false] rfl rfl (any_of HT_.out (by kernel_rfl)) (fun _ _ _ h=>h) (Or.inl ⟨by rfl,?_⟩) ?_ ?_
 rotate_left;(intro w';go_simp;with_reducible rfl);rotate_left;(simp only [Act.put,List.setIfInBounds_toArray,List.set_cons_zero,List.set_cons_succ,i64_w,i32_w];rfl)
 refine take_ (i:=0) (N:=some 37) (v:=?_) (a':=?_) #[true,false,true,false,true,false,false,false,false] rfl rfl (take_ofW HT_.out HW_.out (by kernel_rfl)) (fun _ _ _ h=>h) (Or.inl ⟨by rfl,?_⟩) hHeld ?_ ?_
 rotate_left;(rintro w' ⟨s0,s1,s2,s3⟩;go_simp;with_reducible rfl);rotate_left;(simp only [Act.put,List.setIfInBounds_toArray,List.set_cons_zero,List.set_cons_succ,i64_w,i32_w];rfl)
 refine join_ (σ:=Value × Value × Value) 3 #[true,true,true,true,true,true,false,false,false] (fun s_=>[(38,s_.1),(40,s_.2.1),(42,s_.2.2)]) (fun s_ w'=>(w'.cell? ⟨gb182,0,none⟩=some (.slice Ao64 t176.length co64)∧w'.cell? ⟨gb182,1,none⟩=some (.int .i64 t179)∧w'.cell? ⟨gb182,2,none⟩=some (.int .i64 t180)∧w'.cell? ⟨gb182,3,none⟩=some (.int .i64 t181))∧(Kd.R (Kd.int .i64) 3 w' w.heap.size (fun _=>True) (.slice Ao64 t176.length co64) t176)∧(Kd.R k34 34 w' w.heap.size (fun k_=>some k_≠(.slice (some ⟨go12,0,none⟩) y189.length co12 : Value).ownBlock∧some k_≠(s_.2.1 : Value).ownBlock∧some k_≠(s_.2.2 : Value).ownBlock) (.slice Ao68 t183.length co68) t183)∧(Kd.R k34 34 w' w.heap.size (fun k_=>some k_≠(.slice Ao68 t183.length co68 : Value).ownBlock∧some k_≠(s_.2.1 : Value).ownBlock∧some k_≠(s_.2.2 : Value).ownBlock) (.slice (some ⟨go12,0,none⟩) y189.length co12) y192)∧(Kd.R k34 34 w' w.heap.size (fun k_=>some k_≠(.slice Ao68 t183.length co68 : Value).ownBlock∧some k_≠(.slice (some ⟨go12,0,none⟩) y189.length co12 : Value).ownBlock∧some k_≠(s_.2.2 : Value).ownBlock) s_.2.1 y197)∧(Kd.R k34 34 w' w.heap.size (fun k_=>some k_≠(.slice Ao68 t183.length co68 : Value).ownBlock∧some k_≠(.slice (some ⟨go12,0,none⟩) y189.length co12 : Value).ownBlock∧some k_≠(s_.2.1 : Value).ownBlock) s_.2.2 y200)∧(w'.heap[gb174]?=some (.cells #[.int .u8 a0_0,.int .u8 a0_1,.int .u8 a0_2,.int .u8 a0_3,.int .u8 a0_4,.int .u8 a0_5,.int .u8 a0_6,.int .u8 a0_7,.int .u8 a0_8,.int .u8 a0_9,.int .u8 a0_10,.int .u8 a0_11] 24 (0,0)))∧(w'.heap[gb182]?=some (.cells #[.slice Ao64 t176.length co64,.int .i64 t179,.int .i64 t180,.int .i64 t181] 30 (0,0)))∧(Below w.heap.size w w')) ?_ ?_
 rotate_left
 ·intro hCont
  refine two_ (i:=1) (j:=5) (Ni:=some 38) (Nj:=some 42) #[true,true,true,false,true,false,false,false,false] #[true,false,true,false,true,true,false,false,false] rfl rfl rfl rfl (two_of HT_.out (by kernel_rfl)) (by decide) (by decide) (fun K hK=>?_) (fun K hK=>?_)
  ·skip
   refine Kd.R_lit_step k34 _ 34 ?hg (N:=38) ?hd (xs:=([] : List (S34))) (inner:=[]) (ok:=fun _=>True) (okp:=fun _=>True) ?hr ?hp (fun _ hk=>hk) trivial (Below.refl _ _) (Nat.le_refl _) (by simp) ?_;(case hd=>rfl);(case hg=>rfl);(case hr=>first|(go_simp;done)|(go_simp;rfl));(case hp=>exact (Reps.none _ _))
   intro v195 w77 ho78 hb hg_ hnew_
   clear hg_ hnew_
   (first|rw [← Ny194.out] at ho78|(simp only [Int.reduceToNat] at ho78;rw [← Ny194.out] at ho78))
   have n0_:=Aside0.mk (Kd.R_below (R_up HO178.out) hb)
   have n1_:=Aside0.mk (Kd.R_elder' (R_up HO185.out) (Kd.R_base ho78) hb)
   have n2_:=Aside0.mk (Kd.R_elder' (R_up HO191.out) (Kd.R_base ho78) hb)
   have n3_:=Aside0.mk (Kd.R_lower (Kd.R_new' (Kd.R_new' ho78 (Kd.R_lt (R_up HO185.out))) (Kd.R_lt (R_up HO191.out))) (below_size (below_go HB.out)))
   have n4_:=Aside0.mk (blk_below (blk_up BK174.out) hb)
   have n5_:=Aside0.mk (blk_below (blk_up BK182.out) hb)
   have n6_:=Aside0.mk (below_step (below_go HB.out) hb)
   clear HO178
   clear HO185
   clear HO191
   clear BK174
   clear BK182
   clear HB
   have HO178:=n0_
   have HO185:=n1_
   have HO191:=n2_
   have HO196:=n3_
   have BK174:=n4_
   have BK182:=n5_
   have HB:=n6_
   clear n0_ n1_ n2_ n3_ n4_ n5_ n6_
   clear hb ho78
   refine hK.out _ _ ⟨(blk_cell BK182.out 0).trans rfl,(blk_cell BK182.out 1).trans rfl,(blk_cell BK182.out 2).trans rfl,(blk_cell BK182.out 3).trans rfl⟩ (fun hHeld=>?_)
   clear hK K
   refine norm_ (a':=?_) ?_ ?_
   rotate_left
   ·show Act.put _ (some 38) _=_
    simp only [Act.put,List.setIfInBounds_toArray,List.set_cons_zero,List.set_cons_succ,i64_w,i32_w]
    rfl
   refine two_ (i:=3) (j:=5) (Ni:=some 40) (Nj:=some 42) #[true,true,true,true,true,false,false,false,false] #[true,true,true,false,true,true,false,false,false] rfl rfl rfl rfl (two_of HT_.out (by kernel_rfl)) (by decide) (by decide) (fun K hK=>?_) (fun K hK=>?_)
   ·skip
    refine Kd.R_append_rows_step k34 (w0:=w) w.heap.size (by rfl) (.tmp 38) (.tmp 39) 26 34 (.agg #[(.int .i64 0),(.string ⟨#[]⟩)]) 24 rfl Try.underlying26 info34 rfl (by decide) (by omega) v195 y194 t183 _ _ _ (fun k_=>some k_≠(.slice Ao68 t183.length co68 : Value).ownBlock∧some k_≠(.slice (some ⟨go12,0,none⟩) y189.length co12 : Value).ownBlock) (fun _=>False) rfl rfl ?aO ?aR (fun _ _ h=>h) (fun _ h=>h.elim) ?aF ?aB ?aS ?aL ?_
    (case aR=>repeat (first|exact (Kd.R_reads' HO185.out).2.2|(with_reducible refine Kd.C_alloc ?_ _)|(with_reducible refine Kd.C_drewN ?_ _)|(with_reducible refine Kd.C_drew ?_)))
    (case aB=>exact (below_go HB.out))
    (case aF=>exact (fun k_ hk=>⟨Kd.fresh' (Kd.R_lt (R_up HO185.out)) k_ hk,Kd.fresh' (Kd.R_lt (R_up HO191.out)) k_ hk⟩))
    (case aO=>exact (by (with_reducible repeat (first|apply Kd.R_alloc|apply Kd.R_drewN|apply Kd.R_drew));exact Kd.R_mono HO196.out (fun _ hk=>⟨hk.1.2,hk.2⟩)))
    (case aS=>exact (below_size (below_go HB.out)))
    (case aL=>have:=LMc14.out;omega)
    intro v198 w79 ho hb hg hat
    rw [← Ny197.out] at ho
    have n0_:=Aside0.mk (blk_grown (blk_up BK174.out) hg (Kd.R_ne HO196.out BK174.out (by decide)))
    have n1_:=Aside0.mk (Kd.R_over' (R_up HO178.out) (Kd.R_typed (R_up HO196.out)) (by decide) hg)
    have n2_:=Aside0.mk (blk_grown (blk_up BK182.out) hg (Kd.R_ne HO196.out BK182.out (by decide)))
    have n3_:=Aside0.mk (Kd.R_after (ok:=(fun k_=>some k_≠(.slice (some ⟨go12,0,none⟩) y189.length co12 : Value).ownBlock)) (by (with_reducible repeat (first|apply Kd.R_alloc|apply Kd.R_drewN|apply Kd.R_drew));exact Kd.R_mono HO185.out (fun _ hk=>⟨hk.1.2,hk.2⟩)) hg hat)
    have n4_:=Aside0.mk (Kd.R_after (ok:=(fun k_=>some k_≠(.slice Ao68 t183.length co68 : Value).ownBlock)) (R_up HO191.out) hg hat)
    have n5_:=Aside0.mk (hb)
    have n6_:=Aside0.mk (ho)
    clear BK174
    clear HO178
    clear BK182
    clear HO185
    clear HO191
    clear HB
    clear HO196
    have BK174:=n0_
    have HO178:=n1_
    have BK182:=n2_
    have HO185:=n3_
    have HO191:=n4_
    have HB:=n5_
    have HO199:=n6_
    clear n0_ n1_ n2_ n3_ n4_ n5_ n6_
    clear ho hb hg hat
    refine hK.out _ _ ⟨(blk_cell BK182.out 0).trans rfl,(blk_cell BK182.out 1).trans rfl,(blk_cell BK182.out 2).trans rfl,(blk_cell BK182.out 3).trans rfl⟩ (fun hHeld=>?_)
    clear hK K
    refine norm_ (a':=?_) ?_ ?_
    rotate_left
    ·show Act.put _ (some 40) _=_
     simp only [Act.put,List.setIfInBounds_toArray,List.set_cons_zero,List.set_cons_succ,i64_w,i32_w]
     rfl
    refine one_ (i:=5) (N:=some 42) #[true,true,true,true,true,true,false,false,false] rfl rfl (one_of HT_.out (by kernel_rfl)) (by decide) (fun K hK=>?_)
    refine Kd.R_lit_step k34 _ 34 ?hg (N:=42) ?hd (xs:=([(⟨0,(⟨#[]⟩ : ByteArray)⟩ : S34)] : List (S34))) (inner:=[.int .i64 0,.string (⟨#[]⟩ : ByteArray)]) (ok:=fun _=>True) (okp:=fun _=>True) ?hr ?hp (fun _ hk=>hk) trivial (Below.refl _ _) (Nat.le_refl _) (by simp) ?_;(case hd=>rfl);(case hg=>rfl);(case hr=>first|(go_simp;done)|(go_simp;rfl));(case hp=>exact (Reps.c2 (show Kd.M k34 _ _ _ (⟨0,(⟨#[]⟩ : ByteArray)⟩ : S34) [.int .i64 0,.string (⟨#[]⟩ : ByteArray)] from (k34_mkM _ _ _ (⟨0,(⟨#[]⟩ : ByteArray)⟩ : S34) )) (Reps.none _ _)))
    intro v201 w80 ho81 hb hg_ hnew_
    clear hg_ hnew_
    (first|rw [← Ny200.out] at ho81|(simp only [Int.reduceToNat] at ho81;rw [← Ny200.out] at ho81))
    have n0_:=Aside0.mk (Kd.R_below (R_up HO178.out) hb)
    have n1_:=Aside0.mk (Kd.R_elder' (R_up HO185.out) (Kd.R_base ho81) hb)
    have n2_:=Aside0.mk (Kd.R_elder' (R_up HO191.out) (Kd.R_base ho81) hb)
    have n3_:=Aside0.mk (Kd.R_elder' (R_up HO199.out) (Kd.R_base ho81) hb)
    have n4_:=Aside0.mk (Kd.R_lower (Kd.R_new' (Kd.R_new' (Kd.R_new' ho81 (Kd.R_lt (R_up HO185.out))) (Kd.R_lt (R_up HO191.out))) (Kd.R_lt (R_up HO199.out))) (below_size (below_go HB.out)))
    have n5_:=Aside0.mk (blk_below (blk_up BK174.out) hb)
    have n6_:=Aside0.mk (blk_below (blk_up BK182.out) hb)
    have n7_:=Aside0.mk (below_step (below_go HB.out) hb)
    clear HO178
    clear HO185
    clear HO191
    clear HO199
    clear BK174
    clear BK182
    clear HB
    have HO178:=n0_
    have HO185:=n1_
    have HO191:=n2_
    have HO199:=n3_
    have HO202:=n4_
    have BK174:=n5_
    have BK182:=n6_
    have HB:=n7_
    clear n0_ n1_ n2_ n3_ n4_ n5_ n6_ n7_
    clear hb ho81
    refine hK.out _ _ ⟨(blk_cell BK182.out 0).trans rfl,(blk_cell BK182.out 1).trans rfl,(blk_cell BK182.out 2).trans rfl,(blk_cell BK182.out 3).trans rfl⟩ (fun hHeld=>?_)
    clear hK K
    refine norm_ (a':=?_) ?_ ?_
    rotate_left
    ·show Act.put _ (some 42) _=_
     simp only [Act.put,List.setIfInBounds_toArray,List.set_cons_zero,List.set_cons_succ,i64_w,i32_w]
     rfl
    exact norm_ (by simp only [putAll,Act.put,List.setIfInBounds_toArray,List.set_cons_zero,List.set_cons_succ]) (hCont (v195,v198,v201) _ ⟨hHeld,(R_up HO178.out),(by (with_reducible repeat (first|apply Kd.R_alloc|apply Kd.R_drewN|apply Kd.R_drew));exact Kd.R_mono HO185.out (fun _ hk=>⟨hk.1.1,⟨hk.1.2,hk.2⟩⟩)),(by (with_reducible repeat (first|apply Kd.R_alloc|apply Kd.R_drewN|apply Kd.R_drew));exact Kd.R_mono HO191.out (fun _ hk=>⟨hk.1.1,⟨hk.1.2,hk.2⟩⟩)),(by (with_reducible repeat (first|apply Kd.R_alloc|apply Kd.R_drewN|apply Kd.R_drew));exact Kd.R_mono HO199.out (fun _ hk=>⟨hk.1.1,⟨hk.1.2,hk.2⟩⟩)),(by (with_reducible repeat (first|apply Kd.R_alloc|apply Kd.R_drewN|apply Kd.R_drew));exact Kd.R_mono HO202.out (fun _ hk=>⟨hk.1.1.2,⟨hk.1.2,hk.2⟩⟩)),(blk_up BK174.out),(blk_up BK182.out),(below_go HB.out)⟩)
   ·skip
    refine Kd.R_lit_step k34 _ 34 ?hg (N:=42) ?hd (xs:=([(⟨0,(⟨#[]⟩ : ByteArray)⟩ : S34)] : List (S34))) (inner:=[.int .i64 0,.string (⟨#[]⟩ : ByteArray)]) (ok:=fun _=>True) (okp:=fun _=>True) ?hr ?hp (fun _ hk=>hk) trivial (Below.refl _ _) (Nat.le_refl _) (by simp) ?_;(case hd=>rfl);(case hg=>rfl);(case hr=>first|(go_simp;done)|(go_simp;rfl));(case hp=>exact (Reps.c2 (show Kd.M k34 _ _ _ (⟨0,(⟨#[]⟩ : ByteArray)⟩ : S34) [.int .i64 0,.string (⟨#[]⟩ : ByteArray)] from (k34_mkM _ _ _ (⟨0,(⟨#[]⟩ : ByteArray)⟩ : S34) )) (Reps.none _ _)))
    intro v201 w79 ho80 hb hg_ hnew_
    clear hg_ hnew_
    (first|rw [← Ny200.out] at ho80|(simp only [Int.reduceToNat] at ho80;rw [← Ny200.out] at ho80))
    have n0_:=Aside0.mk (Kd.R_below (R_up HO178.out) hb)
    have n1_:=Aside0.mk (Kd.R_elder' (R_up HO185.out) (Kd.R_base ho80) hb)
    have n2_:=Aside0.mk (Kd.R_elder' (R_up HO191.out) (Kd.R_base ho80) hb)
    have n3_:=Aside0.mk (Kd.R_elder' (R_up HO196.out) (Kd.R_base ho80) hb)
    have n4_:=Aside0.mk (Kd.R_lower (Kd.R_new' (Kd.R_new' (Kd.R_new' ho80 (Kd.R_lt (R_up HO185.out))) (Kd.R_lt (R_up HO191.out))) (Kd.R_lt (R_up HO196.out))) (below_size (below_go HB.out)))
    have n5_:=Aside0.mk (blk_below (blk_up BK174.out) hb)
    have n6_:=Aside0.mk (blk_below (blk_up BK182.out) hb)
    have n7_:=Aside0.mk (below_step (below_go HB.out) hb)
    clear HO178
    clear HO185
    clear HO191
    clear HO196
    clear BK174
    clear BK182
    clear HB
    have HO178:=n0_
    have HO185:=n1_
    have HO191:=n2_
    have HO196:=n3_
    have HO202:=n4_
    have BK174:=n5_
    have BK182:=n6_
    have HB:=n7_
    clear n0_ n1_ n2_ n3_ n4_ n5_ n6_ n7_
    clear hb ho80
    refine hK.out _ _ ⟨(blk_cell BK182.out 0).trans rfl,(blk_cell BK182.out 1).trans rfl,(blk_cell BK182.out 2).trans rfl,(blk_cell BK182.out 3).trans rfl⟩ (fun hHeld=>?_)
    clear hK K
    refine norm_ (a':=?_) ?_ ?_
    rotate_left
    ·show Act.put _ (some 42) _=_
     simp only [Act.put,List.setIfInBounds_toArray,List.set_cons_zero,List.set_cons_succ,i64_w,i32_w]
     rfl
    refine one_ (i:=3) (N:=some 40) #[true,true,true,true,true,true,false,false,false] rfl rfl (one_of HT_.out (by kernel_rfl)) (by decide) (fun K hK=>?_)
    refine Kd.R_append_rows_step k34 (w0:=w) w.heap.size (by rfl) (.tmp 38) (.tmp 39) 26 34 (.agg #[(.int .i64 0),(.string ⟨#[]⟩)]) 24 rfl Try.underlying26 info34 rfl (by decide) (by omega) v195 y194 t183 _ _ _ (fun k_=>some k_≠(.slice Ao68 t183.length co68 : Value).ownBlock∧some k_≠(.slice (some ⟨go12,0,none⟩) y189.length co12 : Value).ownBlock∧some k_≠(v201 : Value).ownBlock) (fun _=>False) rfl rfl ?aO ?aR (fun _ _ h=>h) (fun _ h=>h.elim) ?aF ?aB ?aS ?aL ?_
    (case aR=>repeat (first|exact (Kd.R_reads' HO185.out).2.2|(with_reducible refine Kd.C_alloc ?_ _)|(with_reducible refine Kd.C_drewN ?_ _)|(with_reducible refine Kd.C_drew ?_)))
    (case aB=>exact (below_go HB.out))
    (case aF=>exact (fun k_ hk=>⟨Kd.fresh' (Kd.R_lt (R_up HO185.out)) k_ hk,Kd.fresh' (Kd.R_lt (R_up HO191.out)) k_ hk,Kd.fresh' (Kd.R_lt (R_up HO202.out)) k_ hk⟩))
    (case aO=>exact (by (with_reducible repeat (first|apply Kd.R_alloc|apply Kd.R_drewN|apply Kd.R_drew));exact Kd.R_mono HO196.out (fun _ hk=>⟨hk.1.1.2,⟨hk.1.2,hk.2⟩⟩)))
    (case aS=>exact (below_size (below_go HB.out)))
    (case aL=>have:=LMc14.out;omega)
    intro v198 w81 ho hb hg hat
    rw [← Ny197.out] at ho
    have n0_:=Aside0.mk (blk_grown (blk_up BK174.out) hg (Kd.R_ne HO196.out BK174.out (by decide)))
    have n1_:=Aside0.mk (Kd.R_over' (R_up HO178.out) (Kd.R_typed (R_up HO196.out)) (by decide) hg)
    have n2_:=Aside0.mk (blk_grown (blk_up BK182.out) hg (Kd.R_ne HO196.out BK182.out (by decide)))
    have n3_:=Aside0.mk (Kd.R_after (ok:=(fun k_=>some k_≠(.slice (some ⟨go12,0,none⟩) y189.length co12 : Value).ownBlock∧some k_≠(v201 : Value).ownBlock)) (by (with_reducible repeat (first|apply Kd.R_alloc|apply Kd.R_drewN|apply Kd.R_drew));exact Kd.R_mono HO185.out (fun _ hk=>⟨⟨hk.1.1.2,hk.2⟩,hk.1.2⟩)) hg hat)
    have n4_:=Aside0.mk (Kd.R_after (ok:=(fun k_=>some k_≠(.slice Ao68 t183.length co68 : Value).ownBlock∧some k_≠(v201 : Value).ownBlock)) (by (with_reducible repeat (first|apply Kd.R_alloc|apply Kd.R_drewN|apply Kd.R_drew));exact Kd.R_mono HO191.out (fun _ hk=>⟨⟨hk.1.1,hk.2⟩,hk.1.2⟩)) hg hat)
    have n5_:=Aside0.mk (Kd.R_after (ok:=(fun k_=>some k_≠(.slice Ao68 t183.length co68 : Value).ownBlock∧some k_≠(.slice (some ⟨go12,0,none⟩) y189.length co12 : Value).ownBlock)) (by (with_reducible repeat (first|apply Kd.R_alloc|apply Kd.R_drewN|apply Kd.R_drew));exact Kd.R_mono HO202.out (fun _ hk=>⟨⟨hk.1.1.2,hk.1.2⟩,hk.2⟩)) hg hat)
    have n6_:=Aside0.mk (hb)
    have n7_:=Aside0.mk (ho)
    clear BK174
    clear HO178
    clear BK182
    clear HO185
    clear HO191
    clear HO202
    clear HB
    clear HO196
    have BK174:=n0_
    have HO178:=n1_
    have BK182:=n2_
    have HO185:=n3_
    have HO191:=n4_
    have HO202:=n5_
    have HB:=n6_
    have HO199:=n7_
    clear n0_ n1_ n2_ n3_ n4_ n5_ n6_ n7_
    clear ho hb hg hat
    refine hK.out _ _ ⟨(blk_cell BK182.out 0).trans rfl,(blk_cell BK182.out 1).trans rfl,(blk_cell BK182.out 2).trans rfl,(blk_cell BK182.out 3).trans rfl⟩ (fun hHeld=>?_)
    clear hK K
    refine norm_ (a':=?_) ?_ ?_
    rotate_left
    ·show Act.put _ (some 40) _=_
     simp only [Act.put,List.setIfInBounds_toArray,List.set_cons_zero,List.set_cons_succ,i64_w,i32_w]
     rfl
    exact norm_ (by simp only [putAll,Act.put,List.setIfInBounds_toArray,List.set_cons_zero,List.set_cons_succ]) (hCont (v195,v198,v201) _ ⟨hHeld,(R_up HO178.out),(by (with_reducible repeat (first|apply Kd.R_alloc|apply Kd.R_drewN|apply Kd.R_drew));exact Kd.R_mono HO185.out (fun _ hk=>⟨hk.1.1,⟨hk.2,hk.1.2⟩⟩)),(by (with_reducible repeat (first|apply Kd.R_alloc|apply Kd.R_drewN|apply Kd.R_drew));exact Kd.R_mono HO191.out (fun _ hk=>⟨hk.1.1,⟨hk.2,hk.1.2⟩⟩)),(R_up HO199.out),(by (with_reducible repeat (first|apply Kd.R_alloc|apply Kd.R_drewN|apply Kd.R_drew));exact Kd.R_mono HO202.out (fun _ hk=>⟨hk.1.1,⟨hk.1.2,hk.2⟩⟩)),(blk_up BK174.out),(blk_up BK182.out),(below_go HB.out)⟩)
  ·skip
   refine Kd.R_lit_step k34 _ 34 ?hg (N:=42) ?hd (xs:=([(⟨0,(⟨#[]⟩ : ByteArray)⟩ : S34)] : List (S34))) (inner:=[.int .i64 0,.string (⟨#[]⟩ : ByteArray)]) (ok:=fun _=>True) (okp:=fun _=>True) ?hr ?hp (fun _ hk=>hk) trivial (Below.refl _ _) (Nat.le_refl _) (by simp) ?_;(case hd=>rfl);(case hg=>rfl);(case hr=>first|(go_simp;done)|(go_simp;rfl));(case hp=>exact (Reps.c2 (show Kd.M k34 _ _ _ (⟨0,(⟨#[]⟩ : ByteArray)⟩ : S34) [.int .i64 0,.string (⟨#[]⟩ : ByteArray)] from (k34_mkM _ _ _ (⟨0,(⟨#[]⟩ : ByteArray)⟩ : S34) )) (Reps.none _ _)))
   intro v201 w77 ho78 hb hg_ hnew_
   clear hg_ hnew_
   (first|rw [← Ny200.out] at ho78|(simp only [Int.reduceToNat] at ho78;rw [← Ny200.out] at ho78))
   have n0_:=Aside0.mk (Kd.R_below (R_up HO178.out) hb)
   have n1_:=Aside0.mk (Kd.R_elder' (R_up HO185.out) (Kd.R_base ho78) hb)
   have n2_:=Aside0.mk (Kd.R_elder' (R_up HO191.out) (Kd.R_base ho78) hb)
   have n3_:=Aside0.mk (Kd.R_lower (Kd.R_new' (Kd.R_new' ho78 (Kd.R_lt (R_up HO185.out))) (Kd.R_lt (R_up HO191.out))) (below_size (below_go HB.out)))
   have n4_:=Aside0.mk (blk_below (blk_up BK174.out) hb)
   have n5_:=Aside0.mk (blk_below (blk_up BK182.out) hb)
   have n6_:=Aside0.mk (below_step (below_go HB.out) hb)
   clear HO178
   clear HO185
   clear HO191
   clear BK174
   clear BK182
   clear HB
   have HO178:=n0_
   have HO185:=n1_
   have HO191:=n2_
   have HO202:=n3_
   have BK174:=n4_
   have BK182:=n5_
   have HB:=n6_
   clear n0_ n1_ n2_ n3_ n4_ n5_ n6_
   clear hb ho78
   refine hK.out _ _ ⟨(blk_cell BK182.out 0).trans rfl,(blk_cell BK182.out 1).trans rfl,(blk_cell BK182.out 2).trans rfl,(blk_cell BK182.out 3).trans rfl⟩ (fun hHeld=>?_)
   clear hK K
   refine norm_ (a':=?_) ?_ ?_
   rotate_left
   ·show Act.put _ (some 42) _=_
    simp only [Act.put,List.setIfInBounds_toArray,List.set_cons_zero,List.set_cons_succ,i64_w,i32_w]
    rfl
   refine one_ (i:=1) (N:=some 38) #[true,true,true,false,true,true,false,false,false] rfl rfl (one_of HT_.out (by kernel_rfl)) (by decide) (fun K hK=>?_)
   refine Kd.R_lit_step k34 _ 34 ?hg (N:=38) ?hd (xs:=([] : List (S34))) (inner:=[]) (ok:=fun _=>True) (okp:=fun _=>True) ?hr ?hp (fun _ hk=>hk) trivial (Below.refl _ _) (Nat.le_refl _) (by simp) ?_;(case hd=>rfl);(case hg=>rfl);(case hr=>first|(go_simp;done)|(go_simp;rfl));(case hp=>exact (Reps.none _ _))
   intro v195 w79 ho80 hb hg_ hnew_
   clear hg_ hnew_
   (first|rw [← Ny194.out] at ho80|(simp only [Int.reduceToNat] at ho80;rw [← Ny194.out] at ho80))
   have n0_:=Aside0.mk (Kd.R_below (R_up HO178.out) hb)
   have n1_:=Aside0.mk (Kd.R_elder' (R_up HO185.out) (Kd.R_base ho80) hb)
   have n2_:=Aside0.mk (Kd.R_elder' (R_up HO191.out) (Kd.R_base ho80) hb)
   have n3_:=Aside0.mk (Kd.R_elder' (R_up HO202.out) (Kd.R_base ho80) hb)
   have n4_:=Aside0.mk (Kd.R_lower (Kd.R_new' (Kd.R_new' (Kd.R_new' ho80 (Kd.R_lt (R_up HO185.out))) (Kd.R_lt (R_up HO191.out))) (Kd.R_lt (R_up HO202.out))) (below_size (below_go HB.out)))
   have n5_:=Aside0.mk (blk_below (blk_up BK174.out) hb)
   have n6_:=Aside0.mk (blk_below (blk_up BK182.out) hb)
   have n7_:=Aside0.mk (below_step (below_go HB.out) hb)
   clear HO178
   clear HO185
   clear HO191
   clear HO202
   clear BK174
   clear BK182
   clear HB
   have HO178:=n0_
   have HO185:=n1_
   have HO191:=n2_
   have HO202:=n3_
   have HO196:=n4_
   have BK174:=n5_
   have BK182:=n6_
   have HB:=n7_
   clear n0_ n1_ n2_ n3_ n4_ n5_ n6_ n7_
   clear hb ho80
   refine hK.out _ _ ⟨(blk_cell BK182.out 0).trans rfl,(blk_cell BK182.out 1).trans rfl,(blk_cell BK182.out 2).trans rfl,(blk_cell BK182.out 3).trans rfl⟩ (fun hHeld=>?_)
   clear hK K
   refine norm_ (a':=?_) ?_ ?_
   rotate_left
   ·show Act.put _ (some 38) _=_
    simp only [Act.put,List.setIfInBounds_toArray,List.set_cons_zero,List.set_cons_succ,i64_w,i32_w]
    rfl
   refine one_ (i:=3) (N:=some 40) #[true,true,true,true,true,true,false,false,false] rfl rfl (one_of HT_.out (by kernel_rfl)) (by decide) (fun K hK=>?_)
   refine Kd.R_append_rows_step k34 (w0:=w) w.heap.size (by rfl) (.tmp 38) (.tmp 39) 26 34 (.agg #[(.int .i64 0),(.string ⟨#[]⟩)]) 24 rfl Try.underlying26 info34 rfl (by decide) (by omega) v195 y194 t183 _ _ _ (fun k_=>some k_≠(.slice Ao68 t183.length co68 : Value).ownBlock∧some k_≠(.slice (some ⟨go12,0,none⟩) y189.length co12 : Value).ownBlock∧some k_≠(v201 : Value).ownBlock) (fun _=>False) rfl rfl ?aO ?aR (fun _ _ h=>h) (fun _ h=>h.elim) ?aF ?aB ?aS ?aL ?_
   (case aR=>repeat (first|exact (Kd.R_reads' HO185.out).2.2|(with_reducible refine Kd.C_alloc ?_ _)|(with_reducible refine Kd.C_drewN ?_ _)|(with_reducible refine Kd.C_drew ?_)))
   (case aB=>exact (below_go HB.out))
   (case aF=>exact (fun k_ hk=>⟨Kd.fresh' (Kd.R_lt (R_up HO185.out)) k_ hk,Kd.fresh' (Kd.R_lt (R_up HO191.out)) k_ hk,Kd.fresh' (Kd.R_lt (R_up HO202.out)) k_ hk⟩))
   (case aO=>exact (by (with_reducible repeat (first|apply Kd.R_alloc|apply Kd.R_drewN|apply Kd.R_drew));exact Kd.R_mono HO196.out (fun _ hk=>⟨hk.1.1.2,⟨hk.1.2,hk.2⟩⟩)))
   (case aS=>exact (below_size (below_go HB.out)))
   (case aL=>have:=LMc14.out;omega)
   intro v198 w81 ho hb hg hat
   rw [← Ny197.out] at ho
   have n0_:=Aside0.mk (blk_grown (blk_up BK174.out) hg (Kd.R_ne HO196.out BK174.out (by decide)))
   have n1_:=Aside0.mk (Kd.R_over' (R_up HO178.out) (Kd.R_typed (R_up HO196.out)) (by decide) hg)
   have n2_:=Aside0.mk (blk_grown (blk_up BK182.out) hg (Kd.R_ne HO196.out BK182.out (by decide)))
   have n3_:=Aside0.mk (Kd.R_after (ok:=(fun k_=>some k_≠(.slice (some ⟨go12,0,none⟩) y189.length co12 : Value).ownBlock∧some k_≠(v201 : Value).ownBlock)) (by (with_reducible repeat (first|apply Kd.R_alloc|apply Kd.R_drewN|apply Kd.R_drew));exact Kd.R_mono HO185.out (fun _ hk=>⟨⟨hk.1.1.2,hk.1.2⟩,hk.2⟩)) hg hat)
   have n4_:=Aside0.mk (Kd.R_after (ok:=(fun k_=>some k_≠(.slice Ao68 t183.length co68 : Value).ownBlock∧some k_≠(v201 : Value).ownBlock)) (R_up HO191.out) hg hat)
   have n5_:=Aside0.mk (Kd.R_after (ok:=(fun k_=>some k_≠(.slice Ao68 t183.length co68 : Value).ownBlock∧some k_≠(.slice (some ⟨go12,0,none⟩) y189.length co12 : Value).ownBlock)) (by (with_reducible repeat (first|apply Kd.R_alloc|apply Kd.R_drewN|apply Kd.R_drew));exact Kd.R_mono HO202.out (fun _ hk=>⟨⟨hk.1.1.2,hk.1.2⟩,hk.2⟩)) hg hat)
   have n6_:=Aside0.mk (hb)
   have n7_:=Aside0.mk (ho)
   clear BK174
   clear HO178
   clear BK182
   clear HO185
   clear HO191
   clear HO202
   clear HB
   clear HO196
   have BK174:=n0_
   have HO178:=n1_
   have BK182:=n2_
   have HO185:=n3_
   have HO191:=n4_
   have HO202:=n5_
   have HB:=n6_
   have HO199:=n7_
   clear n0_ n1_ n2_ n3_ n4_ n5_ n6_ n7_
   clear ho hb hg hat
   refine hK.out _ _ ⟨(blk_cell BK182.out 0).trans rfl,(blk_cell BK182.out 1).trans rfl,(blk_cell BK182.out 2).trans rfl,(blk_cell BK182.out 3).trans rfl⟩ (fun hHeld=>?_)
   clear hK K
   refine norm_ (a':=?_) ?_ ?_
   rotate_left
   ·show Act.put _ (some 40) _=_
    simp only [Act.put,List.setIfInBounds_toArray,List.set_cons_zero,List.set_cons_succ,i64_w,i32_w]
    rfl
   exact norm_ (by simp only [putAll,Act.put,List.setIfInBounds_toArray,List.set_cons_zero,List.set_cons_succ]) (hCont (v195,v198,v201) _ ⟨hHeld,(R_up HO178.out),(by (with_reducible repeat (first|apply Kd.R_alloc|apply Kd.R_drewN|apply Kd.R_drew));exact Kd.R_mono HO185.out (fun _ hk=>⟨hk.1.1,⟨hk.2,hk.1.2⟩⟩)),(by (with_reducible repeat (first|apply Kd.R_alloc|apply Kd.R_drewN|apply Kd.R_drew));exact Kd.R_mono HO191.out (fun _ hk=>⟨hk.1.1,⟨hk.2,hk.1.2⟩⟩)),(R_up HO199.out),(by (with_reducible repeat (first|apply Kd.R_alloc|apply Kd.R_drewN|apply Kd.R_drew));exact Kd.R_mono HO202.out (fun _ hk=>⟨hk.1.1,⟨hk.1.2,hk.2⟩⟩)),(blk_up BK174.out),(blk_up BK182.out),(below_go HB.out)⟩)
 rintro ⟨v195,v198,v201⟩ w82 ⟨hS_,h0_,h1_,h2_,h3_,h4_,h5_,h6_,h7_⟩
 have n0_ : Aside0 (Kd.R (Kd.int .i64) 3 w82 w.heap.size (fun _=>True) (.slice Ao64 t176.length co64) t176):=⟨h0_⟩
 have n1_ : Aside0 (Kd.R k34 34 w82 w.heap.size (fun k_=>some k_≠(.slice (some ⟨go12,0,none⟩) y189.length co12 : Value).ownBlock∧some k_≠(v198 : Value).ownBlock∧some k_≠(v201 : Value).ownBlock) (.slice Ao68 t183.length co68) t183):=⟨h1_⟩
 have n2_ : Aside0 (Kd.R k34 34 w82 w.heap.size (fun k_=>some k_≠(.slice Ao68 t183.length co68 : Value).ownBlock∧some k_≠(v198 : Value).ownBlock∧some k_≠(v201 : Value).ownBlock) (.slice (some ⟨go12,0,none⟩) y189.length co12) y192):=⟨h2_⟩
 have n3_ : Aside0 (Kd.R k34 34 w82 w.heap.size (fun k_=>some k_≠(.slice Ao68 t183.length co68 : Value).ownBlock∧some k_≠(.slice (some ⟨go12,0,none⟩) y189.length co12 : Value).ownBlock∧some k_≠(v201 : Value).ownBlock) v198 y197):=⟨h3_⟩
 have n4_ : Aside0 (Kd.R k34 34 w82 w.heap.size (fun k_=>some k_≠(.slice Ao68 t183.length co68 : Value).ownBlock∧some k_≠(.slice (some ⟨go12,0,none⟩) y189.length co12 : Value).ownBlock∧some k_≠(v198 : Value).ownBlock) v201 y200):=⟨h4_⟩
 have n5_ : Aside0 (w82.heap[gb174]?=some (.cells #[.int .u8 a0_0,.int .u8 a0_1,.int .u8 a0_2,.int .u8 a0_3,.int .u8 a0_4,.int .u8 a0_5,.int .u8 a0_6,.int .u8 a0_7,.int .u8 a0_8,.int .u8 a0_9,.int .u8 a0_10,.int .u8 a0_11] 24 (0,0))):=⟨h5_⟩
 have n6_ : Aside0 (w82.heap[gb182]?=some (.cells #[.slice Ao64 t176.length co64,.int .i64 t179,.int .i64 t180,.int .i64 t181] 30 (0,0))):=⟨h6_⟩
 have n7_ : Aside0 (Below w.heap.size w w82):=⟨h7_⟩
 clear HO178
 clear HO185
 clear HO191
 clear BK174
 clear BK182
 clear HB
 clear h0_ h1_ h2_ h3_ h4_ h5_ h6_ h7_
 have HO178:=n0_
 have HO185:=n1_
 have HO191:=n2_
 have HO199:=n3_
 have HO202:=n4_
 have BK174:=n5_
 have BK182:=n6_
 have HB:=n7_
 clear n0_ n1_ n2_ n3_ n4_ n5_ n6_ n7_
 have hHeld : w82.cell? ⟨gb182,0,none⟩=some (.slice Ao64 t176.length co64)∧w82.cell? ⟨gb182,1,none⟩=some (.int .i64 t179)∧w82.cell? ⟨gb182,2,none⟩=some (.int .i64 t180)∧w82.cell? ⟨gb182,3,none⟩=some (.int .i64 t181):=hS_
 obtain ⟨Ao84,co84,eo84⟩:=Kd.R_slice HO202.out
 (first|subst eo84|(injection eo84 with f1_ f2_ f3_;have f4_:=f1_.symm;have f5_:=f3_.symm;clear f1_ f2_ f3_;subst f4_;subst f5_))
 refine norm_ (a':=?_) ?_ ?_
 rotate_left
 ·simp only [putAll,Act.put,List.setIfInBounds_toArray,List.set_cons_zero,List.set_cons_succ]
  rfl
 refine one_ (i:=6) (N:=some 43) #[true,true,true,true,true,true,true,false,false] rfl rfl (one_of HT_.out (by kernel_rfl)) (by decide) (fun K hK=>?_)
 refine Kd.R_append_rows_step k34 (w0:=w) w.heap.size (by rfl) (.tmp 40) (.tmp 42) 26 34 (.agg #[(.int .i64 0),(.string ⟨#[]⟩)]) 24 rfl Try.underlying26 info34 rfl (by decide) (by omega) v198 y197 y200 _ _ _ (fun k_=>some k_≠(.slice Ao68 t183.length co68 : Value).ownBlock∧some k_≠(.slice (some ⟨go12,0,none⟩) y189.length co12 : Value).ownBlock∧some k_≠(.slice Ao84 y200.length co84 : Value).ownBlock) (fun _=>False) rfl rfl ?aO ?aR (fun _ _ h=>h) (fun _ h=>h.elim) ?aF ?aB ?aS ?aL ?_
 (case aR=>repeat (first|exact (Kd.R_reads' HO202.out).2.2|(with_reducible refine Kd.C_alloc ?_ _)|(with_reducible refine Kd.C_drewN ?_ _)|(with_reducible refine Kd.C_drew ?_)))
 (case aB=>exact (below_go HB.out))
 (case aF=>exact (fun k_ hk=>⟨Kd.fresh' (Kd.R_lt (R_up HO185.out)) k_ hk,Kd.fresh' (Kd.R_lt (R_up HO191.out)) k_ hk,Kd.fresh' (Kd.R_lt (R_up HO202.out)) k_ hk⟩))
 (case aO=>exact (R_up HO199.out))
 (case aS=>exact (below_size (below_go HB.out)))
 (case aL=>have:=LMc15.out;omega)
 intro v204 w83 ho hb hg hat
 rw [← Ny203.out] at ho
 have n0_:=Aside0.mk (blk_grown (blk_up BK174.out) hg (Kd.R_ne HO199.out BK174.out (by decide)))
 have n1_:=Aside0.mk (Kd.R_over' (R_up HO178.out) (Kd.R_typed (R_up HO199.out)) (by decide) hg)
 have n2_:=Aside0.mk (blk_grown (blk_up BK182.out) hg (Kd.R_ne HO199.out BK182.out (by decide)))
 have n3_:=Aside0.mk (Kd.R_after (ok:=(fun k_=>some k_≠(.slice (some ⟨go12,0,none⟩) y189.length co12 : Value).ownBlock∧some k_≠(.slice Ao84 y200.length co84 : Value).ownBlock)) (by (with_reducible repeat (first|apply Kd.R_alloc|apply Kd.R_drewN|apply Kd.R_drew));exact Kd.R_mono HO185.out (fun _ hk=>⟨⟨hk.1,hk.2.2⟩,hk.2.1⟩)) hg hat)
 have n4_:=Aside0.mk (Kd.R_after (ok:=(fun k_=>some k_≠(.slice Ao68 t183.length co68 : Value).ownBlock∧some k_≠(.slice Ao84 y200.length co84 : Value).ownBlock)) (by (with_reducible repeat (first|apply Kd.R_alloc|apply Kd.R_drewN|apply Kd.R_drew));exact Kd.R_mono HO191.out (fun _ hk=>⟨⟨hk.1,hk.2.2⟩,hk.2.1⟩)) hg hat)
 have n5_:=Aside0.mk (Kd.R_after (ok:=(fun k_=>some k_≠(.slice Ao68 t183.length co68 : Value).ownBlock∧some k_≠(.slice (some ⟨go12,0,none⟩) y189.length co12 : Value).ownBlock)) (by (with_reducible repeat (first|apply Kd.R_alloc|apply Kd.R_drewN|apply Kd.R_drew));exact Kd.R_mono HO202.out (fun _ hk=>⟨⟨hk.1,hk.2.1⟩,hk.2.2⟩)) hg hat)
 have n6_:=Aside0.mk (hb)
 have n7_:=Aside0.mk (ho)
 clear BK174
 clear HO178
 clear BK182
 clear HO185
 clear HO191
 clear HO202
 clear HB
 clear HO199
 have BK174:=n0_
 have HO178:=n1_
 have BK182:=n2_
 have HO185:=n3_
 have HO191:=n4_
 have HO202:=n5_
 have HB:=n6_
 have HO205:=n7_
 clear n0_ n1_ n2_ n3_ n4_ n5_ n6_ n7_
 clear ho hb hg hat
 obtain ⟨Ao85,co85,eo85⟩:=Kd.R_slice HO205.out
 (first|subst eo85|(injection eo85 with f1_ f2_ f3_;have f4_:=f1_.symm;have f5_:=f3_.symm;clear f1_ f2_ f3_;subst f4_;subst f5_))
 refine hK.out _ _ ⟨(blk_cell BK182.out 0).trans rfl,(blk_cell BK182.out 1).trans rfl,(blk_cell BK182.out 2).trans rfl,(blk_cell BK182.out 3).trans rfl⟩ (fun hHeld=>?_)
 clear hK K
 refine norm_ (a':=?_) ?_ ?_
 rotate_left
 ·show Act.put _ (some 43) _=_
  simp only [Act.put,List.setIfInBounds_toArray,List.set_cons_zero,List.set_cons_succ,i64_w,i32_w]
  rfl
 refine one_ (i:=7) (N:=some 44) #[true,true,true,true,true,true,true,true,false] rfl rfl (one_of HT_.out (by kernel_rfl)) (by decide) (fun K hK=>?_)
 refine goes_ Try.func12 (by kernel_rfl) rfl #[.agg #[.slice Ao64 t176.length co64,.int .i64 t179,.int .i64 t180,.int .i64 t181],.slice Ao85 y203.length co85] (by rfl) rfl rfl (by (try simp only [List.map_toArray,List.map_cons,List.map_nil]);first|done|rfl|(simp only [List.length_drop,List.length_take];rfl)) ?_
 with_reducible refine (schema_Row.calls _ _ t176 t179 t180 t181 _ _ y203 false _ ?side1 ?side2 ?side3 ?side4 A16.out).mono ?_
 (case side1=>repeat (first|exact (Kd.R_reads' HO178.out).2.2|(with_reducible refine Kd.C_alloc ?_ _)|(with_reducible refine Kd.C_drewN ?_ _)|(with_reducible refine Kd.C_drew ?_)))
 (case side2=>exact (Kd.R_reads' HO178.out).2.1)
 (case side3=>repeat (first|exact (Kd.R_reads' HO205.out).2.2|(with_reducible refine Kd.C_alloc ?_ _)|(with_reducible refine Kd.C_drewN ?_ _)|(with_reducible refine Kd.C_drew ?_)))
 (case side4=>exact (Kd.R_reads' HO205.out).2.1)
 rintro e w86 ⟨rfl,hb⟩
 refine ⟨_,rfl,?_⟩
 have n0_:=Aside0.mk (Kd.R_below (R_up HO178.out) hb)
 have n1_:=Aside0.mk (Kd.R_below (R_up HO185.out) hb)
 have n2_:=Aside0.mk (Kd.R_below (R_up HO191.out) hb)
 have n3_:=Aside0.mk (Kd.R_below (R_up HO202.out) hb)
 have n4_:=Aside0.mk (Kd.R_below (R_up HO205.out) hb)
 have n5_:=Aside0.mk (blk_below (blk_up BK174.out) hb)
 have n6_:=Aside0.mk (blk_below (blk_up BK182.out) hb)
 have n7_:=Aside0.mk (below_step (below_go HB.out) hb)
 clear HO178
 clear HO185
 clear HO191
 clear HO202
 clear HO205
 clear BK174
 clear BK182
 clear HB
 have HO178:=n0_
 have HO185:=n1_
 have HO191:=n2_
 have HO202:=n3_
 have HO205:=n4_
 have BK174:=n5_
 have BK182:=n6_
 have HB:=n7_
 clear n0_ n1_ n2_ n3_ n4_ n5_ n6_ n7_
 (try clear hb)
 (try clear hb2)
 (try clear hk)
 (try clear hi)
 refine hK.out _ _ ⟨(blk_cell BK182.out 0).trans rfl,(blk_cell BK182.out 1).trans rfl,(blk_cell BK182.out 2).trans rfl,(blk_cell BK182.out 3).trans rfl⟩ (fun hHeld=>?_)
 clear hK K
 refine norm_ (a':=?_) ?_ ?_
 rotate_left
 ·show Act.put _ (some 44) _=_
  simp only [Act.put,List.setIfInBounds_toArray,List.set_cons_zero,List.set_cons_succ,i64_w,i32_w]
  rfl
 refine pure_ (i:=8) (N:=some 13) (v:=?_) (a':=?_) #[true,true,true,true,true,true,true,true,true] rfl rfl (any_of HT_.out (by kernel_rfl)) (fun _ _ _ h=>h) (Or.inl ⟨by rfl,?_⟩) ?_ ?_
 rotate_left;(intro w';go_simp;with_reducible rfl);rotate_left;(simp only [Act.put,List.setIfInBounds_toArray,List.set_cons_zero,List.set_cons_succ,i64_w,i32_w];rfl)
 refine done_ (done_of HT_.out (by kernel_rfl)) ?_
 (try clear hHeld)
 try go_wp2
 have n0_:=Aside0.mk (Kd.R_drew HO178.out)
 have n1_:=Aside0.mk (Kd.R_drew HO185.out)
 have n2_:=Aside0.mk (Kd.R_drew HO191.out)
 have n3_:=Aside0.mk (Kd.R_drew HO202.out)
 have n4_:=Aside0.mk (Kd.R_drew HO205.out)
 have n5_:=Aside0.mk (blk_drew BK174.out)
 have n6_:=Aside0.mk (blk_drew BK182.out)
 have n7_:=Aside0.mk (below_drew1 HB.out)
 clear HO178
 clear HO185
 clear HO191
 clear HO202
 clear HO205
 clear BK174
 clear BK182
 clear HB
 have HO178:=n0_
 have HO185:=n1_
 have HO191:=n2_
 have HO202:=n3_
 have HO205:=n4_
 have BK174:=n5_
 have BK182:=n6_
 have HB:=n7_
 clear n0_ n1_ n2_ n3_ n4_ n5_ n6_ n7_
 have q88 : ((ji17) : Int)≤((t183.length : Int) : Int):=of_decide_eq_true (by first|(with_reducible assumption)|assumption)
 obtain ⟨i088,hi088,_,hsz88,_⟩:=info_parts info34
 have hroom88 : t183.length≤co68:=(Kd.R_reads' HO185.out).2.1
 have hC88 : Kd.F k34 _ _ Ao68 t183.length t183:=(Kd.V_at (base:=w.heap.size) (Kd.R_V (Kd.R_types (Kd.R_types (Kd.R_apart' (HO185.out) (Kd.R_typed HO178.out) (by decide)) BK174.out (by decide)) BK182.out (by decide)))).2.2
 have hcut88:=cut_to (P:=Try.prog) 26 34 .i64 Try.underlying26 hi088 Ao68 t183.length co68 (ji17) (of_decide_eq_true (by first|(with_reducible assumption)|assumption)) q88 hroom88
 have hr88:=Kd.F_take (m:=((ji17) : Int).toNat) hC88 (by omega)
 have hy88 : y207.length=((ji17) : Int).toNat:=(by rw [Ny207.out,List.length_take];omega)
 rw [← Ny207.out] at hr88
 rw [← hy88] at hcut88
 have HO211:=Aside0.mk (show Kd.V k34 34 _ w.heap.size _ (.slice Ao68 y207.length co68) y207 from Kd.V_mk (by omega) hr88)
 have HC211:=Aside0.mk (show y207.length≤co68 from by omega)
 clear hr88 hC88 hroom88 hi088 hsz88
 have KY88:=Aside0.mk hy88
 clear hy88
 replace q88:=eq_true q88
 refine start_ (n:=8) (S:=fun w'=>w'.cell? ⟨gb182,0,none⟩=some (.slice Ao64 t176.length co64)∧w'.cell? ⟨gb182,1,none⟩=some (.int .i64 t179)∧w'.cell? ⟨gb182,2,none⟩=some (.int .i64 t180)∧w'.cell? ⟨gb182,3,none⟩=some (.int .i64 t181)) (ds:=[]) #[false,false,false,false,false,false,false,false] (by kernel_rfl) rfl rfl ⟨(blk_cell BK182.out 0).trans rfl,(blk_cell BK182.out 1).trans rfl,(blk_cell BK182.out 2).trans rfl,(blk_cell BK182.out 3).trans rfl⟩ (fun hHeld=>?_);refine with_tabW thresherlaw04_SchemaRows.tab9 thresherlaw04_SchemaRows.bits9 (fun HT_ HW_=>?_)
 generalize w86.drew=w87 at HO178 HO185 HO191 HO202 HO205 BK174 BK182 HB HO211 hHeld ⊢
 refine pure_ (i:=1) (N:=some 46) (v:=?_) (a':=?_) #[false,true,false,false,false,false,false,false] rfl rfl (any_of HT_.out (by kernel_rfl)) (fun _ _ _ h=>h) (Or.inl ⟨by rfl,?_⟩) ?_ ?_
 rotate_left;(intro w';go_simp;with_reducible rfl);rotate_left;(simp only [Act.put,List.setIfInBounds_toArray,List.set_cons_zero,List.set_cons_succ,i64_w,i32_w];rfl)
 refine pure_ (i:=2) (N:=some 47) (v:=?_) (a':=?_) #[false,true,true,false,false,false,false,false] rfl rfl (any_of HT_.out (by kernel_rfl)) (fun _ _ _ h=>h) (Or.inl ⟨by rfl,?_⟩) ?_ ?_
 rotate_left;(intro w';go_simp;with_reducible rfl);rotate_left;(simp only [Act.put,List.setIfInBounds_toArray,List.set_cons_zero,List.set_cons_succ,i64_w,i32_w];rfl)
 refine pure_ (i:=3) (N:=some 48) (v:=?_) (a':=?_) #[false,true,true,true,false,false,false,false] rfl rfl (any_of HT_.out (by kernel_rfl)) (fun _ _ _ h=>h) (Or.inl ⟨by rfl,?_⟩) ?_ ?_
 rotate_left;(intro w';go_simp;with_reducible rfl);rotate_left;(simp only [Act.put,List.setIfInBounds_toArray,List.set_cons_zero,List.set_cons_succ,i64_w,i32_w];rfl)
 refine pure_ (i:=4) (N:=some 49) (v:=?_) (a':=?_) #[false,true,true,true,true,false,false,false] rfl rfl (any_of HT_.out (by kernel_rfl)) (fun _ _ _ h=>h) (Or.inl ⟨by rfl,?_⟩) ?_ ?_
 rotate_left;(intro w';go_simp;with_reducible rfl);rotate_left;(simp only [Act.put,List.setIfInBounds_toArray,List.set_cons_zero,List.set_cons_succ,i64_w,i32_w];rfl)
 refine pure_ (i:=5) (N:=some 50) (v:=?_) (a':=?_) #[false,true,true,true,true,true,false,false] rfl rfl (any_of HT_.out (by kernel_rfl)) (fun _ _ _ h=>h) (Or.inl ⟨by rfl,?_⟩) ?_ ?_
 rotate_left;(intro w';go_simp;with_reducible rfl);rotate_left;(simp only [Act.put,List.setIfInBounds_toArray,List.set_cons_zero,List.set_cons_succ,i64_w,i32_w];rfl)
 refine take_ (i:=0) (N:=some 45) (v:=?_) (a':=?_) #[true,true,true,true,true,true,false,false] rfl rfl (take_ofW HT_.out HW_.out (by kernel_rfl)) (fun _ _ _ h=>h) (Or.inl ⟨by rfl,?_⟩) hHeld ?_ ?_
 rotate_left;(rintro w' ⟨s0,s1,s2,s3⟩;go_simp;with_reducible rfl);rotate_left;(simp only [Act.put,List.setIfInBounds_toArray,List.set_cons_zero,List.set_cons_succ,i64_w,i32_w];rfl)
 refine one_ (i:=6) (N:=some 51) #[true,true,true,true,true,true,true,false] rfl rfl (one_of HT_.out (by kernel_rfl)) (by decide) (fun K hK=>?_)
 refine goes_ Try.func12 (by kernel_rfl) rfl #[.agg #[.slice Ao64 t176.length co64,.int .i64 t179,.int .i64 t180,.int .i64 t181],.slice Ao68 y207.length co68] (by rfl) rfl rfl (by (try simp only [List.map_toArray,List.map_cons,List.map_nil]);first|done|rfl|(simp only [List.length_drop,List.length_take];rfl)) ?_
 with_reducible refine (schema_Row.calls _ _ t176 t179 t180 t181 _ _ y207 true _ ?side1 ?side2 ?side3 ?side4 A20.out).mono ?_
 (case side1=>repeat (first|exact (Kd.R_reads' HO178.out).2.2|(with_reducible refine Kd.C_alloc ?_ _)|(with_reducible refine Kd.C_drewN ?_ _)|(with_reducible refine Kd.C_drew ?_)))
 (case side2=>exact (Kd.R_reads' HO178.out).2.1)
 (case side3=>repeat (first|exact (Kd.V_reads' HO211.out).2.2|(with_reducible refine Kd.C_alloc ?_ _)|(with_reducible refine Kd.C_drewN ?_ _)|(with_reducible refine Kd.C_drew ?_)))
 (case side4=>exact (Kd.V_reads' HO211.out).2.1)
 rintro e w89 ⟨rfl,hb⟩
 refine ⟨_,rfl,?_⟩
 have n0_:=Aside0.mk (Kd.R_below (R_up HO178.out) hb)
 have n1_:=Aside0.mk (Kd.R_below (R_up HO185.out) hb)
 have n2_:=Aside0.mk (Kd.R_below (R_up HO191.out) hb)
 have n3_:=Aside0.mk (Kd.R_below (R_up HO202.out) hb)
 have n4_:=Aside0.mk (Kd.R_below (R_up HO205.out) hb)
 have n5_:=Aside0.mk (Kd.V_below (V_up HO211.out) hb)
 have n6_:=Aside0.mk (blk_below (blk_up BK174.out) hb)
 have n7_:=Aside0.mk (blk_below (blk_up BK182.out) hb)
 have n8_:=Aside0.mk (below_step (below_go HB.out) hb)
 clear HO178
 clear HO185
 clear HO191
 clear HO202
 clear HO205
 clear HO211
 clear BK174
 clear BK182
 clear HB
 have HO178:=n0_
 have HO185:=n1_
 have HO191:=n2_
 have HO202:=n3_
 have HO205:=n4_
 have HO211:=n5_
 have BK174:=n6_
 have BK182:=n7_
 have HB:=n8_
 clear n0_ n1_ n2_ n3_ n4_ n5_ n6_ n7_ n8_
 (try clear hb)
 (try clear hb2)
 (try clear hk)
 (try clear hi)
 refine hK.out _ _ ⟨(blk_cell BK182.out 0).trans rfl,(blk_cell BK182.out 1).trans rfl,(blk_cell BK182.out 2).trans rfl,(blk_cell BK182.out 3).trans rfl⟩ (fun hHeld=>?_)
 clear hK K
 refine norm_ (a':=?_) ?_ ?_
 rotate_left
 ·show Act.put _ (some 51) _=_
  simp only [Act.put,List.setIfInBounds_toArray,List.set_cons_zero,List.set_cons_succ,i64_w,i32_w]
  rfl
 refine pure_ (i:=7) (N:=some 14) (v:=?_) (a':=?_) #[true,true,true,true,true,true,true,true] rfl rfl (any_of HT_.out (by kernel_rfl)) (fun _ _ _ h=>h) (Or.inl ⟨by rfl,?_⟩) ?_ ?_
 rotate_left;(intro w';go_simp;with_reducible rfl);rotate_left;(simp only [Act.put,List.setIfInBounds_toArray,List.set_cons_zero,List.set_cons_succ,i64_w,i32_w];rfl)
 refine done_ (done_of HT_.out (by kernel_rfl)) ?_
 (try clear hHeld)
 have hcz90_0 : w89.cell? ⟨gb182,0,none⟩=some (.slice Ao64 t176.length co64):=(blk_cell BK182.out 0).trans rfl
 have hcz90_1 : w89.cell? ⟨gb182,1,none⟩=some (.int .i64 t179):=(blk_cell BK182.out 1).trans rfl
 have hcz90_2 : w89.cell? ⟨gb182,2,none⟩=some (.int .i64 t180):=(blk_cell BK182.out 2).trans rfl
 have hcz90_3 : w89.cell? ⟨gb182,3,none⟩=some (.int .i64 t181):=(blk_cell BK182.out 3).trans rfl
 have hfz90_0:=blk_frozen BK182.out 0
 have hfz90_1:=blk_frozen BK182.out 1
 have hfz90_2:=blk_frozen BK182.out 2
 have hfz90_3:=blk_frozen BK182.out 3
 try go_wp2_with (first|((with_reducible refine gate_callee (f:=12) rfl ?_);refine goesL_ (some 54) rfl rfl Try.func12 (by kernel_rfl) rfl #[.agg #[.slice Ao64 t176.length co64,.int .i64 t179,.int .i64 t180,.int .i64 t181],.slice (some ⟨go12,0,none⟩) y192.length co12] rfl (by (try simp only [List.map_toArray,List.map_cons,List.map_nil]);first|done|(rw [show y192.length=y189.length from (Kd.R_reads' HO191.out).1.symm] <;> rfl)|rfl|(simp only [List.length_drop,List.length_take];rfl)) ?_;(with_reducible refine (schema_Row.calls _ _ t176 t179 t180 t181 _ _ y192 t213 _ ?side1 ?side2 ?side3 ?side4 A21.out).mono ?_);(case side1=>repeat (first|exact (Kd.R_reads' HO178.out).2.2|(with_reducible refine Kd.C_alloc ?_ _)|(with_reducible refine Kd.C_drewN ?_ _)|(with_reducible refine Kd.C_drew ?_)));(case side2=>exact (Kd.R_reads' HO178.out).2.1);(case side3=>repeat (first|exact (Kd.R_reads' HO191.out).2.2|(with_reducible refine Kd.C_alloc ?_ _)|(with_reducible refine Kd.C_drewN ?_ _)|(with_reducible refine Kd.C_drew ?_)));(case side4=>rw [show y192.length=y189.length from (Kd.R_reads' HO191.out).1.symm];exact (Kd.R_reads' HO191.out).2.1);rintro e w91 ⟨rfl,hb⟩;refine ⟨_,rfl,?_⟩;have n0_:=Aside0.mk (Kd.R_below (R_up HO178.out) hb);have n1_:=Aside0.mk (Kd.R_below (R_up HO185.out) hb);have n2_:=Aside0.mk (Kd.R_below (R_up HO191.out) hb);have n3_:=Aside0.mk (Kd.R_below (R_up HO202.out) hb);have n4_:=Aside0.mk (Kd.R_below (R_up HO205.out) hb);have n5_:=Aside0.mk (Kd.V_below (V_up HO211.out) hb);have n6_:=Aside0.mk (blk_below (blk_up BK174.out) hb);have n7_:=Aside0.mk (blk_below (blk_up BK182.out) hb);have n8_:=Aside0.mk (below_step (below_go HB.out) hb);clear HO178;clear HO185;clear HO191;clear HO202;clear HO205;clear HO211;clear BK174;clear BK182;clear HB;have HO178:=n0_;have HO185:=n1_;have HO191:=n2_;have HO202:=n3_;have HO205:=n4_;have HO211:=n5_;have BK174:=n6_;have BK182:=n7_;have HB:=n8_;clear n0_ n1_ n2_ n3_ n4_ n5_ n6_ n7_ n8_;(try clear hb);(try clear hb2);(try clear hk);(try clear hi)))
 go_ret
 exact ⟨by first|rfl|(simp [errW_none,errW_some] <;> rfl)|(simp only [← hji9,← hji17];first|rfl|(simp [errW_none,errW_some] <;> rfl))|(simp [*,errW_none,errW_some] <;> rfl),by repeat (first|(with_reducible first|exact HB.out|apply below_alloc|apply pw_below_drewN|apply below_drew1|refine below_set ?_ GE174.out|refine below_set ?_ GE182.out)|exact HB.out)⟩
end Go.Proofs.Ytkodpbellndelaa.P

