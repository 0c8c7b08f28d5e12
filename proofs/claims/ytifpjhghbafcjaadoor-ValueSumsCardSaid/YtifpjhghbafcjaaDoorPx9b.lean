-- Written by wip/tools/myprint.py over the kit's print (a program's print; Lean checks it).
import Derived.Test.YtifpjhghbafcjaaDoorPx9a
import Derived.Test.YtifpjhghbafcjaaDoorPx0
import Derived.Test.YtifpjhghbafcjaaDoorPx1
import Derived.Test.YtifpjhghbafcjaaDoorPx4
import Derived.Test.YtifpjhghbafcjaaDoorPx8
namespace Go.Proofs.YtifpjhghbafcjaaDoor.P
open Go.RowKit Go.Proofs.YtifpjhghbafcjaaDoorW.PrintWords Go.Proofs.YtifpjhghbafcjaaDoorW.PrintLast Go.Proofs.YtifpjhghbafcjaaDoorW.PrintMore
attribute [local go_sem] max2_int min2_int max_two min_two max_three min_three max_four min_four   -- for this text's walks alone
set_option linter.unusedVariables false
set_option linter.unusedSimpArgs false
attribute [local go_sem high] eqA23
set_option maxHeartbeats 8000000 in
set_option maxRecDepth 100000 in
theorem thresherlaw03_ValueSums.calls_rest0 : thresherlaw03_ValueSums.calls_part.1 := by
 intro k a0 a1_0 a1_1 a1_2 a1_3 a1_4 a1_5 r w HTAB_ hfl_ hu24 hu23 HB t177 A3 t178 A4 t179 t180 A5 t182 t183 A6 t185 t186 A7 t188 t189 A8 t190 t191 A9 t193 t194 A10 t195 t196 H A11 c12b0 c60
 rw [if_neg c60] at H
 have c60b0 : (t178 == 3)=false:=beq_eq_false_iff_ne.mpr c60
 have c60b1 : (t178 != 3)=true:=bne_iff_ne.mpr c60
 have HC157:=Aside0.mk H
 clear H
 go_enter Tryd.func6,Tryd.ntmps6
 try go_wp2_with (first|((with_reducible refine gate_dst (N:=3) rfl ?_);refine box_event ?hg (N:=3) ?hd (cs:=#[.int .i64 a1_0,.string a1_1,.int .i64 a1_2,.string a1_3,.int .i64 a1_4,.string a1_5]) (t:=24) ?hr ?_;(case hd=>rfl);(case hg=>rfl);(case hr=>first|(go_simp;done)|(go_simp;rfl));intro gb176 hg w158 hbox hb;have n0_:=Aside0.mk (below_step (below_up HB.out) hb);have n1_:=Aside0.mk (hbox);have n2_:=Aside0.mk ((by rw [hg];exact (below_size (below_up HB.out)) : w.heap.size≤gb176));have n3_:=Aside0.mk ((by rw [hg];exact (below_size (below_up HB.out)) : w.heap.size≤gb176));clear HB;have HB:=n0_;have BK176:=n1_;have GW176:=n2_;have GE176:=n3_;clear n0_ n1_ n2_ n3_;clear hb hbox hg)|((with_reducible refine gate_callee (f:=9) rfl ?_);refine goesL_ (some 12) rfl rfl Tryd.func9 (by kernel_rfl) rfl #[] rfl (by (try simp only [List.map_toArray,List.map_cons,List.map_nil]);first|done|rfl|(simp only [List.length_drop,List.length_take];rfl)) ?_;(with_reducible refine (thresherlaw03_shown.calls k  t177 _ A3.out (HTAB_.out.on (below_go HB.out))).mono ?_);rintro e w159 ⟨rfl,hb⟩;refine ⟨_,rfl,?_⟩;have n0_:=Aside0.mk (blk_below (blk_up BK176.out) hb);have n1_:=Aside0.mk (below_step (below_go HB.out) hb);clear BK176;clear HB;have BK176:=n0_;have HB:=n1_;clear n0_ n1_;(try clear hb);(try clear hb2);(try clear hk);(try clear hi))|((with_reducible refine gate_callee (f:=10) rfl ?_);refine goesL_ (some 14) rfl rfl Tryd.func10 (by kernel_rfl) rfl #[.int .u8 a0] rfl (by (try simp only [List.map_toArray,List.map_cons,List.map_nil]);first|done|rfl|(simp only [List.length_drop,List.length_take];rfl)) ?_;(with_reducible refine (thresherlaw03_kind.calls a0 t178 _ A4.out).mono ?_);rintro e w' ⟨rfl,⟨nd,rfl⟩⟩;refine ⟨_,rfl,?_⟩;(try (rw [drewN_self w159];generalize hq_ : World.drewN w159 _=w159;have n0_ : Aside0 (w159.heap[gb176]?=some (.cells #[.int .i64 a1_0,.string a1_1,.int .i64 a1_2,.string a1_3,.int .i64 a1_4,.string a1_5] 24 (0,0))):=⟨by rw [← hq_];exact (blk_up BK176.out)⟩;have n1_ : Aside0 (Below w.heap.size w w159):=⟨by rw [← hq_];exact (below_go HB.out)⟩;clear BK176 HB hq_;have BK176:=n0_;have HB:=n1_;clear n0_ n1_));have hcz160_0 : w159.cell? ⟨gb176,0,none⟩=some (.int .i64 a1_0):=(blk_cell BK176.out 0).trans rfl;have hcz160_1 : w159.cell? ⟨gb176,1,none⟩=some (.string a1_1):=(blk_cell BK176.out 1).trans rfl;have hcz160_2 : w159.cell? ⟨gb176,2,none⟩=some (.int .i64 a1_2):=(blk_cell BK176.out 2).trans rfl;have hcz160_3 : w159.cell? ⟨gb176,3,none⟩=some (.string a1_3):=(blk_cell BK176.out 3).trans rfl;have hcz160_4 : w159.cell? ⟨gb176,4,none⟩=some (.int .i64 a1_4):=(blk_cell BK176.out 4).trans rfl;have hcz160_5 : w159.cell? ⟨gb176,5,none⟩=some (.string a1_5):=(blk_cell BK176.out 5).trans rfl;have hfz160_0:=blk_frozen BK176.out 0;have hfz160_1:=blk_frozen BK176.out 1;have hfz160_2:=blk_frozen BK176.out 2;have hfz160_3:=blk_frozen BK176.out 3;have hfz160_4:=blk_frozen BK176.out 4;have hfz160_5:=blk_frozen BK176.out 5)|((with_reducible refine gate_callee (f:=11) rfl ?_);refine goesL_ (some 18) rfl rfl Tryd.func11 (by kernel_rfl) rfl #[.int .i64 t178,.agg #[.int .i64 a1_0,.string a1_1]] rfl (by (try simp only [List.map_toArray,List.map_cons,List.map_nil]);first|done|rfl|(simp only [List.length_drop,List.length_take];rfl)) ?_;(with_reducible refine (thresherlaw03_fit.calls t178 a1_0 a1_1 t179 t180 _ A5.out).mono ?_);rintro e w161 ⟨rfl,hb⟩;refine ⟨_,rfl,?_⟩;have n0_:=Aside0.mk (blk_below (blk_up BK176.out) hb);have n1_:=Aside0.mk (below_step (below_go HB.out) hb);clear BK176;clear HB;have BK176:=n0_;have HB:=n1_;clear n0_ n1_;(try clear hb);(try clear hb2);(try clear hk);(try clear hi))|((with_reducible refine gate_dst (N:=7) rfl ?_);refine box_event ?hg (N:=7) ?hd (cs:=#[.int .i64 0,.string (⟨#[]⟩ : ByteArray)]) (t:=23) ?hr ?_;(case hd=>rfl);(case hg=>rfl);(case hr=>first|(go_simp;done)|(go_simp;rfl));intro gb181 hg w162 hbox hb;have n0_:=Aside0.mk (blk_below (blk_up BK176.out) hb);have n1_:=Aside0.mk (below_step (below_go HB.out) hb);have n2_:=Aside0.mk (hbox);have n3_:=Aside0.mk ((by rw [hg];exact (below_size (below_go HB.out)) : w.heap.size≤gb181));have n4_:=Aside0.mk ((by rw [hg];exact (below_size (below_go HB.out)) : w.heap.size≤gb181));have n5_:=Aside0.mk ((by rw [hg];exact Nat.ne_of_lt (blk_lt (blk_up BK176.out)) : gb176≠gb181));have n6_:=Aside0.mk ((by rw [hg];exact Nat.ne_of_gt (blk_lt (blk_up BK176.out)) : gb181≠gb176));clear BK176;clear HB;have BK176:=n0_;have HB:=n1_;have BK181:=n2_;have GW181:=n3_;have GE181:=n4_;have NB176_181:=n5_;have NB181_176:=n6_;clear n0_ n1_ n2_ n3_ n4_ n5_ n6_;clear hb hbox hg;have hnb163:=NB181_176.out;have hnc163:=NB176_181.out;have hcz164_0 : w162.cell? ⟨gb181,0,none⟩=some (.int .i64 0):=(blk_cell BK181.out 0).trans rfl;have hcz164_1 : w162.cell? ⟨gb181,1,none⟩=some (.string (⟨#[]⟩ : ByteArray)):=(blk_cell BK181.out 1).trans rfl;have hfz164_0:=blk_frozen BK181.out 0;have hfz164_1:=blk_frozen BK181.out 1;have hcz165_0 : w162.cell? ⟨gb176,0,none⟩=some (.int .i64 a1_0):=(blk_cell BK176.out 0).trans rfl;have hcz165_1 : w162.cell? ⟨gb176,1,none⟩=some (.string a1_1):=(blk_cell BK176.out 1).trans rfl;have hcz165_2 : w162.cell? ⟨gb176,2,none⟩=some (.int .i64 a1_2):=(blk_cell BK176.out 2).trans rfl;have hcz165_3 : w162.cell? ⟨gb176,3,none⟩=some (.string a1_3):=(blk_cell BK176.out 3).trans rfl;have hcz165_4 : w162.cell? ⟨gb176,4,none⟩=some (.int .i64 a1_4):=(blk_cell BK176.out 4).trans rfl;have hcz165_5 : w162.cell? ⟨gb176,5,none⟩=some (.string a1_5):=(blk_cell BK176.out 5).trans rfl;have hfz165_0:=blk_frozen BK176.out 0;have hfz165_1:=blk_frozen BK176.out 1;have hfz165_2:=blk_frozen BK176.out 2;have hfz165_3:=blk_frozen BK176.out 3;have hfz165_4:=blk_frozen BK176.out 4;have hfz165_5:=blk_frozen BK176.out 5)|((with_reducible refine gate_callee (f:=11) rfl ?_);refine goesL_ (some 22) rfl rfl Tryd.func11 (by kernel_rfl) rfl #[.int .i64 t178,.agg #[.int .i64 a1_2,.string a1_3]] rfl (by (try simp only [List.map_toArray,List.map_cons,List.map_nil]);first|done|rfl|(simp only [List.length_drop,List.length_take];rfl)) ?_;(with_reducible refine (thresherlaw03_fit.calls t178 a1_2 a1_3 t182 t183 _ A6.out).mono ?_);rintro e w166 ⟨rfl,hb⟩;refine ⟨_,rfl,?_⟩;have n0_:=Aside0.mk (blk_below (g:=gb176) (o:=.cells #[.int .i64 a1_0,.string a1_1,.int .i64 a1_2,.string a1_3,.int .i64 a1_4,.string a1_5] 24 (0,0)) (by (with_reducible repeat (first|refine blk_drewN ?_ _|refine blk_drew ?_|refine blk_alloc ?_ _));refine blk_far ?_ NB176_181.out _;(with_reducible repeat (first|refine blk_drewN ?_ _|refine blk_drew ?_|refine blk_alloc ?_ _));refine blk_far ?_ NB176_181.out _;(with_reducible repeat (first|refine blk_drewN ?_ _|refine blk_drew ?_|refine blk_alloc ?_ _));exact BK176.out) hb);have n1_:=Aside0.mk (blk_below (g:=gb181) (o:=.cells #[.int .i64 t179,.string t180] 23 (0,0)) (by (with_reducible repeat (first|refine blk_drewN ?_ _|refine blk_drew ?_|refine blk_alloc ?_ _));refine blk_put (cs:=#[.int .i64 t179,.string (⟨#[]⟩ : ByteArray)]) ?_ 1 _ rfl;(with_reducible repeat (first|refine blk_drewN ?_ _|refine blk_drew ?_|refine blk_alloc ?_ _));refine blk_put (cs:=#[.int .i64 0,.string (⟨#[]⟩ : ByteArray)]) ?_ 0 _ rfl;(with_reducible repeat (first|refine blk_drewN ?_ _|refine blk_drew ?_|refine blk_alloc ?_ _));exact BK181.out) hb);have n2_:=Aside0.mk (below_step (below_go HB.out) hb);clear BK176;clear BK181;clear HB;have BK176:=n0_;have BK181:=n1_;have HB:=n2_;clear n0_ n1_ n2_;(try clear hb);(try clear hb2);(try clear hk);(try clear hi))|((with_reducible refine gate_dst (N:=8) rfl ?_);refine box_event ?hg (N:=8) ?hd (cs:=#[.int .i64 0,.string (⟨#[]⟩ : ByteArray)]) (t:=23) ?hr ?_;(case hd=>rfl);(case hg=>rfl);(case hr=>first|(go_simp;done)|(go_simp;rfl));intro gb184 hg w167 hbox hb;have n0_:=Aside0.mk (blk_below (blk_up BK176.out) hb);have n1_:=Aside0.mk (blk_below (blk_up BK181.out) hb);have n2_:=Aside0.mk (below_step (below_go HB.out) hb);have n3_:=Aside0.mk (hbox);have n4_:=Aside0.mk ((by rw [hg];exact (below_size (below_go HB.out)) : w.heap.size≤gb184));have n5_:=Aside0.mk ((by rw [hg];exact (below_size (below_go HB.out)) : w.heap.size≤gb184));have n6_:=Aside0.mk ((by rw [hg];exact Nat.ne_of_lt (blk_lt (blk_up BK176.out)) : gb176≠gb184));have n7_:=Aside0.mk ((by rw [hg];exact Nat.ne_of_gt (blk_lt (blk_up BK176.out)) : gb184≠gb176));have n8_:=Aside0.mk ((by rw [hg];exact Nat.ne_of_lt (blk_lt (blk_up BK181.out)) : gb181≠gb184));have n9_:=Aside0.mk ((by rw [hg];exact Nat.ne_of_gt (blk_lt (blk_up BK181.out)) : gb184≠gb181));clear BK176;clear BK181;clear HB;have BK176:=n0_;have BK181:=n1_;have HB:=n2_;have BK184:=n3_;have GW184:=n4_;have GE184:=n5_;have NB176_184:=n6_;have NB184_176:=n7_;have NB181_184:=n8_;have NB184_181:=n9_;clear n0_ n1_ n2_ n3_ n4_ n5_ n6_ n7_ n8_ n9_;clear hb hbox hg;have hnb168:=NB184_176.out;have hnc168:=NB176_184.out;have hnb169:=NB184_181.out;have hnc169:=NB181_184.out;have hcz170_0 : w167.cell? ⟨gb184,0,none⟩=some (.int .i64 0):=(blk_cell BK184.out 0).trans rfl;have hcz170_1 : w167.cell? ⟨gb184,1,none⟩=some (.string (⟨#[]⟩ : ByteArray)):=(blk_cell BK184.out 1).trans rfl;have hfz170_0:=blk_frozen BK184.out 0;have hfz170_1:=blk_frozen BK184.out 1;have hcz171_0 : w167.cell? ⟨gb176,0,none⟩=some (.int .i64 a1_0):=(blk_cell BK176.out 0).trans rfl;have hcz171_1 : w167.cell? ⟨gb176,1,none⟩=some (.string a1_1):=(blk_cell BK176.out 1).trans rfl;have hcz171_2 : w167.cell? ⟨gb176,2,none⟩=some (.int .i64 a1_2):=(blk_cell BK176.out 2).trans rfl;have hcz171_3 : w167.cell? ⟨gb176,3,none⟩=some (.string a1_3):=(blk_cell BK176.out 3).trans rfl;have hcz171_4 : w167.cell? ⟨gb176,4,none⟩=some (.int .i64 a1_4):=(blk_cell BK176.out 4).trans rfl;have hcz171_5 : w167.cell? ⟨gb176,5,none⟩=some (.string a1_5):=(blk_cell BK176.out 5).trans rfl;have hfz171_0:=blk_frozen BK176.out 0;have hfz171_1:=blk_frozen BK176.out 1;have hfz171_2:=blk_frozen BK176.out 2;have hfz171_3:=blk_frozen BK176.out 3;have hfz171_4:=blk_frozen BK176.out 4;have hfz171_5:=blk_frozen BK176.out 5)|((with_reducible refine gate_callee (f:=11) rfl ?_);refine goesL_ (some 26) rfl rfl Tryd.func11 (by kernel_rfl) rfl #[.int .i64 t178,.agg #[.int .i64 a1_4,.string a1_5]] rfl (by (try simp only [List.map_toArray,List.map_cons,List.map_nil]);first|done|rfl|(simp only [List.length_drop,List.length_take];rfl)) ?_;(with_reducible refine (thresherlaw03_fit.calls t178 a1_4 a1_5 t185 t186 _ A7.out).mono ?_);rintro e w172 ⟨rfl,hb⟩;refine ⟨_,rfl,?_⟩;have n0_:=Aside0.mk (blk_below (g:=gb176) (o:=.cells #[.int .i64 a1_0,.string a1_1,.int .i64 a1_2,.string a1_3,.int .i64 a1_4,.string a1_5] 24 (0,0)) (by (with_reducible repeat (first|refine blk_drewN ?_ _|refine blk_drew ?_|refine blk_alloc ?_ _));refine blk_far ?_ NB176_184.out _;(with_reducible repeat (first|refine blk_drewN ?_ _|refine blk_drew ?_|refine blk_alloc ?_ _));refine blk_far ?_ NB176_184.out _;(with_reducible repeat (first|refine blk_drewN ?_ _|refine blk_drew ?_|refine blk_alloc ?_ _));exact BK176.out) hb);have n1_:=Aside0.mk (blk_below (g:=gb181) (o:=.cells #[.int .i64 t179,.string t180] 23 (0,0)) (by (with_reducible repeat (first|refine blk_drewN ?_ _|refine blk_drew ?_|refine blk_alloc ?_ _));refine blk_far ?_ NB181_184.out _;(with_reducible repeat (first|refine blk_drewN ?_ _|refine blk_drew ?_|refine blk_alloc ?_ _));refine blk_far ?_ NB181_184.out _;(with_reducible repeat (first|refine blk_drewN ?_ _|refine blk_drew ?_|refine blk_alloc ?_ _));exact BK181.out) hb);have n2_:=Aside0.mk (blk_below (g:=gb184) (o:=.cells #[.int .i64 t182,.string t183] 23 (0,0)) (by (with_reducible repeat (first|refine blk_drewN ?_ _|refine blk_drew ?_|refine blk_alloc ?_ _));refine blk_put (cs:=#[.int .i64 t182,.string (⟨#[]⟩ : ByteArray)]) ?_ 1 _ rfl;(with_reducible repeat (first|refine blk_drewN ?_ _|refine blk_drew ?_|refine blk_alloc ?_ _));refine blk_put (cs:=#[.int .i64 0,.string (⟨#[]⟩ : ByteArray)]) ?_ 0 _ rfl;(with_reducible repeat (first|refine blk_drewN ?_ _|refine blk_drew ?_|refine blk_alloc ?_ _));exact BK184.out) hb);have n3_:=Aside0.mk (below_step (below_go HB.out) hb);clear BK176;clear BK181;clear BK184;clear HB;have BK176:=n0_;have BK181:=n1_;have BK184:=n2_;have HB:=n3_;clear n0_ n1_ n2_ n3_;(try clear hb);(try clear hb2);(try clear hk);(try clear hi))|((with_reducible refine gate_dst (N:=9) rfl ?_);refine box_event ?hg (N:=9) ?hd (cs:=#[.int .i64 0,.string (⟨#[]⟩ : ByteArray)]) (t:=23) ?hr ?_;(case hd=>rfl);(case hg=>rfl);(case hr=>first|(go_simp;done)|(go_simp;rfl));intro gb187 hg w173 hbox hb;have n0_:=Aside0.mk (blk_below (blk_up BK176.out) hb);have n1_:=Aside0.mk (blk_below (blk_up BK181.out) hb);have n2_:=Aside0.mk (blk_below (blk_up BK184.out) hb);have n3_:=Aside0.mk (below_step (below_go HB.out) hb);have n4_:=Aside0.mk (hbox);have n5_:=Aside0.mk ((by rw [hg];exact (below_size (below_go HB.out)) : w.heap.size≤gb187));have n6_:=Aside0.mk ((by rw [hg];exact (below_size (below_go HB.out)) : w.heap.size≤gb187));have n7_:=Aside0.mk ((by rw [hg];exact Nat.ne_of_lt (blk_lt (blk_up BK176.out)) : gb176≠gb187));have n8_:=Aside0.mk ((by rw [hg];exact Nat.ne_of_gt (blk_lt (blk_up BK176.out)) : gb187≠gb176));have n9_:=Aside0.mk ((by rw [hg];exact Nat.ne_of_lt (blk_lt (blk_up BK181.out)) : gb181≠gb187));have n10_:=Aside0.mk ((by rw [hg];exact Nat.ne_of_gt (blk_lt (blk_up BK181.out)) : gb187≠gb181));have n11_:=Aside0.mk ((by rw [hg];exact Nat.ne_of_lt (blk_lt (blk_up BK184.out)) : gb184≠gb187));have n12_:=Aside0.mk ((by rw [hg];exact Nat.ne_of_gt (blk_lt (blk_up BK184.out)) : gb187≠gb184));clear BK176;clear BK181;clear BK184;clear HB;have BK176:=n0_;have BK181:=n1_;have BK184:=n2_;have HB:=n3_;have BK187:=n4_;have GW187:=n5_;have GE187:=n6_;have NB176_187:=n7_;have NB187_176:=n8_;have NB181_187:=n9_;have NB187_181:=n10_;have NB184_187:=n11_;have NB187_184:=n12_;clear n0_ n1_ n2_ n3_ n4_ n5_ n6_ n7_ n8_ n9_ n10_ n11_ n12_;clear hb hbox hg;have hnb174:=NB187_176.out;have hnc174:=NB176_187.out;have hnb175:=NB187_181.out;have hnc175:=NB181_187.out;have hnb176:=NB187_184.out;have hnc176:=NB184_187.out;have hcz177_0 : w173.cell? ⟨gb187,0,none⟩=some (.int .i64 0):=(blk_cell BK187.out 0).trans rfl;have hcz177_1 : w173.cell? ⟨gb187,1,none⟩=some (.string (⟨#[]⟩ : ByteArray)):=(blk_cell BK187.out 1).trans rfl;have hfz177_0:=blk_frozen BK187.out 0;have hfz177_1:=blk_frozen BK187.out 1))
 have n0_ : Aside0 (((w173.setCell ⟨gb187,0,none⟩ (.int .i64 t185)).setCell ⟨gb187,1,none⟩ (.string t186)).heap[gb176]?=some (.cells #[.int .i64 a1_0,.string a1_1,.int .i64 a1_2,.string a1_3,.int .i64 a1_4,.string a1_5] 24 (0,0))):=⟨by (with_reducible repeat (first|refine blk_drewN ?_ _|refine blk_drew ?_|refine blk_alloc ?_ _));refine blk_far ?_ NB176_187.out _;(with_reducible repeat (first|refine blk_drewN ?_ _|refine blk_drew ?_|refine blk_alloc ?_ _));refine blk_far ?_ NB176_187.out _;(with_reducible repeat (first|refine blk_drewN ?_ _|refine blk_drew ?_|refine blk_alloc ?_ _));exact BK176.out⟩
 have n1_ : Aside0 (((w173.setCell ⟨gb187,0,none⟩ (.int .i64 t185)).setCell ⟨gb187,1,none⟩ (.string t186)).heap[gb181]?=some (.cells #[.int .i64 t179,.string t180] 23 (0,0))):=⟨by (with_reducible repeat (first|refine blk_drewN ?_ _|refine blk_drew ?_|refine blk_alloc ?_ _));refine blk_far ?_ NB181_187.out _;(with_reducible repeat (first|refine blk_drewN ?_ _|refine blk_drew ?_|refine blk_alloc ?_ _));refine blk_far ?_ NB181_187.out _;(with_reducible repeat (first|refine blk_drewN ?_ _|refine blk_drew ?_|refine blk_alloc ?_ _));exact BK181.out⟩
 have n2_ : Aside0 (((w173.setCell ⟨gb187,0,none⟩ (.int .i64 t185)).setCell ⟨gb187,1,none⟩ (.string t186)).heap[gb184]?=some (.cells #[.int .i64 t182,.string t183] 23 (0,0))):=⟨by (with_reducible repeat (first|refine blk_drewN ?_ _|refine blk_drew ?_|refine blk_alloc ?_ _));refine blk_far ?_ NB184_187.out _;(with_reducible repeat (first|refine blk_drewN ?_ _|refine blk_drew ?_|refine blk_alloc ?_ _));refine blk_far ?_ NB184_187.out _;(with_reducible repeat (first|refine blk_drewN ?_ _|refine blk_drew ?_|refine blk_alloc ?_ _));exact BK184.out⟩
 have n3_ : Aside0 (((w173.setCell ⟨gb187,0,none⟩ (.int .i64 t185)).setCell ⟨gb187,1,none⟩ (.string t186)).heap[gb187]?=some (.cells #[.int .i64 t185,.string t186] 23 (0,0))):=⟨by (with_reducible repeat (first|refine blk_drewN ?_ _|refine blk_drew ?_|refine blk_alloc ?_ _));refine blk_put (cs:=#[.int .i64 t185,.string (⟨#[]⟩ : ByteArray)]) ?_ 1 _ rfl;(with_reducible repeat (first|refine blk_drewN ?_ _|refine blk_drew ?_|refine blk_alloc ?_ _));refine blk_put (cs:=#[.int .i64 0,.string (⟨#[]⟩ : ByteArray)]) ?_ 0 _ rfl;(with_reducible repeat (first|refine blk_drewN ?_ _|refine blk_drew ?_|refine blk_alloc ?_ _));exact BK187.out⟩
 have n4_ : Aside0 (Below w.heap.size w ((w173.setCell ⟨gb187,0,none⟩ (.int .i64 t185)).setCell ⟨gb187,1,none⟩ (.string t186))):=⟨by repeat (first|(with_reducible first|exact HB.out|apply below_alloc|apply pw_below_drewN|apply below_drew1|refine below_set ?_ GE176.out|refine below_set ?_ GE181.out|refine below_set ?_ GE184.out|refine below_set ?_ GE187.out)|exact HB.out)⟩
 (try clear BK176)
 (try clear BK181)
 (try clear BK184)
 (try clear BK187)
 (try clear HB)
 generalize ((w173.setCell ⟨gb187,0,none⟩ (.int .i64 t185)).setCell ⟨gb187,1,none⟩ (.string t186))=w178 at n0_ n1_ n2_ n3_ n4_ ⊢
 have BK176:=n0_
 have BK181:=n1_
 have BK184:=n2_
 have BK187:=n3_
 have HB:=n4_
 clear n0_ n1_ n2_ n3_ n4_
 have n0_:=Aside0.mk (blk_drew BK176.out)
 have n1_:=Aside0.mk (blk_drew BK181.out)
 have n2_:=Aside0.mk (blk_drew BK184.out)
 have n3_:=Aside0.mk (blk_drew BK187.out)
 have n4_:=Aside0.mk (below_drew1 HB.out)
 clear BK176
 clear BK181
 clear BK184
 clear BK187
 clear HB
 have BK176:=n0_
 have BK181:=n1_
 have BK184:=n2_
 have BK187:=n3_
 have HB:=n4_
 clear n0_ n1_ n2_ n3_ n4_
 refine start_ (n:=9) (S:=fun w'=>w'.cell? ⟨gb181,0,none⟩=some (.int .i64 t179)∧w'.cell? ⟨gb181,1,none⟩=some (.string t180)∧w'.cell? ⟨gb184,0,none⟩=some (.int .i64 t182)∧w'.cell? ⟨gb184,1,none⟩=some (.string t183)∧w'.cell? ⟨gb187,0,none⟩=some (.int .i64 t185)∧w'.cell? ⟨gb187,1,none⟩=some (.string t186)) (ds:=[]) #[false,false,false,false,false,false,false,false,false] (by kernel_rfl) rfl rfl ⟨(blk_cell BK181.out 0).trans rfl,(blk_cell BK181.out 1).trans rfl,(blk_cell BK184.out 0).trans rfl,(blk_cell BK184.out 1).trans rfl,(blk_cell BK187.out 0).trans rfl,(blk_cell BK187.out 1).trans rfl⟩ (fun hHeld=>?_);refine with_tabW thresherlaw03_ValueSums.tab6 thresherlaw03_ValueSums.bits6 (fun HT_ HW_=>?_)
 generalize w178.drew=w179 at BK176 BK181 BK184 BK187 HB hHeld ⊢
 refine pure_ (i:=0) (N:=some 27) (v:=?_) (a':=?_) #[true,false,false,false,false,false,false,false,false] rfl rfl (any_of HT_.out (by kernel_rfl)) (fun _ _ _ h=>h) (Or.inl ⟨by rfl,?_⟩) ?_ ?_
 rotate_left;(intro w';go_simp;with_reducible rfl);rotate_left;(simp only [Act.put,List.setIfInBounds_toArray,List.set_cons_zero,List.set_cons_succ,i64_w,i32_w];rfl)
 refine pure_ (i:=1) (N:=some 28) (v:=?_) (a':=?_) #[true,true,false,false,false,false,false,false,false] rfl rfl (any_of HT_.out (by kernel_rfl)) (fun _ _ _ h=>h) (Or.inl ⟨by rfl,?_⟩) ?_ ?_
 rotate_left;(intro w';go_simp;with_reducible rfl);rotate_left;(simp only [Act.put,List.setIfInBounds_toArray,List.set_cons_zero,List.set_cons_succ,i64_w,i32_w];rfl)
 refine take_ (i:=2) (N:=some 29) (v:=?_) (a':=?_) #[true,true,true,false,false,false,false,false,false] rfl rfl (take_ofW HT_.out HW_.out (by kernel_rfl)) (fun _ _ _ h=>h) (Or.inl ⟨by rfl,?_⟩) hHeld ?_ ?_
 rotate_left;(rintro w' ⟨s0,s1,s2,s3,s4,s5⟩;go_simp;with_reducible rfl);rotate_left;(simp only [Act.put,List.setIfInBounds_toArray,List.set_cons_zero,List.set_cons_succ,i64_w,i32_w];rfl)
 refine take_ (i:=3) (N:=some 30) (v:=?_) (a':=?_) #[true,true,true,true,false,false,false,false,false] rfl rfl (take_ofW HT_.out HW_.out (by kernel_rfl)) (fun _ _ _ h=>h) (Or.inl ⟨by rfl,?_⟩) hHeld ?_ ?_
 rotate_left;(rintro w' ⟨s0,s1,s2,s3,s4,s5⟩;go_simp;with_reducible rfl);rotate_left;(simp only [Act.put,List.setIfInBounds_toArray,List.set_cons_zero,List.set_cons_succ,i64_w,i32_w];rfl)
 refine take_ (i:=5) (N:=some 32) (v:=?_) (a':=?_) #[true,true,true,true,false,true,false,false,false] rfl rfl (take_ofW HT_.out HW_.out (by kernel_rfl)) (fun _ _ _ h=>h) (Or.inl ⟨by rfl,?_⟩) hHeld ?_ ?_
 rotate_left;(rintro w' ⟨s0,s1,s2,s3,s4,s5⟩;go_simp;with_reducible rfl);rotate_left;(simp only [Act.put,List.setIfInBounds_toArray,List.set_cons_zero,List.set_cons_succ,i64_w,i32_w];rfl)
 refine join_ (σ:=Nat) 1 #[true,true,true,true,true,true,true,true,false] (fun s_=>[(31,.agg #[.int .i64 t188,.string t189]),(33,.agg #[.int .i64 t190,.string t191]),(10,.pointer (some ⟨s_,0,none⟩))]) (fun s_ w'=>(w'.cell? ⟨gb181,0,none⟩=some (.int .i64 t179)∧w'.cell? ⟨gb181,1,none⟩=some (.string t180)∧w'.cell? ⟨gb184,0,none⟩=some (.int .i64 t182)∧w'.cell? ⟨gb184,1,none⟩=some (.string t183)∧w'.cell? ⟨gb187,0,none⟩=some (.int .i64 t185)∧w'.cell? ⟨gb187,1,none⟩=some (.string t186))∧(w'.heap[gb176]?=some (.cells #[.int .i64 a1_0,.string a1_1,.int .i64 a1_2,.string a1_3,.int .i64 a1_4,.string a1_5] 24 (0,0)))∧(w'.heap[gb181]?=some (.cells #[.int .i64 t179,.string t180] 23 (0,0)))∧(w'.heap[gb184]?=some (.cells #[.int .i64 t182,.string t183] 23 (0,0)))∧(w'.heap[gb187]?=some (.cells #[.int .i64 t185,.string t186] 23 (0,0)))∧(w'.heap[s_]?=some (.cells #[.int .i64 0,.string (⟨#[]⟩ : ByteArray)] 23 (0,0)))∧(w.heap.size≤s_)∧(w.heap.size≤s_)∧(gb176≠s_)∧(s_≠gb176)∧(gb181≠s_)∧(s_≠gb181)∧(gb184≠s_)∧(s_≠gb184)∧(gb187≠s_)∧(s_≠gb187)∧(Below w.heap.size w w')) ?_ ?_
 rotate_left
 ·intro hCont
  refine two_ (i:=4) (j:=7) (Ni:=some 31) (Nj:=some 10) #[true,true,true,true,true,true,false,false,false] #[true,true,true,true,false,true,false,true,false] rfl rfl rfl rfl (two_of HT_.out (by kernel_rfl)) (by decide) (by decide) (fun K hK=>?_) (fun K hK=>?_)
  ·skip
   refine goes_ Tryd.func14 (by kernel_rfl) rfl #[.int .i64 t178,.agg #[.int .i64 t179,.string t180],.agg #[.int .i64 t182,.string t183]] (by rfl) rfl rfl (by (try simp only [List.map_toArray,List.map_cons,List.map_nil]);first|done|rfl|(simp only [List.length_drop,List.length_take];rfl)) ?_
   with_reducible refine (value_Add.calls k t178 t179 t180 t182 t183 t188 t189 _ A8.out).mono ?_
   rintro e w180 ⟨rfl,hb⟩
   refine ⟨_,rfl,?_⟩
   have n0_:=Aside0.mk (blk_below (blk_up BK176.out) hb)
   have n1_:=Aside0.mk (blk_below (blk_up BK181.out) hb)
   have n2_:=Aside0.mk (blk_below (blk_up BK184.out) hb)
   have n3_:=Aside0.mk (blk_below (blk_up BK187.out) hb)
   have n4_:=Aside0.mk (below_step (below_go HB.out) hb)
   clear BK176
   clear BK181
   clear BK184
   clear BK187
   clear HB
   have BK176:=n0_
   have BK181:=n1_
   have BK184:=n2_
   have BK187:=n3_
   have HB:=n4_
   clear n0_ n1_ n2_ n3_ n4_
   (try clear hb)
   (try clear hb2)
   (try clear hk)
   (try clear hi)
   refine hK.out _ _ ⟨(blk_cell BK181.out 0).trans rfl,(blk_cell BK181.out 1).trans rfl,(blk_cell BK184.out 0).trans rfl,(blk_cell BK184.out 1).trans rfl,(blk_cell BK187.out 0).trans rfl,(blk_cell BK187.out 1).trans rfl⟩ (fun hHeld=>?_)
   clear hK K
   refine norm_ (a':=?_) ?_ ?_
   rotate_left
   ·show Act.put _ (some 31) _=_
    simp only [Act.put,List.setIfInBounds_toArray,List.set_cons_zero,List.set_cons_succ,i64_w,i32_w]
    rfl
   refine two_ (i:=6) (j:=7) (Ni:=some 33) (Nj:=some 10) #[true,true,true,true,true,true,true,false,false] #[true,true,true,true,true,true,false,true,false] rfl rfl rfl rfl (two_of HT_.out (by kernel_rfl)) (by decide) (by decide) (fun K hK=>?_) (fun K hK=>?_)
   ·skip
    refine goes_ Tryd.func14 (by kernel_rfl) rfl #[.int .i64 t178,.agg #[.int .i64 t188,.string t189],.agg #[.int .i64 t185,.string t186]] (by rfl) rfl rfl (by (try simp only [List.map_toArray,List.map_cons,List.map_nil]);first|done|rfl|(simp only [List.length_drop,List.length_take];rfl)) ?_
    with_reducible refine (value_Add.calls k t178 t188 t189 t185 t186 t190 t191 _ A9.out).mono ?_
    rintro e w181 ⟨rfl,hb⟩
    refine ⟨_,rfl,?_⟩
    have n0_:=Aside0.mk (blk_below (blk_up BK176.out) hb)
    have n1_:=Aside0.mk (blk_below (blk_up BK181.out) hb)
    have n2_:=Aside0.mk (blk_below (blk_up BK184.out) hb)
    have n3_:=Aside0.mk (blk_below (blk_up BK187.out) hb)
    have n4_:=Aside0.mk (below_step (below_go HB.out) hb)
    clear BK176
    clear BK181
    clear BK184
    clear BK187
    clear HB
    have BK176:=n0_
    have BK181:=n1_
    have BK184:=n2_
    have BK187:=n3_
    have HB:=n4_
    clear n0_ n1_ n2_ n3_ n4_
    (try clear hb)
    (try clear hb2)
    (try clear hk)
    (try clear hi)
    refine hK.out _ _ ⟨(blk_cell BK181.out 0).trans rfl,(blk_cell BK181.out 1).trans rfl,(blk_cell BK184.out 0).trans rfl,(blk_cell BK184.out 1).trans rfl,(blk_cell BK187.out 0).trans rfl,(blk_cell BK187.out 1).trans rfl⟩ (fun hHeld=>?_)
    clear hK K
    refine norm_ (a':=?_) ?_ ?_
    rotate_left
    ·show Act.put _ (some 33) _=_
     simp only [Act.put,List.setIfInBounds_toArray,List.set_cons_zero,List.set_cons_succ,i64_w,i32_w]
     rfl
    refine one_ (i:=7) (N:=some 10) #[true,true,true,true,true,true,true,true,false] rfl rfl (one_of HT_.out (by kernel_rfl)) (by decide) (fun K hK=>?_)
    refine box_step ?hg (N:=10) ?hd (cs:=#[.int .i64 0,.string (⟨#[]⟩ : ByteArray)]) (t:=23) ?hr ?_;(case hd=>rfl);(case hg=>rfl);(case hr=>first|(go_simp;done)|(go_simp;rfl))
    intro gb192 hg w182 hbox hb
    have n0_:=Aside0.mk (blk_below (blk_up BK176.out) hb)
    have n1_:=Aside0.mk (blk_below (blk_up BK181.out) hb)
    have n2_:=Aside0.mk (blk_below (blk_up BK184.out) hb)
    have n3_:=Aside0.mk (blk_below (blk_up BK187.out) hb)
    have n4_:=Aside0.mk (below_step (below_go HB.out) hb)
    have n5_:=Aside0.mk (hbox)
    have n6_:=Aside0.mk ((by rw [hg];exact (below_size (below_go HB.out)) : w.heap.size≤gb192))
    have n7_:=Aside0.mk ((by rw [hg];exact (below_size (below_go HB.out)) : w.heap.size≤gb192))
    have n8_:=Aside0.mk ((by rw [hg];exact Nat.ne_of_lt (blk_lt (blk_up BK176.out)) : gb176≠gb192))
    have n9_:=Aside0.mk ((by rw [hg];exact Nat.ne_of_gt (blk_lt (blk_up BK176.out)) : gb192≠gb176))
    have n10_:=Aside0.mk ((by rw [hg];exact Nat.ne_of_lt (blk_lt (blk_up BK181.out)) : gb181≠gb192))
    have n11_:=Aside0.mk ((by rw [hg];exact Nat.ne_of_gt (blk_lt (blk_up BK181.out)) : gb192≠gb181))
    have n12_:=Aside0.mk ((by rw [hg];exact Nat.ne_of_lt (blk_lt (blk_up BK184.out)) : gb184≠gb192))
    have n13_:=Aside0.mk ((by rw [hg];exact Nat.ne_of_gt (blk_lt (blk_up BK184.out)) : gb192≠gb184))
    have n14_:=Aside0.mk ((by rw [hg];exact Nat.ne_of_lt (blk_lt (blk_up BK187.out)) : gb187≠gb192))
    have n15_:=Aside0.mk ((by rw [hg];exact Nat.ne_of_gt (blk_lt (blk_up BK187.out)) : gb192≠gb187))
    clear BK176
    clear BK181
    clear BK184
    clear BK187
    clear HB
    have BK176:=n0_
    have BK181:=n1_
    have BK184:=n2_
    have BK187:=n3_
    have HB:=n4_
    have BK192:=n5_
    have GW192:=n6_
    have GE192:=n7_
    have NB176_192:=n8_
    have NB192_176:=n9_
    have NB181_192:=n10_
    have NB192_181:=n11_
    have NB184_192:=n12_
    have NB192_184:=n13_
    have NB187_192:=n14_
    have NB192_187:=n15_
    clear n0_ n1_ n2_ n3_ n4_ n5_ n6_ n7_ n8_ n9_ n10_ n11_ n12_ n13_ n14_ n15_
    clear hb hbox hg
    refine hK.out _ _ ⟨(blk_cell BK181.out 0).trans rfl,(blk_cell BK181.out 1).trans rfl,(blk_cell BK184.out 0).trans rfl,(blk_cell BK184.out 1).trans rfl,(blk_cell BK187.out 0).trans rfl,(blk_cell BK187.out 1).trans rfl⟩ (fun hHeld=>?_)
    clear hK K
    refine norm_ (a':=?_) ?_ ?_
    rotate_left
    ·show Act.put _ (some 10) _=_
     simp only [Act.put,List.setIfInBounds_toArray,List.set_cons_zero,List.set_cons_succ,i64_w,i32_w]
     rfl
    exact norm_ (by simp only [putAll,Act.put,List.setIfInBounds_toArray,List.set_cons_zero,List.set_cons_succ]) (hCont (gb192) _ ⟨hHeld,(blk_up BK176.out),(blk_up BK181.out),(blk_up BK184.out),(blk_up BK187.out),(blk_up BK192.out),GW192.out,GE192.out,NB176_192.out,NB192_176.out,NB181_192.out,NB192_181.out,NB184_192.out,NB192_184.out,NB187_192.out,NB192_187.out,(below_go HB.out)⟩)
   ·skip
    refine box_step ?hg (N:=10) ?hd (cs:=#[.int .i64 0,.string (⟨#[]⟩ : ByteArray)]) (t:=23) ?hr ?_;(case hd=>rfl);(case hg=>rfl);(case hr=>first|(go_simp;done)|(go_simp;rfl))
    intro gb192 hg w181 hbox hb
    have n0_:=Aside0.mk (blk_below (blk_up BK176.out) hb)
    have n1_:=Aside0.mk (blk_below (blk_up BK181.out) hb)
    have n2_:=Aside0.mk (blk_below (blk_up BK184.out) hb)
    have n3_:=Aside0.mk (blk_below (blk_up BK187.out) hb)
    have n4_:=Aside0.mk (below_step (below_go HB.out) hb)
    have n5_:=Aside0.mk (hbox)
    have n6_:=Aside0.mk ((by rw [hg];exact (below_size (below_go HB.out)) : w.heap.size≤gb192))
    have n7_:=Aside0.mk ((by rw [hg];exact (below_size (below_go HB.out)) : w.heap.size≤gb192))
    have n8_:=Aside0.mk ((by rw [hg];exact Nat.ne_of_lt (blk_lt (blk_up BK176.out)) : gb176≠gb192))
    have n9_:=Aside0.mk ((by rw [hg];exact Nat.ne_of_gt (blk_lt (blk_up BK176.out)) : gb192≠gb176))
    have n10_:=Aside0.mk ((by rw [hg];exact Nat.ne_of_lt (blk_lt (blk_up BK181.out)) : gb181≠gb192))
    have n11_:=Aside0.mk ((by rw [hg];exact Nat.ne_of_gt (blk_lt (blk_up BK181.out)) : gb192≠gb181))
    have n12_:=Aside0.mk ((by rw [hg];exact Nat.ne_of_lt (blk_lt (blk_up BK184.out)) : gb184≠gb192))
    have n13_:=Aside0.mk ((by rw [hg];exact Nat.ne_of_gt (blk_lt (blk_up BK184.out)) : gb192≠gb184))
    have n14_:=Aside0.mk ((by rw [hg];exact Nat.ne_of_lt (blk_lt (blk_up BK187.out)) : gb187≠gb192))
    have n15_:=Aside0.mk ((by rw [hg];exact Nat.ne_of_gt (blk_lt (blk_up BK187.out)) : gb192≠gb187))
    clear BK176
    clear BK181
    clear BK184
    clear BK187
    clear HB
    have BK176:=n0_
    have BK181:=n1_
    have BK184:=n2_
    have BK187:=n3_
    have HB:=n4_
    have BK192:=n5_
    have GW192:=n6_
    have GE192:=n7_
    have NB176_192:=n8_
    have NB192_176:=n9_
    have NB181_192:=n10_
    have NB192_181:=n11_
    have NB184_192:=n12_
    have NB192_184:=n13_
    have NB187_192:=n14_
    have NB192_187:=n15_
    clear n0_ n1_ n2_ n3_ n4_ n5_ n6_ n7_ n8_ n9_ n10_ n11_ n12_ n13_ n14_ n15_
    clear hb hbox hg
    refine hK.out _ _ ⟨(blk_cell BK181.out 0).trans rfl,(blk_cell BK181.out 1).trans rfl,(blk_cell BK184.out 0).trans rfl,(blk_cell BK184.out 1).trans rfl,(blk_cell BK187.out 0).trans rfl,(blk_cell BK187.out 1).trans rfl⟩ (fun hHeld=>?_)
    clear hK K
    refine norm_ (a':=?_) ?_ ?_
    rotate_left
    ·show Act.put _ (some 10) _=_
     simp only [Act.put,List.setIfInBounds_toArray,List.set_cons_zero,List.set_cons_succ,i64_w,i32_w]
     rfl
    refine one_ (i:=6) (N:=some 33) #[true,true,true,true,true,true,true,true,false] rfl rfl (one_of HT_.out (by kernel_rfl)) (by decide) (fun K hK=>?_)
    refine goes_ Tryd.func14 (by kernel_rfl) rfl #[.int .i64 t178,.agg #[.int .i64 t188,.string t189],.agg #[.int .i64 t185,.string t186]] (by rfl) rfl rfl (by (try simp only [List.map_toArray,List.map_cons,List.map_nil]);first|done|rfl|(simp only [List.length_drop,List.length_take];rfl)) ?_
    with_reducible refine (value_Add.calls k t178 t188 t189 t185 t186 t190 t191 _ A9.out).mono ?_
    rintro e w182 ⟨rfl,hb⟩
    refine ⟨_,rfl,?_⟩
    have n0_:=Aside0.mk (blk_below (blk_up BK176.out) hb)
    have n1_:=Aside0.mk (blk_below (blk_up BK181.out) hb)
    have n2_:=Aside0.mk (blk_below (blk_up BK184.out) hb)
    have n3_:=Aside0.mk (blk_below (blk_up BK187.out) hb)
    have n4_:=Aside0.mk (blk_below (g:=gb192) (o:=.cells #[.int .i64 0,.string (⟨#[]⟩ : ByteArray)] 23 (0,0)) (blk_up BK192.out) hb)
    have n5_:=Aside0.mk (below_step (below_go HB.out) hb)
    clear BK176
    clear BK181
    clear BK184
    clear BK187
    clear BK192
    clear HB
    have BK176:=n0_
    have BK181:=n1_
    have BK184:=n2_
    have BK187:=n3_
    have BK192:=n4_
    have HB:=n5_
    clear n0_ n1_ n2_ n3_ n4_ n5_
    (try clear hb)
    (try clear hb2)
    (try clear hk)
    (try clear hi)
    refine hK.out _ _ ⟨(blk_cell BK181.out 0).trans rfl,(blk_cell BK181.out 1).trans rfl,(blk_cell BK184.out 0).trans rfl,(blk_cell BK184.out 1).trans rfl,(blk_cell BK187.out 0).trans rfl,(blk_cell BK187.out 1).trans rfl⟩ (fun hHeld=>?_)
    clear hK K
    refine norm_ (a':=?_) ?_ ?_
    rotate_left
    ·show Act.put _ (some 33) _=_
     simp only [Act.put,List.setIfInBounds_toArray,List.set_cons_zero,List.set_cons_succ,i64_w,i32_w]
     rfl
    exact norm_ (by simp only [putAll,Act.put,List.setIfInBounds_toArray,List.set_cons_zero,List.set_cons_succ]) (hCont (gb192) _ ⟨hHeld,(blk_up BK176.out),(blk_up BK181.out),(blk_up BK184.out),(blk_up BK187.out),(blk_up BK192.out),GW192.out,GE192.out,NB176_192.out,NB192_176.out,NB181_192.out,NB192_181.out,NB184_192.out,NB192_184.out,NB187_192.out,NB192_187.out,(below_go HB.out)⟩)
  ·skip
   refine box_step ?hg (N:=10) ?hd (cs:=#[.int .i64 0,.string (⟨#[]⟩ : ByteArray)]) (t:=23) ?hr ?_;(case hd=>rfl);(case hg=>rfl);(case hr=>first|(go_simp;done)|(go_simp;rfl))
   intro gb192 hg w180 hbox hb
   have n0_:=Aside0.mk (blk_below (blk_up BK176.out) hb)
   have n1_:=Aside0.mk (blk_below (blk_up BK181.out) hb)
   have n2_:=Aside0.mk (blk_below (blk_up BK184.out) hb)
   have n3_:=Aside0.mk (blk_below (blk_up BK187.out) hb)
   have n4_:=Aside0.mk (below_step (below_go HB.out) hb)
   have n5_:=Aside0.mk (hbox)
   have n6_:=Aside0.mk ((by rw [hg];exact (below_size (below_go HB.out)) : w.heap.size≤gb192))
   have n7_:=Aside0.mk ((by rw [hg];exact (below_size (below_go HB.out)) : w.heap.size≤gb192))
   have n8_:=Aside0.mk ((by rw [hg];exact Nat.ne_of_lt (blk_lt (blk_up BK176.out)) : gb176≠gb192))
   have n9_:=Aside0.mk ((by rw [hg];exact Nat.ne_of_gt (blk_lt (blk_up BK176.out)) : gb192≠gb176))
   have n10_:=Aside0.mk ((by rw [hg];exact Nat.ne_of_lt (blk_lt (blk_up BK181.out)) : gb181≠gb192))
   have n11_:=Aside0.mk ((by rw [hg];exact Nat.ne_of_gt (blk_lt (blk_up BK181.out)) : gb192≠gb181))
   have n12_:=Aside0.mk ((by rw [hg];exact Nat.ne_of_lt (blk_lt (blk_up BK184.out)) : gb184≠gb192))
   have n13_:=Aside0.mk ((by rw [hg];exact Nat.ne_of_gt (blk_lt (blk_up BK184.out)) : gb192≠gb184))
   have n14_:=Aside0.mk ((by rw [hg];exact Nat.ne_of_lt (blk_lt (blk_up BK187.out)) : gb187≠gb192))
   have n15_:=Aside0.mk ((by rw [hg];exact Nat.ne_of_gt (blk_lt (blk_up BK187.out)) : gb192≠gb187))
   clear BK176
   clear BK181
   clear BK184
   clear BK187
   clear HB
   have BK176:=n0_
   have BK181:=n1_
   have BK184:=n2_
   have BK187:=n3_
   have HB:=n4_
   have BK192:=n5_
   have GW192:=n6_
   have GE192:=n7_
   have NB176_192:=n8_
   have NB192_176:=n9_
   have NB181_192:=n10_
   have NB192_181:=n11_
   have NB184_192:=n12_
   have NB192_184:=n13_
   have NB187_192:=n14_
   have NB192_187:=n15_
   clear n0_ n1_ n2_ n3_ n4_ n5_ n6_ n7_ n8_ n9_ n10_ n11_ n12_ n13_ n14_ n15_
   clear hb hbox hg
   refine hK.out _ _ ⟨(blk_cell BK181.out 0).trans rfl,(blk_cell BK181.out 1).trans rfl,(blk_cell BK184.out 0).trans rfl,(blk_cell BK184.out 1).trans rfl,(blk_cell BK187.out 0).trans rfl,(blk_cell BK187.out 1).trans rfl⟩ (fun hHeld=>?_)
   clear hK K
   refine norm_ (a':=?_) ?_ ?_
   rotate_left
   ·show Act.put _ (some 10) _=_
    simp only [Act.put,List.setIfInBounds_toArray,List.set_cons_zero,List.set_cons_succ,i64_w,i32_w]
    rfl
   refine one_ (i:=4) (N:=some 31) #[true,true,true,true,true,true,false,true,false] rfl rfl (one_of HT_.out (by kernel_rfl)) (by decide) (fun K hK=>?_)
   refine goes_ Tryd.func14 (by kernel_rfl) rfl #[.int .i64 t178,.agg #[.int .i64 t179,.string t180],.agg #[.int .i64 t182,.string t183]] (by rfl) rfl rfl (by (try simp only [List.map_toArray,List.map_cons,List.map_nil]);first|done|rfl|(simp only [List.length_drop,List.length_take];rfl)) ?_
   with_reducible refine (value_Add.calls k t178 t179 t180 t182 t183 t188 t189 _ A8.out).mono ?_
   rintro e w181 ⟨rfl,hb⟩
   refine ⟨_,rfl,?_⟩
   have n0_:=Aside0.mk (blk_below (blk_up BK176.out) hb)
   have n1_:=Aside0.mk (blk_below (blk_up BK181.out) hb)
   have n2_:=Aside0.mk (blk_below (blk_up BK184.out) hb)
   have n3_:=Aside0.mk (blk_below (blk_up BK187.out) hb)
   have n4_:=Aside0.mk (blk_below (g:=gb192) (o:=.cells #[.int .i64 0,.string (⟨#[]⟩ : ByteArray)] 23 (0,0)) (blk_up BK192.out) hb)
   have n5_:=Aside0.mk (below_step (below_go HB.out) hb)
   clear BK176
   clear BK181
   clear BK184
   clear BK187
   clear BK192
   clear HB
   have BK176:=n0_
   have BK181:=n1_
   have BK184:=n2_
   have BK187:=n3_
   have BK192:=n4_
   have HB:=n5_
   clear n0_ n1_ n2_ n3_ n4_ n5_
   (try clear hb)
   (try clear hb2)
   (try clear hk)
   (try clear hi)
   refine hK.out _ _ ⟨(blk_cell BK181.out 0).trans rfl,(blk_cell BK181.out 1).trans rfl,(blk_cell BK184.out 0).trans rfl,(blk_cell BK184.out 1).trans rfl,(blk_cell BK187.out 0).trans rfl,(blk_cell BK187.out 1).trans rfl⟩ (fun hHeld=>?_)
   clear hK K
   refine norm_ (a':=?_) ?_ ?_
   rotate_left
   ·show Act.put _ (some 31) _=_
    simp only [Act.put,List.setIfInBounds_toArray,List.set_cons_zero,List.set_cons_succ,i64_w,i32_w]
    rfl
   refine one_ (i:=6) (N:=some 33) #[true,true,true,true,true,true,true,true,false] rfl rfl (one_of HT_.out (by kernel_rfl)) (by decide) (fun K hK=>?_)
   refine goes_ Tryd.func14 (by kernel_rfl) rfl #[.int .i64 t178,.agg #[.int .i64 t188,.string t189],.agg #[.int .i64 t185,.string t186]] (by rfl) rfl rfl (by (try simp only [List.map_toArray,List.map_cons,List.map_nil]);first|done|rfl|(simp only [List.length_drop,List.length_take];rfl)) ?_
   with_reducible refine (value_Add.calls k t178 t188 t189 t185 t186 t190 t191 _ A9.out).mono ?_
   rintro e w182 ⟨rfl,hb⟩
   refine ⟨_,rfl,?_⟩
   have n0_:=Aside0.mk (blk_below (blk_up BK176.out) hb)
   have n1_:=Aside0.mk (blk_below (blk_up BK181.out) hb)
   have n2_:=Aside0.mk (blk_below (blk_up BK184.out) hb)
   have n3_:=Aside0.mk (blk_below (blk_up BK187.out) hb)
   have n4_:=Aside0.mk (blk_below (g:=gb192) (o:=.cells #[.int .i64 0,.string (⟨#[]⟩ : ByteArray)] 23 (0,0)) (blk_up BK192.out) hb)
   have n5_:=Aside0.mk (below_step (below_go HB.out) hb)
   clear BK176
   clear BK181
   clear BK184
   clear BK187
   clear BK192
   clear HB
   have BK176:=n0_
   have BK181:=n1_
   have BK184:=n2_
   have BK187:=n3_
   have BK192:=n4_
   have HB:=n5_
   clear n0_ n1_ n2_ n3_ n4_ n5_
   (try clear hb)
   (try clear hb2)
   (try clear hk)
   (try clear hi)
   refine hK.out _ _ ⟨(blk_cell BK181.out 0).trans rfl,(blk_cell BK181.out 1).trans rfl,(blk_cell BK184.out 0).trans rfl,(blk_cell BK184.out 1).trans rfl,(blk_cell BK187.out 0).trans rfl,(blk_cell BK187.out 1).trans rfl⟩ (fun hHeld=>?_)
   clear hK K
   refine norm_ (a':=?_) ?_ ?_
   rotate_left
   ·show Act.put _ (some 33) _=_
    simp only [Act.put,List.setIfInBounds_toArray,List.set_cons_zero,List.set_cons_succ,i64_w,i32_w]
    rfl
   exact norm_ (by simp only [putAll,Act.put,List.setIfInBounds_toArray,List.set_cons_zero,List.set_cons_succ]) (hCont (gb192) _ ⟨hHeld,(blk_up BK176.out),(blk_up BK181.out),(blk_up BK184.out),(blk_up BK187.out),(blk_up BK192.out),GW192.out,GE192.out,NB176_192.out,NB192_176.out,NB181_192.out,NB192_181.out,NB184_192.out,NB192_184.out,NB187_192.out,NB192_187.out,(below_go HB.out)⟩)
 rintro gb192 w183 ⟨hS_,h0_,h1_,h2_,h3_,h4_,h5_,h6_,h7_,h8_,h9_,h10_,h11_,h12_,h13_,h14_,h15_⟩
 have n0_ : Aside0 (w183.heap[gb176]?=some (.cells #[.int .i64 a1_0,.string a1_1,.int .i64 a1_2,.string a1_3,.int .i64 a1_4,.string a1_5] 24 (0,0))):=⟨h0_⟩
 have n1_ : Aside0 (w183.heap[gb181]?=some (.cells #[.int .i64 t179,.string t180] 23 (0,0))):=⟨h1_⟩
 have n2_ : Aside0 (w183.heap[gb184]?=some (.cells #[.int .i64 t182,.string t183] 23 (0,0))):=⟨h2_⟩
 have n3_ : Aside0 (w183.heap[gb187]?=some (.cells #[.int .i64 t185,.string t186] 23 (0,0))):=⟨h3_⟩
 have n4_ : Aside0 (w183.heap[gb192]?=some (.cells #[.int .i64 0,.string (⟨#[]⟩ : ByteArray)] 23 (0,0))):=⟨h4_⟩
 have n5_ : Aside0 (w.heap.size≤gb192):=⟨h5_⟩
 have n6_ : Aside0 (w.heap.size≤gb192):=⟨h6_⟩
 have n7_ : Aside0 (gb176≠gb192):=⟨h7_⟩
 have n8_ : Aside0 (gb192≠gb176):=⟨h8_⟩
 have n9_ : Aside0 (gb181≠gb192):=⟨h9_⟩
 have n10_ : Aside0 (gb192≠gb181):=⟨h10_⟩
 have n11_ : Aside0 (gb184≠gb192):=⟨h11_⟩
 have n12_ : Aside0 (gb192≠gb184):=⟨h12_⟩
 have n13_ : Aside0 (gb187≠gb192):=⟨h13_⟩
 have n14_ : Aside0 (gb192≠gb187):=⟨h14_⟩
 have n15_ : Aside0 (Below w.heap.size w w183):=⟨h15_⟩
 clear BK176
 clear BK181
 clear BK184
 clear BK187
 clear HB
 clear h0_ h1_ h2_ h3_ h4_ h5_ h6_ h7_ h8_ h9_ h10_ h11_ h12_ h13_ h14_ h15_
 have BK176:=n0_
 have BK181:=n1_
 have BK184:=n2_
 have BK187:=n3_
 have BK192:=n4_
 have GW192:=n5_
 have GE192:=n6_
 have NB176_192:=n7_
 have NB192_176:=n8_
 have NB181_192:=n9_
 have NB192_181:=n10_
 have NB184_192:=n11_
 have NB192_184:=n12_
 have NB187_192:=n13_
 have NB192_187:=n14_
 have HB:=n15_
 clear n0_ n1_ n2_ n3_ n4_ n5_ n6_ n7_ n8_ n9_ n10_ n11_ n12_ n13_ n14_ n15_
 have hHeld : w183.cell? ⟨gb181,0,none⟩=some (.int .i64 t179)∧w183.cell? ⟨gb181,1,none⟩=some (.string t180)∧w183.cell? ⟨gb184,0,none⟩=some (.int .i64 t182)∧w183.cell? ⟨gb184,1,none⟩=some (.string t183)∧w183.cell? ⟨gb187,0,none⟩=some (.int .i64 t185)∧w183.cell? ⟨gb187,1,none⟩=some (.string t186):=hS_
 refine norm_ (a':=?_) ?_ ?_
 rotate_left
 ·simp only [putAll,Act.put,List.setIfInBounds_toArray,List.set_cons_zero,List.set_cons_succ]
  rfl
 refine one_ (i:=8) (N:=none) #[true,true,true,true,true,true,true,true,true] rfl rfl (one_of HT_.out (by kernel_rfl)) (by decide) (fun K hK=>?_)
 have hs184 : w183.cell? ⟨gb192,0,none⟩=some (.int .i64 0):=(blk_cell BK192.out 0).trans rfl
 have hfs184:=blk_frozen BK192.out 0
 have hns184_0:=NB176_192.out
 have hns184_1:=NB181_192.out
 have hns184_2:=NB184_192.out
 have hns184_3:=NB187_192.out
 have hms184_0:=NB192_176.out
 have hms184_1:=NB192_181.out
 have hms184_2:=NB192_184.out
 have hms184_3:=NB192_187.out
 have hs185 : w183.cell? ⟨gb192,1,none⟩=some (.string (⟨#[]⟩ : ByteArray)):=(blk_cell BK192.out 1).trans rfl
 have hfs185:=blk_frozen BK192.out 1
 have hns185_0:=NB176_192.out
 have hns185_1:=NB181_192.out
 have hns185_2:=NB184_192.out
 have hns185_3:=NB187_192.out
 have hms185_0:=NB192_176.out
 have hms185_1:=NB192_181.out
 have hms185_2:=NB192_184.out
 have hms185_3:=NB192_187.out
 refine skip_ (w1:=?_) (by rfl) rfl ?_ ?_
 rotate_left
 ·go_simp
  rfl
 refine hK.out _ _ ⟨((cell_far (p:=⟨gb192,_,none⟩) NB181_192.out _).trans (((cell_far (p:=⟨gb192,_,none⟩) NB181_192.out _).trans (hHeld.1)))),((cell_far (p:=⟨gb192,_,none⟩) NB181_192.out _).trans (((cell_far (p:=⟨gb192,_,none⟩) NB181_192.out _).trans (hHeld.2.1)))),((cell_far (p:=⟨gb192,_,none⟩) NB184_192.out _).trans (((cell_far (p:=⟨gb192,_,none⟩) NB184_192.out _).trans (hHeld.2.2.1)))),((cell_far (p:=⟨gb192,_,none⟩) NB184_192.out _).trans (((cell_far (p:=⟨gb192,_,none⟩) NB184_192.out _).trans (hHeld.2.2.2.1)))),((cell_far (p:=⟨gb192,_,none⟩) NB187_192.out _).trans (((cell_far (p:=⟨gb192,_,none⟩) NB187_192.out _).trans (hHeld.2.2.2.2.1)))),((cell_far (p:=⟨gb192,_,none⟩) NB187_192.out _).trans (((cell_far (p:=⟨gb192,_,none⟩) NB187_192.out _).trans (hHeld.2.2.2.2.2))))⟩ (fun hHeld=>?_)
 clear hK K
 refine done_ (done_of HT_.out (by kernel_rfl)) ?_
 (try clear hHeld)
 try go_wp2
 have n0_ : Aside0 (((w183.setCell ⟨gb192,0,none⟩ (.int .i64 t190)).setCell ⟨gb192,1,none⟩ (.string t191)).heap[gb176]?=some (.cells #[.int .i64 a1_0,.string a1_1,.int .i64 a1_2,.string a1_3,.int .i64 a1_4,.string a1_5] 24 (0,0))):=⟨by (with_reducible repeat (first|refine blk_drewN ?_ _|refine blk_drew ?_|refine blk_alloc ?_ _));refine blk_far ?_ NB176_192.out _;(with_reducible repeat (first|refine blk_drewN ?_ _|refine blk_drew ?_|refine blk_alloc ?_ _));refine blk_far ?_ NB176_192.out _;(with_reducible repeat (first|refine blk_drewN ?_ _|refine blk_drew ?_|refine blk_alloc ?_ _));exact BK176.out⟩
 have n1_ : Aside0 (((w183.setCell ⟨gb192,0,none⟩ (.int .i64 t190)).setCell ⟨gb192,1,none⟩ (.string t191)).heap[gb181]?=some (.cells #[.int .i64 t179,.string t180] 23 (0,0))):=⟨by (with_reducible repeat (first|refine blk_drewN ?_ _|refine blk_drew ?_|refine blk_alloc ?_ _));refine blk_far ?_ NB181_192.out _;(with_reducible repeat (first|refine blk_drewN ?_ _|refine blk_drew ?_|refine blk_alloc ?_ _));refine blk_far ?_ NB181_192.out _;(with_reducible repeat (first|refine blk_drewN ?_ _|refine blk_drew ?_|refine blk_alloc ?_ _));exact BK181.out⟩
 have n2_ : Aside0 (((w183.setCell ⟨gb192,0,none⟩ (.int .i64 t190)).setCell ⟨gb192,1,none⟩ (.string t191)).heap[gb184]?=some (.cells #[.int .i64 t182,.string t183] 23 (0,0))):=⟨by (with_reducible repeat (first|refine blk_drewN ?_ _|refine blk_drew ?_|refine blk_alloc ?_ _));refine blk_far ?_ NB184_192.out _;(with_reducible repeat (first|refine blk_drewN ?_ _|refine blk_drew ?_|refine blk_alloc ?_ _));refine blk_far ?_ NB184_192.out _;(with_reducible repeat (first|refine blk_drewN ?_ _|refine blk_drew ?_|refine blk_alloc ?_ _));exact BK184.out⟩
 have n3_ : Aside0 (((w183.setCell ⟨gb192,0,none⟩ (.int .i64 t190)).setCell ⟨gb192,1,none⟩ (.string t191)).heap[gb187]?=some (.cells #[.int .i64 t185,.string t186] 23 (0,0))):=⟨by (with_reducible repeat (first|refine blk_drewN ?_ _|refine blk_drew ?_|refine blk_alloc ?_ _));refine blk_far ?_ NB187_192.out _;(with_reducible repeat (first|refine blk_drewN ?_ _|refine blk_drew ?_|refine blk_alloc ?_ _));refine blk_far ?_ NB187_192.out _;(with_reducible repeat (first|refine blk_drewN ?_ _|refine blk_drew ?_|refine blk_alloc ?_ _));exact BK187.out⟩
 have n4_ : Aside0 (((w183.setCell ⟨gb192,0,none⟩ (.int .i64 t190)).setCell ⟨gb192,1,none⟩ (.string t191)).heap[gb192]?=some (.cells #[.int .i64 t190,.string t191] 23 (0,0))):=⟨by (with_reducible repeat (first|refine blk_drewN ?_ _|refine blk_drew ?_|refine blk_alloc ?_ _));refine blk_put (cs:=#[.int .i64 t190,.string (⟨#[]⟩ : ByteArray)]) ?_ 1 _ rfl;(with_reducible repeat (first|refine blk_drewN ?_ _|refine blk_drew ?_|refine blk_alloc ?_ _));refine blk_put (cs:=#[.int .i64 0,.string (⟨#[]⟩ : ByteArray)]) ?_ 0 _ rfl;(with_reducible repeat (first|refine blk_drewN ?_ _|refine blk_drew ?_|refine blk_alloc ?_ _));exact BK192.out⟩
 have n5_ : Aside0 (Below w.heap.size w ((w183.setCell ⟨gb192,0,none⟩ (.int .i64 t190)).setCell ⟨gb192,1,none⟩ (.string t191))):=⟨by repeat (first|(with_reducible first|exact HB.out|apply below_alloc|apply pw_below_drewN|apply below_drew1|refine below_set ?_ GE176.out|refine below_set ?_ GE181.out|refine below_set ?_ GE184.out|refine below_set ?_ GE187.out|refine below_set ?_ GE192.out)|exact HB.out)⟩
 (try clear BK176)
 (try clear BK181)
 (try clear BK184)
 (try clear BK187)
 (try clear BK192)
 (try clear HB)
 generalize ((w183.setCell ⟨gb192,0,none⟩ (.int .i64 t190)).setCell ⟨gb192,1,none⟩ (.string t191))=w186 at n0_ n1_ n2_ n3_ n4_ n5_ ⊢
 have BK176:=n0_
 have BK181:=n1_
 have BK184:=n2_
 have BK187:=n3_
 have BK192:=n4_
 have HB:=n5_
 clear n0_ n1_ n2_ n3_ n4_ n5_
 have n0_:=Aside0.mk (blk_drew BK176.out)
 have n1_:=Aside0.mk (blk_drew BK181.out)
 have n2_:=Aside0.mk (blk_drew BK184.out)
 have n3_:=Aside0.mk (blk_drew BK187.out)
 have n4_:=Aside0.mk (blk_drew BK192.out)
 have n5_:=Aside0.mk (below_drew1 HB.out)
 clear BK176
 clear BK181
 clear BK184
 clear BK187
 clear BK192
 clear HB
 have BK176:=n0_
 have BK181:=n1_
 have BK184:=n2_
 have BK187:=n3_
 have BK192:=n4_
 have HB:=n5_
 clear n0_ n1_ n2_ n3_ n4_ n5_
 refine start_ (n:=9) (S:=fun w'=>w'.cell? ⟨gb181,0,none⟩=some (.int .i64 t179)∧w'.cell? ⟨gb181,1,none⟩=some (.string t180)∧w'.cell? ⟨gb184,0,none⟩=some (.int .i64 t182)∧w'.cell? ⟨gb184,1,none⟩=some (.string t183)∧w'.cell? ⟨gb187,0,none⟩=some (.int .i64 t185)∧w'.cell? ⟨gb187,1,none⟩=some (.string t186)) (ds:=[]) #[false,false,false,false,false,false,false,false,false] (by kernel_rfl) rfl rfl ⟨(blk_cell BK181.out 0).trans rfl,(blk_cell BK181.out 1).trans rfl,(blk_cell BK184.out 0).trans rfl,(blk_cell BK184.out 1).trans rfl,(blk_cell BK187.out 0).trans rfl,(blk_cell BK187.out 1).trans rfl⟩ (fun hHeld=>?_);refine with_tabW thresherlaw03_ValueSums.tab7 thresherlaw03_ValueSums.bits7 (fun HT_ HW_=>?_)
 generalize w186.drew=w187 at BK176 BK181 BK184 BK187 BK192 HB hHeld ⊢
 refine pure_ (i:=0) (N:=some 34) (v:=?_) (a':=?_) #[true,false,false,false,false,false,false,false,false] rfl rfl (any_of HT_.out (by kernel_rfl)) (fun _ _ _ h=>h) (Or.inl ⟨by rfl,?_⟩) ?_ ?_
 rotate_left;(intro w';go_simp;with_reducible rfl);rotate_left;(simp only [Act.put,List.setIfInBounds_toArray,List.set_cons_zero,List.set_cons_succ,i64_w,i32_w];rfl)
 refine pure_ (i:=2) (N:=some 36) (v:=?_) (a':=?_) #[true,false,true,false,false,false,false,false,false] rfl rfl (any_of HT_.out (by kernel_rfl)) (fun _ _ _ h=>h) (Or.inl ⟨by rfl,?_⟩) ?_ ?_
 rotate_left;(intro w';go_simp;with_reducible rfl);rotate_left;(simp only [Act.put,List.setIfInBounds_toArray,List.set_cons_zero,List.set_cons_succ,i64_w,i32_w];rfl)
 refine take_ (i:=1) (N:=some 35) (v:=?_) (a':=?_) #[true,true,true,false,false,false,false,false,false] rfl rfl (take_ofW HT_.out HW_.out (by kernel_rfl)) (fun _ _ _ h=>h) (Or.inl ⟨by rfl,?_⟩) hHeld ?_ ?_
 rotate_left;(rintro w' ⟨s0,s1,s2,s3,s4,s5⟩;go_simp;with_reducible rfl);rotate_left;(simp only [Act.put,List.setIfInBounds_toArray,List.set_cons_zero,List.set_cons_succ,i64_w,i32_w];rfl)
 refine take_ (i:=3) (N:=some 37) (v:=?_) (a':=?_) #[true,true,true,true,false,false,false,false,false] rfl rfl (take_ofW HT_.out HW_.out (by kernel_rfl)) (fun _ _ _ h=>h) (Or.inl ⟨by rfl,?_⟩) hHeld ?_ ?_
 rotate_left;(rintro w' ⟨s0,s1,s2,s3,s4,s5⟩;go_simp;with_reducible rfl);rotate_left;(simp only [Act.put,List.setIfInBounds_toArray,List.set_cons_zero,List.set_cons_succ,i64_w,i32_w];rfl)
 refine take_ (i:=4) (N:=some 38) (v:=?_) (a':=?_) #[true,true,true,true,true,false,false,false,false] rfl rfl (take_ofW HT_.out HW_.out (by kernel_rfl)) (fun _ _ _ h=>h) (Or.inl ⟨by rfl,?_⟩) hHeld ?_ ?_
 rotate_left;(rintro w' ⟨s0,s1,s2,s3,s4,s5⟩;go_simp;with_reducible rfl);rotate_left;(simp only [Act.put,List.setIfInBounds_toArray,List.set_cons_zero,List.set_cons_succ,i64_w,i32_w];rfl)
 refine join_ (σ:=Nat) 1 #[true,true,true,true,true,true,true,true,false] (fun s_=>[(39,.agg #[.int .i64 t193,.string t194]),(40,.agg #[.int .i64 t195,.string t196]),(11,.pointer (some ⟨s_,0,none⟩))]) (fun s_ w'=>(w'.cell? ⟨gb181,0,none⟩=some (.int .i64 t179)∧w'.cell? ⟨gb181,1,none⟩=some (.string t180)∧w'.cell? ⟨gb184,0,none⟩=some (.int .i64 t182)∧w'.cell? ⟨gb184,1,none⟩=some (.string t183)∧w'.cell? ⟨gb187,0,none⟩=some (.int .i64 t185)∧w'.cell? ⟨gb187,1,none⟩=some (.string t186))∧(w'.heap[gb176]?=some (.cells #[.int .i64 a1_0,.string a1_1,.int .i64 a1_2,.string a1_3,.int .i64 a1_4,.string a1_5] 24 (0,0)))∧(w'.heap[gb181]?=some (.cells #[.int .i64 t179,.string t180] 23 (0,0)))∧(w'.heap[gb184]?=some (.cells #[.int .i64 t182,.string t183] 23 (0,0)))∧(w'.heap[gb187]?=some (.cells #[.int .i64 t185,.string t186] 23 (0,0)))∧(w'.heap[gb192]?=some (.cells #[.int .i64 t190,.string t191] 23 (0,0)))∧(w'.heap[s_]?=some (.cells #[.int .i64 0,.string (⟨#[]⟩ : ByteArray)] 23 (0,0)))∧(w.heap.size≤s_)∧(w.heap.size≤s_)∧(gb176≠s_)∧(s_≠gb176)∧(gb181≠s_)∧(s_≠gb181)∧(gb184≠s_)∧(s_≠gb184)∧(gb187≠s_)∧(s_≠gb187)∧(gb192≠s_)∧(s_≠gb192)∧(Below w.heap.size w w')) ?_ ?_
 rotate_left
 ·intro hCont
  refine two_ (i:=5) (j:=7) (Ni:=some 39) (Nj:=some 11) #[true,true,true,true,true,true,false,false,false] #[true,true,true,true,true,false,false,true,false] rfl rfl rfl rfl (two_of HT_.out (by kernel_rfl)) (by decide) (by decide) (fun K hK=>?_) (fun K hK=>?_)
  ·skip
   refine goes_ Tryd.func14 (by kernel_rfl) rfl #[.int .i64 t178,.agg #[.int .i64 t182,.string t183],.agg #[.int .i64 t185,.string t186]] (by rfl) rfl rfl (by (try simp only [List.map_toArray,List.map_cons,List.map_nil]);first|done|rfl|(simp only [List.length_drop,List.length_take];rfl)) ?_
   with_reducible refine (value_Add.calls k t178 t182 t183 t185 t186 t193 t194 _ A10.out).mono ?_
   rintro e w188 ⟨rfl,hb⟩
   refine ⟨_,rfl,?_⟩
   have n0_:=Aside0.mk (blk_below (blk_up BK176.out) hb)
   have n1_:=Aside0.mk (blk_below (blk_up BK181.out) hb)
   have n2_:=Aside0.mk (blk_below (blk_up BK184.out) hb)
   have n3_:=Aside0.mk (blk_below (blk_up BK187.out) hb)
   have n4_:=Aside0.mk (blk_below (blk_up BK192.out) hb)
   have n5_:=Aside0.mk (below_step (below_go HB.out) hb)
   clear BK176
   clear BK181
   clear BK184
   clear BK187
   clear BK192
   clear HB
   have BK176:=n0_
   have BK181:=n1_
   have BK184:=n2_
   have BK187:=n3_
   have BK192:=n4_
   have HB:=n5_
   clear n0_ n1_ n2_ n3_ n4_ n5_
   (try clear hb)
   (try clear hb2)
   (try clear hk)
   (try clear hi)
   refine hK.out _ _ ⟨(blk_cell BK181.out 0).trans rfl,(blk_cell BK181.out 1).trans rfl,(blk_cell BK184.out 0).trans rfl,(blk_cell BK184.out 1).trans rfl,(blk_cell BK187.out 0).trans rfl,(blk_cell BK187.out 1).trans rfl⟩ (fun hHeld=>?_)
   clear hK K
   refine norm_ (a':=?_) ?_ ?_
   rotate_left
   ·show Act.put _ (some 39) _=_
    simp only [Act.put,List.setIfInBounds_toArray,List.set_cons_zero,List.set_cons_succ,i64_w,i32_w]
    rfl
   refine two_ (i:=6) (j:=7) (Ni:=some 40) (Nj:=some 11) #[true,true,true,true,true,true,true,false,false] #[true,true,true,true,true,true,false,true,false] rfl rfl rfl rfl (two_of HT_.out (by kernel_rfl)) (by decide) (by decide) (fun K hK=>?_) (fun K hK=>?_)
   ·skip
    refine goes_ Tryd.func14 (by kernel_rfl) rfl #[.int .i64 t178,.agg #[.int .i64 t179,.string t180],.agg #[.int .i64 t193,.string t194]] (by rfl) rfl rfl (by (try simp only [List.map_toArray,List.map_cons,List.map_nil]);first|done|rfl|(simp only [List.length_drop,List.length_take];rfl)) ?_
    with_reducible refine (value_Add.calls k t178 t179 t180 t193 t194 t195 t196 _ A11.out).mono ?_
    rintro e w189 ⟨rfl,hb⟩
    refine ⟨_,rfl,?_⟩
    have n0_:=Aside0.mk (blk_below (blk_up BK176.out) hb)
    have n1_:=Aside0.mk (blk_below (blk_up BK181.out) hb)
    have n2_:=Aside0.mk (blk_below (blk_up BK184.out) hb)
    have n3_:=Aside0.mk (blk_below (blk_up BK187.out) hb)
    have n4_:=Aside0.mk (blk_below (blk_up BK192.out) hb)
    have n5_:=Aside0.mk (below_step (below_go HB.out) hb)
    clear BK176
    clear BK181
    clear BK184
    clear BK187
    clear BK192
    clear HB
    have BK176:=n0_
    have BK181:=n1_
    have BK184:=n2_
    have BK187:=n3_
    have BK192:=n4_
    have HB:=n5_
    clear n0_ n1_ n2_ n3_ n4_ n5_
    (try clear hb)
    (try clear hb2)
    (try clear hk)
    (try clear hi)
    refine hK.out _ _ ⟨(blk_cell BK181.out 0).trans rfl,(blk_cell BK181.out 1).trans rfl,(blk_cell BK184.out 0).trans rfl,(blk_cell BK184.out 1).trans rfl,(blk_cell BK187.out 0).trans rfl,(blk_cell BK187.out 1).trans rfl⟩ (fun hHeld=>?_)
    clear hK K
    refine norm_ (a':=?_) ?_ ?_
    rotate_left
    ·show Act.put _ (some 40) _=_
     simp only [Act.put,List.setIfInBounds_toArray,List.set_cons_zero,List.set_cons_succ,i64_w,i32_w]
     rfl
    refine one_ (i:=7) (N:=some 11) #[true,true,true,true,true,true,true,true,false] rfl rfl (one_of HT_.out (by kernel_rfl)) (by decide) (fun K hK=>?_)
    refine box_step ?hg (N:=11) ?hd (cs:=#[.int .i64 0,.string (⟨#[]⟩ : ByteArray)]) (t:=23) ?hr ?_;(case hd=>rfl);(case hg=>rfl);(case hr=>first|(go_simp;done)|(go_simp;rfl))
    intro gb197 hg w190 hbox hb
    have n0_:=Aside0.mk (blk_below (blk_up BK176.out) hb)
    have n1_:=Aside0.mk (blk_below (blk_up BK181.out) hb)
    have n2_:=Aside0.mk (blk_below (blk_up BK184.out) hb)
    have n3_:=Aside0.mk (blk_below (blk_up BK187.out) hb)
    have n4_:=Aside0.mk (blk_below (blk_up BK192.out) hb)
    have n5_:=Aside0.mk (below_step (below_go HB.out) hb)
    have n6_:=Aside0.mk (hbox)
    have n7_:=Aside0.mk ((by rw [hg];exact (below_size (below_go HB.out)) : w.heap.size≤gb197))
    have n8_:=Aside0.mk ((by rw [hg];exact (below_size (below_go HB.out)) : w.heap.size≤gb197))
    have n9_:=Aside0.mk ((by rw [hg];exact Nat.ne_of_lt (blk_lt (blk_up BK176.out)) : gb176≠gb197))
    have n10_:=Aside0.mk ((by rw [hg];exact Nat.ne_of_gt (blk_lt (blk_up BK176.out)) : gb197≠gb176))
    have n11_:=Aside0.mk ((by rw [hg];exact Nat.ne_of_lt (blk_lt (blk_up BK181.out)) : gb181≠gb197))
    have n12_:=Aside0.mk ((by rw [hg];exact Nat.ne_of_gt (blk_lt (blk_up BK181.out)) : gb197≠gb181))
    have n13_:=Aside0.mk ((by rw [hg];exact Nat.ne_of_lt (blk_lt (blk_up BK184.out)) : gb184≠gb197))
    have n14_:=Aside0.mk ((by rw [hg];exact Nat.ne_of_gt (blk_lt (blk_up BK184.out)) : gb197≠gb184))
    have n15_:=Aside0.mk ((by rw [hg];exact Nat.ne_of_lt (blk_lt (blk_up BK187.out)) : gb187≠gb197))
    have n16_:=Aside0.mk ((by rw [hg];exact Nat.ne_of_gt (blk_lt (blk_up BK187.out)) : gb197≠gb187))
    have n17_:=Aside0.mk ((by rw [hg];exact Nat.ne_of_lt (blk_lt (blk_up BK192.out)) : gb192≠gb197))
    have n18_:=Aside0.mk ((by rw [hg];exact Nat.ne_of_gt (blk_lt (blk_up BK192.out)) : gb197≠gb192))
    clear BK176
    clear BK181
    clear BK184
    clear BK187
    clear BK192
    clear HB
    have BK176:=n0_
    have BK181:=n1_
    have BK184:=n2_
    have BK187:=n3_
    have BK192:=n4_
    have HB:=n5_
    have BK197:=n6_
    have GW197:=n7_
    have GE197:=n8_
    have NB176_197:=n9_
    have NB197_176:=n10_
    have NB181_197:=n11_
    have NB197_181:=n12_
    have NB184_197:=n13_
    have NB197_184:=n14_
    have NB187_197:=n15_
    have NB197_187:=n16_
    have NB192_197:=n17_
    have NB197_192:=n18_
    clear n0_ n1_ n2_ n3_ n4_ n5_ n6_ n7_ n8_ n9_ n10_ n11_ n12_ n13_ n14_ n15_ n16_ n17_ n18_
    clear hb hbox hg
    refine hK.out _ _ ⟨(blk_cell BK181.out 0).trans rfl,(blk_cell BK181.out 1).trans rfl,(blk_cell BK184.out 0).trans rfl,(blk_cell BK184.out 1).trans rfl,(blk_cell BK187.out 0).trans rfl,(blk_cell BK187.out 1).trans rfl⟩ (fun hHeld=>?_)
    clear hK K
    refine norm_ (a':=?_) ?_ ?_
    rotate_left
    ·show Act.put _ (some 11) _=_
     simp only [Act.put,List.setIfInBounds_toArray,List.set_cons_zero,List.set_cons_succ,i64_w,i32_w]
     rfl
    exact norm_ (by simp only [putAll,Act.put,List.setIfInBounds_toArray,List.set_cons_zero,List.set_cons_succ]) (hCont (gb197) _ ⟨hHeld,(blk_up BK176.out),(blk_up BK181.out),(blk_up BK184.out),(blk_up BK187.out),(blk_up BK192.out),(blk_up BK197.out),GW197.out,GE197.out,NB176_197.out,NB197_176.out,NB181_197.out,NB197_181.out,NB184_197.out,NB197_184.out,NB187_197.out,NB197_187.out,NB192_197.out,NB197_192.out,(below_go HB.out)⟩)
   ·skip
    refine box_step ?hg (N:=11) ?hd (cs:=#[.int .i64 0,.string (⟨#[]⟩ : ByteArray)]) (t:=23) ?hr ?_;(case hd=>rfl);(case hg=>rfl);(case hr=>first|(go_simp;done)|(go_simp;rfl))
    intro gb197 hg w189 hbox hb
    have n0_:=Aside0.mk (blk_below (blk_up BK176.out) hb)
    have n1_:=Aside0.mk (blk_below (blk_up BK181.out) hb)
    have n2_:=Aside0.mk (blk_below (blk_up BK184.out) hb)
    have n3_:=Aside0.mk (blk_below (blk_up BK187.out) hb)
    have n4_:=Aside0.mk (blk_below (blk_up BK192.out) hb)
    have n5_:=Aside0.mk (below_step (below_go HB.out) hb)
    have n6_:=Aside0.mk (hbox)
    have n7_:=Aside0.mk ((by rw [hg];exact (below_size (below_go HB.out)) : w.heap.size≤gb197))
    have n8_:=Aside0.mk ((by rw [hg];exact (below_size (below_go HB.out)) : w.heap.size≤gb197))
    have n9_:=Aside0.mk ((by rw [hg];exact Nat.ne_of_lt (blk_lt (blk_up BK176.out)) : gb176≠gb197))
    have n10_:=Aside0.mk ((by rw [hg];exact Nat.ne_of_gt (blk_lt (blk_up BK176.out)) : gb197≠gb176))
    have n11_:=Aside0.mk ((by rw [hg];exact Nat.ne_of_lt (blk_lt (blk_up BK181.out)) : gb181≠gb197))
    have n12_:=Aside0.mk ((by rw [hg];exact Nat.ne_of_gt (blk_lt (blk_up BK181.out)) : gb197≠gb181))
    have n13_:=Aside0.mk ((by rw [hg];exact Nat.ne_of_lt (blk_lt (blk_up BK184.out)) : gb184≠gb197))
    have n14_:=Aside0.mk ((by rw [hg];exact Nat.ne_of_gt (blk_lt (blk_up BK184.out)) : gb197≠gb184))
    have n15_:=Aside0.mk ((by rw [hg];exact Nat.ne_of_lt (blk_lt (blk_up BK187.out)) : gb187≠gb197))
    have n16_:=Aside0.mk ((by rw [hg];exact Nat.ne_of_gt (blk_lt (blk_up BK187.out)) : gb197≠gb187))
    have n17_:=Aside0.mk ((by rw [hg];exact Nat.ne_of_lt (blk_lt (blk_up BK192.out)) : gb192≠gb197))
    have n18_:=Aside0.mk ((by rw [hg];exact Nat.ne_of_gt (blk_lt (blk_up BK192.out)) : gb197≠gb192))
    clear BK176
    clear BK181
    clear BK184
    clear BK187
    clear BK192
    clear HB
    have BK176:=n0_
    have BK181:=n1_
    have BK184:=n2_
    have BK187:=n3_
    have BK192:=n4_
    have HB:=n5_
    have BK197:=n6_
    have GW197:=n7_
    have GE197:=n8_
    have NB176_197:=n9_
    have NB197_176:=n10_
    have NB181_197:=n11_
    have NB197_181:=n12_
    have NB184_197:=n13_
    have NB197_184:=n14_
    have NB187_197:=n15_
    have NB197_187:=n16_
    have NB192_197:=n17_
    have NB197_192:=n18_
    clear n0_ n1_ n2_ n3_ n4_ n5_ n6_ n7_ n8_ n9_ n10_ n11_ n12_ n13_ n14_ n15_ n16_ n17_ n18_
    clear hb hbox hg
    refine hK.out _ _ ⟨(blk_cell BK181.out 0).trans rfl,(blk_cell BK181.out 1).trans rfl,(blk_cell BK184.out 0).trans rfl,(blk_cell BK184.out 1).trans rfl,(blk_cell BK187.out 0).trans rfl,(blk_cell BK187.out 1).trans rfl⟩ (fun hHeld=>?_)
    clear hK K
    refine norm_ (a':=?_) ?_ ?_
    rotate_left
    ·show Act.put _ (some 11) _=_
     simp only [Act.put,List.setIfInBounds_toArray,List.set_cons_zero,List.set_cons_succ,i64_w,i32_w]
     rfl
    refine one_ (i:=6) (N:=some 40) #[true,true,true,true,true,true,true,true,false] rfl rfl (one_of HT_.out (by kernel_rfl)) (by decide) (fun K hK=>?_)
    refine goes_ Tryd.func14 (by kernel_rfl) rfl #[.int .i64 t178,.agg #[.int .i64 t179,.string t180],.agg #[.int .i64 t193,.string t194]] (by rfl) rfl rfl (by (try simp only [List.map_toArray,List.map_cons,List.map_nil]);first|done|rfl|(simp only [List.length_drop,List.length_take];rfl)) ?_
    with_reducible refine (value_Add.calls k t178 t179 t180 t193 t194 t195 t196 _ A11.out).mono ?_
    rintro e w190 ⟨rfl,hb⟩
    refine ⟨_,rfl,?_⟩
    have n0_:=Aside0.mk (blk_below (blk_up BK176.out) hb)
    have n1_:=Aside0.mk (blk_below (blk_up BK181.out) hb)
    have n2_:=Aside0.mk (blk_below (blk_up BK184.out) hb)
    have n3_:=Aside0.mk (blk_below (blk_up BK187.out) hb)
    have n4_:=Aside0.mk (blk_below (blk_up BK192.out) hb)
    have n5_:=Aside0.mk (blk_below (g:=gb197) (o:=.cells #[.int .i64 0,.string (⟨#[]⟩ : ByteArray)] 23 (0,0)) (blk_up BK197.out) hb)
    have n6_:=Aside0.mk (below_step (below_go HB.out) hb)
    clear BK176
    clear BK181
    clear BK184
    clear BK187
    clear BK192
    clear BK197
    clear HB
    have BK176:=n0_
    have BK181:=n1_
    have BK184:=n2_
    have BK187:=n3_
    have BK192:=n4_
    have BK197:=n5_
    have HB:=n6_
    clear n0_ n1_ n2_ n3_ n4_ n5_ n6_
    (try clear hb)
    (try clear hb2)
    (try clear hk)
    (try clear hi)
    refine hK.out _ _ ⟨(blk_cell BK181.out 0).trans rfl,(blk_cell BK181.out 1).trans rfl,(blk_cell BK184.out 0).trans rfl,(blk_cell BK184.out 1).trans rfl,(blk_cell BK187.out 0).trans rfl,(blk_cell BK187.out 1).trans rfl⟩ (fun hHeld=>?_)
    clear hK K
    refine norm_ (a':=?_) ?_ ?_
    rotate_left
    ·show Act.put _ (some 40) _=_
     simp only [Act.put,List.setIfInBounds_toArray,List.set_cons_zero,List.set_cons_succ,i64_w,i32_w]
     rfl
    exact norm_ (by simp only [putAll,Act.put,List.setIfInBounds_toArray,List.set_cons_zero,List.set_cons_succ]) (hCont (gb197) _ ⟨hHeld,(blk_up BK176.out),(blk_up BK181.out),(blk_up BK184.out),(blk_up BK187.out),(blk_up BK192.out),(blk_up BK197.out),GW197.out,GE197.out,NB176_197.out,NB197_176.out,NB181_197.out,NB197_181.out,NB184_197.out,NB197_184.out,NB187_197.out,NB197_187.out,NB192_197.out,NB197_192.out,(below_go HB.out)⟩)
  ·skip
   refine box_step ?hg (N:=11) ?hd (cs:=#[.int .i64 0,.string (⟨#[]⟩ : ByteArray)]) (t:=23) ?hr ?_;(case hd=>rfl);(case hg=>rfl);(case hr=>first|(go_simp;done)|(go_simp;rfl))
   intro gb197 hg w188 hbox hb
   have n0_:=Aside0.mk (blk_below (blk_up BK176.out) hb)
   have n1_:=Aside0.mk (blk_below (blk_up BK181.out) hb)
   have n2_:=Aside0.mk (blk_below (blk_up BK184.out) hb)
   have n3_:=Aside0.mk (blk_below (blk_up BK187.out) hb)
   have n4_:=Aside0.mk (blk_below (blk_up BK192.out) hb)
   have n5_:=Aside0.mk (below_step (below_go HB.out) hb)
   have n6_:=Aside0.mk (hbox)
   have n7_:=Aside0.mk ((by rw [hg];exact (below_size (below_go HB.out)) : w.heap.size≤gb197))
   have n8_:=Aside0.mk ((by rw [hg];exact (below_size (below_go HB.out)) : w.heap.size≤gb197))
   have n9_:=Aside0.mk ((by rw [hg];exact Nat.ne_of_lt (blk_lt (blk_up BK176.out)) : gb176≠gb197))
   have n10_:=Aside0.mk ((by rw [hg];exact Nat.ne_of_gt (blk_lt (blk_up BK176.out)) : gb197≠gb176))
   have n11_:=Aside0.mk ((by rw [hg];exact Nat.ne_of_lt (blk_lt (blk_up BK181.out)) : gb181≠gb197))
   have n12_:=Aside0.mk ((by rw [hg];exact Nat.ne_of_gt (blk_lt (blk_up BK181.out)) : gb197≠gb181))
   have n13_:=Aside0.mk ((by rw [hg];exact Nat.ne_of_lt (blk_lt (blk_up BK184.out)) : gb184≠gb197))
   have n14_:=Aside0.mk ((by rw [hg];exact Nat.ne_of_gt (blk_lt (blk_up BK184.out)) : gb197≠gb184))
   have n15_:=Aside0.mk ((by rw [hg];exact Nat.ne_of_lt (blk_lt (blk_up BK187.out)) : gb187≠gb197))
   have n16_:=Aside0.mk ((by rw [hg];exact Nat.ne_of_gt (blk_lt (blk_up BK187.out)) : gb197≠gb187))
   have n17_:=Aside0.mk ((by rw [hg];exact Nat.ne_of_lt (blk_lt (blk_up BK192.out)) : gb192≠gb197))
   have n18_:=Aside0.mk ((by rw [hg];exact Nat.ne_of_gt (blk_lt (blk_up BK192.out)) : gb197≠gb192))
   clear BK176
   clear BK181
   clear BK184
   clear BK187
   clear BK192
   clear HB
   have BK176:=n0_
   have BK181:=n1_
   have BK184:=n2_
   have BK187:=n3_
   have BK192:=n4_
   have HB:=n5_
   have BK197:=n6_
   have GW197:=n7_
   have GE197:=n8_
   have NB176_197:=n9_
   have NB197_176:=n10_
   have NB181_197:=n11_
   have NB197_181:=n12_
   have NB184_197:=n13_
   have NB197_184:=n14_
   have NB187_197:=n15_
   have NB197_187:=n16_
   have NB192_197:=n17_
   have NB197_192:=n18_
   clear n0_ n1_ n2_ n3_ n4_ n5_ n6_ n7_ n8_ n9_ n10_ n11_ n12_ n13_ n14_ n15_ n16_ n17_ n18_
   clear hb hbox hg
   refine hK.out _ _ ⟨(blk_cell BK181.out 0).trans rfl,(blk_cell BK181.out 1).trans rfl,(blk_cell BK184.out 0).trans rfl,(blk_cell BK184.out 1).trans rfl,(blk_cell BK187.out 0).trans rfl,(blk_cell BK187.out 1).trans rfl⟩ (fun hHeld=>?_)
   clear hK K
   refine norm_ (a':=?_) ?_ ?_
   rotate_left
   ·show Act.put _ (some 11) _=_
    simp only [Act.put,List.setIfInBounds_toArray,List.set_cons_zero,List.set_cons_succ,i64_w,i32_w]
    rfl
   refine one_ (i:=5) (N:=some 39) #[true,true,true,true,true,true,false,true,false] rfl rfl (one_of HT_.out (by kernel_rfl)) (by decide) (fun K hK=>?_)
   refine goes_ Tryd.func14 (by kernel_rfl) rfl #[.int .i64 t178,.agg #[.int .i64 t182,.string t183],.agg #[.int .i64 t185,.string t186]] (by rfl) rfl rfl (by (try simp only [List.map_toArray,List.map_cons,List.map_nil]);first|done|rfl|(simp only [List.length_drop,List.length_take];rfl)) ?_
   with_reducible refine (value_Add.calls k t178 t182 t183 t185 t186 t193 t194 _ A10.out).mono ?_
   rintro e w189 ⟨rfl,hb⟩
   refine ⟨_,rfl,?_⟩
   have n0_:=Aside0.mk (blk_below (blk_up BK176.out) hb)
   have n1_:=Aside0.mk (blk_below (blk_up BK181.out) hb)
   have n2_:=Aside0.mk (blk_below (blk_up BK184.out) hb)
   have n3_:=Aside0.mk (blk_below (blk_up BK187.out) hb)
   have n4_:=Aside0.mk (blk_below (blk_up BK192.out) hb)
   have n5_:=Aside0.mk (blk_below (g:=gb197) (o:=.cells #[.int .i64 0,.string (⟨#[]⟩ : ByteArray)] 23 (0,0)) (blk_up BK197.out) hb)
   have n6_:=Aside0.mk (below_step (below_go HB.out) hb)
   clear BK176
   clear BK181
   clear BK184
   clear BK187
   clear BK192
   clear BK197
   clear HB
   have BK176:=n0_
   have BK181:=n1_
   have BK184:=n2_
   have BK187:=n3_
   have BK192:=n4_
   have BK197:=n5_
   have HB:=n6_
   clear n0_ n1_ n2_ n3_ n4_ n5_ n6_
   (try clear hb)
   (try clear hb2)
   (try clear hk)
   (try clear hi)
   refine hK.out _ _ ⟨(blk_cell BK181.out 0).trans rfl,(blk_cell BK181.out 1).trans rfl,(blk_cell BK184.out 0).trans rfl,(blk_cell BK184.out 1).trans rfl,(blk_cell BK187.out 0).trans rfl,(blk_cell BK187.out 1).trans rfl⟩ (fun hHeld=>?_)
   clear hK K
   refine norm_ (a':=?_) ?_ ?_
   rotate_left
   ·show Act.put _ (some 39) _=_
    simp only [Act.put,List.setIfInBounds_toArray,List.set_cons_zero,List.set_cons_succ,i64_w,i32_w]
    rfl
   refine one_ (i:=6) (N:=some 40) #[true,true,true,true,true,true,true,true,false] rfl rfl (one_of HT_.out (by kernel_rfl)) (by decide) (fun K hK=>?_)
   refine goes_ Tryd.func14 (by kernel_rfl) rfl #[.int .i64 t178,.agg #[.int .i64 t179,.string t180],.agg #[.int .i64 t193,.string t194]] (by rfl) rfl rfl (by (try simp only [List.map_toArray,List.map_cons,List.map_nil]);first|done|rfl|(simp only [List.length_drop,List.length_take];rfl)) ?_
   with_reducible refine (value_Add.calls k t178 t179 t180 t193 t194 t195 t196 _ A11.out).mono ?_
   rintro e w190 ⟨rfl,hb⟩
   refine ⟨_,rfl,?_⟩
   have n0_:=Aside0.mk (blk_below (blk_up BK176.out) hb)
   have n1_:=Aside0.mk (blk_below (blk_up BK181.out) hb)
   have n2_:=Aside0.mk (blk_below (blk_up BK184.out) hb)
   have n3_:=Aside0.mk (blk_below (blk_up BK187.out) hb)
   have n4_:=Aside0.mk (blk_below (blk_up BK192.out) hb)
   have n5_:=Aside0.mk (blk_below (g:=gb197) (o:=.cells #[.int .i64 0,.string (⟨#[]⟩ : ByteArray)] 23 (0,0)) (blk_up BK197.out) hb)
   have n6_:=Aside0.mk (below_step (below_go HB.out) hb)
   clear BK176
   clear BK181
   clear BK184
   clear BK187
   clear BK192
   clear BK197
   clear HB
   have BK176:=n0_
   have BK181:=n1_
   have BK184:=n2_
   have BK187:=n3_
   have BK192:=n4_
   have BK197:=n5_
   have HB:=n6_
   clear n0_ n1_ n2_ n3_ n4_ n5_ n6_
   (try clear hb)
   (try clear hb2)
   (try clear hk)
   (try clear hi)
   refine hK.out _ _ ⟨(blk_cell BK181.out 0).trans rfl,(blk_cell BK181.out 1).trans rfl,(blk_cell BK184.out 0).trans rfl,(blk_cell BK184.out 1).trans rfl,(blk_cell BK187.out 0).trans rfl,(blk_cell BK187.out 1).trans rfl⟩ (fun hHeld=>?_)
   clear hK K
   refine norm_ (a':=?_) ?_ ?_
   rotate_left
   ·show Act.put _ (some 40) _=_
    simp only [Act.put,List.setIfInBounds_toArray,List.set_cons_zero,List.set_cons_succ,i64_w,i32_w]
    rfl
   exact norm_ (by simp only [putAll,Act.put,List.setIfInBounds_toArray,List.set_cons_zero,List.set_cons_succ]) (hCont (gb197) _ ⟨hHeld,(blk_up BK176.out),(blk_up BK181.out),(blk_up BK184.out),(blk_up BK187.out),(blk_up BK192.out),(blk_up BK197.out),GW197.out,GE197.out,NB176_197.out,NB197_176.out,NB181_197.out,NB197_181.out,NB184_197.out,NB197_184.out,NB187_197.out,NB197_187.out,NB192_197.out,NB197_192.out,(below_go HB.out)⟩)
 rintro gb197 w191 ⟨hS_,h0_,h1_,h2_,h3_,h4_,h5_,h6_,h7_,h8_,h9_,h10_,h11_,h12_,h13_,h14_,h15_,h16_,h17_,h18_⟩
 have n0_ : Aside0 (w191.heap[gb176]?=some (.cells #[.int .i64 a1_0,.string a1_1,.int .i64 a1_2,.string a1_3,.int .i64 a1_4,.string a1_5] 24 (0,0))):=⟨h0_⟩
 have n1_ : Aside0 (w191.heap[gb181]?=some (.cells #[.int .i64 t179,.string t180] 23 (0,0))):=⟨h1_⟩
 have n2_ : Aside0 (w191.heap[gb184]?=some (.cells #[.int .i64 t182,.string t183] 23 (0,0))):=⟨h2_⟩
 have n3_ : Aside0 (w191.heap[gb187]?=some (.cells #[.int .i64 t185,.string t186] 23 (0,0))):=⟨h3_⟩
 have n4_ : Aside0 (w191.heap[gb192]?=some (.cells #[.int .i64 t190,.string t191] 23 (0,0))):=⟨h4_⟩
 have n5_ : Aside0 (w191.heap[gb197]?=some (.cells #[.int .i64 0,.string (⟨#[]⟩ : ByteArray)] 23 (0,0))):=⟨h5_⟩
 have n6_ : Aside0 (w.heap.size≤gb197):=⟨h6_⟩
 have n7_ : Aside0 (w.heap.size≤gb197):=⟨h7_⟩
 have n8_ : Aside0 (gb176≠gb197):=⟨h8_⟩
 have n9_ : Aside0 (gb197≠gb176):=⟨h9_⟩
 have n10_ : Aside0 (gb181≠gb197):=⟨h10_⟩
 have n11_ : Aside0 (gb197≠gb181):=⟨h11_⟩
 have n12_ : Aside0 (gb184≠gb197):=⟨h12_⟩
 have n13_ : Aside0 (gb197≠gb184):=⟨h13_⟩
 have n14_ : Aside0 (gb187≠gb197):=⟨h14_⟩
 have n15_ : Aside0 (gb197≠gb187):=⟨h15_⟩
 have n16_ : Aside0 (gb192≠gb197):=⟨h16_⟩
 have n17_ : Aside0 (gb197≠gb192):=⟨h17_⟩
 have n18_ : Aside0 (Below w.heap.size w w191):=⟨h18_⟩
 clear BK176
 clear BK181
 clear BK184
 clear BK187
 clear BK192
 clear HB
 clear h0_ h1_ h2_ h3_ h4_ h5_ h6_ h7_ h8_ h9_ h10_ h11_ h12_ h13_ h14_ h15_ h16_ h17_ h18_
 have BK176:=n0_
 have BK181:=n1_
 have BK184:=n2_
 have BK187:=n3_
 have BK192:=n4_
 have BK197:=n5_
 have GW197:=n6_
 have GE197:=n7_
 have NB176_197:=n8_
 have NB197_176:=n9_
 have NB181_197:=n10_
 have NB197_181:=n11_
 have NB184_197:=n12_
 have NB197_184:=n13_
 have NB187_197:=n14_
 have NB197_187:=n15_
 have NB192_197:=n16_
 have NB197_192:=n17_
 have HB:=n18_
 clear n0_ n1_ n2_ n3_ n4_ n5_ n6_ n7_ n8_ n9_ n10_ n11_ n12_ n13_ n14_ n15_ n16_ n17_ n18_
 have hHeld : w191.cell? ⟨gb181,0,none⟩=some (.int .i64 t179)∧w191.cell? ⟨gb181,1,none⟩=some (.string t180)∧w191.cell? ⟨gb184,0,none⟩=some (.int .i64 t182)∧w191.cell? ⟨gb184,1,none⟩=some (.string t183)∧w191.cell? ⟨gb187,0,none⟩=some (.int .i64 t185)∧w191.cell? ⟨gb187,1,none⟩=some (.string t186):=hS_
 refine norm_ (a':=?_) ?_ ?_
 rotate_left
 ·simp only [putAll,Act.put,List.setIfInBounds_toArray,List.set_cons_zero,List.set_cons_succ]
  rfl
 refine one_ (i:=8) (N:=none) #[true,true,true,true,true,true,true,true,true] rfl rfl (one_of HT_.out (by kernel_rfl)) (by decide) (fun K hK=>?_)
 have hs192 : w191.cell? ⟨gb197,0,none⟩=some (.int .i64 0):=(blk_cell BK197.out 0).trans rfl
 have hfs192:=blk_frozen BK197.out 0
 have hns192_0:=NB176_197.out
 have hns192_1:=NB181_197.out
 have hns192_2:=NB184_197.out
 have hns192_3:=NB187_197.out
 have hns192_4:=NB192_197.out
 have hms192_0:=NB197_176.out
 have hms192_1:=NB197_181.out
 have hms192_2:=NB197_184.out
 have hms192_3:=NB197_187.out
 have hms192_4:=NB197_192.out
 have hs193 : w191.cell? ⟨gb197,1,none⟩=some (.string (⟨#[]⟩ : ByteArray)):=(blk_cell BK197.out 1).trans rfl
 have hfs193:=blk_frozen BK197.out 1
 have hns193_0:=NB176_197.out
 have hns193_1:=NB181_197.out
 have hns193_2:=NB184_197.out
 have hns193_3:=NB187_197.out
 have hns193_4:=NB192_197.out
 have hms193_0:=NB197_176.out
 have hms193_1:=NB197_181.out
 have hms193_2:=NB197_184.out
 have hms193_3:=NB197_187.out
 have hms193_4:=NB197_192.out
 refine skip_ (w1:=?_) (by rfl) rfl ?_ ?_
 rotate_left
 ·go_simp
  rfl
 refine hK.out _ _ ⟨((cell_far (p:=⟨gb197,_,none⟩) NB181_197.out _).trans (((cell_far (p:=⟨gb197,_,none⟩) NB181_197.out _).trans (hHeld.1)))),((cell_far (p:=⟨gb197,_,none⟩) NB181_197.out _).trans (((cell_far (p:=⟨gb197,_,none⟩) NB181_197.out _).trans (hHeld.2.1)))),((cell_far (p:=⟨gb197,_,none⟩) NB184_197.out _).trans (((cell_far (p:=⟨gb197,_,none⟩) NB184_197.out _).trans (hHeld.2.2.1)))),((cell_far (p:=⟨gb197,_,none⟩) NB184_197.out _).trans (((cell_far (p:=⟨gb197,_,none⟩) NB184_197.out _).trans (hHeld.2.2.2.1)))),((cell_far (p:=⟨gb197,_,none⟩) NB187_197.out _).trans (((cell_far (p:=⟨gb197,_,none⟩) NB187_197.out _).trans (hHeld.2.2.2.2.1)))),((cell_far (p:=⟨gb197,_,none⟩) NB187_197.out _).trans (((cell_far (p:=⟨gb197,_,none⟩) NB187_197.out _).trans (hHeld.2.2.2.2.2))))⟩ (fun hHeld=>?_)
 clear hK K
 refine done_ (done_of HT_.out (by kernel_rfl)) ?_
 (try clear hHeld)
 have hnb194:=NB192_176.out
 have hnc194:=NB176_192.out
 have hnb195:=NB192_181.out
 have hnc195:=NB181_192.out
 have hnb196:=NB192_184.out
 have hnc196:=NB184_192.out
 have hnb197:=NB192_187.out
 have hnc197:=NB187_192.out
 have hnb198:=NB192_197.out
 have hnc198:=NB197_192.out
 have hcz199_0 : w191.cell? ⟨gb192,0,none⟩=some (.int .i64 t190):=(blk_cell BK192.out 0).trans rfl
 have hcz199_1 : w191.cell? ⟨gb192,1,none⟩=some (.string t191):=(blk_cell BK192.out 1).trans rfl
 have hfz199_0:=blk_frozen BK192.out 0
 have hfz199_1:=blk_frozen BK192.out 1
 have hnb200:=NB197_176.out
 have hnc200:=NB176_197.out
 have hnb201:=NB197_181.out
 have hnc201:=NB181_197.out
 have hnb202:=NB197_184.out
 have hnc202:=NB184_197.out
 have hnb203:=NB197_187.out
 have hnc203:=NB187_197.out
 have hcz204_0 : w191.cell? ⟨gb197,0,none⟩=some (.int .i64 0):=(blk_cell BK197.out 0).trans rfl
 have hcz204_1 : w191.cell? ⟨gb197,1,none⟩=some (.string (⟨#[]⟩ : ByteArray)):=(blk_cell BK197.out 1).trans rfl
 have hfz204_0:=blk_frozen BK197.out 0
 have hfz204_1:=blk_frozen BK197.out 1
 go_upto_region 12 with (fail)
 go_cut [4] (fun v4 wc=>∃ (kq : Nat) (x4_156 : Bool),v4=.bool x4_156∧Aside0 (thresherlaw03_ValueSums.j0 kq x4_156=some r)∧Aside0 (kq≤k)∧Aside0 (wc.heap[gb176]?=some (.cells #[.int .i64 a1_0,.string a1_1,.int .i64 a1_2,.string a1_3,.int .i64 a1_4,.string a1_5] 24 (0,0)))∧Aside0 (wc.heap[gb181]?=some (.cells #[.int .i64 t179,.string t180] 23 (0,0)))∧Aside0 (wc.heap[gb184]?=some (.cells #[.int .i64 t182,.string t183] 23 (0,0)))∧Aside0 (wc.heap[gb187]?=some (.cells #[.int .i64 t185,.string t186] 23 (0,0)))∧Aside0 (wc.heap[gb192]?=some (.cells #[.int .i64 t190,.string t191] 23 (0,0)))∧Aside0 (wc.heap[gb197]?=some (.cells #[.int .i64 t195,.string t196] 23 (0,0)))∧Aside0 (Below w.heap.size w wc))
 case first =>
  have H:=HC157.out
  clear HC157
  by_cases c205 : t177=true
  ·subst c205
   have H1 : ((value_Add.f k t178 t179 t180 t182 t183).bind fun bt198=>((value_Add.f k t178 t182 t183 t179 t180).bind fun bt200=>(if (bt198.1 == bt200.1 && (bt198.2.toList == bt200.2.toList))=true then ((value_Add.f k t178 t179 t180 t182 t183).bind fun bt202=>(if bt202.1=(wrap64 (t179 + t182)) then ((value_Add.f k t178 t179 t180 0 (⟨#[]⟩ : ByteArray)).bind fun bt204=>(thresherlaw03_ValueSums.j0 k (bt204.1 == t179 && (bt204.2.toList == t180.toList)))) else (thresherlaw03_ValueSums.j0 k false))) else (thresherlaw03_ValueSums.j0 k false))))=some r:=by rw [if_pos rfl] at H;exact H
   clear H
   have H:=H1
   clear H1
   replace H:=Option.bind_eq_some_iff.mp H
   obtain ⟨⟨t198,t199⟩,A2060,H⟩:=H
   replace H : ((value_Add.f k t178 t182 t183 t179 t180).bind fun bt200=>(if (t198 == bt200.1 && (t199.toList == bt200.2.toList))=true then ((value_Add.f k t178 t179 t180 t182 t183).bind fun bt202=>(if bt202.1=(wrap64 (t179 + t182)) then ((value_Add.f k t178 t179 t180 0 (⟨#[]⟩ : ByteArray)).bind fun bt204=>(thresherlaw03_ValueSums.j0 k (bt204.1 == t179 && (bt204.2.toList == t180.toList)))) else (thresherlaw03_ValueSums.j0 k false))) else (thresherlaw03_ValueSums.j0 k false)))=some r:=H
   have A206:=Aside0.mk A2060
   clear A2060
   replace H:=Option.bind_eq_some_iff.mp H
   obtain ⟨⟨t200,t201⟩,A2070,H⟩:=H
   replace H : (if (t198 == t200 && (t199.toList == t201.toList))=true then ((value_Add.f k t178 t179 t180 t182 t183).bind fun bt202=>(if bt202.1=(wrap64 (t179 + t182)) then ((value_Add.f k t178 t179 t180 0 (⟨#[]⟩ : ByteArray)).bind fun bt204=>(thresherlaw03_ValueSums.j0 k (bt204.1 == t179 && (bt204.2.toList == t180.toList)))) else (thresherlaw03_ValueSums.j0 k false))) else (thresherlaw03_ValueSums.j0 k false))=some r:=H
   have A207:=Aside0.mk A2070
   clear A2070
   by_cases c208 : (t198 == t200 && (t199.toList == t201.toList))=true
   ·rw [if_pos c208] at H
    have c208b0 : (t198 == t200 && (t199.toList == t201.toList))=true:=c208
    (try (have c208b1 : decide (t198=t200 && (t199.toList == t201.toList))=true:=by simpa using c208))
    (try (have c208b2 : (t198 == t200 && (t199.toList == t201.toList))=true:=by simpa using c208))
    clear c208
    (first|rw [c208b0]|(simp only [i64_w,i32_w];rw [c208b0])|skip)
    replace H:=Option.bind_eq_some_iff.mp H
    obtain ⟨⟨t202,t203⟩,A2090,H⟩:=H
    replace H : (if t202=(wrap64 (t179 + t182)) then ((value_Add.f k t178 t179 t180 0 (⟨#[]⟩ : ByteArray)).bind fun bt204=>(thresherlaw03_ValueSums.j0 k (bt204.1 == t179 && (bt204.2.toList == t180.toList)))) else (thresherlaw03_ValueSums.j0 k false))=some r:=H
    have A209:=Aside0.mk A2090
    clear A2090
    by_cases c210 : t202=(wrap64 (t179 + t182))
    ·rw [if_pos c210] at H
     have c210b0 : (t202 == (wrap64 (t179 + t182)))=true:=beq_iff_eq.mpr c210
     have c210b1 : (t202 != (wrap64 (t179 + t182)))=false:=bne_eq_false_iff_eq.mpr c210
     clear c210
     replace H:=Option.bind_eq_some_iff.mp H
     obtain ⟨⟨t204,t205⟩,A2110,H⟩:=H
     replace H : (thresherlaw03_ValueSums.j0 k (t204 == t179 && (t205.toList == t180.toList)))=some r:=H
     have A211:=Aside0.mk A2110
     clear A2110
     have H':=Aside0.mk H
     clear H
     try go_wp2
     have n0_ : Aside0 (((w191.setCell ⟨gb197,0,none⟩ (.int .i64 t195)).setCell ⟨gb197,1,none⟩ (.string t196)).heap[gb176]?=some (.cells #[.int .i64 a1_0,.string a1_1,.int .i64 a1_2,.string a1_3,.int .i64 a1_4,.string a1_5] 24 (0,0))):=⟨by (with_reducible repeat (first|refine blk_drewN ?_ _|refine blk_drew ?_|refine blk_alloc ?_ _));refine blk_far ?_ NB176_197.out _;(with_reducible repeat (first|refine blk_drewN ?_ _|refine blk_drew ?_|refine blk_alloc ?_ _));refine blk_far ?_ NB176_197.out _;(with_reducible repeat (first|refine blk_drewN ?_ _|refine blk_drew ?_|refine blk_alloc ?_ _));exact BK176.out⟩
     have n1_ : Aside0 (((w191.setCell ⟨gb197,0,none⟩ (.int .i64 t195)).setCell ⟨gb197,1,none⟩ (.string t196)).heap[gb181]?=some (.cells #[.int .i64 t179,.string t180] 23 (0,0))):=⟨by (with_reducible repeat (first|refine blk_drewN ?_ _|refine blk_drew ?_|refine blk_alloc ?_ _));refine blk_far ?_ NB181_197.out _;(with_reducible repeat (first|refine blk_drewN ?_ _|refine blk_drew ?_|refine blk_alloc ?_ _));refine blk_far ?_ NB181_197.out _;(with_reducible repeat (first|refine blk_drewN ?_ _|refine blk_drew ?_|refine blk_alloc ?_ _));exact BK181.out⟩
     have n2_ : Aside0 (((w191.setCell ⟨gb197,0,none⟩ (.int .i64 t195)).setCell ⟨gb197,1,none⟩ (.string t196)).heap[gb184]?=some (.cells #[.int .i64 t182,.string t183] 23 (0,0))):=⟨by (with_reducible repeat (first|refine blk_drewN ?_ _|refine blk_drew ?_|refine blk_alloc ?_ _));refine blk_far ?_ NB184_197.out _;(with_reducible repeat (first|refine blk_drewN ?_ _|refine blk_drew ?_|refine blk_alloc ?_ _));refine blk_far ?_ NB184_197.out _;(with_reducible repeat (first|refine blk_drewN ?_ _|refine blk_drew ?_|refine blk_alloc ?_ _));exact BK184.out⟩
     have n3_ : Aside0 (((w191.setCell ⟨gb197,0,none⟩ (.int .i64 t195)).setCell ⟨gb197,1,none⟩ (.string t196)).heap[gb187]?=some (.cells #[.int .i64 t185,.string t186] 23 (0,0))):=⟨by (with_reducible repeat (first|refine blk_drewN ?_ _|refine blk_drew ?_|refine blk_alloc ?_ _));refine blk_far ?_ NB187_197.out _;(with_reducible repeat (first|refine blk_drewN ?_ _|refine blk_drew ?_|refine blk_alloc ?_ _));refine blk_far ?_ NB187_197.out _;(with_reducible repeat (first|refine blk_drewN ?_ _|refine blk_drew ?_|refine blk_alloc ?_ _));exact BK187.out⟩
     have n4_ : Aside0 (((w191.setCell ⟨gb197,0,none⟩ (.int .i64 t195)).setCell ⟨gb197,1,none⟩ (.string t196)).heap[gb192]?=some (.cells #[.int .i64 t190,.string t191] 23 (0,0))):=⟨by (with_reducible repeat (first|refine blk_drewN ?_ _|refine blk_drew ?_|refine blk_alloc ?_ _));refine blk_far ?_ NB192_197.out _;(with_reducible repeat (first|refine blk_drewN ?_ _|refine blk_drew ?_|refine blk_alloc ?_ _));refine blk_far ?_ NB192_197.out _;(with_reducible repeat (first|refine blk_drewN ?_ _|refine blk_drew ?_|refine blk_alloc ?_ _));exact BK192.out⟩
     have n5_ : Aside0 (((w191.setCell ⟨gb197,0,none⟩ (.int .i64 t195)).setCell ⟨gb197,1,none⟩ (.string t196)).heap[gb197]?=some (.cells #[.int .i64 t195,.string t196] 23 (0,0))):=⟨by (with_reducible repeat (first|refine blk_drewN ?_ _|refine blk_drew ?_|refine blk_alloc ?_ _));refine blk_put (cs:=#[.int .i64 t195,.string (⟨#[]⟩ : ByteArray)]) ?_ 1 _ rfl;(with_reducible repeat (first|refine blk_drewN ?_ _|refine blk_drew ?_|refine blk_alloc ?_ _));refine blk_put (cs:=#[.int .i64 0,.string (⟨#[]⟩ : ByteArray)]) ?_ 0 _ rfl;(with_reducible repeat (first|refine blk_drewN ?_ _|refine blk_drew ?_|refine blk_alloc ?_ _));exact BK197.out⟩
     have n6_ : Aside0 (Below w.heap.size w ((w191.setCell ⟨gb197,0,none⟩ (.int .i64 t195)).setCell ⟨gb197,1,none⟩ (.string t196))):=⟨by repeat (first|(with_reducible first|exact HB.out|apply below_alloc|apply pw_below_drewN|apply below_drew1|refine below_set ?_ GE176.out|refine below_set ?_ GE181.out|refine below_set ?_ GE184.out|refine below_set ?_ GE187.out|refine below_set ?_ GE192.out|refine below_set ?_ GE197.out)|exact HB.out)⟩
     (try clear BK176)
     (try clear BK181)
     (try clear BK184)
     (try clear BK187)
     (try clear BK192)
     (try clear BK197)
     (try clear HB)
     generalize ((w191.setCell ⟨gb197,0,none⟩ (.int .i64 t195)).setCell ⟨gb197,1,none⟩ (.string t196))=w212 at n0_ n1_ n2_ n3_ n4_ n5_ n6_ ⊢
     have BK176:=n0_
     have BK181:=n1_
     have BK184:=n2_
     have BK187:=n3_
     have BK192:=n4_
     have BK197:=n5_
     have HB:=n6_
     clear n0_ n1_ n2_ n3_ n4_ n5_ n6_
     have n0_:=Aside0.mk (blk_drew BK176.out)
     have n1_:=Aside0.mk (blk_drew BK181.out)
     have n2_:=Aside0.mk (blk_drew BK184.out)
     have n3_:=Aside0.mk (blk_drew BK187.out)
     have n4_:=Aside0.mk (blk_drew BK192.out)
     have n5_:=Aside0.mk (blk_drew BK197.out)
     have n6_:=Aside0.mk (below_drew1 HB.out)
     clear BK176
     clear BK181
     clear BK184
     clear BK187
     clear BK192
     clear BK197
     clear HB
     have BK176:=n0_
     have BK181:=n1_
     have BK184:=n2_
     have BK187:=n3_
     have BK192:=n4_
     have BK197:=n5_
     have HB:=n6_
     clear n0_ n1_ n2_ n3_ n4_ n5_ n6_
     refine start_ (n:=34) (S:=fun w'=>w'.cell? ⟨gb181,0,none⟩=some (.int .i64 t179)∧w'.cell? ⟨gb181,1,none⟩=some (.string t180)∧w'.cell? ⟨gb184,0,none⟩=some (.int .i64 t182)∧w'.cell? ⟨gb184,1,none⟩=some (.string t183)) (ds:=[]) #[false,false,false,false,false,false,false,false,false,false,false,false,false,false,false,false,false,false,false,false,false,false,false,false,false,false,false,false,false,false,false,false,false,false] (by kernel_rfl) rfl rfl ⟨(blk_cell BK181.out 0).trans rfl,(blk_cell BK181.out 1).trans rfl,(blk_cell BK184.out 0).trans rfl,(blk_cell BK184.out 1).trans rfl⟩ (fun hHeld=>?_);refine with_tabW thresherlaw03_ValueSums.tab12 thresherlaw03_ValueSums.bits12 (fun HT_ HW_=>?_)
     generalize w212.drew=w213 at BK176 BK181 BK184 BK187 BK192 BK197 HB hHeld ⊢
     refine pure_ (i:=0) (N:=some 52) (v:=?_) (a':=?_) #[true,false,false,false,false,false,false,false,false,false,false,false,false,false,false,false,false,false,false,false,false,false,false,false,false,false,false,false,false,false,false,false,false,false] rfl rfl (any_of HT_.out (by kernel_rfl)) (fun _ _ _ h=>h) (Or.inl ⟨by rfl,?_⟩) ?_ ?_
     rotate_left;(intro w';go_simp;with_reducible rfl);rotate_left;(simp only [Act.put,List.setIfInBounds_toArray,List.set_cons_zero,List.set_cons_succ,i64_w,i32_w];rfl)
     refine pure_ (i:=1) (N:=some 53) (v:=?_) (a':=?_) #[true,true,false,false,false,false,false,false,false,false,false,false,false,false,false,false,false,false,false,false,false,false,false,false,false,false,false,false,false,false,false,false,false,false] rfl rfl (any_of HT_.out (by kernel_rfl)) (fun _ _ _ h=>h) (Or.inl ⟨by rfl,?_⟩) ?_ ?_
     rotate_left;(intro w';go_simp;with_reducible rfl);rotate_left;(simp only [Act.put,List.setIfInBounds_toArray,List.set_cons_zero,List.set_cons_succ,i64_w,i32_w];rfl)
     refine pure_ (i:=2) (N:=some 54) (v:=?_) (a':=?_) #[true,true,true,false,false,false,false,false,false,false,false,false,false,false,false,false,false,false,false,false,false,false,false,false,false,false,false,false,false,false,false,false,false,false] rfl rfl (any_of HT_.out (by kernel_rfl)) (fun _ _ _ h=>h) (Or.inl ⟨by rfl,?_⟩) ?_ ?_
     rotate_left;(intro w';go_simp;with_reducible rfl);rotate_left;(simp only [Act.put,List.setIfInBounds_toArray,List.set_cons_zero,List.set_cons_succ,i64_w,i32_w];rfl)
     refine pure_ (i:=6) (N:=some 58) (v:=?_) (a':=?_) #[true,true,true,false,false,false,true,false,false,false,false,false,false,false,false,false,false,false,false,false,false,false,false,false,false,false,false,false,false,false,false,false,false,false] rfl rfl (any_of HT_.out (by kernel_rfl)) (fun _ _ _ h=>h) (Or.inl ⟨by rfl,?_⟩) ?_ ?_
     rotate_left;(intro w';go_simp;with_reducible rfl);rotate_left;(simp only [Act.put,List.setIfInBounds_toArray,List.set_cons_zero,List.set_cons_succ,i64_w,i32_w];rfl)
     refine take_ (i:=3) (N:=some 55) (v:=?_) (a':=?_) #[true,true,true,true,false,false,true,false,false,false,false,false,false,false,false,false,false,false,false,false,false,false,false,false,false,false,false,false,false,false,false,false,false,false] rfl rfl (take_ofW HT_.out HW_.out (by kernel_rfl)) (fun _ _ _ h=>h) (Or.inl ⟨by rfl,?_⟩) hHeld ?_ ?_
     rotate_left;(rintro w' ⟨s0,s1,s2,s3⟩;go_simp;with_reducible rfl);rotate_left;(simp only [Act.put,List.setIfInBounds_toArray,List.set_cons_zero,List.set_cons_succ,i64_w,i32_w];rfl)
     refine take_ (i:=4) (N:=some 56) (v:=?_) (a':=?_) #[true,true,true,true,true,false,true,false,false,false,false,false,false,false,false,false,false,false,false,false,false,false,false,false,false,false,false,false,false,false,false,false,false,false] rfl rfl (take_ofW HT_.out HW_.out (by kernel_rfl)) (fun _ _ _ h=>h) (Or.inl ⟨by rfl,?_⟩) hHeld ?_ ?_
     rotate_left;(rintro w' ⟨s0,s1,s2,s3⟩;go_simp;with_reducible rfl);rotate_left;(simp only [Act.put,List.setIfInBounds_toArray,List.set_cons_zero,List.set_cons_succ,i64_w,i32_w];rfl)
     refine take_ (i:=7) (N:=some 59) (v:=?_) (a':=?_) #[true,true,true,true,true,false,true,true,false,false,false,false,false,false,false,false,false,false,false,false,false,false,false,false,false,false,false,false,false,false,false,false,false,false] rfl rfl (take_ofW HT_.out HW_.out (by kernel_rfl)) (fun _ _ _ h=>h) (Or.inl ⟨by rfl,?_⟩) hHeld ?_ ?_
     rotate_left;(rintro w' ⟨s0,s1,s2,s3⟩;go_simp;with_reducible rfl);rotate_left;(simp only [Act.put,List.setIfInBounds_toArray,List.set_cons_zero,List.set_cons_succ,i64_w,i32_w];rfl)
     refine take_ (i:=8) (N:=some 60) (v:=?_) (a':=?_) #[true,true,true,true,true,false,true,true,true,false,false,false,false,false,false,false,false,false,false,false,false,false,false,false,false,false,false,false,false,false,false,false,false,false] rfl rfl (take_ofW HT_.out HW_.out (by kernel_rfl)) (fun _ _ _ h=>h) (Or.inl ⟨by rfl,?_⟩) hHeld ?_ ?_
     rotate_left;(rintro w' ⟨s0,s1,s2,s3⟩;go_simp;with_reducible rfl);rotate_left;(simp only [Act.put,List.setIfInBounds_toArray,List.set_cons_zero,List.set_cons_succ,i64_w,i32_w];rfl)
     refine one_ (i:=5) (N:=some 57) #[true,true,true,true,true,true,true,true,true,false,false,false,false,false,false,false,false,false,false,false,false,false,false,false,false,false,false,false,false,false,false,false,false,false] rfl rfl (one_of HT_.out (by kernel_rfl)) (by decide) (fun K hK=>?_)
     refine goes_ Tryd.func14 (by kernel_rfl) rfl #[.int .i64 t178,.agg #[.int .i64 t179,.string t180],.agg #[.int .i64 t182,.string t183]] (by rfl) rfl rfl (by (try simp only [List.map_toArray,List.map_cons,List.map_nil]);first|done|rfl|(simp only [List.length_drop,List.length_take];rfl)) ?_
     with_reducible refine (value_Add.calls k t178 t179 t180 t182 t183 t198 t199 _ A206.out).mono ?_
     rintro e w214 ⟨rfl,hb⟩
     refine ⟨_,rfl,?_⟩
     have n0_:=Aside0.mk (blk_below (blk_up BK176.out) hb)
     have n1_:=Aside0.mk (blk_below (blk_up BK181.out) hb)
     have n2_:=Aside0.mk (blk_below (blk_up BK184.out) hb)
     have n3_:=Aside0.mk (blk_below (blk_up BK187.out) hb)
     have n4_:=Aside0.mk (blk_below (blk_up BK192.out) hb)
     have n5_:=Aside0.mk (blk_below (blk_up BK197.out) hb)
     have n6_:=Aside0.mk (below_step (below_go HB.out) hb)
     clear BK176
     clear BK181
     clear BK184
     clear BK187
     clear BK192
     clear BK197
     clear HB
     have BK176:=n0_
     have BK181:=n1_
     have BK184:=n2_
     have BK187:=n3_
     have BK192:=n4_
     have BK197:=n5_
     have HB:=n6_
     clear n0_ n1_ n2_ n3_ n4_ n5_ n6_
     (try clear hb)
     (try clear hb2)
     (try clear hk)
     (try clear hi)
     refine hK.out _ _ ⟨(blk_cell BK181.out 0).trans rfl,(blk_cell BK181.out 1).trans rfl,(blk_cell BK184.out 0).trans rfl,(blk_cell BK184.out 1).trans rfl⟩ (fun hHeld=>?_)
     clear hK K
     refine norm_ (a':=?_) ?_ ?_
     rotate_left
     ·show Act.put _ (some 57) _=_
      simp only [Act.put,List.setIfInBounds_toArray,List.set_cons_zero,List.set_cons_succ,i64_w,i32_w]
      rfl
     refine one_ (i:=9) (N:=some 61) #[true,true,true,true,true,true,true,true,true,true,false,false,false,false,false,false,false,false,false,false,false,false,false,false,false,false,false,false,false,false,false,false,false,false] rfl rfl (one_of HT_.out (by kernel_rfl)) (by decide) (fun K hK=>?_)
     refine goes_ Tryd.func14 (by kernel_rfl) rfl #[.int .i64 t178,.agg #[.int .i64 t182,.string t183],.agg #[.int .i64 t179,.string t180]] (by rfl) rfl rfl (by (try simp only [List.map_toArray,List.map_cons,List.map_nil]);first|done|rfl|(simp only [List.length_drop,List.length_take];rfl)) ?_
     with_reducible refine (value_Add.calls k t178 t182 t183 t179 t180 t200 t201 _ A207.out).mono ?_
     rintro e w215 ⟨rfl,hb⟩
     refine ⟨_,rfl,?_⟩
     have n0_:=Aside0.mk (blk_below (blk_up BK176.out) hb)
     have n1_:=Aside0.mk (blk_below (blk_up BK181.out) hb)
     have n2_:=Aside0.mk (blk_below (blk_up BK184.out) hb)
     have n3_:=Aside0.mk (blk_below (blk_up BK187.out) hb)
     have n4_:=Aside0.mk (blk_below (blk_up BK192.out) hb)
     have n5_:=Aside0.mk (blk_below (blk_up BK197.out) hb)
     have n6_:=Aside0.mk (below_step (below_go HB.out) hb)
     clear BK176
     clear BK181
     clear BK184
     clear BK187
     clear BK192
     clear BK197
     clear HB
     have BK176:=n0_
     have BK181:=n1_
     have BK184:=n2_
     have BK187:=n3_
     have BK192:=n4_
     have BK197:=n5_
     have HB:=n6_
     clear n0_ n1_ n2_ n3_ n4_ n5_ n6_
     (try clear hb)
     (try clear hb2)
     (try clear hk)
     (try clear hi)
     refine hK.out _ _ ⟨(blk_cell BK181.out 0).trans rfl,(blk_cell BK181.out 1).trans rfl,(blk_cell BK184.out 0).trans rfl,(blk_cell BK184.out 1).trans rfl⟩ (fun hHeld=>?_)
     clear hK K
     refine norm_ (a':=?_) ?_ ?_
     rotate_left
     ·show Act.put _ (some 61) _=_
      simp only [Act.put,List.setIfInBounds_toArray,List.set_cons_zero,List.set_cons_succ,i64_w,i32_w]
      rfl
     refine pure_ (i:=10) (N:=some 62) (v:=?_) (a':=?_) #[true,true,true,true,true,true,true,true,true,true,true,false,false,false,false,false,false,false,false,false,false,false,false,false,false,false,false,false,false,false,false,false,false,false] rfl rfl (any_of HT_.out (by kernel_rfl)) (fun _ _ _ h=>h) (Or.inl ⟨by rfl,?_⟩) ?_ ?_
     rotate_left;(intro w';go_simp;with_reducible rfl);rotate_left;(simp only [Act.put,List.setIfInBounds_toArray,List.set_cons_zero,List.set_cons_succ,i64_w,i32_w];rfl)
     refine pure_ (i:=11) (N:=some 63) (v:=?_) (a':=?_) #[true,true,true,true,true,true,true,true,true,true,true,true,false,false,false,false,false,false,false,false,false,false,false,false,false,false,false,false,false,false,false,false,false,false] rfl rfl (any_of HT_.out (by kernel_rfl)) (fun _ _ _ h=>h) (Or.inl ⟨by rfl,?_⟩) ?_ ?_
     rotate_left;(intro w';go_simp;with_reducible rfl);rotate_left;(simp only [Act.put,List.setIfInBounds_toArray,List.set_cons_zero,List.set_cons_succ,i64_w,i32_w];rfl)
     refine pure_ (i:=12) (N:=some 64) (v:=?_) (a':=?_) #[true,true,true,true,true,true,true,true,true,true,true,true,true,false,false,false,false,false,false,false,false,false,false,false,false,false,false,false,false,false,false,false,false,false] rfl rfl (any_of HT_.out (by kernel_rfl)) (fun _ _ _ h=>h) (Or.inl ⟨by rfl,?_⟩) ?_ ?_
     rotate_left;(intro w';go_simp;with_reducible rfl);rotate_left;(simp only [Act.put,List.setIfInBounds_toArray,List.set_cons_zero,List.set_cons_succ,i64_w,i32_w];rfl)
     refine pure_ (i:=13) (N:=some 65) (v:=?_) (a':=?_) #[true,true,true,true,true,true,true,true,true,true,true,true,true,true,false,false,false,false,false,false,false,false,false,false,false,false,false,false,false,false,false,false,false,false] rfl rfl (any_of HT_.out (by kernel_rfl)) (fun _ _ _ h=>h) (Or.inl ⟨by rfl,?_⟩) ?_ ?_
     rotate_left;(intro w';go_simp;with_reducible rfl);rotate_left;(simp only [Act.put,List.setIfInBounds_toArray,List.set_cons_zero,List.set_cons_succ,i64_w,i32_w];rfl)
     refine pure_ (i:=18) (N:=some 70) (v:=?_) (a':=?_) #[true,true,true,true,true,true,true,true,true,true,true,true,true,true,false,false,false,false,true,false,false,false,false,false,false,false,false,false,false,false,false,false,false,false] rfl rfl (any_of HT_.out (by kernel_rfl)) (fun _ _ _ h=>h) (Or.inl ⟨by rfl,?_⟩) ?_ ?_
     rotate_left;(intro w';go_simp;with_reducible rfl);rotate_left;(simp only [Act.put,List.setIfInBounds_toArray,List.set_cons_zero,List.set_cons_succ,i64_w,i32_w];rfl)
     refine pure_ (i:=20) (N:=some 72) (v:=?_) (a':=?_) #[true,true,true,true,true,true,true,true,true,true,true,true,true,true,false,false,false,false,true,false,true,false,false,false,false,false,false,false,false,false,false,false,false,false] rfl rfl (any_of HT_.out (by kernel_rfl)) (fun _ _ _ h=>h) (Or.inl ⟨by rfl,?_⟩) ?_ ?_
     rotate_left;(intro w';go_simp;with_reducible rfl);rotate_left;(simp only [Act.put,List.setIfInBounds_toArray,List.set_cons_zero,List.set_cons_succ,i64_w,i32_w];rfl)
     refine take_ (i:=14) (N:=some 66) (v:=?_) (a':=?_) #[true,true,true,true,true,true,true,true,true,true,true,true,true,true,true,false,false,false,true,false,true,false,false,false,false,false,false,false,false,false,false,false,false,false] rfl rfl (take_ofW HT_.out HW_.out (by kernel_rfl)) (fun _ _ _ h=>h) (Or.inl ⟨by rfl,?_⟩) hHeld ?_ ?_
     rotate_left;(rintro w' ⟨s0,s1,s2,s3⟩;go_simp;with_reducible rfl);rotate_left;(simp only [Act.put,List.setIfInBounds_toArray,List.set_cons_zero,List.set_cons_succ,i64_w,i32_w];rfl)
     refine take_ (i:=15) (N:=some 67) (v:=?_) (a':=?_) #[true,true,true,true,true,true,true,true,true,true,true,true,true,true,true,true,false,false,true,false,true,false,false,false,false,false,false,false,false,false,false,false,false,false] rfl rfl (take_ofW HT_.out HW_.out (by kernel_rfl)) (fun _ _ _ h=>h) (Or.inl ⟨by rfl,?_⟩) hHeld ?_ ?_
     rotate_left;(rintro w' ⟨s0,s1,s2,s3⟩;go_simp;with_reducible rfl);rotate_left;(simp only [Act.put,List.setIfInBounds_toArray,List.set_cons_zero,List.set_cons_succ,i64_w,i32_w];rfl)
     refine take_ (i:=19) (N:=some 71) (v:=?_) (a':=?_) #[true,true,true,true,true,true,true,true,true,true,true,true,true,true,true,true,false,false,true,true,true,false,false,false,false,false,false,false,false,false,false,false,false,false] rfl rfl (take_ofW HT_.out HW_.out (by kernel_rfl)) (fun _ _ _ h=>h) (Or.inl ⟨by rfl,?_⟩) hHeld ?_ ?_
     rotate_left;(rintro w' ⟨s0,s1,s2,s3⟩;go_simp;with_reducible rfl);rotate_left;(simp only [Act.put,List.setIfInBounds_toArray,List.set_cons_zero,List.set_cons_succ,i64_w,i32_w];rfl)
     refine take_ (i:=21) (N:=some 73) (v:=?_) (a':=?_) #[true,true,true,true,true,true,true,true,true,true,true,true,true,true,true,true,false,false,true,true,true,true,false,false,false,false,false,false,false,false,false,false,false,false] rfl rfl (take_ofW HT_.out HW_.out (by kernel_rfl)) (fun _ _ _ h=>h) (Or.inl ⟨by rfl,?_⟩) hHeld ?_ ?_
     rotate_left;(rintro w' ⟨s0,s1,s2,s3⟩;go_simp;with_reducible rfl);rotate_left;(simp only [Act.put,List.setIfInBounds_toArray,List.set_cons_zero,List.set_cons_succ,i64_w,i32_w];rfl)
     refine pure_ (i:=22) (N:=some 74) (v:=?_) (a':=?_) #[true,true,true,true,true,true,true,true,true,true,true,true,true,true,true,true,false,false,true,true,true,true,true,false,false,false,false,false,false,false,false,false,false,false] rfl rfl (any_of HT_.out (by kernel_rfl)) (fun _ _ _ h=>h) (Or.inl ⟨by rfl,?_⟩) ?_ ?_
     rotate_left;(intro w';go_simp;with_reducible rfl);rotate_left;(simp only [Act.put,List.setIfInBounds_toArray,List.set_cons_zero,List.set_cons_succ,i64_w,i32_w];rfl)
     refine one_ (i:=16) (N:=some 68) #[true,true,true,true,true,true,true,true,true,true,true,true,true,true,true,true,true,false,true,true,true,true,true,false,false,false,false,false,false,false,false,false,false,false] rfl rfl (one_of HT_.out (by kernel_rfl)) (by decide) (fun K hK=>?_)
     refine goes_ Tryd.func14 (by kernel_rfl) rfl #[.int .i64 t178,.agg #[.int .i64 t179,.string t180],.agg #[.int .i64 t182,.string t183]] (by rfl) rfl rfl (by (try simp only [List.map_toArray,List.map_cons,List.map_nil]);first|done|rfl|(simp only [List.length_drop,List.length_take];rfl)) ?_
     with_reducible refine (value_Add.calls k t178 t179 t180 t182 t183 t202 t203 _ A209.out).mono ?_
     rintro e w216 ⟨rfl,hb⟩
     refine ⟨_,rfl,?_⟩
     have n0_:=Aside0.mk (blk_below (blk_up BK176.out) hb)
     have n1_:=Aside0.mk (blk_below (blk_up BK181.out) hb)
     have n2_:=Aside0.mk (blk_below (blk_up BK184.out) hb)
     have n3_:=Aside0.mk (blk_below (blk_up BK187.out) hb)
     have n4_:=Aside0.mk (blk_below (blk_up BK192.out) hb)
     have n5_:=Aside0.mk (blk_below (blk_up BK197.out) hb)
     have n6_:=Aside0.mk (below_step (below_go HB.out) hb)
     clear BK176
     clear BK181
     clear BK184
     clear BK187
     clear BK192
     clear BK197
     clear HB
     have BK176:=n0_
     have BK181:=n1_
     have BK184:=n2_
     have BK187:=n3_
     have BK192:=n4_
     have BK197:=n5_
     have HB:=n6_
     clear n0_ n1_ n2_ n3_ n4_ n5_ n6_
     (try clear hb)
     (try clear hb2)
     (try clear hk)
     (try clear hi)
     refine hK.out _ _ ⟨(blk_cell BK181.out 0).trans rfl,(blk_cell BK181.out 1).trans rfl,(blk_cell BK184.out 0).trans rfl,(blk_cell BK184.out 1).trans rfl⟩ (fun hHeld=>?_)
     clear hK K
     refine norm_ (a':=?_) ?_ ?_
     rotate_left
     ·show Act.put _ (some 68) _=_
      simp only [Act.put,List.setIfInBounds_toArray,List.set_cons_zero,List.set_cons_succ,i64_w,i32_w]
      rfl
     refine pure_ (i:=17) (N:=some 69) (v:=?_) (a':=?_) #[true,true,true,true,true,true,true,true,true,true,true,true,true,true,true,true,true,true,true,true,true,true,true,false,false,false,false,false,false,false,false,false,false,false] rfl rfl (any_of HT_.out (by kernel_rfl)) (fun _ _ _ h=>h) (Or.inl ⟨by rfl,?_⟩) ?_ ?_
     rotate_left;(intro w';go_simp;with_reducible rfl);rotate_left;(simp only [Act.put,List.setIfInBounds_toArray,List.set_cons_zero,List.set_cons_succ,i64_w,i32_w];rfl)
     refine pure_ (i:=23) (N:=some 75) (v:=?_) (a':=?_) #[true,true,true,true,true,true,true,true,true,true,true,true,true,true,true,true,true,true,true,true,true,true,true,true,false,false,false,false,false,false,false,false,false,false] rfl rfl (any_of HT_.out (by kernel_rfl)) (fun _ _ _ h=>h) (Or.inl ⟨by rfl,?_⟩) ?_ ?_
     rotate_left;(intro w';go_simp;with_reducible rfl);rotate_left;(simp only [Act.put,List.setIfInBounds_toArray,List.set_cons_zero,List.set_cons_succ,i64_w,i32_w];rfl)
     refine pure_ (i:=24) (N:=some 76) (v:=?_) (a':=?_) #[true,true,true,true,true,true,true,true,true,true,true,true,true,true,true,true,true,true,true,true,true,true,true,true,true,false,false,false,false,false,false,false,false,false] rfl rfl (any_of HT_.out (by kernel_rfl)) (fun _ _ _ h=>h) (Or.inl ⟨by rfl,?_⟩) ?_ ?_
     rotate_left;(intro w';go_simp;with_reducible rfl);rotate_left;(simp only [Act.put,List.setIfInBounds_toArray,List.set_cons_zero,List.set_cons_succ,i64_w,i32_w];rfl)
     refine pure_ (i:=25) (N:=some 77) (v:=?_) (a':=?_) #[true,true,true,true,true,true,true,true,true,true,true,true,true,true,true,true,true,true,true,true,true,true,true,true,true,true,false,false,false,false,false,false,false,false] rfl rfl (any_of HT_.out (by kernel_rfl)) (fun _ _ _ h=>h) (Or.inl ⟨by rfl,?_⟩) ?_ ?_
     rotate_left;(intro w';go_simp;with_reducible rfl);rotate_left;(simp only [Act.put,List.setIfInBounds_toArray,List.set_cons_zero,List.set_cons_succ,i64_w,i32_w];rfl)
     refine pure_ (i:=26) (N:=some 78) (v:=?_) (a':=?_) #[true,true,true,true,true,true,true,true,true,true,true,true,true,true,true,true,true,true,true,true,true,true,true,true,true,true,true,false,false,false,false,false,false,false] rfl rfl (any_of HT_.out (by kernel_rfl)) (fun _ _ _ h=>h) (Or.inl ⟨by rfl,?_⟩) ?_ ?_
     rotate_left;(intro w';go_simp;with_reducible rfl);rotate_left;(simp only [Act.put,List.setIfInBounds_toArray,List.set_cons_zero,List.set_cons_succ,i64_w,i32_w];rfl)
     refine pure_ (i:=28) (N:=some 80) (v:=?_) (a':=?_) #[true,true,true,true,true,true,true,true,true,true,true,true,true,true,true,true,true,true,true,true,true,true,true,true,true,true,true,false,true,false,false,false,false,false] rfl rfl (any_of HT_.out (by kernel_rfl)) (fun _ _ _ h=>h) (Or.inl ⟨by rfl,?_⟩) ?_ ?_
     rotate_left;(intro w';go_simp;with_reducible rfl);rotate_left;(simp only [Act.put,List.setIfInBounds_toArray,List.set_cons_zero,List.set_cons_succ,i64_w,i32_w];rfl)
     refine take_ (i:=27) (N:=some 79) (v:=?_) (a':=?_) #[true,true,true,true,true,true,true,true,true,true,true,true,true,true,true,true,true,true,true,true,true,true,true,true,true,true,true,true,true,false,false,false,false,false] rfl rfl (take_ofW HT_.out HW_.out (by kernel_rfl)) (fun _ _ _ h=>h) (Or.inl ⟨by rfl,?_⟩) hHeld ?_ ?_
     rotate_left;(rintro w' ⟨s0,s1,s2,s3⟩;go_simp;with_reducible rfl);rotate_left;(simp only [Act.put,List.setIfInBounds_toArray,List.set_cons_zero,List.set_cons_succ,i64_w,i32_w];rfl)
     refine take_ (i:=30) (N:=some 82) (v:=?_) (a':=?_) #[true,true,true,true,true,true,true,true,true,true,true,true,true,true,true,true,true,true,true,true,true,true,true,true,true,true,true,true,true,false,true,false,false,false] rfl rfl (take_ofW HT_.out HW_.out (by kernel_rfl)) (fun _ _ _ h=>h) (Or.inl ⟨by rfl,?_⟩) hHeld ?_ ?_
     rotate_left;(rintro w' ⟨s0,s1,s2,s3⟩;go_simp;with_reducible rfl);rotate_left;(simp only [Act.put,List.setIfInBounds_toArray,List.set_cons_zero,List.set_cons_succ,i64_w,i32_w];rfl)
     refine one_ (i:=29) (N:=some 81) #[true,true,true,true,true,true,true,true,true,true,true,true,true,true,true,true,true,true,true,true,true,true,true,true,true,true,true,true,true,true,true,false,false,false] rfl rfl (one_of HT_.out (by kernel_rfl)) (by decide) (fun K hK=>?_)
     refine goes_ Tryd.func14 (by kernel_rfl) rfl #[.int .i64 t178,.agg #[.int .i64 t179,.string t180],.agg #[.int .i64 0,.string (⟨#[]⟩ : ByteArray)]] (by rfl) rfl rfl (by (try simp only [List.map_toArray,List.map_cons,List.map_nil]);first|done|rfl|(simp only [List.length_drop,List.length_take];rfl)) ?_
     with_reducible refine (value_Add.calls k t178 t179 t180 0 (⟨#[]⟩ : ByteArray) t204 t205 _ A211.out).mono ?_
     rintro e w217 ⟨rfl,hb⟩
     refine ⟨_,rfl,?_⟩
     have n0_:=Aside0.mk (blk_below (blk_up BK176.out) hb)
     have n1_:=Aside0.mk (blk_below (blk_up BK181.out) hb)
     have n2_:=Aside0.mk (blk_below (blk_up BK184.out) hb)
     have n3_:=Aside0.mk (blk_below (blk_up BK187.out) hb)
     have n4_:=Aside0.mk (blk_below (blk_up BK192.out) hb)
     have n5_:=Aside0.mk (blk_below (blk_up BK197.out) hb)
     have n6_:=Aside0.mk (below_step (below_go HB.out) hb)
     clear BK176
     clear BK181
     clear BK184
     clear BK187
     clear BK192
     clear BK197
     clear HB
     have BK176:=n0_
     have BK181:=n1_
     have BK184:=n2_
     have BK187:=n3_
     have BK192:=n4_
     have BK197:=n5_
     have HB:=n6_
     clear n0_ n1_ n2_ n3_ n4_ n5_ n6_
     (try clear hb)
     (try clear hb2)
     (try clear hk)
     (try clear hi)
     refine hK.out _ _ ⟨(blk_cell BK181.out 0).trans rfl,(blk_cell BK181.out 1).trans rfl,(blk_cell BK184.out 0).trans rfl,(blk_cell BK184.out 1).trans rfl⟩ (fun hHeld=>?_)
     clear hK K
     refine norm_ (a':=?_) ?_ ?_
     rotate_left
     ·show Act.put _ (some 81) _=_
      simp only [Act.put,List.setIfInBounds_toArray,List.set_cons_zero,List.set_cons_succ,i64_w,i32_w]
      rfl
     refine pure_ (i:=31) (N:=some 83) (v:=?_) (a':=?_) #[true,true,true,true,true,true,true,true,true,true,true,true,true,true,true,true,true,true,true,true,true,true,true,true,true,true,true,true,true,true,true,true,false,false] rfl rfl (any_of HT_.out (by kernel_rfl)) (fun _ _ _ h=>h) (Or.inl ⟨by rfl,?_⟩) ?_ ?_
     rotate_left;(intro w';go_simp;with_reducible rfl);rotate_left;(simp only [Act.put,List.setIfInBounds_toArray,List.set_cons_zero,List.set_cons_succ,i64_w,i32_w];rfl)
     refine pure_ (i:=32) (N:=some 84) (v:=?_) (a':=?_) #[true,true,true,true,true,true,true,true,true,true,true,true,true,true,true,true,true,true,true,true,true,true,true,true,true,true,true,true,true,true,true,true,true,false] rfl rfl (any_of HT_.out (by kernel_rfl)) (fun _ _ _ h=>h) (Or.inl ⟨by rfl,?_⟩) ?_ ?_
     rotate_left;(intro w';go_simp;with_reducible rfl);rotate_left;(simp only [Act.put,List.setIfInBounds_toArray,List.set_cons_zero,List.set_cons_succ,i64_w,i32_w];rfl)
     refine pure_ (i:=33) (N:=some 4) (v:=?_) (a':=?_) #[true,true,true,true,true,true,true,true,true,true,true,true,true,true,true,true,true,true,true,true,true,true,true,true,true,true,true,true,true,true,true,true,true,true] rfl rfl (any_of HT_.out (by kernel_rfl)) (fun _ _ _ h=>h) (Or.inl ⟨by rfl,?_⟩) ?_ ?_
     rotate_left;(intro w';go_simp;with_reducible rfl);rotate_left;(simp only [Act.put,List.setIfInBounds_toArray,List.set_cons_zero,List.set_cons_succ,i64_w,i32_w];rfl)
     refine done_ (done_of HT_.out (by kernel_rfl)) ?_
     (try clear hHeld)
     try go_wp2
     go_meet
     case rel=>exact ⟨_,((t204 == t179 && (t205.toList == t180.toList))),(by first|rfl|(simp;done)|(simp [*];done)),(by first|exact H'|(subst_vars;exact H')),⟨by first|omega|exact Nat.le_refl _⟩,⟨by (with_reducible repeat (first|refine blk_drewN ?_ _|refine blk_drew ?_|refine blk_alloc ?_ _));exact BK176.out⟩,⟨by (with_reducible repeat (first|refine blk_drewN ?_ _|refine blk_drew ?_|refine blk_alloc ?_ _));exact BK181.out⟩,⟨by (with_reducible repeat (first|refine blk_drewN ?_ _|refine blk_drew ?_|refine blk_alloc ?_ _));exact BK184.out⟩,⟨by (with_reducible repeat (first|refine blk_drewN ?_ _|refine blk_drew ?_|refine blk_alloc ?_ _));exact BK187.out⟩,⟨by (with_reducible repeat (first|refine blk_drewN ?_ _|refine blk_drew ?_|refine blk_alloc ?_ _));exact BK192.out⟩,⟨by (with_reducible repeat (first|refine blk_drewN ?_ _|refine blk_drew ?_|refine blk_alloc ?_ _));exact BK197.out⟩,⟨by repeat (first|(with_reducible first|exact HB.out|apply below_alloc|apply pw_below_drewN|apply below_drew1|refine below_set ?_ GE176.out|refine below_set ?_ GE181.out|refine below_set ?_ GE184.out|refine below_set ?_ GE187.out|refine below_set ?_ GE192.out|refine below_set ?_ GE197.out)|exact HB.out)⟩⟩
    ·rw [if_neg c210] at H
     have c210b0 : (t202 == (wrap64 (t179 + t182)))=false:=beq_eq_false_iff_ne.mpr c210
     have c210b1 : (t202 != (wrap64 (t179 + t182)))=true:=bne_iff_ne.mpr c210
     have H':=Aside0.mk H
     clear H
     try go_wp2
     have n0_ : Aside0 (((w191.setCell ⟨gb197,0,none⟩ (.int .i64 t195)).setCell ⟨gb197,1,none⟩ (.string t196)).heap[gb176]?=some (.cells #[.int .i64 a1_0,.string a1_1,.int .i64 a1_2,.string a1_3,.int .i64 a1_4,.string a1_5] 24 (0,0))):=⟨by (with_reducible repeat (first|refine blk_drewN ?_ _|refine blk_drew ?_|refine blk_alloc ?_ _));refine blk_far ?_ NB176_197.out _;(with_reducible repeat (first|refine blk_drewN ?_ _|refine blk_drew ?_|refine blk_alloc ?_ _));refine blk_far ?_ NB176_197.out _;(with_reducible repeat (first|refine blk_drewN ?_ _|refine blk_drew ?_|refine blk_alloc ?_ _));exact BK176.out⟩
     have n1_ : Aside0 (((w191.setCell ⟨gb197,0,none⟩ (.int .i64 t195)).setCell ⟨gb197,1,none⟩ (.string t196)).heap[gb181]?=some (.cells #[.int .i64 t179,.string t180] 23 (0,0))):=⟨by (with_reducible repeat (first|refine blk_drewN ?_ _|refine blk_drew ?_|refine blk_alloc ?_ _));refine blk_far ?_ NB181_197.out _;(with_reducible repeat (first|refine blk_drewN ?_ _|refine blk_drew ?_|refine blk_alloc ?_ _));refine blk_far ?_ NB181_197.out _;(with_reducible repeat (first|refine blk_drewN ?_ _|refine blk_drew ?_|refine blk_alloc ?_ _));exact BK181.out⟩
     have n2_ : Aside0 (((w191.setCell ⟨gb197,0,none⟩ (.int .i64 t195)).setCell ⟨gb197,1,none⟩ (.string t196)).heap[gb184]?=some (.cells #[.int .i64 t182,.string t183] 23 (0,0))):=⟨by (with_reducible repeat (first|refine blk_drewN ?_ _|refine blk_drew ?_|refine blk_alloc ?_ _));refine blk_far ?_ NB184_197.out _;(with_reducible repeat (first|refine blk_drewN ?_ _|refine blk_drew ?_|refine blk_alloc ?_ _));refine blk_far ?_ NB184_197.out _;(with_reducible repeat (first|refine blk_drewN ?_ _|refine blk_drew ?_|refine blk_alloc ?_ _));exact BK184.out⟩
     have n3_ : Aside0 (((w191.setCell ⟨gb197,0,none⟩ (.int .i64 t195)).setCell ⟨gb197,1,none⟩ (.string t196)).heap[gb187]?=some (.cells #[.int .i64 t185,.string t186] 23 (0,0))):=⟨by (with_reducible repeat (first|refine blk_drewN ?_ _|refine blk_drew ?_|refine blk_alloc ?_ _));refine blk_far ?_ NB187_197.out _;(with_reducible repeat (first|refine blk_drewN ?_ _|refine blk_drew ?_|refine blk_alloc ?_ _));refine blk_far ?_ NB187_197.out _;(with_reducible repeat (first|refine blk_drewN ?_ _|refine blk_drew ?_|refine blk_alloc ?_ _));exact BK187.out⟩
     have n4_ : Aside0 (((w191.setCell ⟨gb197,0,none⟩ (.int .i64 t195)).setCell ⟨gb197,1,none⟩ (.string t196)).heap[gb192]?=some (.cells #[.int .i64 t190,.string t191] 23 (0,0))):=⟨by (with_reducible repeat (first|refine blk_drewN ?_ _|refine blk_drew ?_|refine blk_alloc ?_ _));refine blk_far ?_ NB192_197.out _;(with_reducible repeat (first|refine blk_drewN ?_ _|refine blk_drew ?_|refine blk_alloc ?_ _));refine blk_far ?_ NB192_197.out _;(with_reducible repeat (first|refine blk_drewN ?_ _|refine blk_drew ?_|refine blk_alloc ?_ _));exact BK192.out⟩
     have n5_ : Aside0 (((w191.setCell ⟨gb197,0,none⟩ (.int .i64 t195)).setCell ⟨gb197,1,none⟩ (.string t196)).heap[gb197]?=some (.cells #[.int .i64 t195,.string t196] 23 (0,0))):=⟨by (with_reducible repeat (first|refine blk_drewN ?_ _|refine blk_drew ?_|refine blk_alloc ?_ _));refine blk_put (cs:=#[.int .i64 t195,.string (⟨#[]⟩ : ByteArray)]) ?_ 1 _ rfl;(with_reducible repeat (first|refine blk_drewN ?_ _|refine blk_drew ?_|refine blk_alloc ?_ _));refine blk_put (cs:=#[.int .i64 0,.string (⟨#[]⟩ : ByteArray)]) ?_ 0 _ rfl;(with_reducible repeat (first|refine blk_drewN ?_ _|refine blk_drew ?_|refine blk_alloc ?_ _));exact BK197.out⟩
     have n6_ : Aside0 (Below w.heap.size w ((w191.setCell ⟨gb197,0,none⟩ (.int .i64 t195)).setCell ⟨gb197,1,none⟩ (.string t196))):=⟨by repeat (first|(with_reducible first|exact HB.out|apply below_alloc|apply pw_below_drewN|apply below_drew1|refine below_set ?_ GE176.out|refine below_set ?_ GE181.out|refine below_set ?_ GE184.out|refine below_set ?_ GE187.out|refine below_set ?_ GE192.out|refine below_set ?_ GE197.out)|exact HB.out)⟩
     (try clear BK176)
     (try clear BK181)
     (try clear BK184)
     (try clear BK187)
     (try clear BK192)
     (try clear BK197)
     (try clear HB)
     generalize ((w191.setCell ⟨gb197,0,none⟩ (.int .i64 t195)).setCell ⟨gb197,1,none⟩ (.string t196))=w218 at n0_ n1_ n2_ n3_ n4_ n5_ n6_ ⊢
     have BK176:=n0_
     have BK181:=n1_
     have BK184:=n2_
     have BK187:=n3_
     have BK192:=n4_
     have BK197:=n5_
     have HB:=n6_
     clear n0_ n1_ n2_ n3_ n4_ n5_ n6_
     have n0_:=Aside0.mk (blk_drew BK176.out)
     have n1_:=Aside0.mk (blk_drew BK181.out)
     have n2_:=Aside0.mk (blk_drew BK184.out)
     have n3_:=Aside0.mk (blk_drew BK187.out)
     have n4_:=Aside0.mk (blk_drew BK192.out)
     have n5_:=Aside0.mk (blk_drew BK197.out)
     have n6_:=Aside0.mk (below_drew1 HB.out)
     clear BK176
     clear BK181
     clear BK184
     clear BK187
     clear BK192
     clear BK197
     clear HB
     have BK176:=n0_
     have BK181:=n1_
     have BK184:=n2_
     have BK187:=n3_
     have BK192:=n4_
     have BK197:=n5_
     have HB:=n6_
     clear n0_ n1_ n2_ n3_ n4_ n5_ n6_
     refine start_ (n:=34) (S:=fun w'=>w'.cell? ⟨gb181,0,none⟩=some (.int .i64 t179)∧w'.cell? ⟨gb181,1,none⟩=some (.string t180)∧w'.cell? ⟨gb184,0,none⟩=some (.int .i64 t182)∧w'.cell? ⟨gb184,1,none⟩=some (.string t183)) (ds:=[]) #[false,false,false,false,false,false,false,false,false,false,false,false,false,false,false,false,false,false,false,false,false,false,false,false,false,false,false,false,false,false,false,false,false,false] (by kernel_rfl) rfl rfl ⟨(blk_cell BK181.out 0).trans rfl,(blk_cell BK181.out 1).trans rfl,(blk_cell BK184.out 0).trans rfl,(blk_cell BK184.out 1).trans rfl⟩ (fun hHeld=>?_);refine with_tabW thresherlaw03_ValueSums.tab12 thresherlaw03_ValueSums.bits12 (fun HT_ HW_=>?_)
     generalize w218.drew=w219 at BK176 BK181 BK184 BK187 BK192 BK197 HB hHeld ⊢
     refine pure_ (i:=0) (N:=some 52) (v:=?_) (a':=?_) #[true,false,false,false,false,false,false,false,false,false,false,false,false,false,false,false,false,false,false,false,false,false,false,false,false,false,false,false,false,false,false,false,false,false] rfl rfl (any_of HT_.out (by kernel_rfl)) (fun _ _ _ h=>h) (Or.inl ⟨by rfl,?_⟩) ?_ ?_
     rotate_left;(intro w';go_simp;with_reducible rfl);rotate_left;(simp only [Act.put,List.setIfInBounds_toArray,List.set_cons_zero,List.set_cons_succ,i64_w,i32_w];rfl)
     refine pure_ (i:=1) (N:=some 53) (v:=?_) (a':=?_) #[true,true,false,false,false,false,false,false,false,false,false,false,false,false,false,false,false,false,false,false,false,false,false,false,false,false,false,false,false,false,false,false,false,false] rfl rfl (any_of HT_.out (by kernel_rfl)) (fun _ _ _ h=>h) (Or.inl ⟨by rfl,?_⟩) ?_ ?_
     rotate_left;(intro w';go_simp;with_reducible rfl);rotate_left;(simp only [Act.put,List.setIfInBounds_toArray,List.set_cons_zero,List.set_cons_succ,i64_w,i32_w];rfl)
     refine pure_ (i:=2) (N:=some 54) (v:=?_) (a':=?_) #[true,true,true,false,false,false,false,false,false,false,false,false,false,false,false,false,false,false,false,false,false,false,false,false,false,false,false,false,false,false,false,false,false,false] rfl rfl (any_of HT_.out (by kernel_rfl)) (fun _ _ _ h=>h) (Or.inl ⟨by rfl,?_⟩) ?_ ?_
     rotate_left;(intro w';go_simp;with_reducible rfl);rotate_left;(simp only [Act.put,List.setIfInBounds_toArray,List.set_cons_zero,List.set_cons_succ,i64_w,i32_w];rfl)
     refine pure_ (i:=6) (N:=some 58) (v:=?_) (a':=?_) #[true,true,true,false,false,false,true,false,false,false,false,false,false,false,false,false,false,false,false,false,false,false,false,false,false,false,false,false,false,false,false,false,false,false] rfl rfl (any_of HT_.out (by kernel_rfl)) (fun _ _ _ h=>h) (Or.inl ⟨by rfl,?_⟩) ?_ ?_
     rotate_left;(intro w';go_simp;with_reducible rfl);rotate_left;(simp only [Act.put,List.setIfInBounds_toArray,List.set_cons_zero,List.set_cons_succ,i64_w,i32_w];rfl)
     refine take_ (i:=3) (N:=some 55) (v:=?_) (a':=?_) #[true,true,true,true,false,false,true,false,false,false,false,false,false,false,false,false,false,false,false,false,false,false,false,false,false,false,false,false,false,false,false,false,false,false] rfl rfl (take_ofW HT_.out HW_.out (by kernel_rfl)) (fun _ _ _ h=>h) (Or.inl ⟨by rfl,?_⟩) hHeld ?_ ?_
     rotate_left;(rintro w' ⟨s0,s1,s2,s3⟩;go_simp;with_reducible rfl);rotate_left;(simp only [Act.put,List.setIfInBounds_toArray,List.set_cons_zero,List.set_cons_succ,i64_w,i32_w];rfl)
     refine take_ (i:=4) (N:=some 56) (v:=?_) (a':=?_) #[true,true,true,true,true,false,true,false,false,false,false,false,false,false,false,false,false,false,false,false,false,false,false,false,false,false,false,false,false,false,false,false,false,false] rfl rfl (take_ofW HT_.out HW_.out (by kernel_rfl)) (fun _ _ _ h=>h) (Or.inl ⟨by rfl,?_⟩) hHeld ?_ ?_
     rotate_left;(rintro w' ⟨s0,s1,s2,s3⟩;go_simp;with_reducible rfl);rotate_left;(simp only [Act.put,List.setIfInBounds_toArray,List.set_cons_zero,List.set_cons_succ,i64_w,i32_w];rfl)
     refine take_ (i:=7) (N:=some 59) (v:=?_) (a':=?_) #[true,true,true,true,true,false,true,true,false,false,false,false,false,false,false,false,false,false,false,false,false,false,false,false,false,false,false,false,false,false,false,false,false,false] rfl rfl (take_ofW HT_.out HW_.out (by kernel_rfl)) (fun _ _ _ h=>h) (Or.inl ⟨by rfl,?_⟩) hHeld ?_ ?_
     rotate_left;(rintro w' ⟨s0,s1,s2,s3⟩;go_simp;with_reducible rfl);rotate_left;(simp only [Act.put,List.setIfInBounds_toArray,List.set_cons_zero,List.set_cons_succ,i64_w,i32_w];rfl)
     refine take_ (i:=8) (N:=some 60) (v:=?_) (a':=?_) #[true,true,true,true,true,false,true,true,true,false,false,false,false,false,false,false,false,false,false,false,false,false,false,false,false,false,false,false,false,false,false,false,false,false] rfl rfl (take_ofW HT_.out HW_.out (by kernel_rfl)) (fun _ _ _ h=>h) (Or.inl ⟨by rfl,?_⟩) hHeld ?_ ?_
     rotate_left;(rintro w' ⟨s0,s1,s2,s3⟩;go_simp;with_reducible rfl);rotate_left;(simp only [Act.put,List.setIfInBounds_toArray,List.set_cons_zero,List.set_cons_succ,i64_w,i32_w];rfl)
     refine one_ (i:=5) (N:=some 57) #[true,true,true,true,true,true,true,true,true,false,false,false,false,false,false,false,false,false,false,false,false,false,false,false,false,false,false,false,false,false,false,false,false,false] rfl rfl (one_of HT_.out (by kernel_rfl)) (by decide) (fun K hK=>?_)
     refine goes_ Tryd.func14 (by kernel_rfl) rfl #[.int .i64 t178,.agg #[.int .i64 t179,.string t180],.agg #[.int .i64 t182,.string t183]] (by rfl) rfl rfl (by (try simp only [List.map_toArray,List.map_cons,List.map_nil]);first|done|rfl|(simp only [List.length_drop,List.length_take];rfl)) ?_
     with_reducible refine (value_Add.calls k t178 t179 t180 t182 t183 t198 t199 _ A206.out).mono ?_
     rintro e w220 ⟨rfl,hb⟩
     refine ⟨_,rfl,?_⟩
     have n0_:=Aside0.mk (blk_below (blk_up BK176.out) hb)
     have n1_:=Aside0.mk (blk_below (blk_up BK181.out) hb)
     have n2_:=Aside0.mk (blk_below (blk_up BK184.out) hb)
     have n3_:=Aside0.mk (blk_below (blk_up BK187.out) hb)
     have n4_:=Aside0.mk (blk_below (blk_up BK192.out) hb)
     have n5_:=Aside0.mk (blk_below (blk_up BK197.out) hb)
     have n6_:=Aside0.mk (below_step (below_go HB.out) hb)
     clear BK176
     clear BK181
     clear BK184
     clear BK187
     clear BK192
     clear BK197
     clear HB
     have BK176:=n0_
     have BK181:=n1_
     have BK184:=n2_
     have BK187:=n3_
     have BK192:=n4_
     have BK197:=n5_
     have HB:=n6_
     clear n0_ n1_ n2_ n3_ n4_ n5_ n6_
     (try clear hb)
     (try clear hb2)
     (try clear hk)
     (try clear hi)
     refine hK.out _ _ ⟨(blk_cell BK181.out 0).trans rfl,(blk_cell BK181.out 1).trans rfl,(blk_cell BK184.out 0).trans rfl,(blk_cell BK184.out 1).trans rfl⟩ (fun hHeld=>?_)
     clear hK K
     refine norm_ (a':=?_) ?_ ?_
     rotate_left
     ·show Act.put _ (some 57) _=_
      simp only [Act.put,List.setIfInBounds_toArray,List.set_cons_zero,List.set_cons_succ,i64_w,i32_w]
      rfl
     refine one_ (i:=9) (N:=some 61) #[true,true,true,true,true,true,true,true,true,true,false,false,false,false,false,false,false,false,false,false,false,false,false,false,false,false,false,false,false,false,false,false,false,false] rfl rfl (one_of HT_.out (by kernel_rfl)) (by decide) (fun K hK=>?_)
     refine goes_ Tryd.func14 (by kernel_rfl) rfl #[.int .i64 t178,.agg #[.int .i64 t182,.string t183],.agg #[.int .i64 t179,.string t180]] (by rfl) rfl rfl (by (try simp only [List.map_toArray,List.map_cons,List.map_nil]);first|done|rfl|(simp only [List.length_drop,List.length_take];rfl)) ?_
     with_reducible refine (value_Add.calls k t178 t182 t183 t179 t180 t200 t201 _ A207.out).mono ?_
     rintro e w221 ⟨rfl,hb⟩
     refine ⟨_,rfl,?_⟩
     have n0_:=Aside0.mk (blk_below (blk_up BK176.out) hb)
     have n1_:=Aside0.mk (blk_below (blk_up BK181.out) hb)
     have n2_:=Aside0.mk (blk_below (blk_up BK184.out) hb)
     have n3_:=Aside0.mk (blk_below (blk_up BK187.out) hb)
     have n4_:=Aside0.mk (blk_below (blk_up BK192.out) hb)
     have n5_:=Aside0.mk (blk_below (blk_up BK197.out) hb)
     have n6_:=Aside0.mk (below_step (below_go HB.out) hb)
     clear BK176
     clear BK181
     clear BK184
     clear BK187
     clear BK192
     clear BK197
     clear HB
     have BK176:=n0_
     have BK181:=n1_
     have BK184:=n2_
     have BK187:=n3_
     have BK192:=n4_
     have BK197:=n5_
     have HB:=n6_
     clear n0_ n1_ n2_ n3_ n4_ n5_ n6_
     (try clear hb)
     (try clear hb2)
     (try clear hk)
     (try clear hi)
     refine hK.out _ _ ⟨(blk_cell BK181.out 0).trans rfl,(blk_cell BK181.out 1).trans rfl,(blk_cell BK184.out 0).trans rfl,(blk_cell BK184.out 1).trans rfl⟩ (fun hHeld=>?_)
     clear hK K
     refine norm_ (a':=?_) ?_ ?_
     rotate_left
     ·show Act.put _ (some 61) _=_
      simp only [Act.put,List.setIfInBounds_toArray,List.set_cons_zero,List.set_cons_succ,i64_w,i32_w]
      rfl
     refine pure_ (i:=10) (N:=some 62) (v:=?_) (a':=?_) #[true,true,true,true,true,true,true,true,true,true,true,false,false,false,false,false,false,false,false,false,false,false,false,false,false,false,false,false,false,false,false,false,false,false] rfl rfl (any_of HT_.out (by kernel_rfl)) (fun _ _ _ h=>h) (Or.inl ⟨by rfl,?_⟩) ?_ ?_
     rotate_left;(intro w';go_simp;with_reducible rfl);rotate_left;(simp only [Act.put,List.setIfInBounds_toArray,List.set_cons_zero,List.set_cons_succ,i64_w,i32_w];rfl)
     refine pure_ (i:=11) (N:=some 63) (v:=?_) (a':=?_) #[true,true,true,true,true,true,true,true,true,true,true,true,false,false,false,false,false,false,false,false,false,false,false,false,false,false,false,false,false,false,false,false,false,false] rfl rfl (any_of HT_.out (by kernel_rfl)) (fun _ _ _ h=>h) (Or.inl ⟨by rfl,?_⟩) ?_ ?_
     rotate_left;(intro w';go_simp;with_reducible rfl);rotate_left;(simp only [Act.put,List.setIfInBounds_toArray,List.set_cons_zero,List.set_cons_succ,i64_w,i32_w];rfl)
     refine pure_ (i:=12) (N:=some 64) (v:=?_) (a':=?_) #[true,true,true,true,true,true,true,true,true,true,true,true,true,false,false,false,false,false,false,false,false,false,false,false,false,false,false,false,false,false,false,false,false,false] rfl rfl (any_of HT_.out (by kernel_rfl)) (fun _ _ _ h=>h) (Or.inl ⟨by rfl,?_⟩) ?_ ?_
     rotate_left;(intro w';go_simp;with_reducible rfl);rotate_left;(simp only [Act.put,List.setIfInBounds_toArray,List.set_cons_zero,List.set_cons_succ,i64_w,i32_w];rfl)
     refine pure_ (i:=13) (N:=some 65) (v:=?_) (a':=?_) #[true,true,true,true,true,true,true,true,true,true,true,true,true,true,false,false,false,false,false,false,false,false,false,false,false,false,false,false,false,false,false,false,false,false] rfl rfl (any_of HT_.out (by kernel_rfl)) (fun _ _ _ h=>h) (Or.inl ⟨by rfl,?_⟩) ?_ ?_
     rotate_left;(intro w';go_simp;with_reducible rfl);rotate_left;(simp only [Act.put,List.setIfInBounds_toArray,List.set_cons_zero,List.set_cons_succ,i64_w,i32_w];rfl)
     refine pure_ (i:=18) (N:=some 70) (v:=?_) (a':=?_) #[true,true,true,true,true,true,true,true,true,true,true,true,true,true,false,false,false,false,true,false,false,false,false,false,false,false,false,false,false,false,false,false,false,false] rfl rfl (any_of HT_.out (by kernel_rfl)) (fun _ _ _ h=>h) (Or.inl ⟨by rfl,?_⟩) ?_ ?_
     rotate_left;(intro w';go_simp;with_reducible rfl);rotate_left;(simp only [Act.put,List.setIfInBounds_toArray,List.set_cons_zero,List.set_cons_succ,i64_w,i32_w];rfl)
     refine pure_ (i:=20) (N:=some 72) (v:=?_) (a':=?_) #[true,true,true,true,true,true,true,true,true,true,true,true,true,true,false,false,false,false,true,false,true,false,false,false,false,false,false,false,false,false,false,false,false,false] rfl rfl (any_of HT_.out (by kernel_rfl)) (fun _ _ _ h=>h) (Or.inl ⟨by rfl,?_⟩) ?_ ?_
     rotate_left;(intro w';go_simp;with_reducible rfl);rotate_left;(simp only [Act.put,List.setIfInBounds_toArray,List.set_cons_zero,List.set_cons_succ,i64_w,i32_w];rfl)
     refine take_ (i:=14) (N:=some 66) (v:=?_) (a':=?_) #[true,true,true,true,true,true,true,true,true,true,true,true,true,true,true,false,false,false,true,false,true,false,false,false,false,false,false,false,false,false,false,false,false,false] rfl rfl (take_ofW HT_.out HW_.out (by kernel_rfl)) (fun _ _ _ h=>h) (Or.inl ⟨by rfl,?_⟩) hHeld ?_ ?_
     rotate_left;(rintro w' ⟨s0,s1,s2,s3⟩;go_simp;with_reducible rfl);rotate_left;(simp only [Act.put,List.setIfInBounds_toArray,List.set_cons_zero,List.set_cons_succ,i64_w,i32_w];rfl)
     refine take_ (i:=15) (N:=some 67) (v:=?_) (a':=?_) #[true,true,true,true,true,true,true,true,true,true,true,true,true,true,true,true,false,false,true,false,true,false,false,false,false,false,false,false,false,false,false,false,false,false] rfl rfl (take_ofW HT_.out HW_.out (by kernel_rfl)) (fun _ _ _ h=>h) (Or.inl ⟨by rfl,?_⟩) hHeld ?_ ?_
     rotate_left;(rintro w' ⟨s0,s1,s2,s3⟩;go_simp;with_reducible rfl);rotate_left;(simp only [Act.put,List.setIfInBounds_toArray,List.set_cons_zero,List.set_cons_succ,i64_w,i32_w];rfl)
     refine take_ (i:=19) (N:=some 71) (v:=?_) (a':=?_) #[true,true,true,true,true,true,true,true,true,true,true,true,true,true,true,true,false,false,true,true,true,false,false,false,false,false,false,false,false,false,false,false,false,false] rfl rfl (take_ofW HT_.out HW_.out (by kernel_rfl)) (fun _ _ _ h=>h) (Or.inl ⟨by rfl,?_⟩) hHeld ?_ ?_
     rotate_left;(rintro w' ⟨s0,s1,s2,s3⟩;go_simp;with_reducible rfl);rotate_left;(simp only [Act.put,List.setIfInBounds_toArray,List.set_cons_zero,List.set_cons_succ,i64_w,i32_w];rfl)
     refine take_ (i:=21) (N:=some 73) (v:=?_) (a':=?_) #[true,true,true,true,true,true,true,true,true,true,true,true,true,true,true,true,false,false,true,true,true,true,false,false,false,false,false,false,false,false,false,false,false,false] rfl rfl (take_ofW HT_.out HW_.out (by kernel_rfl)) (fun _ _ _ h=>h) (Or.inl ⟨by rfl,?_⟩) hHeld ?_ ?_
     rotate_left;(rintro w' ⟨s0,s1,s2,s3⟩;go_simp;with_reducible rfl);rotate_left;(simp only [Act.put,List.setIfInBounds_toArray,List.set_cons_zero,List.set_cons_succ,i64_w,i32_w];rfl)
     refine pure_ (i:=22) (N:=some 74) (v:=?_) (a':=?_) #[true,true,true,true,true,true,true,true,true,true,true,true,true,true,true,true,false,false,true,true,true,true,true,false,false,false,false,false,false,false,false,false,false,false] rfl rfl (any_of HT_.out (by kernel_rfl)) (fun _ _ _ h=>h) (Or.inl ⟨by rfl,?_⟩) ?_ ?_
     rotate_left;(intro w';go_simp;with_reducible rfl);rotate_left;(simp only [Act.put,List.setIfInBounds_toArray,List.set_cons_zero,List.set_cons_succ,i64_w,i32_w];rfl)
     refine one_ (i:=16) (N:=some 68) #[true,true,true,true,true,true,true,true,true,true,true,true,true,true,true,true,true,false,true,true,true,true,true,false,false,false,false,false,false,false,false,false,false,false] rfl rfl (one_of HT_.out (by kernel_rfl)) (by decide) (fun K hK=>?_)
     refine goes_ Tryd.func14 (by kernel_rfl) rfl #[.int .i64 t178,.agg #[.int .i64 t179,.string t180],.agg #[.int .i64 t182,.string t183]] (by rfl) rfl rfl (by (try simp only [List.map_toArray,List.map_cons,List.map_nil]);first|done|rfl|(simp only [List.length_drop,List.length_take];rfl)) ?_
     with_reducible refine (value_Add.calls k t178 t179 t180 t182 t183 t202 t203 _ A209.out).mono ?_
     rintro e w222 ⟨rfl,hb⟩
     refine ⟨_,rfl,?_⟩
     have n0_:=Aside0.mk (blk_below (blk_up BK176.out) hb)
     have n1_:=Aside0.mk (blk_below (blk_up BK181.out) hb)
     have n2_:=Aside0.mk (blk_below (blk_up BK184.out) hb)
     have n3_:=Aside0.mk (blk_below (blk_up BK187.out) hb)
     have n4_:=Aside0.mk (blk_below (blk_up BK192.out) hb)
     have n5_:=Aside0.mk (blk_below (blk_up BK197.out) hb)
     have n6_:=Aside0.mk (below_step (below_go HB.out) hb)
     clear BK176
     clear BK181
     clear BK184
     clear BK187
     clear BK192
     clear BK197
     clear HB
     have BK176:=n0_
     have BK181:=n1_
     have BK184:=n2_
     have BK187:=n3_
     have BK192:=n4_
     have BK197:=n5_
     have HB:=n6_
     clear n0_ n1_ n2_ n3_ n4_ n5_ n6_
     (try clear hb)
     (try clear hb2)
     (try clear hk)
     (try clear hi)
     refine hK.out _ _ ⟨(blk_cell BK181.out 0).trans rfl,(blk_cell BK181.out 1).trans rfl,(blk_cell BK184.out 0).trans rfl,(blk_cell BK184.out 1).trans rfl⟩ (fun hHeld=>?_)
     clear hK K
     refine norm_ (a':=?_) ?_ ?_
     rotate_left
     ·show Act.put _ (some 68) _=_
      simp only [Act.put,List.setIfInBounds_toArray,List.set_cons_zero,List.set_cons_succ,i64_w,i32_w]
      rfl
     refine pure_ (i:=17) (N:=some 69) (v:=?_) (a':=?_) #[true,true,true,true,true,true,true,true,true,true,true,true,true,true,true,true,true,true,true,true,true,true,true,false,false,false,false,false,false,false,false,false,false,false] rfl rfl (any_of HT_.out (by kernel_rfl)) (fun _ _ _ h=>h) (Or.inl ⟨by rfl,?_⟩) ?_ ?_
     rotate_left;(intro w';go_simp;with_reducible rfl);rotate_left;(simp only [Act.put,List.setIfInBounds_toArray,List.set_cons_zero,List.set_cons_succ,i64_w,i32_w];rfl)
     refine pure_ (i:=23) (N:=some 75) (v:=?_) (a':=?_) #[true,true,true,true,true,true,true,true,true,true,true,true,true,true,true,true,true,true,true,true,true,true,true,true,false,false,false,false,false,false,false,false,false,false] rfl rfl (any_of HT_.out (by kernel_rfl)) (fun _ _ _ h=>h) (Or.inl ⟨by rfl,?_⟩) ?_ ?_
     rotate_left;(intro w';go_simp;with_reducible rfl);rotate_left;(simp only [Act.put,List.setIfInBounds_toArray,List.set_cons_zero,List.set_cons_succ,i64_w,i32_w];rfl)
     refine pure_ (i:=24) (N:=some 76) (v:=?_) (a':=?_) #[true,true,true,true,true,true,true,true,true,true,true,true,true,true,true,true,true,true,true,true,true,true,true,true,true,false,false,false,false,false,false,false,false,false] rfl rfl (any_of HT_.out (by kernel_rfl)) (fun _ _ _ h=>h) (Or.inl ⟨by rfl,?_⟩) ?_ ?_
     rotate_left;(intro w';go_simp;with_reducible rfl);rotate_left;(simp only [Act.put,List.setIfInBounds_toArray,List.set_cons_zero,List.set_cons_succ,i64_w,i32_w];rfl)
     refine pure_ (i:=25) (N:=some 77) (v:=?_) (a':=?_) #[true,true,true,true,true,true,true,true,true,true,true,true,true,true,true,true,true,true,true,true,true,true,true,true,true,true,false,false,false,false,false,false,false,false] rfl rfl (any_of HT_.out (by kernel_rfl)) (fun _ _ _ h=>h) (Or.inl ⟨by rfl,?_⟩) ?_ ?_
     rotate_left;(intro w';go_simp;with_reducible rfl);rotate_left;(simp only [Act.put,List.setIfInBounds_toArray,List.set_cons_zero,List.set_cons_succ,i64_w,i32_w];rfl)
     refine pure_ (i:=26) (N:=some 78) (v:=undef) (a':=?_) #[true,true,true,true,true,true,true,true,true,true,true,true,true,true,true,true,true,true,true,true,true,true,true,true,true,true,true,false,false,false,false,false,false,false] rfl rfl (any_of HT_.out (by kernel_rfl)) (fun _ _ _ h=>h) (Or.inr ⟨by rfl,rfl⟩) ?_ ?_
     rotate_left
     ·simp only [Act.put,List.setIfInBounds_toArray,List.set_cons_zero,List.set_cons_succ,i64_w,i32_w]
      rfl
     refine pure_ (i:=27) (N:=some 79) (v:=undef) (a':=?_) #[true,true,true,true,true,true,true,true,true,true,true,true,true,true,true,true,true,true,true,true,true,true,true,true,true,true,true,true,false,false,false,false,false,false] rfl rfl (any_of HT_.out (by kernel_rfl)) (fun _ _ _ h=>h) (Or.inr ⟨by rfl,rfl⟩) ?_ ?_
     rotate_left
     ·simp only [Act.put,List.setIfInBounds_toArray,List.set_cons_zero,List.set_cons_succ,i64_w,i32_w]
      rfl
     refine pure_ (i:=28) (N:=some 80) (v:=undef) (a':=?_) #[true,true,true,true,true,true,true,true,true,true,true,true,true,true,true,true,true,true,true,true,true,true,true,true,true,true,true,true,true,false,false,false,false,false] rfl rfl (any_of HT_.out (by kernel_rfl)) (fun _ _ _ h=>h) (Or.inr ⟨by rfl,rfl⟩) ?_ ?_
     rotate_left
     ·simp only [Act.put,List.setIfInBounds_toArray,List.set_cons_zero,List.set_cons_succ,i64_w,i32_w]
      rfl
     refine pure_ (i:=29) (N:=some 81) (v:=undef) (a':=?_) #[true,true,true,true,true,true,true,true,true,true,true,true,true,true,true,true,true,true,true,true,true,true,true,true,true,true,true,true,true,true,false,false,false,false] rfl rfl (any_of HT_.out (by kernel_rfl)) (fun _ _ _ h=>h) (Or.inr ⟨by rfl,rfl⟩) ?_ ?_
     rotate_left
     ·simp only [Act.put,List.setIfInBounds_toArray,List.set_cons_zero,List.set_cons_succ,i64_w,i32_w]
      rfl
     refine pure_ (i:=30) (N:=some 82) (v:=undef) (a':=?_) #[true,true,true,true,true,true,true,true,true,true,true,true,true,true,true,true,true,true,true,true,true,true,true,true,true,true,true,true,true,true,true,false,false,false] rfl rfl (any_of HT_.out (by kernel_rfl)) (fun _ _ _ h=>h) (Or.inr ⟨by rfl,rfl⟩) ?_ ?_
     rotate_left
     ·simp only [Act.put,List.setIfInBounds_toArray,List.set_cons_zero,List.set_cons_succ,i64_w,i32_w]
      rfl
     refine pure_ (i:=31) (N:=some 83) (v:=undef) (a':=?_) #[true,true,true,true,true,true,true,true,true,true,true,true,true,true,true,true,true,true,true,true,true,true,true,true,true,true,true,true,true,true,true,true,false,false] rfl rfl (any_of HT_.out (by kernel_rfl)) (fun _ _ _ h=>h) (Or.inr ⟨by rfl,rfl⟩) ?_ ?_
     rotate_left
     ·simp only [Act.put,List.setIfInBounds_toArray,List.set_cons_zero,List.set_cons_succ,i64_w,i32_w]
      rfl
     refine pure_ (i:=32) (N:=some 84) (v:=?_) (a':=?_) #[true,true,true,true,true,true,true,true,true,true,true,true,true,true,true,true,true,true,true,true,true,true,true,true,true,true,true,true,true,true,true,true,true,false] rfl rfl (any_of HT_.out (by kernel_rfl)) (fun _ _ _ h=>h) (Or.inl ⟨by rfl,?_⟩) ?_ ?_
     rotate_left;(intro w';go_simp;with_reducible rfl);rotate_left;(simp only [Act.put,List.setIfInBounds_toArray,List.set_cons_zero,List.set_cons_succ,i64_w,i32_w];rfl)
     refine pure_ (i:=33) (N:=some 4) (v:=?_) (a':=?_) #[true,true,true,true,true,true,true,true,true,true,true,true,true,true,true,true,true,true,true,true,true,true,true,true,true,true,true,true,true,true,true,true,true,true] rfl rfl (any_of HT_.out (by kernel_rfl)) (fun _ _ _ h=>h) (Or.inl ⟨by rfl,?_⟩) ?_ ?_
     rotate_left;(intro w';go_simp;with_reducible rfl);rotate_left;(simp only [Act.put,List.setIfInBounds_toArray,List.set_cons_zero,List.set_cons_succ,i64_w,i32_w];rfl)
     refine done_ (done_of HT_.out (by kernel_rfl)) ?_
     (try clear hHeld)
     try go_wp2
     go_meet
     case rel=>exact ⟨_,(false),(by first|rfl|(simp;done)|(simp [*];done)),(by first|exact H'|(subst_vars;exact H')),⟨by first|omega|exact Nat.le_refl _⟩,⟨by (with_reducible repeat (first|refine blk_drewN ?_ _|refine blk_drew ?_|refine blk_alloc ?_ _));exact BK176.out⟩,⟨by (with_reducible repeat (first|refine blk_drewN ?_ _|refine blk_drew ?_|refine blk_alloc ?_ _));exact BK181.out⟩,⟨by (with_reducible repeat (first|refine blk_drewN ?_ _|refine blk_drew ?_|refine blk_alloc ?_ _));exact BK184.out⟩,⟨by (with_reducible repeat (first|refine blk_drewN ?_ _|refine blk_drew ?_|refine blk_alloc ?_ _));exact BK187.out⟩,⟨by (with_reducible repeat (first|refine blk_drewN ?_ _|refine blk_drew ?_|refine blk_alloc ?_ _));exact BK192.out⟩,⟨by (with_reducible repeat (first|refine blk_drewN ?_ _|refine blk_drew ?_|refine blk_alloc ?_ _));exact BK197.out⟩,⟨by repeat (first|(with_reducible first|exact HB.out|apply below_alloc|apply pw_below_drewN|apply below_drew1|refine below_set ?_ GE176.out|refine below_set ?_ GE181.out|refine below_set ?_ GE184.out|refine below_set ?_ GE187.out|refine below_set ?_ GE192.out|refine below_set ?_ GE197.out)|exact HB.out)⟩⟩
   ·rw [if_neg c208] at H
    have c208b0 : (t198 == t200 && (t199.toList == t201.toList))=false:=by simpa using c208
    (try (have c208b1 : decide (t198=t200 && (t199.toList == t201.toList))=false:=by simpa using c208))
    (try (have c208b2 : (t198 == t200 && (t199.toList == t201.toList))=false:=by simpa using c208))
    (try (have c208b3 : ¬ (t198=t200 && (t199.toList == t201.toList)):=by simpa using c208))
    clear c208
    (first|rw [c208b0]|(simp only [i64_w,i32_w];rw [c208b0])|skip)
    have H':=Aside0.mk H
    clear H
    try go_wp2
    have n0_ : Aside0 (((w191.setCell ⟨gb197,0,none⟩ (.int .i64 t195)).setCell ⟨gb197,1,none⟩ (.string t196)).heap[gb176]?=some (.cells #[.int .i64 a1_0,.string a1_1,.int .i64 a1_2,.string a1_3,.int .i64 a1_4,.string a1_5] 24 (0,0))):=⟨by (with_reducible repeat (first|refine blk_drewN ?_ _|refine blk_drew ?_|refine blk_alloc ?_ _));refine blk_far ?_ NB176_197.out _;(with_reducible repeat (first|refine blk_drewN ?_ _|refine blk_drew ?_|refine blk_alloc ?_ _));refine blk_far ?_ NB176_197.out _;(with_reducible repeat (first|refine blk_drewN ?_ _|refine blk_drew ?_|refine blk_alloc ?_ _));exact BK176.out⟩
    have n1_ : Aside0 (((w191.setCell ⟨gb197,0,none⟩ (.int .i64 t195)).setCell ⟨gb197,1,none⟩ (.string t196)).heap[gb181]?=some (.cells #[.int .i64 t179,.string t180] 23 (0,0))):=⟨by (with_reducible repeat (first|refine blk_drewN ?_ _|refine blk_drew ?_|refine blk_alloc ?_ _));refine blk_far ?_ NB181_197.out _;(with_reducible repeat (first|refine blk_drewN ?_ _|refine blk_drew ?_|refine blk_alloc ?_ _));refine blk_far ?_ NB181_197.out _;(with_reducible repeat (first|refine blk_drewN ?_ _|refine blk_drew ?_|refine blk_alloc ?_ _));exact BK181.out⟩
    have n2_ : Aside0 (((w191.setCell ⟨gb197,0,none⟩ (.int .i64 t195)).setCell ⟨gb197,1,none⟩ (.string t196)).heap[gb184]?=some (.cells #[.int .i64 t182,.string t183] 23 (0,0))):=⟨by (with_reducible repeat (first|refine blk_drewN ?_ _|refine blk_drew ?_|refine blk_alloc ?_ _));refine blk_far ?_ NB184_197.out _;(with_reducible repeat (first|refine blk_drewN ?_ _|refine blk_drew ?_|refine blk_alloc ?_ _));refine blk_far ?_ NB184_197.out _;(with_reducible repeat (first|refine blk_drewN ?_ _|refine blk_drew ?_|refine blk_alloc ?_ _));exact BK184.out⟩
    have n3_ : Aside0 (((w191.setCell ⟨gb197,0,none⟩ (.int .i64 t195)).setCell ⟨gb197,1,none⟩ (.string t196)).heap[gb187]?=some (.cells #[.int .i64 t185,.string t186] 23 (0,0))):=⟨by (with_reducible repeat (first|refine blk_drewN ?_ _|refine blk_drew ?_|refine blk_alloc ?_ _));refine blk_far ?_ NB187_197.out _;(with_reducible repeat (first|refine blk_drewN ?_ _|refine blk_drew ?_|refine blk_alloc ?_ _));refine blk_far ?_ NB187_197.out _;(with_reducible repeat (first|refine blk_drewN ?_ _|refine blk_drew ?_|refine blk_alloc ?_ _));exact BK187.out⟩
    have n4_ : Aside0 (((w191.setCell ⟨gb197,0,none⟩ (.int .i64 t195)).setCell ⟨gb197,1,none⟩ (.string t196)).heap[gb192]?=some (.cells #[.int .i64 t190,.string t191] 23 (0,0))):=⟨by (with_reducible repeat (first|refine blk_drewN ?_ _|refine blk_drew ?_|refine blk_alloc ?_ _));refine blk_far ?_ NB192_197.out _;(with_reducible repeat (first|refine blk_drewN ?_ _|refine blk_drew ?_|refine blk_alloc ?_ _));refine blk_far ?_ NB192_197.out _;(with_reducible repeat (first|refine blk_drewN ?_ _|refine blk_drew ?_|refine blk_alloc ?_ _));exact BK192.out⟩
    have n5_ : Aside0 (((w191.setCell ⟨gb197,0,none⟩ (.int .i64 t195)).setCell ⟨gb197,1,none⟩ (.string t196)).heap[gb197]?=some (.cells #[.int .i64 t195,.string t196] 23 (0,0))):=⟨by (with_reducible repeat (first|refine blk_drewN ?_ _|refine blk_drew ?_|refine blk_alloc ?_ _));refine blk_put (cs:=#[.int .i64 t195,.string (⟨#[]⟩ : ByteArray)]) ?_ 1 _ rfl;(with_reducible repeat (first|refine blk_drewN ?_ _|refine blk_drew ?_|refine blk_alloc ?_ _));refine blk_put (cs:=#[.int .i64 0,.string (⟨#[]⟩ : ByteArray)]) ?_ 0 _ rfl;(with_reducible repeat (first|refine blk_drewN ?_ _|refine blk_drew ?_|refine blk_alloc ?_ _));exact BK197.out⟩
    have n6_ : Aside0 (Below w.heap.size w ((w191.setCell ⟨gb197,0,none⟩ (.int .i64 t195)).setCell ⟨gb197,1,none⟩ (.string t196))):=⟨by repeat (first|(with_reducible first|exact HB.out|apply below_alloc|apply pw_below_drewN|apply below_drew1|refine below_set ?_ GE176.out|refine below_set ?_ GE181.out|refine below_set ?_ GE184.out|refine below_set ?_ GE187.out|refine below_set ?_ GE192.out|refine below_set ?_ GE197.out)|exact HB.out)⟩
    (try clear BK176)
    (try clear BK181)
    (try clear BK184)
    (try clear BK187)
    (try clear BK192)
    (try clear BK197)
    (try clear HB)
    generalize ((w191.setCell ⟨gb197,0,none⟩ (.int .i64 t195)).setCell ⟨gb197,1,none⟩ (.string t196))=w223 at n0_ n1_ n2_ n3_ n4_ n5_ n6_ ⊢
    have BK176:=n0_
    have BK181:=n1_
    have BK184:=n2_
    have BK187:=n3_
    have BK192:=n4_
    have BK197:=n5_
    have HB:=n6_
    clear n0_ n1_ n2_ n3_ n4_ n5_ n6_
    have n0_:=Aside0.mk (blk_drew BK176.out)
    have n1_:=Aside0.mk (blk_drew BK181.out)
    have n2_:=Aside0.mk (blk_drew BK184.out)
    have n3_:=Aside0.mk (blk_drew BK187.out)
    have n4_:=Aside0.mk (blk_drew BK192.out)
    have n5_:=Aside0.mk (blk_drew BK197.out)
    have n6_:=Aside0.mk (below_drew1 HB.out)
    clear BK176
    clear BK181
    clear BK184
    clear BK187
    clear BK192
    clear BK197
    clear HB
    have BK176:=n0_
    have BK181:=n1_
    have BK184:=n2_
    have BK187:=n3_
    have BK192:=n4_
    have BK197:=n5_
    have HB:=n6_
    clear n0_ n1_ n2_ n3_ n4_ n5_ n6_
    refine start_ (n:=34) (S:=fun w'=>w'.cell? ⟨gb181,0,none⟩=some (.int .i64 t179)∧w'.cell? ⟨gb181,1,none⟩=some (.string t180)∧w'.cell? ⟨gb184,0,none⟩=some (.int .i64 t182)∧w'.cell? ⟨gb184,1,none⟩=some (.string t183)) (ds:=[]) #[false,false,false,false,false,false,false,false,false,false,false,false,false,false,false,false,false,false,false,false,false,false,false,false,false,false,false,false,false,false,false,false,false,false] (by kernel_rfl) rfl rfl ⟨(blk_cell BK181.out 0).trans rfl,(blk_cell BK181.out 1).trans rfl,(blk_cell BK184.out 0).trans rfl,(blk_cell BK184.out 1).trans rfl⟩ (fun hHeld=>?_);refine with_tabW thresherlaw03_ValueSums.tab12 thresherlaw03_ValueSums.bits12 (fun HT_ HW_=>?_)
    generalize w223.drew=w224 at BK176 BK181 BK184 BK187 BK192 BK197 HB hHeld ⊢
    refine pure_ (i:=0) (N:=some 52) (v:=?_) (a':=?_) #[true,false,false,false,false,false,false,false,false,false,false,false,false,false,false,false,false,false,false,false,false,false,false,false,false,false,false,false,false,false,false,false,false,false] rfl rfl (any_of HT_.out (by kernel_rfl)) (fun _ _ _ h=>h) (Or.inl ⟨by rfl,?_⟩) ?_ ?_
    rotate_left;(intro w';go_simp;with_reducible rfl);rotate_left;(simp only [Act.put,List.setIfInBounds_toArray,List.set_cons_zero,List.set_cons_succ,i64_w,i32_w];rfl)
    refine pure_ (i:=1) (N:=some 53) (v:=?_) (a':=?_) #[true,true,false,false,false,false,false,false,false,false,false,false,false,false,false,false,false,false,false,false,false,false,false,false,false,false,false,false,false,false,false,false,false,false] rfl rfl (any_of HT_.out (by kernel_rfl)) (fun _ _ _ h=>h) (Or.inl ⟨by rfl,?_⟩) ?_ ?_
    rotate_left;(intro w';go_simp;with_reducible rfl);rotate_left;(simp only [Act.put,List.setIfInBounds_toArray,List.set_cons_zero,List.set_cons_succ,i64_w,i32_w];rfl)
    refine pure_ (i:=2) (N:=some 54) (v:=?_) (a':=?_) #[true,true,true,false,false,false,false,false,false,false,false,false,false,false,false,false,false,false,false,false,false,false,false,false,false,false,false,false,false,false,false,false,false,false] rfl rfl (any_of HT_.out (by kernel_rfl)) (fun _ _ _ h=>h) (Or.inl ⟨by rfl,?_⟩) ?_ ?_
    rotate_left;(intro w';go_simp;with_reducible rfl);rotate_left;(simp only [Act.put,List.setIfInBounds_toArray,List.set_cons_zero,List.set_cons_succ,i64_w,i32_w];rfl)
    refine pure_ (i:=6) (N:=some 58) (v:=?_) (a':=?_) #[true,true,true,false,false,false,true,false,false,false,false,false,false,false,false,false,false,false,false,false,false,false,false,false,false,false,false,false,false,false,false,false,false,false] rfl rfl (any_of HT_.out (by kernel_rfl)) (fun _ _ _ h=>h) (Or.inl ⟨by rfl,?_⟩) ?_ ?_
    rotate_left;(intro w';go_simp;with_reducible rfl);rotate_left;(simp only [Act.put,List.setIfInBounds_toArray,List.set_cons_zero,List.set_cons_succ,i64_w,i32_w];rfl)
    refine take_ (i:=3) (N:=some 55) (v:=?_) (a':=?_) #[true,true,true,true,false,false,true,false,false,false,false,false,false,false,false,false,false,false,false,false,false,false,false,false,false,false,false,false,false,false,false,false,false,false] rfl rfl (take_ofW HT_.out HW_.out (by kernel_rfl)) (fun _ _ _ h=>h) (Or.inl ⟨by rfl,?_⟩) hHeld ?_ ?_
    rotate_left;(rintro w' ⟨s0,s1,s2,s3⟩;go_simp;with_reducible rfl);rotate_left;(simp only [Act.put,List.setIfInBounds_toArray,List.set_cons_zero,List.set_cons_succ,i64_w,i32_w];rfl)
    refine take_ (i:=4) (N:=some 56) (v:=?_) (a':=?_) #[true,true,true,true,true,false,true,false,false,false,false,false,false,false,false,false,false,false,false,false,false,false,false,false,false,false,false,false,false,false,false,false,false,false] rfl rfl (take_ofW HT_.out HW_.out (by kernel_rfl)) (fun _ _ _ h=>h) (Or.inl ⟨by rfl,?_⟩) hHeld ?_ ?_
    rotate_left;(rintro w' ⟨s0,s1,s2,s3⟩;go_simp;with_reducible rfl);rotate_left;(simp only [Act.put,List.setIfInBounds_toArray,List.set_cons_zero,List.set_cons_succ,i64_w,i32_w];rfl)
    refine take_ (i:=7) (N:=some 59) (v:=?_) (a':=?_) #[true,true,true,true,true,false,true,true,false,false,false,false,false,false,false,false,false,false,false,false,false,false,false,false,false,false,false,false,false,false,false,false,false,false] rfl rfl (take_ofW HT_.out HW_.out (by kernel_rfl)) (fun _ _ _ h=>h) (Or.inl ⟨by rfl,?_⟩) hHeld ?_ ?_
    rotate_left;(rintro w' ⟨s0,s1,s2,s3⟩;go_simp;with_reducible rfl);rotate_left;(simp only [Act.put,List.setIfInBounds_toArray,List.set_cons_zero,List.set_cons_succ,i64_w,i32_w];rfl)
    refine take_ (i:=8) (N:=some 60) (v:=?_) (a':=?_) #[true,true,true,true,true,false,true,true,true,false,false,false,false,false,false,false,false,false,false,false,false,false,false,false,false,false,false,false,false,false,false,false,false,false] rfl rfl (take_ofW HT_.out HW_.out (by kernel_rfl)) (fun _ _ _ h=>h) (Or.inl ⟨by rfl,?_⟩) hHeld ?_ ?_
    rotate_left;(rintro w' ⟨s0,s1,s2,s3⟩;go_simp;with_reducible rfl);rotate_left;(simp only [Act.put,List.setIfInBounds_toArray,List.set_cons_zero,List.set_cons_succ,i64_w,i32_w];rfl)
    refine one_ (i:=5) (N:=some 57) #[true,true,true,true,true,true,true,true,true,false,false,false,false,false,false,false,false,false,false,false,false,false,false,false,false,false,false,false,false,false,false,false,false,false] rfl rfl (one_of HT_.out (by kernel_rfl)) (by decide) (fun K hK=>?_)
    refine goes_ Tryd.func14 (by kernel_rfl) rfl #[.int .i64 t178,.agg #[.int .i64 t179,.string t180],.agg #[.int .i64 t182,.string t183]] (by rfl) rfl rfl (by (try simp only [List.map_toArray,List.map_cons,List.map_nil]);first|done|rfl|(simp only [List.length_drop,List.length_take];rfl)) ?_
    with_reducible refine (value_Add.calls k t178 t179 t180 t182 t183 t198 t199 _ A206.out).mono ?_
    rintro e w225 ⟨rfl,hb⟩
    refine ⟨_,rfl,?_⟩
    have n0_:=Aside0.mk (blk_below (blk_up BK176.out) hb)
    have n1_:=Aside0.mk (blk_below (blk_up BK181.out) hb)
    have n2_:=Aside0.mk (blk_below (blk_up BK184.out) hb)
    have n3_:=Aside0.mk (blk_below (blk_up BK187.out) hb)
    have n4_:=Aside0.mk (blk_below (blk_up BK192.out) hb)
    have n5_:=Aside0.mk (blk_below (blk_up BK197.out) hb)
    have n6_:=Aside0.mk (below_step (below_go HB.out) hb)
    clear BK176
    clear BK181
    clear BK184
    clear BK187
    clear BK192
    clear BK197
    clear HB
    have BK176:=n0_
    have BK181:=n1_
    have BK184:=n2_
    have BK187:=n3_
    have BK192:=n4_
    have BK197:=n5_
    have HB:=n6_
    clear n0_ n1_ n2_ n3_ n4_ n5_ n6_
    (try clear hb)
    (try clear hb2)
    (try clear hk)
    (try clear hi)
    refine hK.out _ _ ⟨(blk_cell BK181.out 0).trans rfl,(blk_cell BK181.out 1).trans rfl,(blk_cell BK184.out 0).trans rfl,(blk_cell BK184.out 1).trans rfl⟩ (fun hHeld=>?_)
    clear hK K
    refine norm_ (a':=?_) ?_ ?_
    rotate_left
    ·show Act.put _ (some 57) _=_
     simp only [Act.put,List.setIfInBounds_toArray,List.set_cons_zero,List.set_cons_succ,i64_w,i32_w]
     rfl
    refine one_ (i:=9) (N:=some 61) #[true,true,true,true,true,true,true,true,true,true,false,false,false,false,false,false,false,false,false,false,false,false,false,false,false,false,false,false,false,false,false,false,false,false] rfl rfl (one_of HT_.out (by kernel_rfl)) (by decide) (fun K hK=>?_)
    refine goes_ Tryd.func14 (by kernel_rfl) rfl #[.int .i64 t178,.agg #[.int .i64 t182,.string t183],.agg #[.int .i64 t179,.string t180]] (by rfl) rfl rfl (by (try simp only [List.map_toArray,List.map_cons,List.map_nil]);first|done|rfl|(simp only [List.length_drop,List.length_take];rfl)) ?_
    with_reducible refine (value_Add.calls k t178 t182 t183 t179 t180 t200 t201 _ A207.out).mono ?_
    rintro e w226 ⟨rfl,hb⟩
    refine ⟨_,rfl,?_⟩
    have n0_:=Aside0.mk (blk_below (blk_up BK176.out) hb)
    have n1_:=Aside0.mk (blk_below (blk_up BK181.out) hb)
    have n2_:=Aside0.mk (blk_below (blk_up BK184.out) hb)
    have n3_:=Aside0.mk (blk_below (blk_up BK187.out) hb)
    have n4_:=Aside0.mk (blk_below (blk_up BK192.out) hb)
    have n5_:=Aside0.mk (blk_below (blk_up BK197.out) hb)
    have n6_:=Aside0.mk (below_step (below_go HB.out) hb)
    clear BK176
    clear BK181
    clear BK184
    clear BK187
    clear BK192
    clear BK197
    clear HB
    have BK176:=n0_
    have BK181:=n1_
    have BK184:=n2_
    have BK187:=n3_
    have BK192:=n4_
    have BK197:=n5_
    have HB:=n6_
    clear n0_ n1_ n2_ n3_ n4_ n5_ n6_
    (try clear hb)
    (try clear hb2)
    (try clear hk)
    (try clear hi)
    refine hK.out _ _ ⟨(blk_cell BK181.out 0).trans rfl,(blk_cell BK181.out 1).trans rfl,(blk_cell BK184.out 0).trans rfl,(blk_cell BK184.out 1).trans rfl⟩ (fun hHeld=>?_)
    clear hK K
    refine norm_ (a':=?_) ?_ ?_
    rotate_left
    ·show Act.put _ (some 61) _=_
     simp only [Act.put,List.setIfInBounds_toArray,List.set_cons_zero,List.set_cons_succ,i64_w,i32_w]
     rfl
    refine pure_ (i:=10) (N:=some 62) (v:=?_) (a':=?_) #[true,true,true,true,true,true,true,true,true,true,true,false,false,false,false,false,false,false,false,false,false,false,false,false,false,false,false,false,false,false,false,false,false,false] rfl rfl (any_of HT_.out (by kernel_rfl)) (fun _ _ _ h=>h) (Or.inl ⟨by rfl,?_⟩) ?_ ?_
    rotate_left;(intro w';go_simp;with_reducible rfl);rotate_left;(simp only [Act.put,List.setIfInBounds_toArray,List.set_cons_zero,List.set_cons_succ,i64_w,i32_w];rfl)
    refine pure_ (i:=11) (N:=some 63) (v:=?_) (a':=?_) #[true,true,true,true,true,true,true,true,true,true,true,true,false,false,false,false,false,false,false,false,false,false,false,false,false,false,false,false,false,false,false,false,false,false] rfl rfl (any_of HT_.out (by kernel_rfl)) (fun _ _ _ h=>h) (Or.inl ⟨by rfl,?_⟩) ?_ ?_
    rotate_left;(intro w';go_simp;with_reducible rfl);rotate_left;(simp only [Act.put,List.setIfInBounds_toArray,List.set_cons_zero,List.set_cons_succ,i64_w,i32_w];rfl)
    refine pure_ (i:=12) (N:=some 64) (v:=?_) (a':=?_) #[true,true,true,true,true,true,true,true,true,true,true,true,true,false,false,false,false,false,false,false,false,false,false,false,false,false,false,false,false,false,false,false,false,false] rfl rfl (any_of HT_.out (by kernel_rfl)) (fun _ _ _ h=>h) (Or.inl ⟨by rfl,?_⟩) ?_ ?_
    rotate_left;(intro w';go_simp;with_reducible rfl);rotate_left;(simp only [Act.put,List.setIfInBounds_toArray,List.set_cons_zero,List.set_cons_succ,i64_w,i32_w];rfl)
    refine pure_ (i:=13) (N:=some 65) (v:=undef) (a':=?_) #[true,true,true,true,true,true,true,true,true,true,true,true,true,true,false,false,false,false,false,false,false,false,false,false,false,false,false,false,false,false,false,false,false,false] rfl rfl (any_of HT_.out (by kernel_rfl)) (fun _ _ _ h=>h) (Or.inr ⟨by rfl,rfl⟩) ?_ ?_
    rotate_left
    ·simp only [Act.put,List.setIfInBounds_toArray,List.set_cons_zero,List.set_cons_succ,i64_w,i32_w]
     rfl
    refine pure_ (i:=14) (N:=some 66) (v:=undef) (a':=?_) #[true,true,true,true,true,true,true,true,true,true,true,true,true,true,true,false,false,false,false,false,false,false,false,false,false,false,false,false,false,false,false,false,false,false] rfl rfl (any_of HT_.out (by kernel_rfl)) (fun _ _ _ h=>h) (Or.inr ⟨by rfl,rfl⟩) ?_ ?_
    rotate_left
    ·simp only [Act.put,List.setIfInBounds_toArray,List.set_cons_zero,List.set_cons_succ,i64_w,i32_w]
     rfl
    refine pure_ (i:=15) (N:=some 67) (v:=undef) (a':=?_) #[true,true,true,true,true,true,true,true,true,true,true,true,true,true,true,true,false,false,false,false,false,false,false,false,false,false,false,false,false,false,false,false,false,false] rfl rfl (any_of HT_.out (by kernel_rfl)) (fun _ _ _ h=>h) (Or.inr ⟨by rfl,rfl⟩) ?_ ?_
    rotate_left
    ·simp only [Act.put,List.setIfInBounds_toArray,List.set_cons_zero,List.set_cons_succ,i64_w,i32_w]
     rfl
    refine pure_ (i:=16) (N:=some 68) (v:=undef) (a':=?_) #[true,true,true,true,true,true,true,true,true,true,true,true,true,true,true,true,true,false,false,false,false,false,false,false,false,false,false,false,false,false,false,false,false,false] rfl rfl (any_of HT_.out (by kernel_rfl)) (fun _ _ _ h=>h) (Or.inr ⟨by rfl,rfl⟩) ?_ ?_
    rotate_left
    ·simp only [Act.put,List.setIfInBounds_toArray,List.set_cons_zero,List.set_cons_succ,i64_w,i32_w]
     rfl
    refine pure_ (i:=17) (N:=some 69) (v:=undef) (a':=?_) #[true,true,true,true,true,true,true,true,true,true,true,true,true,true,true,true,true,true,false,false,false,false,false,false,false,false,false,false,false,false,false,false,false,false] rfl rfl (any_of HT_.out (by kernel_rfl)) (fun _ _ _ h=>h) (Or.inr ⟨by rfl,rfl⟩) ?_ ?_
    rotate_left
    ·simp only [Act.put,List.setIfInBounds_toArray,List.set_cons_zero,List.set_cons_succ,i64_w,i32_w]
     rfl
    refine pure_ (i:=18) (N:=some 70) (v:=undef) (a':=?_) #[true,true,true,true,true,true,true,true,true,true,true,true,true,true,true,true,true,true,true,false,false,false,false,false,false,false,false,false,false,false,false,false,false,false] rfl rfl (any_of HT_.out (by kernel_rfl)) (fun _ _ _ h=>h) (Or.inr ⟨by rfl,rfl⟩) ?_ ?_
    rotate_left
    ·simp only [Act.put,List.setIfInBounds_toArray,List.set_cons_zero,List.set_cons_succ,i64_w,i32_w]
     rfl
    refine pure_ (i:=19) (N:=some 71) (v:=undef) (a':=?_) #[true,true,true,true,true,true,true,true,true,true,true,true,true,true,true,true,true,true,true,true,false,false,false,false,false,false,false,false,false,false,false,false,false,false] rfl rfl (any_of HT_.out (by kernel_rfl)) (fun _ _ _ h=>h) (Or.inr ⟨by rfl,rfl⟩) ?_ ?_
    rotate_left
    ·simp only [Act.put,List.setIfInBounds_toArray,List.set_cons_zero,List.set_cons_succ,i64_w,i32_w]
     rfl
    refine pure_ (i:=20) (N:=some 72) (v:=undef) (a':=?_) #[true,true,true,true,true,true,true,true,true,true,true,true,true,true,true,true,true,true,true,true,true,false,false,false,false,false,false,false,false,false,false,false,false,false] rfl rfl (any_of HT_.out (by kernel_rfl)) (fun _ _ _ h=>h) (Or.inr ⟨by rfl,rfl⟩) ?_ ?_
    rotate_left
    ·simp only [Act.put,List.setIfInBounds_toArray,List.set_cons_zero,List.set_cons_succ,i64_w,i32_w]
     rfl
    refine pure_ (i:=21) (N:=some 73) (v:=undef) (a':=?_) #[true,true,true,true,true,true,true,true,true,true,true,true,true,true,true,true,true,true,true,true,true,true,false,false,false,false,false,false,false,false,false,false,false,false] rfl rfl (any_of HT_.out (by kernel_rfl)) (fun _ _ _ h=>h) (Or.inr ⟨by rfl,rfl⟩) ?_ ?_
    rotate_left
    ·simp only [Act.put,List.setIfInBounds_toArray,List.set_cons_zero,List.set_cons_succ,i64_w,i32_w]
     rfl
    refine pure_ (i:=22) (N:=some 74) (v:=undef) (a':=?_) #[true,true,true,true,true,true,true,true,true,true,true,true,true,true,true,true,true,true,true,true,true,true,true,false,false,false,false,false,false,false,false,false,false,false] rfl rfl (any_of HT_.out (by kernel_rfl)) (fun _ _ _ h=>h) (Or.inr ⟨by rfl,rfl⟩) ?_ ?_
    rotate_left
    ·simp only [Act.put,List.setIfInBounds_toArray,List.set_cons_zero,List.set_cons_succ,i64_w,i32_w]
     rfl
    refine pure_ (i:=23) (N:=some 75) (v:=undef) (a':=?_) #[true,true,true,true,true,true,true,true,true,true,true,true,true,true,true,true,true,true,true,true,true,true,true,true,false,false,false,false,false,false,false,false,false,false] rfl rfl (any_of HT_.out (by kernel_rfl)) (fun _ _ _ h=>h) (Or.inr ⟨by rfl,rfl⟩) ?_ ?_
    rotate_left
    ·simp only [Act.put,List.setIfInBounds_toArray,List.set_cons_zero,List.set_cons_succ,i64_w,i32_w]
     rfl
    refine pure_ (i:=24) (N:=some 76) (v:=?_) (a':=?_) #[true,true,true,true,true,true,true,true,true,true,true,true,true,true,true,true,true,true,true,true,true,true,true,true,true,false,false,false,false,false,false,false,false,false] rfl rfl (any_of HT_.out (by kernel_rfl)) (fun _ _ _ h=>h) (Or.inl ⟨by rfl,?_⟩) ?_ ?_
    rotate_left;(intro w';go_simp;with_reducible rfl);rotate_left;(simp only [Act.put,List.setIfInBounds_toArray,List.set_cons_zero,List.set_cons_succ,i64_w,i32_w];rfl)
    refine pure_ (i:=25) (N:=some 77) (v:=?_) (a':=?_) #[true,true,true,true,true,true,true,true,true,true,true,true,true,true,true,true,true,true,true,true,true,true,true,true,true,true,false,false,false,false,false,false,false,false] rfl rfl (any_of HT_.out (by kernel_rfl)) (fun _ _ _ h=>h) (Or.inl ⟨by rfl,?_⟩) ?_ ?_
    rotate_left;(intro w';go_simp;with_reducible rfl);rotate_left;(simp only [Act.put,List.setIfInBounds_toArray,List.set_cons_zero,List.set_cons_succ,i64_w,i32_w];rfl)
    refine pure_ (i:=26) (N:=some 78) (v:=undef) (a':=?_) #[true,true,true,true,true,true,true,true,true,true,true,true,true,true,true,true,true,true,true,true,true,true,true,true,true,true,true,false,false,false,false,false,false,false] rfl rfl (any_of HT_.out (by kernel_rfl)) (fun _ _ _ h=>h) (Or.inr ⟨by rfl,rfl⟩) ?_ ?_
    rotate_left
    ·simp only [Act.put,List.setIfInBounds_toArray,List.set_cons_zero,List.set_cons_succ,i64_w,i32_w]
     rfl
    refine pure_ (i:=27) (N:=some 79) (v:=undef) (a':=?_) #[true,true,true,true,true,true,true,true,true,true,true,true,true,true,true,true,true,true,true,true,true,true,true,true,true,true,true,true,false,false,false,false,false,false] rfl rfl (any_of HT_.out (by kernel_rfl)) (fun _ _ _ h=>h) (Or.inr ⟨by rfl,rfl⟩) ?_ ?_
    rotate_left
    ·simp only [Act.put,List.setIfInBounds_toArray,List.set_cons_zero,List.set_cons_succ,i64_w,i32_w]
     rfl
    refine pure_ (i:=28) (N:=some 80) (v:=undef) (a':=?_) #[true,true,true,true,true,true,true,true,true,true,true,true,true,true,true,true,true,true,true,true,true,true,true,true,true,true,true,true,true,false,false,false,false,false] rfl rfl (any_of HT_.out (by kernel_rfl)) (fun _ _ _ h=>h) (Or.inr ⟨by rfl,rfl⟩) ?_ ?_
    rotate_left
    ·simp only [Act.put,List.setIfInBounds_toArray,List.set_cons_zero,List.set_cons_succ,i64_w,i32_w]
     rfl
    refine pure_ (i:=29) (N:=some 81) (v:=undef) (a':=?_) #[true,true,true,true,true,true,true,true,true,true,true,true,true,true,true,true,true,true,true,true,true,true,true,true,true,true,true,true,true,true,false,false,false,false] rfl rfl (any_of HT_.out (by kernel_rfl)) (fun _ _ _ h=>h) (Or.inr ⟨by rfl,rfl⟩) ?_ ?_
    rotate_left
    ·simp only [Act.put,List.setIfInBounds_toArray,List.set_cons_zero,List.set_cons_succ,i64_w,i32_w]
     rfl
    refine pure_ (i:=30) (N:=some 82) (v:=undef) (a':=?_) #[true,true,true,true,true,true,true,true,true,true,true,true,true,true,true,true,true,true,true,true,true,true,true,true,true,true,true,true,true,true,true,false,false,false] rfl rfl (any_of HT_.out (by kernel_rfl)) (fun _ _ _ h=>h) (Or.inr ⟨by rfl,rfl⟩) ?_ ?_
    rotate_left
    ·simp only [Act.put,List.setIfInBounds_toArray,List.set_cons_zero,List.set_cons_succ,i64_w,i32_w]
     rfl
    refine pure_ (i:=31) (N:=some 83) (v:=undef) (a':=?_) #[true,true,true,true,true,true,true,true,true,true,true,true,true,true,true,true,true,true,true,true,true,true,true,true,true,true,true,true,true,true,true,true,false,false] rfl rfl (any_of HT_.out (by kernel_rfl)) (fun _ _ _ h=>h) (Or.inr ⟨by rfl,rfl⟩) ?_ ?_
    rotate_left
    ·simp only [Act.put,List.setIfInBounds_toArray,List.set_cons_zero,List.set_cons_succ,i64_w,i32_w]
     rfl
    refine pure_ (i:=32) (N:=some 84) (v:=?_) (a':=?_) #[true,true,true,true,true,true,true,true,true,true,true,true,true,true,true,true,true,true,true,true,true,true,true,true,true,true,true,true,true,true,true,true,true,false] rfl rfl (any_of HT_.out (by kernel_rfl)) (fun _ _ _ h=>h) (Or.inl ⟨by rfl,?_⟩) ?_ ?_
    rotate_left;(intro w';go_simp;with_reducible rfl);rotate_left;(simp only [Act.put,List.setIfInBounds_toArray,List.set_cons_zero,List.set_cons_succ,i64_w,i32_w];rfl)
    refine pure_ (i:=33) (N:=some 4) (v:=?_) (a':=?_) #[true,true,true,true,true,true,true,true,true,true,true,true,true,true,true,true,true,true,true,true,true,true,true,true,true,true,true,true,true,true,true,true,true,true] rfl rfl (any_of HT_.out (by kernel_rfl)) (fun _ _ _ h=>h) (Or.inl ⟨by rfl,?_⟩) ?_ ?_
    rotate_left;(intro w';go_simp;with_reducible rfl);rotate_left;(simp only [Act.put,List.setIfInBounds_toArray,List.set_cons_zero,List.set_cons_succ,i64_w,i32_w];rfl)
    refine done_ (done_of HT_.out (by kernel_rfl)) ?_
    (try clear hHeld)
    try go_wp2
    go_meet
    case rel=>exact ⟨_,(false),(by first|rfl|(simp;done)|(simp [*];done)),(by first|exact H'|(subst_vars;exact H')),⟨by first|omega|exact Nat.le_refl _⟩,⟨by (with_reducible repeat (first|refine blk_drewN ?_ _|refine blk_drew ?_|refine blk_alloc ?_ _));exact BK176.out⟩,⟨by (with_reducible repeat (first|refine blk_drewN ?_ _|refine blk_drew ?_|refine blk_alloc ?_ _));exact BK181.out⟩,⟨by (with_reducible repeat (first|refine blk_drewN ?_ _|refine blk_drew ?_|refine blk_alloc ?_ _));exact BK184.out⟩,⟨by (with_reducible repeat (first|refine blk_drewN ?_ _|refine blk_drew ?_|refine blk_alloc ?_ _));exact BK187.out⟩,⟨by (with_reducible repeat (first|refine blk_drewN ?_ _|refine blk_drew ?_|refine blk_alloc ?_ _));exact BK192.out⟩,⟨by (with_reducible repeat (first|refine blk_drewN ?_ _|refine blk_drew ?_|refine blk_alloc ?_ _));exact BK197.out⟩,⟨by repeat (first|(with_reducible first|exact HB.out|apply below_alloc|apply pw_below_drewN|apply below_drew1|refine below_set ?_ GE176.out|refine below_set ?_ GE181.out|refine below_set ?_ GE184.out|refine below_set ?_ GE187.out|refine below_set ?_ GE192.out|refine below_set ?_ GE197.out)|exact HB.out)⟩⟩
  ·replace c205:=Bool.eq_false_iff.mpr c205
   subst c205
   have H1 : (thresherlaw03_ValueSums.j0 k false)=some r:=by rw [if_neg (show ¬ (false=true) by decide)] at H;exact H
   clear H
   have H:=H1
   clear H1
   have H':=Aside0.mk H
   clear H
   try go_wp2
   have n0_ : Aside0 (((w191.setCell ⟨gb197,0,none⟩ (.int .i64 t195)).setCell ⟨gb197,1,none⟩ (.string t196)).heap[gb176]?=some (.cells #[.int .i64 a1_0,.string a1_1,.int .i64 a1_2,.string a1_3,.int .i64 a1_4,.string a1_5] 24 (0,0))):=⟨by (with_reducible repeat (first|refine blk_drewN ?_ _|refine blk_drew ?_|refine blk_alloc ?_ _));refine blk_far ?_ NB176_197.out _;(with_reducible repeat (first|refine blk_drewN ?_ _|refine blk_drew ?_|refine blk_alloc ?_ _));refine blk_far ?_ NB176_197.out _;(with_reducible repeat (first|refine blk_drewN ?_ _|refine blk_drew ?_|refine blk_alloc ?_ _));exact BK176.out⟩
   have n1_ : Aside0 (((w191.setCell ⟨gb197,0,none⟩ (.int .i64 t195)).setCell ⟨gb197,1,none⟩ (.string t196)).heap[gb181]?=some (.cells #[.int .i64 t179,.string t180] 23 (0,0))):=⟨by (with_reducible repeat (first|refine blk_drewN ?_ _|refine blk_drew ?_|refine blk_alloc ?_ _));refine blk_far ?_ NB181_197.out _;(with_reducible repeat (first|refine blk_drewN ?_ _|refine blk_drew ?_|refine blk_alloc ?_ _));refine blk_far ?_ NB181_197.out _;(with_reducible repeat (first|refine blk_drewN ?_ _|refine blk_drew ?_|refine blk_alloc ?_ _));exact BK181.out⟩
   have n2_ : Aside0 (((w191.setCell ⟨gb197,0,none⟩ (.int .i64 t195)).setCell ⟨gb197,1,none⟩ (.string t196)).heap[gb184]?=some (.cells #[.int .i64 t182,.string t183] 23 (0,0))):=⟨by (with_reducible repeat (first|refine blk_drewN ?_ _|refine blk_drew ?_|refine blk_alloc ?_ _));refine blk_far ?_ NB184_197.out _;(with_reducible repeat (first|refine blk_drewN ?_ _|refine blk_drew ?_|refine blk_alloc ?_ _));refine blk_far ?_ NB184_197.out _;(with_reducible repeat (first|refine blk_drewN ?_ _|refine blk_drew ?_|refine blk_alloc ?_ _));exact BK184.out⟩
   have n3_ : Aside0 (((w191.setCell ⟨gb197,0,none⟩ (.int .i64 t195)).setCell ⟨gb197,1,none⟩ (.string t196)).heap[gb187]?=some (.cells #[.int .i64 t185,.string t186] 23 (0,0))):=⟨by (with_reducible repeat (first|refine blk_drewN ?_ _|refine blk_drew ?_|refine blk_alloc ?_ _));refine blk_far ?_ NB187_197.out _;(with_reducible repeat (first|refine blk_drewN ?_ _|refine blk_drew ?_|refine blk_alloc ?_ _));refine blk_far ?_ NB187_197.out _;(with_reducible repeat (first|refine blk_drewN ?_ _|refine blk_drew ?_|refine blk_alloc ?_ _));exact BK187.out⟩
   have n4_ : Aside0 (((w191.setCell ⟨gb197,0,none⟩ (.int .i64 t195)).setCell ⟨gb197,1,none⟩ (.string t196)).heap[gb192]?=some (.cells #[.int .i64 t190,.string t191] 23 (0,0))):=⟨by (with_reducible repeat (first|refine blk_drewN ?_ _|refine blk_drew ?_|refine blk_alloc ?_ _));refine blk_far ?_ NB192_197.out _;(with_reducible repeat (first|refine blk_drewN ?_ _|refine blk_drew ?_|refine blk_alloc ?_ _));refine blk_far ?_ NB192_197.out _;(with_reducible repeat (first|refine blk_drewN ?_ _|refine blk_drew ?_|refine blk_alloc ?_ _));exact BK192.out⟩
   have n5_ : Aside0 (((w191.setCell ⟨gb197,0,none⟩ (.int .i64 t195)).setCell ⟨gb197,1,none⟩ (.string t196)).heap[gb197]?=some (.cells #[.int .i64 t195,.string t196] 23 (0,0))):=⟨by (with_reducible repeat (first|refine blk_drewN ?_ _|refine blk_drew ?_|refine blk_alloc ?_ _));refine blk_put (cs:=#[.int .i64 t195,.string (⟨#[]⟩ : ByteArray)]) ?_ 1 _ rfl;(with_reducible repeat (first|refine blk_drewN ?_ _|refine blk_drew ?_|refine blk_alloc ?_ _));refine blk_put (cs:=#[.int .i64 0,.string (⟨#[]⟩ : ByteArray)]) ?_ 0 _ rfl;(with_reducible repeat (first|refine blk_drewN ?_ _|refine blk_drew ?_|refine blk_alloc ?_ _));exact BK197.out⟩
   have n6_ : Aside0 (Below w.heap.size w ((w191.setCell ⟨gb197,0,none⟩ (.int .i64 t195)).setCell ⟨gb197,1,none⟩ (.string t196))):=⟨by repeat (first|(with_reducible first|exact HB.out|apply below_alloc|apply pw_below_drewN|apply below_drew1|refine below_set ?_ GE176.out|refine below_set ?_ GE181.out|refine below_set ?_ GE184.out|refine below_set ?_ GE187.out|refine below_set ?_ GE192.out|refine below_set ?_ GE197.out)|exact HB.out)⟩
   (try clear BK176)
   (try clear BK181)
   (try clear BK184)
   (try clear BK187)
   (try clear BK192)
   (try clear BK197)
   (try clear HB)
   generalize ((w191.setCell ⟨gb197,0,none⟩ (.int .i64 t195)).setCell ⟨gb197,1,none⟩ (.string t196))=w227 at n0_ n1_ n2_ n3_ n4_ n5_ n6_ ⊢
   have BK176:=n0_
   have BK181:=n1_
   have BK184:=n2_
   have BK187:=n3_
   have BK192:=n4_
   have BK197:=n5_
   have HB:=n6_
   clear n0_ n1_ n2_ n3_ n4_ n5_ n6_
   have n0_:=Aside0.mk (blk_drew BK176.out)
   have n1_:=Aside0.mk (blk_drew BK181.out)
   have n2_:=Aside0.mk (blk_drew BK184.out)
   have n3_:=Aside0.mk (blk_drew BK187.out)
   have n4_:=Aside0.mk (blk_drew BK192.out)
   have n5_:=Aside0.mk (blk_drew BK197.out)
   have n6_:=Aside0.mk (below_drew1 HB.out)
   clear BK176
   clear BK181
   clear BK184
   clear BK187
   clear BK192
   clear BK197
   clear HB
   have BK176:=n0_
   have BK181:=n1_
   have BK184:=n2_
   have BK187:=n3_
   have BK192:=n4_
   have BK197:=n5_
   have HB:=n6_
   clear n0_ n1_ n2_ n3_ n4_ n5_ n6_
   refine start_ (n:=34) (S:=fun w'=>True) (ds:=[]) #[false,false,false,false,false,false,false,false,false,false,false,false,false,false,false,false,false,false,false,false,false,false,false,false,false,false,false,false,false,false,false,false,false,false] (by kernel_rfl) rfl rfl trivial (fun hHeld=>?_);refine with_tabW thresherlaw03_ValueSums.tab12 thresherlaw03_ValueSums.bits12 (fun HT_ HW_=>?_)
   generalize w227.drew=w228 at BK176 BK181 BK184 BK187 BK192 BK197 HB hHeld ⊢
   refine pure_ (i:=0) (N:=some 52) (v:=?_) (a':=?_) #[true,false,false,false,false,false,false,false,false,false,false,false,false,false,false,false,false,false,false,false,false,false,false,false,false,false,false,false,false,false,false,false,false,false] rfl rfl (any_of HT_.out (by kernel_rfl)) (fun _ _ _ h=>h) (Or.inl ⟨by rfl,?_⟩) ?_ ?_
   rotate_left;(intro w';go_simp;with_reducible rfl);rotate_left;(simp only [Act.put,List.setIfInBounds_toArray,List.set_cons_zero,List.set_cons_succ,i64_w,i32_w];rfl)
   refine pure_ (i:=1) (N:=some 53) (v:=?_) (a':=?_) #[true,true,false,false,false,false,false,false,false,false,false,false,false,false,false,false,false,false,false,false,false,false,false,false,false,false,false,false,false,false,false,false,false,false] rfl rfl (any_of HT_.out (by kernel_rfl)) (fun _ _ _ h=>h) (Or.inl ⟨by rfl,?_⟩) ?_ ?_
   rotate_left;(intro w';go_simp;with_reducible rfl);rotate_left;(simp only [Act.put,List.setIfInBounds_toArray,List.set_cons_zero,List.set_cons_succ,i64_w,i32_w];rfl)
   refine pure_ (i:=2) (N:=some 54) (v:=undef) (a':=?_) #[true,true,true,false,false,false,false,false,false,false,false,false,false,false,false,false,false,false,false,false,false,false,false,false,false,false,false,false,false,false,false,false,false,false] rfl rfl (any_of HT_.out (by kernel_rfl)) (fun _ _ _ h=>h) (Or.inr ⟨by rfl,rfl⟩) ?_ ?_
   rotate_left
   ·simp only [Act.put,List.setIfInBounds_toArray,List.set_cons_zero,List.set_cons_succ,i64_w,i32_w]
    rfl
   refine pure_ (i:=3) (N:=some 55) (v:=undef) (a':=?_) #[true,true,true,true,false,false,false,false,false,false,false,false,false,false,false,false,false,false,false,false,false,false,false,false,false,false,false,false,false,false,false,false,false,false] rfl rfl (any_of HT_.out (by kernel_rfl)) (fun _ _ _ h=>h) (Or.inr ⟨by rfl,rfl⟩) ?_ ?_
   rotate_left
   ·simp only [Act.put,List.setIfInBounds_toArray,List.set_cons_zero,List.set_cons_succ,i64_w,i32_w]
    rfl
   refine pure_ (i:=4) (N:=some 56) (v:=undef) (a':=?_) #[true,true,true,true,true,false,false,false,false,false,false,false,false,false,false,false,false,false,false,false,false,false,false,false,false,false,false,false,false,false,false,false,false,false] rfl rfl (any_of HT_.out (by kernel_rfl)) (fun _ _ _ h=>h) (Or.inr ⟨by rfl,rfl⟩) ?_ ?_
   rotate_left
   ·simp only [Act.put,List.setIfInBounds_toArray,List.set_cons_zero,List.set_cons_succ,i64_w,i32_w]
    rfl
   refine pure_ (i:=5) (N:=some 57) (v:=undef) (a':=?_) #[true,true,true,true,true,true,false,false,false,false,false,false,false,false,false,false,false,false,false,false,false,false,false,false,false,false,false,false,false,false,false,false,false,false] rfl rfl (any_of HT_.out (by kernel_rfl)) (fun _ _ _ h=>h) (Or.inr ⟨by rfl,rfl⟩) ?_ ?_
   rotate_left
   ·simp only [Act.put,List.setIfInBounds_toArray,List.set_cons_zero,List.set_cons_succ,i64_w,i32_w]
    rfl
   refine pure_ (i:=6) (N:=some 58) (v:=undef) (a':=?_) #[true,true,true,true,true,true,true,false,false,false,false,false,false,false,false,false,false,false,false,false,false,false,false,false,false,false,false,false,false,false,false,false,false,false] rfl rfl (any_of HT_.out (by kernel_rfl)) (fun _ _ _ h=>h) (Or.inr ⟨by rfl,rfl⟩) ?_ ?_
   rotate_left
   ·simp only [Act.put,List.setIfInBounds_toArray,List.set_cons_zero,List.set_cons_succ,i64_w,i32_w]
    rfl
   refine pure_ (i:=7) (N:=some 59) (v:=undef) (a':=?_) #[true,true,true,true,true,true,true,true,false,false,false,false,false,false,false,false,false,false,false,false,false,false,false,false,false,false,false,false,false,false,false,false,false,false] rfl rfl (any_of HT_.out (by kernel_rfl)) (fun _ _ _ h=>h) (Or.inr ⟨by rfl,rfl⟩) ?_ ?_
   rotate_left
   ·simp only [Act.put,List.setIfInBounds_toArray,List.set_cons_zero,List.set_cons_succ,i64_w,i32_w]
    rfl
   refine pure_ (i:=8) (N:=some 60) (v:=undef) (a':=?_) #[true,true,true,true,true,true,true,true,true,false,false,false,false,false,false,false,false,false,false,false,false,false,false,false,false,false,false,false,false,false,false,false,false,false] rfl rfl (any_of HT_.out (by kernel_rfl)) (fun _ _ _ h=>h) (Or.inr ⟨by rfl,rfl⟩) ?_ ?_
   rotate_left
   ·simp only [Act.put,List.setIfInBounds_toArray,List.set_cons_zero,List.set_cons_succ,i64_w,i32_w]
    rfl
   refine pure_ (i:=9) (N:=some 61) (v:=undef) (a':=?_) #[true,true,true,true,true,true,true,true,true,true,false,false,false,false,false,false,false,false,false,false,false,false,false,false,false,false,false,false,false,false,false,false,false,false] rfl rfl (any_of HT_.out (by kernel_rfl)) (fun _ _ _ h=>h) (Or.inr ⟨by rfl,rfl⟩) ?_ ?_
   rotate_left
   ·simp only [Act.put,List.setIfInBounds_toArray,List.set_cons_zero,List.set_cons_succ,i64_w,i32_w]
    rfl
   refine pure_ (i:=10) (N:=some 62) (v:=undef) (a':=?_) #[true,true,true,true,true,true,true,true,true,true,true,false,false,false,false,false,false,false,false,false,false,false,false,false,false,false,false,false,false,false,false,false,false,false] rfl rfl (any_of HT_.out (by kernel_rfl)) (fun _ _ _ h=>h) (Or.inr ⟨by rfl,rfl⟩) ?_ ?_
   rotate_left
   ·simp only [Act.put,List.setIfInBounds_toArray,List.set_cons_zero,List.set_cons_succ,i64_w,i32_w]
    rfl
   refine pure_ (i:=11) (N:=some 63) (v:=?_) (a':=?_) #[true,true,true,true,true,true,true,true,true,true,true,true,false,false,false,false,false,false,false,false,false,false,false,false,false,false,false,false,false,false,false,false,false,false] rfl rfl (any_of HT_.out (by kernel_rfl)) (fun _ _ _ h=>h) (Or.inl ⟨by rfl,?_⟩) ?_ ?_
   rotate_left;(intro w';go_simp;with_reducible rfl);rotate_left;(simp only [Act.put,List.setIfInBounds_toArray,List.set_cons_zero,List.set_cons_succ,i64_w,i32_w];rfl)
   refine pure_ (i:=12) (N:=some 64) (v:=?_) (a':=?_) #[true,true,true,true,true,true,true,true,true,true,true,true,true,false,false,false,false,false,false,false,false,false,false,false,false,false,false,false,false,false,false,false,false,false] rfl rfl (any_of HT_.out (by kernel_rfl)) (fun _ _ _ h=>h) (Or.inl ⟨by rfl,?_⟩) ?_ ?_
   rotate_left;(intro w';go_simp;with_reducible rfl);rotate_left;(simp only [Act.put,List.setIfInBounds_toArray,List.set_cons_zero,List.set_cons_succ,i64_w,i32_w];rfl)
   refine pure_ (i:=13) (N:=some 65) (v:=undef) (a':=?_) #[true,true,true,true,true,true,true,true,true,true,true,true,true,true,false,false,false,false,false,false,false,false,false,false,false,false,false,false,false,false,false,false,false,false] rfl rfl (any_of HT_.out (by kernel_rfl)) (fun _ _ _ h=>h) (Or.inr ⟨by rfl,rfl⟩) ?_ ?_
   rotate_left
   ·simp only [Act.put,List.setIfInBounds_toArray,List.set_cons_zero,List.set_cons_succ,i64_w,i32_w]
    rfl
   refine pure_ (i:=14) (N:=some 66) (v:=undef) (a':=?_) #[true,true,true,true,true,true,true,true,true,true,true,true,true,true,true,false,false,false,false,false,false,false,false,false,false,false,false,false,false,false,false,false,false,false] rfl rfl (any_of HT_.out (by kernel_rfl)) (fun _ _ _ h=>h) (Or.inr ⟨by rfl,rfl⟩) ?_ ?_
   rotate_left
   ·simp only [Act.put,List.setIfInBounds_toArray,List.set_cons_zero,List.set_cons_succ,i64_w,i32_w]
    rfl
   refine pure_ (i:=15) (N:=some 67) (v:=undef) (a':=?_) #[true,true,true,true,true,true,true,true,true,true,true,true,true,true,true,true,false,false,false,false,false,false,false,false,false,false,false,false,false,false,false,false,false,false] rfl rfl (any_of HT_.out (by kernel_rfl)) (fun _ _ _ h=>h) (Or.inr ⟨by rfl,rfl⟩) ?_ ?_
   rotate_left
   ·simp only [Act.put,List.setIfInBounds_toArray,List.set_cons_zero,List.set_cons_succ,i64_w,i32_w]
    rfl
   refine pure_ (i:=16) (N:=some 68) (v:=undef) (a':=?_) #[true,true,true,true,true,true,true,true,true,true,true,true,true,true,true,true,true,false,false,false,false,false,false,false,false,false,false,false,false,false,false,false,false,false] rfl rfl (any_of HT_.out (by kernel_rfl)) (fun _ _ _ h=>h) (Or.inr ⟨by rfl,rfl⟩) ?_ ?_
   rotate_left
   ·simp only [Act.put,List.setIfInBounds_toArray,List.set_cons_zero,List.set_cons_succ,i64_w,i32_w]
    rfl
   refine pure_ (i:=17) (N:=some 69) (v:=undef) (a':=?_) #[true,true,true,true,true,true,true,true,true,true,true,true,true,true,true,true,true,true,false,false,false,false,false,false,false,false,false,false,false,false,false,false,false,false] rfl rfl (any_of HT_.out (by kernel_rfl)) (fun _ _ _ h=>h) (Or.inr ⟨by rfl,rfl⟩) ?_ ?_
   rotate_left
   ·simp only [Act.put,List.setIfInBounds_toArray,List.set_cons_zero,List.set_cons_succ,i64_w,i32_w]
    rfl
   refine pure_ (i:=18) (N:=some 70) (v:=undef) (a':=?_) #[true,true,true,true,true,true,true,true,true,true,true,true,true,true,true,true,true,true,true,false,false,false,false,false,false,false,false,false,false,false,false,false,false,false] rfl rfl (any_of HT_.out (by kernel_rfl)) (fun _ _ _ h=>h) (Or.inr ⟨by rfl,rfl⟩) ?_ ?_
   rotate_left
   ·simp only [Act.put,List.setIfInBounds_toArray,List.set_cons_zero,List.set_cons_succ,i64_w,i32_w]
    rfl
   refine pure_ (i:=19) (N:=some 71) (v:=undef) (a':=?_) #[true,true,true,true,true,true,true,true,true,true,true,true,true,true,true,true,true,true,true,true,false,false,false,false,false,false,false,false,false,false,false,false,false,false] rfl rfl (any_of HT_.out (by kernel_rfl)) (fun _ _ _ h=>h) (Or.inr ⟨by rfl,rfl⟩) ?_ ?_
   rotate_left
   ·simp only [Act.put,List.setIfInBounds_toArray,List.set_cons_zero,List.set_cons_succ,i64_w,i32_w]
    rfl
   refine pure_ (i:=20) (N:=some 72) (v:=undef) (a':=?_) #[true,true,true,true,true,true,true,true,true,true,true,true,true,true,true,true,true,true,true,true,true,false,false,false,false,false,false,false,false,false,false,false,false,false] rfl rfl (any_of HT_.out (by kernel_rfl)) (fun _ _ _ h=>h) (Or.inr ⟨by rfl,rfl⟩) ?_ ?_
   rotate_left
   ·simp only [Act.put,List.setIfInBounds_toArray,List.set_cons_zero,List.set_cons_succ,i64_w,i32_w]
    rfl
   refine pure_ (i:=21) (N:=some 73) (v:=undef) (a':=?_) #[true,true,true,true,true,true,true,true,true,true,true,true,true,true,true,true,true,true,true,true,true,true,false,false,false,false,false,false,false,false,false,false,false,false] rfl rfl (any_of HT_.out (by kernel_rfl)) (fun _ _ _ h=>h) (Or.inr ⟨by rfl,rfl⟩) ?_ ?_
   rotate_left
   ·simp only [Act.put,List.setIfInBounds_toArray,List.set_cons_zero,List.set_cons_succ,i64_w,i32_w]
    rfl
   refine pure_ (i:=22) (N:=some 74) (v:=undef) (a':=?_) #[true,true,true,true,true,true,true,true,true,true,true,true,true,true,true,true,true,true,true,true,true,true,true,false,false,false,false,false,false,false,false,false,false,false] rfl rfl (any_of HT_.out (by kernel_rfl)) (fun _ _ _ h=>h) (Or.inr ⟨by rfl,rfl⟩) ?_ ?_
   rotate_left
   ·simp only [Act.put,List.setIfInBounds_toArray,List.set_cons_zero,List.set_cons_succ,i64_w,i32_w]
    rfl
   refine pure_ (i:=23) (N:=some 75) (v:=undef) (a':=?_) #[true,true,true,true,true,true,true,true,true,true,true,true,true,true,true,true,true,true,true,true,true,true,true,true,false,false,false,false,false,false,false,false,false,false] rfl rfl (any_of HT_.out (by kernel_rfl)) (fun _ _ _ h=>h) (Or.inr ⟨by rfl,rfl⟩) ?_ ?_
   rotate_left
   ·simp only [Act.put,List.setIfInBounds_toArray,List.set_cons_zero,List.set_cons_succ,i64_w,i32_w]
    rfl
   refine pure_ (i:=24) (N:=some 76) (v:=?_) (a':=?_) #[true,true,true,true,true,true,true,true,true,true,true,true,true,true,true,true,true,true,true,true,true,true,true,true,true,false,false,false,false,false,false,false,false,false] rfl rfl (any_of HT_.out (by kernel_rfl)) (fun _ _ _ h=>h) (Or.inl ⟨by rfl,?_⟩) ?_ ?_
   rotate_left;(intro w';go_simp;with_reducible rfl);rotate_left;(simp only [Act.put,List.setIfInBounds_toArray,List.set_cons_zero,List.set_cons_succ,i64_w,i32_w];rfl)
   refine pure_ (i:=25) (N:=some 77) (v:=?_) (a':=?_) #[true,true,true,true,true,true,true,true,true,true,true,true,true,true,true,true,true,true,true,true,true,true,true,true,true,true,false,false,false,false,false,false,false,false] rfl rfl (any_of HT_.out (by kernel_rfl)) (fun _ _ _ h=>h) (Or.inl ⟨by rfl,?_⟩) ?_ ?_
   rotate_left;(intro w';go_simp;with_reducible rfl);rotate_left;(simp only [Act.put,List.setIfInBounds_toArray,List.set_cons_zero,List.set_cons_succ,i64_w,i32_w];rfl)
   refine pure_ (i:=26) (N:=some 78) (v:=undef) (a':=?_) #[true,true,true,true,true,true,true,true,true,true,true,true,true,true,true,true,true,true,true,true,true,true,true,true,true,true,true,false,false,false,false,false,false,false] rfl rfl (any_of HT_.out (by kernel_rfl)) (fun _ _ _ h=>h) (Or.inr ⟨by rfl,rfl⟩) ?_ ?_
   rotate_left
   ·simp only [Act.put,List.setIfInBounds_toArray,List.set_cons_zero,List.set_cons_succ,i64_w,i32_w]
    rfl
   refine pure_ (i:=27) (N:=some 79) (v:=undef) (a':=?_) #[true,true,true,true,true,true,true,true,true,true,true,true,true,true,true,true,true,true,true,true,true,true,true,true,true,true,true,true,false,false,false,false,false,false] rfl rfl (any_of HT_.out (by kernel_rfl)) (fun _ _ _ h=>h) (Or.inr ⟨by rfl,rfl⟩) ?_ ?_
   rotate_left
   ·simp only [Act.put,List.setIfInBounds_toArray,List.set_cons_zero,List.set_cons_succ,i64_w,i32_w]
    rfl
   refine pure_ (i:=28) (N:=some 80) (v:=undef) (a':=?_) #[true,true,true,true,true,true,true,true,true,true,true,true,true,true,true,true,true,true,true,true,true,true,true,true,true,true,true,true,true,false,false,false,false,false] rfl rfl (any_of HT_.out (by kernel_rfl)) (fun _ _ _ h=>h) (Or.inr ⟨by rfl,rfl⟩) ?_ ?_
   rotate_left
   ·simp only [Act.put,List.setIfInBounds_toArray,List.set_cons_zero,List.set_cons_succ,i64_w,i32_w]
    rfl
   refine pure_ (i:=29) (N:=some 81) (v:=undef) (a':=?_) #[true,true,true,true,true,true,true,true,true,true,true,true,true,true,true,true,true,true,true,true,true,true,true,true,true,true,true,true,true,true,false,false,false,false] rfl rfl (any_of HT_.out (by kernel_rfl)) (fun _ _ _ h=>h) (Or.inr ⟨by rfl,rfl⟩) ?_ ?_
   rotate_left
   ·simp only [Act.put,List.setIfInBounds_toArray,List.set_cons_zero,List.set_cons_succ,i64_w,i32_w]
    rfl
   refine pure_ (i:=30) (N:=some 82) (v:=undef) (a':=?_) #[true,true,true,true,true,true,true,true,true,true,true,true,true,true,true,true,true,true,true,true,true,true,true,true,true,true,true,true,true,true,true,false,false,false] rfl rfl (any_of HT_.out (by kernel_rfl)) (fun _ _ _ h=>h) (Or.inr ⟨by rfl,rfl⟩) ?_ ?_
   rotate_left
   ·simp only [Act.put,List.setIfInBounds_toArray,List.set_cons_zero,List.set_cons_succ,i64_w,i32_w]
    rfl
   refine pure_ (i:=31) (N:=some 83) (v:=undef) (a':=?_) #[true,true,true,true,true,true,true,true,true,true,true,true,true,true,true,true,true,true,true,true,true,true,true,true,true,true,true,true,true,true,true,true,false,false] rfl rfl (any_of HT_.out (by kernel_rfl)) (fun _ _ _ h=>h) (Or.inr ⟨by rfl,rfl⟩) ?_ ?_
   rotate_left
   ·simp only [Act.put,List.setIfInBounds_toArray,List.set_cons_zero,List.set_cons_succ,i64_w,i32_w]
    rfl
   refine pure_ (i:=32) (N:=some 84) (v:=?_) (a':=?_) #[true,true,true,true,true,true,true,true,true,true,true,true,true,true,true,true,true,true,true,true,true,true,true,true,true,true,true,true,true,true,true,true,true,false] rfl rfl (any_of HT_.out (by kernel_rfl)) (fun _ _ _ h=>h) (Or.inl ⟨by rfl,?_⟩) ?_ ?_
   rotate_left;(intro w';go_simp;with_reducible rfl);rotate_left;(simp only [Act.put,List.setIfInBounds_toArray,List.set_cons_zero,List.set_cons_succ,i64_w,i32_w];rfl)
   refine pure_ (i:=33) (N:=some 4) (v:=?_) (a':=?_) #[true,true,true,true,true,true,true,true,true,true,true,true,true,true,true,true,true,true,true,true,true,true,true,true,true,true,true,true,true,true,true,true,true,true] rfl rfl (any_of HT_.out (by kernel_rfl)) (fun _ _ _ h=>h) (Or.inl ⟨by rfl,?_⟩) ?_ ?_
   rotate_left;(intro w';go_simp;with_reducible rfl);rotate_left;(simp only [Act.put,List.setIfInBounds_toArray,List.set_cons_zero,List.set_cons_succ,i64_w,i32_w];rfl)
   refine done_ (done_of HT_.out (by kernel_rfl)) ?_
   (try clear hHeld)
   try go_wp2
   go_meet
   case rel=>exact ⟨_,(false),(by first|rfl|(simp;done)|(simp [*];done)),(by first|exact H'|(subst_vars;exact H')),⟨by first|omega|exact Nat.le_refl _⟩,⟨by (with_reducible repeat (first|refine blk_drewN ?_ _|refine blk_drew ?_|refine blk_alloc ?_ _));exact BK176.out⟩,⟨by (with_reducible repeat (first|refine blk_drewN ?_ _|refine blk_drew ?_|refine blk_alloc ?_ _));exact BK181.out⟩,⟨by (with_reducible repeat (first|refine blk_drewN ?_ _|refine blk_drew ?_|refine blk_alloc ?_ _));exact BK184.out⟩,⟨by (with_reducible repeat (first|refine blk_drewN ?_ _|refine blk_drew ?_|refine blk_alloc ?_ _));exact BK187.out⟩,⟨by (with_reducible repeat (first|refine blk_drewN ?_ _|refine blk_drew ?_|refine blk_alloc ?_ _));exact BK192.out⟩,⟨by (with_reducible repeat (first|refine blk_drewN ?_ _|refine blk_drew ?_|refine blk_alloc ?_ _));exact BK197.out⟩,⟨by repeat (first|(with_reducible first|exact HB.out|apply below_alloc|apply pw_below_drewN|apply below_drew1|refine below_set ?_ GE176.out|refine below_set ?_ GE181.out|refine below_set ?_ GE184.out|refine below_set ?_ GE187.out|refine below_set ?_ GE192.out|refine below_set ?_ GE197.out)|exact HB.out)⟩⟩
 case rest =>
  clear HC157
  try clear c1
  try clear c2
  try clear p2
  try clear c14
  try clear c20
  try clear c205
  try clear c208
  try clear c208b0
  try clear c208b1
  try clear c208b2
  obtain ⟨kq,x4_156,rfl,HA,HJ156,BK176,BK181,BK184,BK187,BK192,BK197,HB⟩:=hcut
  cases kq with
  | zero=>exact absurd HA.out (by simp [thresherlaw03_ValueSums.j0])
  | succ kj156 =>
   have H:=HA.out
   clear HA
   simp only [thresherlaw03_ValueSums.j0] at H
   obtain rfl:=Option.some.inj H
   go_wp2
   go_ret
   exact ⟨by first|rfl|(simp [errW_none,errW_some] <;> rfl)|(simp [*,errW_none,errW_some] <;> rfl),by repeat (first|(with_reducible first|exact HB.out|apply below_alloc|apply pw_below_drewN|apply below_drew1|refine below_set ?_ GE176.out|refine below_set ?_ GE181.out|refine below_set ?_ GE184.out|refine below_set ?_ GE187.out|refine below_set ?_ GE192.out|refine below_set ?_ GE197.out)|exact HB.out)⟩

end Go.Proofs.YtifpjhghbafcjaaDoor.P
