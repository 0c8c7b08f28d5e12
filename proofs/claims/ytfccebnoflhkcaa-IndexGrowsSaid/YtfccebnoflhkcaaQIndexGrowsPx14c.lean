/- Texts of IndexGrows. Merged: Px14c. -/
import Derived.Test.YtfccebnoflhkcaaQIndexGrowsPx14a
import Derived.Test.YtfccebnoflhkcaaQIndexGrowsPx0
import Derived.Test.YtfccebnoflhkcaaQIndexGrowsPx3
import Derived.Test.YtfccebnoflhkcaaQIndexGrowsPx6
import Derived.Test.YtfccebnoflhkcaaQIndexGrowsPx7
import Derived.Test.YtfccebnoflhkcaaQIndexGrowsPx8
import Derived.Test.YtfccebnoflhkcaaQIndexGrowsHFit12
import Derived.Test.YtfccebnoflhkcaaQIndexGrowsHMeets
namespace Go.Proofs.Ytfccebnoflhkcaa.P
open Go.RowKit Go.Proofs.YtfccebnoflhkcaaW.PrintWords Go.Proofs.YtfccebnoflhkcaaW.PrintLast Go.Proofs.YtfccebnoflhkcaaW.PrintMore
attribute [local go_sem] max2_int min2_int max_two min_two max_three min_three max_four min_four   -- for this text's walks alone
set_option linter.unusedVariables false
set_option linter.unusedSimpArgs false
set_option maxHeartbeats 8000000 in
set_option maxRecDepth 100000 in
theorem thresherlaw12_IndexGrows.calls_rest1 : thresherlaw12_IndexGrows.calls_part.2.1 := by
 intro k a0_0 a0_1 a0_2 a0_3 a0_4 a0_5 a0_6 a0_7 a0_8 a0_9 a0_10 a0_11 A1 c1 l1 a2_0 a2_1 A2_2 c2_2 l2_2 A2_3 c2_3 l2_3 r w hu24 hu29 hu33 HR1 HC1 HR2_2 HC2_2 HR2_3 HC2_3 t399 A4 t400 t403 t404 t405 A5 t407 A6 t410 A7 t413 t414 t415 t418 A8 _ gb397 w9 GW397 GE397 gb398 w10 GW398 GE398 NB397_398 NB398_397 w11 hnb12 hnc12 w14 gb406 w15 GW406 GE406 NB397_406 NB406_397 NB398_406 NB406_398 Ao16 co16 hnb17 hnc17 hnb18 hnc18 w20 w21 _ w22 Ao23 co23 _ w24 hHeld w27 gb421 w28 GW421 GE421 NB397_421 NB421_397 NB398_421 NB421_398 NB406_421 NB421_406 hnb29 hnc29 hnb30 hnc30 hnb31 hnc31 Ao33 co33 Ao34 co34 gb422 w35 GW422 GE422 NB397_422 NB422_397 NB398_422 NB422_398 NB406_422 NB422_406 NB421_422 NB422_421 hnb36 hnc36 hnb37 hnc37 hnb38 hnc38 hnb39 hnc39 gb423 w42 HO402 HO417 HO420 _ _ _ _ _ _ _ GW423 GE423 NB397_423 NB423_397 NB398_423 NB423_398 NB406_423 NB423_406 NB421_423 NB423_421 NB422_423 NB423_422 hnb43 hnc43 hnb44 hnc44 hnb45 hnc45 hnb46 hnc46 hnb47 hnc47 _ _ wr u6 u14 u15 u38 u39 u40 u41 u42 u43 u44 u45 u46 u47 u48 u49 u50 u51 u52 u53 u54 u55 u56 u57 u58 u59 u60 u61 u62 u63 u64 u65 u66 u67 u68 u69 u70 u71 u72 u73 u74 u75 u76 u77 u78 u79 _ _ x13_1 HO_407000 HO_422002 HO_422003 HO_423002 HO_423003 HO_424002 HO_424003 BK397 BK398 BK406 BK421 BK422 BK423 HB k1 _ HK1 c49b0 Ao51 co51 HO409 HO412 _ HO_9 _ _ _ _ _ _ c52b0 t425 A53 t427 H A54 c55
 replace c55:=Bool.eq_false_iff.mpr c55
 subst c55
 have H1 : (if (t425 != false)=true then (some false) else ((index_In.f k1 t400 t403 t404 t405 false false ([] : List (S44)) ([] : List (S44)) (rd_L5 t410 x13_1)).bind fun t433=>(if t433=true then (thresherlaw12_IndexGrows.j1 k1 t399 t410 x13_1 t400 t403 t404 t405 t413 t414 t415 t418 t413 false t415 t418 false t414 t415 t418) else (some false))))=some r:=by rw [if_neg (show ¬ (false=true) by decide)] at H;exact H
 clear H
 have H:=H1
 clear H1
 by_cases c80 : (t425 != false)=true
 ·rw [if_pos c80] at H
  have c80b0 : (t425 != false)=true:=c80
  (try (have c80b1 : decide (t425=false)=false:=by simpa using c80))
  (try (have c80b2 : (t425 == false)=false:=by simpa using c80))
  (try (have c80b3 : ¬ (t425=false):=by simpa using c80))
  clear c80
  obtain rfl:=Option.some.inj H
  try go_wp2
  have n0_:=Aside0.mk (Kd.N_drew HO_9.out)
  have n1_:=Aside0.mk (Kd.R_drew HO_407000.out)
  have n2_:=Aside0.mk (Kd.R_drew HO_422002.out)
  have n3_:=Aside0.mk (Kd.R_drew HO_422003.out)
  have n4_:=Aside0.mk (Kd.R_drew HO_423002.out)
  have n5_:=Aside0.mk (Kd.R_drew HO_423003.out)
  have n6_:=Aside0.mk (Kd.R_drew HO_424002.out)
  have n7_:=Aside0.mk (Kd.R_drew HO_424003.out)
  have n8_:=Aside0.mk (blk_drew BK397.out)
  have n9_:=Aside0.mk (blk_drew BK398.out)
  have n10_:=Aside0.mk (blk_drew BK406.out)
  have n11_:=Aside0.mk (blk_drew BK421.out)
  have n12_:=Aside0.mk (blk_drew BK422.out)
  have n13_:=Aside0.mk (blk_drew BK423.out)
  have n14_:=Aside0.mk (below_drew1 HB.out)
  clear HO_9
  clear HO_407000
  clear HO_422002
  clear HO_422003
  clear HO_423002
  clear HO_423003
  clear HO_424002
  clear HO_424003
  clear BK397
  clear BK398
  clear BK406
  clear BK421
  clear BK422
  clear BK423
  clear HB
  have HO_9:=n0_
  have HO_407000:=n1_
  have HO_422002:=n2_
  have HO_422003:=n3_
  have HO_423002:=n4_
  have HO_423003:=n5_
  have HO_424002:=n6_
  have HO_424003:=n7_
  have BK397:=n8_
  have BK398:=n9_
  have BK406:=n10_
  have BK421:=n11_
  have BK422:=n12_
  have BK423:=n13_
  have HB:=n14_
  clear n0_ n1_ n2_ n3_ n4_ n5_ n6_ n7_ n8_ n9_ n10_ n11_ n12_ n13_ n14_
  have p424 : 0≤(x13_1 : Int):=of_decide_eq_true (by first|(with_reducible assumption)|assumption)
  have q424 : x13_1 < (t410.length : Int):=of_decide_eq_true (by first|(with_reducible assumption)|assumption)
  obtain ⟨ad424,A424_0,c424_0,e424,hx424_0,hl424_0,hi424_0⟩:=at_L5 (Kd.N_reads' HO_9.out).2.2 x13_1 p424 q424
  cases e424
  obtain ⟨ce424,hce424,hMe424,hcc424⟩:=Kd.N_get HO_9.out [] x13_1 p424 (by first|exact q424|exact of_decide_eq_true (by first|(with_reducible assumption)|assumption)|(have e_:=(Kd.N_reads' HO_9.out).1;omega))
  obtain ⟨ua424_0,uc424_0,rfl,ul424_0,ge424_0⟩:=Kd.FK_slice_open hMe424
  have hv424_0:=hcc424 0 _ rfl
  rw [Nat.add_zero,show ((Kd.slice 44 k44)).sz=1 from rfl,Nat.mul_one] at hv424_0
  replace hv424_0:=Option.some.inj (hv424_0.symm.trans hx424_0)
  injection hv424_0 with hva_ hvn_ hvc_
  rw [hva_] at ge424_0
  rw [hvc_] at ul424_0
  have HL424_0:=Aside0.mk (show Kd.V k44 44 _ w.heap.size _ _ (rd_L5 t410 x13_1) from Kd.V_mk ul424_0 ge424_0)
  clear hva_ hvn_ hvc_ ge424_0 ul424_0
  clear hcc424 hce424
  have HR424_0:=Aside0.mk hi424_0
  have HC424_0:=Aside0.mk hl424_0
  clear hi424_0 hl424_0
  replace p424:=eq_true p424
  replace q424:=eq_true q424
  refine start_ (n:=8) (S:=fun w'=>w'.cell? ⟨gb406,0,none⟩=some (.slice Ao16 t400.length co16)∧w'.cell? ⟨gb406,1,none⟩=some (.int .i64 t403)∧w'.cell? ⟨gb406,2,none⟩=some (.int .i64 t404)∧w'.cell? ⟨gb406,3,none⟩=some (.int .i64 t405)∧w'.cell? ⟨gb421,0,none⟩=some (.bool t413)∧w'.cell? ⟨gb421,1,none⟩=some (.bool t414)∧w'.cell? ⟨gb421,2,none⟩=some (.slice Ao33 t415.length co33)∧w'.cell? ⟨gb421,3,none⟩=some (.slice Ao34 t418.length co34)∧w'.cell? (ad424.add (x13_1).toNat)=some (.slice A424_0 (rd_L5 t410 x13_1).length c424_0)) (ds:=[]) #[false,false,false,false,false,false,false,false] (by kernel_rfl) rfl rfl ⟨(blk_cell BK406.out 0).trans rfl,(blk_cell BK406.out 1).trans rfl,(blk_cell BK406.out 2).trans rfl,(blk_cell BK406.out 3).trans rfl,(blk_cell BK421.out 0).trans rfl,(blk_cell BK421.out 1).trans rfl,(blk_cell BK421.out 2).trans rfl,(blk_cell BK421.out 3).trans rfl,hx424_0⟩ (fun hHeld=>?_);refine with_tabW thresherlaw12_IndexGrows.tab12 thresherlaw12_IndexGrows.bits12 (fun HT_ HW_=>?_)
  generalize wr.drew=w81 at HO_9 HO_407000 HO_422002 HO_422003 HO_423002 HO_423003 HO_424002 HO_424003 BK397 BK398 BK406 BK421 BK422 BK423 HB HL424_0 HR424_0 hx424_0 hHeld ⊢
  refine pure_ (i:=2) (N:=some 46) (v:=?_) (a':=?_) #[false,false,true,false,false,false,false,false] rfl rfl (any_of HT_.out (by kernel_rfl)) (fun _ _ _ h=>h) (Or.inl ⟨by rfl,?_⟩) ?_ ?_
  rotate_left;(intro w';go_simp;with_reducible rfl);rotate_left;(simp only [Act.put,List.setIfInBounds_toArray,List.set_cons_zero,List.set_cons_succ,i64_w,i32_w];rfl)
  refine pure_ (i:=3) (N:=some 47) (v:=?_) (a':=?_) #[false,false,true,true,false,false,false,false] rfl rfl (any_of HT_.out (by kernel_rfl)) (fun _ _ _ h=>h) (Or.inl ⟨by rfl,?_⟩) ?_ ?_
  rotate_left;(intro w';go_simp;with_reducible rfl);rotate_left;(simp only [Act.put,List.setIfInBounds_toArray,List.set_cons_zero,List.set_cons_succ,i64_w,i32_w];rfl)
  refine pure_ (i:=4) (N:=some 48) (v:=?_) (a':=?_) #[false,false,true,true,true,false,false,false] rfl rfl (any_of HT_.out (by kernel_rfl)) (fun _ _ _ h=>h) (Or.inl ⟨by rfl,?_⟩) ?_ ?_
  rotate_left;(intro w';go_simp;with_reducible rfl);rotate_left;(simp only [Act.put,List.setIfInBounds_toArray,List.set_cons_zero,List.set_cons_succ,i64_w,i32_w];rfl)
  refine take_ (i:=0) (N:=some 44) (v:=?_) (a':=?_) #[true,false,true,true,true,false,false,false] rfl rfl (take_ofW HT_.out HW_.out (by kernel_rfl)) (fun _ _ _ h=>h) (Or.inl ⟨by rfl,?_⟩) hHeld ?_ ?_
  rotate_left;(rintro w' ⟨s0,s1,s2,s3,s4,s5,s6,s7,s8⟩;go_simp;with_reducible rfl);rotate_left;(simp only [Act.put,List.setIfInBounds_toArray,List.set_cons_zero,List.set_cons_succ,i64_w,i32_w];rfl)
  refine take_ (i:=1) (N:=some 45) (v:=?_) (a':=?_) #[true,true,true,true,true,false,false,false] rfl rfl (take_ofW HT_.out HW_.out (by kernel_rfl)) (fun _ _ _ h=>h) (Or.inl ⟨by rfl,?_⟩) hHeld ?_ ?_
  rotate_left;(rintro w' ⟨s0,s1,s2,s3,s4,s5,s6,s7,s8⟩;go_simp;with_reducible rfl);rotate_left;(simp only [Act.put,List.setIfInBounds_toArray,List.set_cons_zero,List.set_cons_succ,i64_w,i32_w];rfl)
  refine take_ (i:=5) (N:=some 49) (v:=?_) (a':=?_) #[true,true,true,true,true,true,false,false] rfl rfl (take_ofW HT_.out HW_.out (by kernel_rfl)) (fun _ _ _ h=>h) (Or.inl ⟨by rfl,?_⟩) hHeld ?_ ?_
  rotate_left;(rintro w' ⟨s0,s1,s2,s3,s4,s5,s6,s7,s8⟩;go_simp;with_reducible rfl);rotate_left;(simp only [Act.put,List.setIfInBounds_toArray,List.set_cons_zero,List.set_cons_succ,i64_w,i32_w];rfl)
  refine one_ (i:=6) (N:=some 50) #[true,true,true,true,true,true,true,false] rfl rfl (one_of HT_.out (by kernel_rfl)) (by decide) (fun K hK=>?_)
  refine goes_ Try.func12 (by kernel_rfl) rfl #[.agg #[.slice Ao16 t400.length co16,.int .i64 t403,.int .i64 t404,.int .i64 t405],.agg #[.bool t413,.bool t414,.slice Ao33 t415.length co33,.slice Ao34 t418.length co34],.slice A424_0 (rd_L5 t410 x13_1).length c424_0] (by rfl) rfl rfl (by (try simp only [List.map_toArray,List.map_cons,List.map_nil]);first|done|rfl|(simp only [List.length_drop,List.length_take];rfl)) ?_
  with_reducible refine (index_In.calls k1 _ _ t400 t403 t404 t405 t413 t414 _ _ t415 _ _ t418 _ _ (rd_L5 t410 x13_1) t425 _ ?side1 ?side2 ?side3 ?side4 ?side5 ?side6 ?side7 ?side8 A53.out).mono ?_
  (case side1=>repeat (first|exact (Kd.R_reads' HO_407000.out).2.2|(with_reducible refine Kd.C_alloc ?_ _)|(with_reducible refine Kd.C_drewN ?_ _)|(with_reducible refine Kd.C_drew ?_)))
  (case side2=>exact (Kd.R_reads' HO_407000.out).2.1)
  (case side3=>repeat (first|exact (Kd.R_reads' HO_422002.out).2.2|(with_reducible refine Kd.C_alloc ?_ _)|(with_reducible refine Kd.C_drewN ?_ _)|(with_reducible refine Kd.C_drew ?_)))
  (case side4=>exact (Kd.R_reads' HO_422002.out).2.1)
  (case side5=>repeat (first|exact (Kd.R_reads' HO_422003.out).2.2|(with_reducible refine Kd.C_alloc ?_ _)|(with_reducible refine Kd.C_drewN ?_ _)|(with_reducible refine Kd.C_drew ?_)))
  (case side6=>exact (Kd.R_reads' HO_422003.out).2.1)
  (case side7=>repeat (first|exact (by repeat (first|(with_reducible exact HR424_0.out)|(with_reducible refine Kd.C_alloc ?_ _)|(with_reducible refine Kd.C_drewN ?_ _)|(with_reducible refine Kd.C_drew ?_)|exact HR424_0.out))|(with_reducible refine Kd.C_alloc ?_ _)|(with_reducible refine Kd.C_drewN ?_ _)|(with_reducible refine Kd.C_drew ?_)))
  (case side8=>exact HC424_0.out)
  rintro e w82 ⟨rfl,hb⟩
  have HS8_:=(hb.cell (World.block_lt_of_cell? _ _ (hHeld.2.2.2.2.2.2.2.2))).trans (hHeld.2.2.2.2.2.2.2.2)
  refine ⟨_,rfl,?_⟩
  have n0_:=Aside0.mk (Kd.N_below (N_up HO_9.out) hb)
  have n1_:=Aside0.mk (Kd.R_below (R_up HO_407000.out) hb)
  have n2_:=Aside0.mk (Kd.R_below (R_up HO_422002.out) hb)
  have n3_:=Aside0.mk (Kd.R_below (R_up HO_422003.out) hb)
  have n4_:=Aside0.mk (Kd.R_below (R_up HO_423002.out) hb)
  have n5_:=Aside0.mk (Kd.R_below (R_up HO_423003.out) hb)
  have n6_:=Aside0.mk (Kd.R_below (R_up HO_424002.out) hb)
  have n7_:=Aside0.mk (Kd.R_below (R_up HO_424003.out) hb)
  have n8_:=Aside0.mk (Kd.V_below (by (with_reducible repeat (first|apply Kd.V_alloc|apply Kd.V_drewN|apply Kd.V_drew));exact HL424_0.out) hb)
  have n9_:=Aside0.mk (blk_below (g:=gb397) (o:=.cells #[.int .u8 a0_0,.int .u8 a0_1,.int .u8 a0_2,.int .u8 a0_3,.int .u8 a0_4,.int .u8 a0_5,.int .u8 a0_6,.int .u8 a0_7,.int .u8 a0_8,.int .u8 a0_9,.int .u8 a0_10,.int .u8 a0_11] 24 (0,0)) (blk_up BK397.out) hb)
  have n10_:=Aside0.mk (blk_below (g:=gb398) (o:=.cells #[.bool a2_0,.bool a2_1,.slice A2_2 l2_2.length c2_2,.slice A2_3 l2_3.length c2_3] 29 (0,0)) (blk_up BK398.out) hb)
  have n11_:=Aside0.mk (blk_below (g:=gb406) (o:=.cells #[.slice Ao16 t400.length co16,.int .i64 t403,.int .i64 t404,.int .i64 t405] 33 (0,0)) (blk_up BK406.out) hb)
  have n12_:=Aside0.mk (blk_below (g:=gb421) (o:=.cells #[.bool t413,.bool t414,.slice Ao33 t415.length co33,.slice Ao34 t418.length co34] 29 (0,0)) (blk_up BK421.out) hb)
  have n13_:=Aside0.mk (blk_below (g:=gb422) (o:=.cells #[.bool t413,.bool false,.slice Ao33 t415.length co33,.slice Ao34 t418.length co34] 29 (0,0)) (blk_up BK422.out) hb)
  have n14_:=Aside0.mk (blk_below (g:=gb423) (o:=.cells #[.bool false,.bool t414,.slice Ao33 t415.length co33,.slice Ao34 t418.length co34] 29 (0,0)) (blk_up BK423.out) hb)
  have n15_:=Aside0.mk (Kd.C_below (by repeat (first|(with_reducible exact HR424_0.out)|(with_reducible refine Kd.C_alloc ?_ _)|(with_reducible refine Kd.C_drewN ?_ _)|(with_reducible refine Kd.C_drew ?_)|exact HR424_0.out)) hb)
  have n16_:=Aside0.mk (below_step (by repeat (first|(with_reducible first|exact HB.out|apply below_alloc|apply pw_below_drewN|apply below_drew1|refine below_set ?_ GE397.out|refine below_set ?_ GE398.out|refine below_set ?_ GE406.out|refine below_set ?_ GE421.out|refine below_set ?_ GE422.out|refine below_set ?_ GE423.out)|exact HB.out)) hb)
  clear HO_9
  clear HO_407000
  clear HO_422002
  clear HO_422003
  clear HO_423002
  clear HO_423003
  clear HO_424002
  clear HO_424003
  clear HL424_0
  clear BK397
  clear BK398
  clear BK406
  clear BK421
  clear BK422
  clear BK423
  clear HR424_0
  clear HB
  have HO_9:=n0_
  have HO_407000:=n1_
  have HO_422002:=n2_
  have HO_422003:=n3_
  have HO_423002:=n4_
  have HO_423003:=n5_
  have HO_424002:=n6_
  have HO_424003:=n7_
  have HL424_0:=n8_
  have BK397:=n9_
  have BK398:=n10_
  have BK406:=n11_
  have BK421:=n12_
  have BK422:=n13_
  have BK423:=n14_
  have HR424_0:=n15_
  have HB:=n16_
  clear n0_ n1_ n2_ n3_ n4_ n5_ n6_ n7_ n8_ n9_ n10_ n11_ n12_ n13_ n14_ n15_ n16_
  (try clear hb)
  (try clear hb2)
  (try clear hk)
  (try clear hi)
  refine hK.out _ _ ⟨(blk_cell BK406.out 0).trans rfl,(blk_cell BK406.out 1).trans rfl,(blk_cell BK406.out 2).trans rfl,(blk_cell BK406.out 3).trans rfl,(blk_cell BK421.out 0).trans rfl,(blk_cell BK421.out 1).trans rfl,(blk_cell BK421.out 2).trans rfl,(blk_cell BK421.out 3).trans rfl,HS8_⟩ (fun hHeld=>?_)
  clear hK K
  refine norm_ (a':=?_) ?_ ?_
  rotate_left
  ·show Act.put _ (some 50) _=_
   simp only [Act.put,List.setIfInBounds_toArray,List.set_cons_zero,List.set_cons_succ,i64_w,i32_w]
   rfl
  refine pure_ (i:=7) (N:=some 14) (v:=?_) (a':=?_) #[true,true,true,true,true,true,true,true] rfl rfl (any_of HT_.out (by kernel_rfl)) (fun _ _ _ h=>h) (Or.inl ⟨by rfl,?_⟩) ?_ ?_
  rotate_left;(intro w';go_simp;with_reducible rfl);rotate_left;(simp only [Act.put,List.setIfInBounds_toArray,List.set_cons_zero,List.set_cons_succ,i64_w,i32_w];rfl)
  refine done_ (done_of HT_.out (by kernel_rfl)) ?_
  (try clear hHeld)
  try go_wp2
  have n0_:=Aside0.mk (Kd.N_drew HO_9.out)
  have n1_:=Aside0.mk (Kd.R_drew HO_407000.out)
  have n2_:=Aside0.mk (Kd.R_drew HO_422002.out)
  have n3_:=Aside0.mk (Kd.R_drew HO_422003.out)
  have n4_:=Aside0.mk (Kd.R_drew HO_423002.out)
  have n5_:=Aside0.mk (Kd.R_drew HO_423003.out)
  have n6_:=Aside0.mk (Kd.R_drew HO_424002.out)
  have n7_:=Aside0.mk (Kd.R_drew HO_424003.out)
  have n8_:=Aside0.mk (Kd.V_drew HL424_0.out)
  have n9_:=Aside0.mk (blk_drew BK397.out)
  have n10_:=Aside0.mk (blk_drew BK398.out)
  have n11_:=Aside0.mk (blk_drew BK406.out)
  have n12_:=Aside0.mk (blk_drew BK421.out)
  have n13_:=Aside0.mk (blk_drew BK422.out)
  have n14_:=Aside0.mk (blk_drew BK423.out)
  have n15_:=Aside0.mk (Kd.C_drew HR424_0.out)
  have n16_:=Aside0.mk (below_drew1 HB.out)
  clear HO_9
  clear HO_407000
  clear HO_422002
  clear HO_422003
  clear HO_423002
  clear HO_423003
  clear HO_424002
  clear HO_424003
  clear HL424_0
  clear BK397
  clear BK398
  clear BK406
  clear BK421
  clear BK422
  clear BK423
  clear HR424_0
  clear HB
  have HO_9:=n0_
  have HO_407000:=n1_
  have HO_422002:=n2_
  have HO_422003:=n3_
  have HO_423002:=n4_
  have HO_423003:=n5_
  have HO_424002:=n6_
  have HO_424003:=n7_
  have HL424_0:=n8_
  have BK397:=n9_
  have BK398:=n10_
  have BK406:=n11_
  have BK421:=n12_
  have BK422:=n13_
  have BK423:=n14_
  have HR424_0:=n15_
  have HB:=n16_
  clear n0_ n1_ n2_ n3_ n4_ n5_ n6_ n7_ n8_ n9_ n10_ n11_ n12_ n13_ n14_ n15_ n16_
  have p426 : 0≤(x13_1 : Int):=of_decide_eq_true (by first|(with_reducible assumption)|assumption)
  have q426 : x13_1 < (t410.length : Int):=of_decide_eq_true (by first|(with_reducible assumption)|assumption)
  obtain ⟨ad426,A426_0,c426_0,e426,hx426_0,hl426_0,hi426_0⟩:=at_L5 (Kd.N_reads' HO_9.out).2.2 x13_1 p426 q426
  obtain rfl : ad424=ad426:=(by injection e426)
  obtain ⟨ce426,hce426,hMe426,hcc426⟩:=Kd.N_get HO_9.out [] x13_1 p426 (by first|exact q426|exact of_decide_eq_true (by first|(with_reducible assumption)|assumption)|(have e_:=(Kd.N_reads' HO_9.out).1;omega))
  obtain ⟨ua426_0,uc426_0,rfl,ul426_0,ge426_0⟩:=Kd.FK_slice_open hMe426
  have hv426_0:=hcc426 0 _ rfl
  rw [Nat.add_zero,show ((Kd.slice 44 k44)).sz=1 from rfl,Nat.mul_one] at hv426_0
  replace hv426_0:=Option.some.inj (hv426_0.symm.trans hx426_0)
  injection hv426_0 with hva_ hvn_ hvc_
  rw [hva_] at ge426_0
  rw [hvc_] at ul426_0
  have HL426_0:=Aside0.mk (show Kd.V k44 44 _ w.heap.size _ _ (rd_L5 t410 x13_1) from Kd.V_mk ul426_0 ge426_0)
  clear hva_ hvn_ hvc_ ge426_0 ul426_0
  clear hcc426 hce426
  have HR426_0:=Aside0.mk hi426_0
  have HC426_0:=Aside0.mk hl426_0
  clear hi426_0 hl426_0
  replace p426:=eq_true p426
  replace q426:=eq_true q426
  refine start_ (n:=17) (S:=fun w'=>w'.cell? ⟨gb406,0,none⟩=some (.slice Ao16 t400.length co16)∧w'.cell? ⟨gb406,1,none⟩=some (.int .i64 t403)∧w'.cell? ⟨gb406,2,none⟩=some (.int .i64 t404)∧w'.cell? ⟨gb406,3,none⟩=some (.int .i64 t405)∧w'.cell? ⟨gb422,0,none⟩=some (.bool t413)∧w'.cell? ⟨gb422,1,none⟩=some (.bool false)∧w'.cell? ⟨gb422,2,none⟩=some (.slice Ao33 t415.length co33)∧w'.cell? ⟨gb422,3,none⟩=some (.slice Ao34 t418.length co34)∧w'.cell? (ad424.add (x13_1).toNat)=some (.slice A426_0 (rd_L5 t410 x13_1).length c426_0)) (ds:=[]) #[false,false,false,false,false,false,false,false,false,false,false,false,false,false,false,false,false] (by kernel_rfl) rfl rfl ⟨(blk_cell BK406.out 0).trans rfl,(blk_cell BK406.out 1).trans rfl,(blk_cell BK406.out 2).trans rfl,(blk_cell BK406.out 3).trans rfl,(blk_cell BK422.out 0).trans rfl,(blk_cell BK422.out 1).trans rfl,(blk_cell BK422.out 2).trans rfl,(blk_cell BK422.out 3).trans rfl,hx426_0⟩ (fun hHeld=>?_);refine with_tabW thresherlaw12_IndexGrows.tab13 thresherlaw12_IndexGrows.bits13 (fun HT_ HW_=>?_)
  generalize w82.drew=w83 at HO_9 HO_407000 HO_422002 HO_422003 HO_423002 HO_423003 HO_424002 HO_424003 HL424_0 BK397 BK398 BK406 BK421 BK422 BK423 HR424_0 HB HL426_0 HR426_0 hx426_0 hHeld ⊢
  refine pure_ (i:=2) (N:=some 53) (v:=?_) (a':=?_) #[false,false,true,false,false,false,false,false,false,false,false,false,false,false,false,false,false] rfl rfl (any_of HT_.out (by kernel_rfl)) (fun _ _ _ h=>h) (Or.inl ⟨by rfl,?_⟩) ?_ ?_
  rotate_left;(intro w';go_simp;with_reducible rfl);rotate_left;(simp only [Act.put,List.setIfInBounds_toArray,List.set_cons_zero,List.set_cons_succ,i64_w,i32_w];rfl)
  refine pure_ (i:=3) (N:=some 54) (v:=?_) (a':=?_) #[false,false,true,true,false,false,false,false,false,false,false,false,false,false,false,false,false] rfl rfl (any_of HT_.out (by kernel_rfl)) (fun _ _ _ h=>h) (Or.inl ⟨by rfl,?_⟩) ?_ ?_
  rotate_left;(intro w';go_simp;with_reducible rfl);rotate_left;(simp only [Act.put,List.setIfInBounds_toArray,List.set_cons_zero,List.set_cons_succ,i64_w,i32_w];rfl)
  refine pure_ (i:=4) (N:=some 55) (v:=?_) (a':=?_) #[false,false,true,true,true,false,false,false,false,false,false,false,false,false,false,false,false] rfl rfl (any_of HT_.out (by kernel_rfl)) (fun _ _ _ h=>h) (Or.inl ⟨by rfl,?_⟩) ?_ ?_
  rotate_left;(intro w';go_simp;with_reducible rfl);rotate_left;(simp only [Act.put,List.setIfInBounds_toArray,List.set_cons_zero,List.set_cons_succ,i64_w,i32_w];rfl)
  refine take_ (i:=0) (N:=some 51) (v:=?_) (a':=?_) #[true,false,true,true,true,false,false,false,false,false,false,false,false,false,false,false,false] rfl rfl (take_ofW HT_.out HW_.out (by kernel_rfl)) (fun _ _ _ h=>h) (Or.inl ⟨by rfl,?_⟩) hHeld ?_ ?_
  rotate_left;(rintro w' ⟨s0,s1,s2,s3,s4,s5,s6,s7,s8⟩;go_simp;with_reducible rfl);rotate_left;(simp only [Act.put,List.setIfInBounds_toArray,List.set_cons_zero,List.set_cons_succ,i64_w,i32_w];rfl)
  refine take_ (i:=1) (N:=some 52) (v:=?_) (a':=?_) #[true,true,true,true,true,false,false,false,false,false,false,false,false,false,false,false,false] rfl rfl (take_ofW HT_.out HW_.out (by kernel_rfl)) (fun _ _ _ h=>h) (Or.inl ⟨by rfl,?_⟩) hHeld ?_ ?_
  rotate_left;(rintro w' ⟨s0,s1,s2,s3,s4,s5,s6,s7,s8⟩;go_simp;with_reducible rfl);rotate_left;(simp only [Act.put,List.setIfInBounds_toArray,List.set_cons_zero,List.set_cons_succ,i64_w,i32_w];rfl)
  refine take_ (i:=5) (N:=some 56) (v:=?_) (a':=?_) #[true,true,true,true,true,true,false,false,false,false,false,false,false,false,false,false,false] rfl rfl (take_ofW HT_.out HW_.out (by kernel_rfl)) (fun _ _ _ h=>h) (Or.inl ⟨by rfl,?_⟩) hHeld ?_ ?_
  rotate_left;(rintro w' ⟨s0,s1,s2,s3,s4,s5,s6,s7,s8⟩;go_simp;with_reducible rfl);rotate_left;(simp only [Act.put,List.setIfInBounds_toArray,List.set_cons_zero,List.set_cons_succ,i64_w,i32_w];rfl)
  refine one_ (i:=6) (N:=some 57) #[true,true,true,true,true,true,true,false,false,false,false,false,false,false,false,false,false] rfl rfl (one_of HT_.out (by kernel_rfl)) (by decide) (fun K hK=>?_)
  refine goes_ Try.func12 (by kernel_rfl) rfl #[.agg #[.slice Ao16 t400.length co16,.int .i64 t403,.int .i64 t404,.int .i64 t405],.agg #[.bool t413,.bool false,.slice Ao33 t415.length co33,.slice Ao34 t418.length co34],.slice A426_0 (rd_L5 t410 x13_1).length c426_0] (by rfl) rfl rfl (by (try simp only [List.map_toArray,List.map_cons,List.map_nil]);first|done|rfl|(simp only [List.length_drop,List.length_take];rfl)) ?_
  with_reducible refine (index_In.calls k1 _ _ t400 t403 t404 t405 t413 false _ _ t415 _ _ t418 _ _ (rd_L5 t410 x13_1) false _ ?side1 ?side2 ?side3 ?side4 ?side5 ?side6 ?side7 ?side8 A54.out).mono ?_
  (case side1=>repeat (first|exact (Kd.R_reads' HO_407000.out).2.2|(with_reducible refine Kd.C_alloc ?_ _)|(with_reducible refine Kd.C_drewN ?_ _)|(with_reducible refine Kd.C_drew ?_)))
  (case side2=>exact (Kd.R_reads' HO_407000.out).2.1)
  (case side3=>repeat (first|exact (Kd.R_reads' HO_423002.out).2.2|(with_reducible refine Kd.C_alloc ?_ _)|(with_reducible refine Kd.C_drewN ?_ _)|(with_reducible refine Kd.C_drew ?_)))
  (case side4=>exact (Kd.R_reads' HO_423002.out).2.1)
  (case side5=>repeat (first|exact (Kd.R_reads' HO_423003.out).2.2|(with_reducible refine Kd.C_alloc ?_ _)|(with_reducible refine Kd.C_drewN ?_ _)|(with_reducible refine Kd.C_drew ?_)))
  (case side6=>exact (Kd.R_reads' HO_423003.out).2.1)
  (case side7=>repeat (first|exact (by repeat (first|(with_reducible exact HR426_0.out)|(with_reducible refine Kd.C_alloc ?_ _)|(with_reducible refine Kd.C_drewN ?_ _)|(with_reducible refine Kd.C_drew ?_)|exact HR426_0.out))|(with_reducible refine Kd.C_alloc ?_ _)|(with_reducible refine Kd.C_drewN ?_ _)|(with_reducible refine Kd.C_drew ?_)))
  (case side8=>exact HC426_0.out)
  rintro e w84 ⟨rfl,hb⟩
  have HS8_:=(hb.cell (World.block_lt_of_cell? _ _ (hHeld.2.2.2.2.2.2.2.2))).trans (hHeld.2.2.2.2.2.2.2.2)
  refine ⟨_,rfl,?_⟩
  have n0_:=Aside0.mk (Kd.N_below (N_up HO_9.out) hb)
  have n1_:=Aside0.mk (Kd.R_below (R_up HO_407000.out) hb)
  have n2_:=Aside0.mk (Kd.R_below (R_up HO_422002.out) hb)
  have n3_:=Aside0.mk (Kd.R_below (R_up HO_422003.out) hb)
  have n4_:=Aside0.mk (Kd.R_below (R_up HO_423002.out) hb)
  have n5_:=Aside0.mk (Kd.R_below (R_up HO_423003.out) hb)
  have n6_:=Aside0.mk (Kd.R_below (R_up HO_424002.out) hb)
  have n7_:=Aside0.mk (Kd.R_below (R_up HO_424003.out) hb)
  have n8_:=Aside0.mk (Kd.V_below (by (with_reducible repeat (first|apply Kd.V_alloc|apply Kd.V_drewN|apply Kd.V_drew));exact HL424_0.out) hb)
  have n9_:=Aside0.mk (Kd.V_below (by (with_reducible repeat (first|apply Kd.V_alloc|apply Kd.V_drewN|apply Kd.V_drew));exact HL426_0.out) hb)
  have n10_:=Aside0.mk (blk_below (g:=gb397) (o:=.cells #[.int .u8 a0_0,.int .u8 a0_1,.int .u8 a0_2,.int .u8 a0_3,.int .u8 a0_4,.int .u8 a0_5,.int .u8 a0_6,.int .u8 a0_7,.int .u8 a0_8,.int .u8 a0_9,.int .u8 a0_10,.int .u8 a0_11] 24 (0,0)) (blk_up BK397.out) hb)
  have n11_:=Aside0.mk (blk_below (g:=gb398) (o:=.cells #[.bool a2_0,.bool a2_1,.slice A2_2 l2_2.length c2_2,.slice A2_3 l2_3.length c2_3] 29 (0,0)) (blk_up BK398.out) hb)
  have n12_:=Aside0.mk (blk_below (g:=gb406) (o:=.cells #[.slice Ao16 t400.length co16,.int .i64 t403,.int .i64 t404,.int .i64 t405] 33 (0,0)) (blk_up BK406.out) hb)
  have n13_:=Aside0.mk (blk_below (g:=gb421) (o:=.cells #[.bool t413,.bool t414,.slice Ao33 t415.length co33,.slice Ao34 t418.length co34] 29 (0,0)) (blk_up BK421.out) hb)
  have n14_:=Aside0.mk (blk_below (g:=gb422) (o:=.cells #[.bool t413,.bool false,.slice Ao33 t415.length co33,.slice Ao34 t418.length co34] 29 (0,0)) (blk_up BK422.out) hb)
  have n15_:=Aside0.mk (blk_below (g:=gb423) (o:=.cells #[.bool false,.bool t414,.slice Ao33 t415.length co33,.slice Ao34 t418.length co34] 29 (0,0)) (blk_up BK423.out) hb)
  have n16_:=Aside0.mk (Kd.C_below (by repeat (first|(with_reducible exact HR424_0.out)|(with_reducible refine Kd.C_alloc ?_ _)|(with_reducible refine Kd.C_drewN ?_ _)|(with_reducible refine Kd.C_drew ?_)|exact HR424_0.out)) hb)
  have n17_:=Aside0.mk (Kd.C_below (by repeat (first|(with_reducible exact HR426_0.out)|(with_reducible refine Kd.C_alloc ?_ _)|(with_reducible refine Kd.C_drewN ?_ _)|(with_reducible refine Kd.C_drew ?_)|exact HR426_0.out)) hb)
  have n18_:=Aside0.mk (below_step (by repeat (first|(with_reducible first|exact HB.out|apply below_alloc|apply pw_below_drewN|apply below_drew1|refine below_set ?_ GE397.out|refine below_set ?_ GE398.out|refine below_set ?_ GE406.out|refine below_set ?_ GE421.out|refine below_set ?_ GE422.out|refine below_set ?_ GE423.out)|exact HB.out)) hb)
  clear HO_9
  clear HO_407000
  clear HO_422002
  clear HO_422003
  clear HO_423002
  clear HO_423003
  clear HO_424002
  clear HO_424003
  clear HL424_0
  clear HL426_0
  clear BK397
  clear BK398
  clear BK406
  clear BK421
  clear BK422
  clear BK423
  clear HR424_0
  clear HR426_0
  clear HB
  have HO_9:=n0_
  have HO_407000:=n1_
  have HO_422002:=n2_
  have HO_422003:=n3_
  have HO_423002:=n4_
  have HO_423003:=n5_
  have HO_424002:=n6_
  have HO_424003:=n7_
  have HL424_0:=n8_
  have HL426_0:=n9_
  have BK397:=n10_
  have BK398:=n11_
  have BK406:=n12_
  have BK421:=n13_
  have BK422:=n14_
  have BK423:=n15_
  have HR424_0:=n16_
  have HR426_0:=n17_
  have HB:=n18_
  clear n0_ n1_ n2_ n3_ n4_ n5_ n6_ n7_ n8_ n9_ n10_ n11_ n12_ n13_ n14_ n15_ n16_ n17_ n18_
  (try clear hb)
  (try clear hb2)
  (try clear hk)
  (try clear hi)
  refine hK.out _ _ ⟨(blk_cell BK406.out 0).trans rfl,(blk_cell BK406.out 1).trans rfl,(blk_cell BK406.out 2).trans rfl,(blk_cell BK406.out 3).trans rfl,(blk_cell BK422.out 0).trans rfl,(blk_cell BK422.out 1).trans rfl,(blk_cell BK422.out 2).trans rfl,(blk_cell BK422.out 3).trans rfl,HS8_⟩ (fun hHeld=>?_)
  clear hK K
  refine norm_ (a':=?_) ?_ ?_
  rotate_left
  ·show Act.put _ (some 57) _=_
   simp only [Act.put,List.setIfInBounds_toArray,List.set_cons_zero,List.set_cons_succ,i64_w,i32_w]
   rfl
  refine pure_ (i:=7) (N:=some 58) (v:=?_) (a':=?_) #[true,true,true,true,true,true,true,true,false,false,false,false,false,false,false,false,false] rfl rfl (any_of HT_.out (by kernel_rfl)) (fun _ _ _ h=>h) (Or.inl ⟨by rfl,?_⟩) ?_ ?_
  rotate_left;(intro w';go_simp;with_reducible rfl);rotate_left;(simp only [Act.put,List.setIfInBounds_toArray,List.set_cons_zero,List.set_cons_succ,i64_w,i32_w];rfl)
  refine pure_ (i:=8) (N:=some 59) (v:=undef) (a':=?_) #[true,true,true,true,true,true,true,true,true,false,false,false,false,false,false,false,false] rfl rfl (any_of HT_.out (by kernel_rfl)) (fun _ _ _ h=>h) (Or.inr ⟨by rfl,rfl⟩) ?_ ?_
  rotate_left
  ·simp only [Act.put,List.setIfInBounds_toArray,List.set_cons_zero,List.set_cons_succ,i64_w,i32_w]
   rfl
  refine pure_ (i:=9) (N:=some 60) (v:=undef) (a':=?_) #[true,true,true,true,true,true,true,true,true,true,false,false,false,false,false,false,false] rfl rfl (any_of HT_.out (by kernel_rfl)) (fun _ _ _ h=>h) (Or.inr ⟨by rfl,rfl⟩) ?_ ?_
  rotate_left
  ·simp only [Act.put,List.setIfInBounds_toArray,List.set_cons_zero,List.set_cons_succ,i64_w,i32_w]
   rfl
  refine pure_ (i:=10) (N:=some 61) (v:=undef) (a':=?_) #[true,true,true,true,true,true,true,true,true,true,true,false,false,false,false,false,false] rfl rfl (any_of HT_.out (by kernel_rfl)) (fun _ _ _ h=>h) (Or.inr ⟨by rfl,rfl⟩) ?_ ?_
  rotate_left
  ·simp only [Act.put,List.setIfInBounds_toArray,List.set_cons_zero,List.set_cons_succ,i64_w,i32_w]
   rfl
  refine pure_ (i:=11) (N:=some 62) (v:=undef) (a':=?_) #[true,true,true,true,true,true,true,true,true,true,true,true,false,false,false,false,false] rfl rfl (any_of HT_.out (by kernel_rfl)) (fun _ _ _ h=>h) (Or.inr ⟨by rfl,rfl⟩) ?_ ?_
  rotate_left
  ·simp only [Act.put,List.setIfInBounds_toArray,List.set_cons_zero,List.set_cons_succ,i64_w,i32_w]
   rfl
  refine pure_ (i:=12) (N:=some 63) (v:=undef) (a':=?_) #[true,true,true,true,true,true,true,true,true,true,true,true,true,false,false,false,false] rfl rfl (any_of HT_.out (by kernel_rfl)) (fun _ _ _ h=>h) (Or.inr ⟨by rfl,rfl⟩) ?_ ?_
  rotate_left
  ·simp only [Act.put,List.setIfInBounds_toArray,List.set_cons_zero,List.set_cons_succ,i64_w,i32_w]
   rfl
  refine pure_ (i:=13) (N:=some 64) (v:=undef) (a':=?_) #[true,true,true,true,true,true,true,true,true,true,true,true,true,true,false,false,false] rfl rfl (any_of HT_.out (by kernel_rfl)) (fun _ _ _ h=>h) (Or.inr ⟨by rfl,rfl⟩) ?_ ?_
  rotate_left
  ·simp only [Act.put,List.setIfInBounds_toArray,List.set_cons_zero,List.set_cons_succ,i64_w,i32_w]
   rfl
  refine pure_ (i:=14) (N:=some 65) (v:=undef) (a':=?_) #[true,true,true,true,true,true,true,true,true,true,true,true,true,true,true,false,false] rfl rfl (any_of HT_.out (by kernel_rfl)) (fun _ _ _ h=>h) (Or.inr ⟨by rfl,rfl⟩) ?_ ?_
  rotate_left
  ·simp only [Act.put,List.setIfInBounds_toArray,List.set_cons_zero,List.set_cons_succ,i64_w,i32_w]
   rfl
  refine pure_ (i:=15) (N:=some 66) (v:=?_) (a':=?_) #[true,true,true,true,true,true,true,true,true,true,true,true,true,true,true,true,false] rfl rfl (any_of HT_.out (by kernel_rfl)) (fun _ _ _ h=>h) (Or.inl ⟨by rfl,?_⟩) ?_ ?_
  rotate_left;(intro w';go_simp;with_reducible rfl);rotate_left;(simp only [Act.put,List.setIfInBounds_toArray,List.set_cons_zero,List.set_cons_succ,i64_w,i32_w];rfl)
  refine pure_ (i:=16) (N:=some 15) (v:=?_) (a':=?_) #[true,true,true,true,true,true,true,true,true,true,true,true,true,true,true,true,true] rfl rfl (any_of HT_.out (by kernel_rfl)) (fun _ _ _ h=>h) (Or.inl ⟨by rfl,?_⟩) ?_ ?_
  rotate_left;(intro w';go_simp;with_reducible rfl);rotate_left;(simp only [Act.put,List.setIfInBounds_toArray,List.set_cons_zero,List.set_cons_succ,i64_w,i32_w];rfl)
  refine done_ (done_of HT_.out (by kernel_rfl)) ?_
  (try clear hHeld)
  try go_wp2
  have n0_:=Aside0.mk (Kd.N_drew HO_9.out)
  have n1_:=Aside0.mk (Kd.R_drew HO_407000.out)
  have n2_:=Aside0.mk (Kd.R_drew HO_422002.out)
  have n3_:=Aside0.mk (Kd.R_drew HO_422003.out)
  have n4_:=Aside0.mk (Kd.R_drew HO_423002.out)
  have n5_:=Aside0.mk (Kd.R_drew HO_423003.out)
  have n6_:=Aside0.mk (Kd.R_drew HO_424002.out)
  have n7_:=Aside0.mk (Kd.R_drew HO_424003.out)
  have n8_:=Aside0.mk (Kd.V_drew HL424_0.out)
  have n9_:=Aside0.mk (Kd.V_drew HL426_0.out)
  have n10_:=Aside0.mk (blk_drew BK397.out)
  have n11_:=Aside0.mk (blk_drew BK398.out)
  have n12_:=Aside0.mk (blk_drew BK406.out)
  have n13_:=Aside0.mk (blk_drew BK421.out)
  have n14_:=Aside0.mk (blk_drew BK422.out)
  have n15_:=Aside0.mk (blk_drew BK423.out)
  have n16_:=Aside0.mk (Kd.C_drew HR424_0.out)
  have n17_:=Aside0.mk (Kd.C_drew HR426_0.out)
  have n18_:=Aside0.mk (below_drew1 HB.out)
  clear HO_9
  clear HO_407000
  clear HO_422002
  clear HO_422003
  clear HO_423002
  clear HO_423003
  clear HO_424002
  clear HO_424003
  clear HL424_0
  clear HL426_0
  clear BK397
  clear BK398
  clear BK406
  clear BK421
  clear BK422
  clear BK423
  clear HR424_0
  clear HR426_0
  clear HB
  have HO_9:=n0_
  have HO_407000:=n1_
  have HO_422002:=n2_
  have HO_422003:=n3_
  have HO_423002:=n4_
  have HO_423003:=n5_
  have HO_424002:=n6_
  have HO_424003:=n7_
  have HL424_0:=n8_
  have HL426_0:=n9_
  have BK397:=n10_
  have BK398:=n11_
  have BK406:=n12_
  have BK421:=n13_
  have BK422:=n14_
  have BK423:=n15_
  have HR424_0:=n16_
  have HR426_0:=n17_
  have HB:=n18_
  clear n0_ n1_ n2_ n3_ n4_ n5_ n6_ n7_ n8_ n9_ n10_ n11_ n12_ n13_ n14_ n15_ n16_ n17_ n18_
  refine start_ (n:=13) (S:=fun w'=>True) (ds:=[]) #[false,false,false,false,false,false,false,false,false,false,false,false,false] (by kernel_rfl) rfl rfl trivial (fun hHeld=>?_);refine with_tabW thresherlaw12_IndexGrows.tab14 thresherlaw12_IndexGrows.bits14 (fun HT_ HW_=>?_)
  generalize w84.drew=w85 at HO_9 HO_407000 HO_422002 HO_422003 HO_423002 HO_423003 HO_424002 HO_424003 HL424_0 HL426_0 BK397 BK398 BK406 BK421 BK422 BK423 HR424_0 HR426_0 HB hHeld ⊢
  refine pure_ (i:=0) (N:=some 67) (v:=?_) (a':=?_) #[true,false,false,false,false,false,false,false,false,false,false,false,false] rfl rfl (any_of HT_.out (by kernel_rfl)) (fun _ _ _ h=>h) (Or.inl ⟨by rfl,?_⟩) ?_ ?_
  rotate_left;(intro w';go_simp;with_reducible rfl);rotate_left;(simp only [Act.put,List.setIfInBounds_toArray,List.set_cons_zero,List.set_cons_succ,i64_w,i32_w];rfl)
  refine pure_ (i:=1) (N:=some 68) (v:=?_) (a':=?_) #[true,true,false,false,false,false,false,false,false,false,false,false,false] rfl rfl (any_of HT_.out (by kernel_rfl)) (fun _ _ _ h=>h) (Or.inl ⟨by rfl,?_⟩) ?_ ?_
  rotate_left;(intro w';go_simp;with_reducible rfl);rotate_left;(simp only [Act.put,List.setIfInBounds_toArray,List.set_cons_zero,List.set_cons_succ,i64_w,i32_w];rfl)
  refine pure_ (i:=2) (N:=some 69) (v:=?_) (a':=?_) #[true,true,true,false,false,false,false,false,false,false,false,false,false] rfl rfl (any_of HT_.out (by kernel_rfl)) (fun _ _ _ h=>h) (Or.inl ⟨by rfl,?_⟩) ?_ ?_
  rotate_left;(intro w';go_simp;with_reducible rfl);rotate_left;(simp only [Act.put,List.setIfInBounds_toArray,List.set_cons_zero,List.set_cons_succ,i64_w,i32_w];rfl)
  refine pure_ (i:=3) (N:=some 70) (v:=?_) (a':=?_) #[true,true,true,true,false,false,false,false,false,false,false,false,false] rfl rfl (any_of HT_.out (by kernel_rfl)) (fun _ _ _ h=>h) (Or.inl ⟨by rfl,?_⟩) ?_ ?_
  rotate_left;(intro w';go_simp;with_reducible rfl);rotate_left;(simp only [Act.put,List.setIfInBounds_toArray,List.set_cons_zero,List.set_cons_succ,i64_w,i32_w];rfl)
  refine pure_ (i:=4) (N:=some 71) (v:=undef) (a':=?_) #[true,true,true,true,true,false,false,false,false,false,false,false,false] rfl rfl (any_of HT_.out (by kernel_rfl)) (fun _ _ _ h=>h) (Or.inr ⟨by rfl,rfl⟩) ?_ ?_
  rotate_left
  ·simp only [Act.put,List.setIfInBounds_toArray,List.set_cons_zero,List.set_cons_succ,i64_w,i32_w]
   rfl
  refine pure_ (i:=5) (N:=some 72) (v:=undef) (a':=?_) #[true,true,true,true,true,true,false,false,false,false,false,false,false] rfl rfl (any_of HT_.out (by kernel_rfl)) (fun _ _ _ h=>h) (Or.inr ⟨by rfl,rfl⟩) ?_ ?_
  rotate_left
  ·simp only [Act.put,List.setIfInBounds_toArray,List.set_cons_zero,List.set_cons_succ,i64_w,i32_w]
   rfl
  refine pure_ (i:=6) (N:=some 73) (v:=undef) (a':=?_) #[true,true,true,true,true,true,true,false,false,false,false,false,false] rfl rfl (any_of HT_.out (by kernel_rfl)) (fun _ _ _ h=>h) (Or.inr ⟨by rfl,rfl⟩) ?_ ?_
  rotate_left
  ·simp only [Act.put,List.setIfInBounds_toArray,List.set_cons_zero,List.set_cons_succ,i64_w,i32_w]
   rfl
  refine pure_ (i:=7) (N:=some 74) (v:=undef) (a':=?_) #[true,true,true,true,true,true,true,true,false,false,false,false,false] rfl rfl (any_of HT_.out (by kernel_rfl)) (fun _ _ _ h=>h) (Or.inr ⟨by rfl,rfl⟩) ?_ ?_
  rotate_left
  ·simp only [Act.put,List.setIfInBounds_toArray,List.set_cons_zero,List.set_cons_succ,i64_w,i32_w]
   rfl
  refine pure_ (i:=8) (N:=some 75) (v:=undef) (a':=?_) #[true,true,true,true,true,true,true,true,true,false,false,false,false] rfl rfl (any_of HT_.out (by kernel_rfl)) (fun _ _ _ h=>h) (Or.inr ⟨by rfl,rfl⟩) ?_ ?_
  rotate_left
  ·simp only [Act.put,List.setIfInBounds_toArray,List.set_cons_zero,List.set_cons_succ,i64_w,i32_w]
   rfl
  refine pure_ (i:=9) (N:=some 76) (v:=undef) (a':=?_) #[true,true,true,true,true,true,true,true,true,true,false,false,false] rfl rfl (any_of HT_.out (by kernel_rfl)) (fun _ _ _ h=>h) (Or.inr ⟨by rfl,rfl⟩) ?_ ?_
  rotate_left
  ·simp only [Act.put,List.setIfInBounds_toArray,List.set_cons_zero,List.set_cons_succ,i64_w,i32_w]
   rfl
  refine pure_ (i:=10) (N:=some 77) (v:=undef) (a':=?_) #[true,true,true,true,true,true,true,true,true,true,true,false,false] rfl rfl (any_of HT_.out (by kernel_rfl)) (fun _ _ _ h=>h) (Or.inr ⟨by rfl,rfl⟩) ?_ ?_
  rotate_left
  ·simp only [Act.put,List.setIfInBounds_toArray,List.set_cons_zero,List.set_cons_succ,i64_w,i32_w]
   rfl
  refine pure_ (i:=11) (N:=some 78) (v:=undef) (a':=?_) #[true,true,true,true,true,true,true,true,true,true,true,true,false] rfl rfl (any_of HT_.out (by kernel_rfl)) (fun _ _ _ h=>h) (Or.inr ⟨by rfl,rfl⟩) ?_ ?_
  rotate_left
  ·simp only [Act.put,List.setIfInBounds_toArray,List.set_cons_zero,List.set_cons_succ,i64_w,i32_w]
   rfl
  refine pure_ (i:=12) (N:=some 79) (v:=?_) (a':=?_) #[true,true,true,true,true,true,true,true,true,true,true,true,true] rfl rfl (any_of HT_.out (by kernel_rfl)) (fun _ _ _ h=>h) (Or.inl ⟨by rfl,?_⟩) ?_ ?_
  rotate_left;(intro w';go_simp;with_reducible rfl);rotate_left;(simp only [Act.put,List.setIfInBounds_toArray,List.set_cons_zero,List.set_cons_succ,i64_w,i32_w];rfl)
  refine done_ (done_of HT_.out (by kernel_rfl)) ?_
  (try clear hHeld)
  try go_wp2
  go_ret
  exact ⟨by first|rfl|(simp [errW_none,errW_some] <;> rfl)|(simp [*,errW_none,errW_some] <;> rfl),by repeat (first|(with_reducible first|exact HB.out|apply below_alloc|apply pw_below_drewN|apply below_drew1|refine below_set ?_ GE397.out|refine below_set ?_ GE398.out|refine below_set ?_ GE406.out|refine below_set ?_ GE421.out|refine below_set ?_ GE422.out|refine below_set ?_ GE423.out)|exact HB.out)⟩
 ·rw [if_neg c80] at H
  have c80b0 : (t425 != false)=false:=by simpa using c80
  (try (have c80b1 : decide (t425=false)=true:=by simpa using c80))
  (try (have c80b2 : (t425 == false)=true:=by simpa using c80))
  clear c80
  replace H:=Option.bind_eq_some_iff.mp H
  obtain ⟨t433,A860,H⟩:=H
  replace H : (if t433=true then (thresherlaw12_IndexGrows.j1 k1 t399 t410 x13_1 t400 t403 t404 t405 t413 t414 t415 t418 t413 false t415 t418 false t414 t415 t418) else (some false))=some r:=H
  have A86:=Aside0.mk A860
  clear A860
  by_cases c87 : t433=true
  ·subst c87
   have H1 : (thresherlaw12_IndexGrows.j1 k1 t399 t410 x13_1 t400 t403 t404 t405 t413 t414 t415 t418 t413 false t415 t418 false t414 t415 t418)=some r:=by rw [if_pos rfl] at H;exact H
   clear H
   have H:=H1
   clear H1
   have H':=Aside0.mk H
   clear H
   try go_wp2
   have n0_:=Aside0.mk (Kd.N_drew HO_9.out)
   have n1_:=Aside0.mk (Kd.R_drew HO_407000.out)
   have n2_:=Aside0.mk (Kd.R_drew HO_422002.out)
   have n3_:=Aside0.mk (Kd.R_drew HO_422003.out)
   have n4_:=Aside0.mk (Kd.R_drew HO_423002.out)
   have n5_:=Aside0.mk (Kd.R_drew HO_423003.out)
   have n6_:=Aside0.mk (Kd.R_drew HO_424002.out)
   have n7_:=Aside0.mk (Kd.R_drew HO_424003.out)
   have n8_:=Aside0.mk (blk_drew BK397.out)
   have n9_:=Aside0.mk (blk_drew BK398.out)
   have n10_:=Aside0.mk (blk_drew BK406.out)
   have n11_:=Aside0.mk (blk_drew BK421.out)
   have n12_:=Aside0.mk (blk_drew BK422.out)
   have n13_:=Aside0.mk (blk_drew BK423.out)
   have n14_:=Aside0.mk (below_drew1 HB.out)
   clear HO_9
   clear HO_407000
   clear HO_422002
   clear HO_422003
   clear HO_423002
   clear HO_423003
   clear HO_424002
   clear HO_424003
   clear BK397
   clear BK398
   clear BK406
   clear BK421
   clear BK422
   clear BK423
   clear HB
   have HO_9:=n0_
   have HO_407000:=n1_
   have HO_422002:=n2_
   have HO_422003:=n3_
   have HO_423002:=n4_
   have HO_423003:=n5_
   have HO_424002:=n6_
   have HO_424003:=n7_
   have BK397:=n8_
   have BK398:=n9_
   have BK406:=n10_
   have BK421:=n11_
   have BK422:=n12_
   have BK423:=n13_
   have HB:=n14_
   clear n0_ n1_ n2_ n3_ n4_ n5_ n6_ n7_ n8_ n9_ n10_ n11_ n12_ n13_ n14_
   have p424 : 0≤(x13_1 : Int):=of_decide_eq_true (by first|(with_reducible assumption)|assumption)
   have q424 : x13_1 < (t410.length : Int):=of_decide_eq_true (by first|(with_reducible assumption)|assumption)
   obtain ⟨ad424,A424_0,c424_0,e424,hx424_0,hl424_0,hi424_0⟩:=at_L5 (Kd.N_reads' HO_9.out).2.2 x13_1 p424 q424
   cases e424
   obtain ⟨ce424,hce424,hMe424,hcc424⟩:=Kd.N_get HO_9.out [] x13_1 p424 (by first|exact q424|exact of_decide_eq_true (by first|(with_reducible assumption)|assumption)|(have e_:=(Kd.N_reads' HO_9.out).1;omega))
   obtain ⟨ua424_0,uc424_0,rfl,ul424_0,ge424_0⟩:=Kd.FK_slice_open hMe424
   have hv424_0:=hcc424 0 _ rfl
   rw [Nat.add_zero,show ((Kd.slice 44 k44)).sz=1 from rfl,Nat.mul_one] at hv424_0
   replace hv424_0:=Option.some.inj (hv424_0.symm.trans hx424_0)
   injection hv424_0 with hva_ hvn_ hvc_
   rw [hva_] at ge424_0
   rw [hvc_] at ul424_0
   have HL424_0:=Aside0.mk (show Kd.V k44 44 _ w.heap.size _ _ (rd_L5 t410 x13_1) from Kd.V_mk ul424_0 ge424_0)
   clear hva_ hvn_ hvc_ ge424_0 ul424_0
   clear hcc424 hce424
   have HR424_0:=Aside0.mk hi424_0
   have HC424_0:=Aside0.mk hl424_0
   clear hi424_0 hl424_0
   replace p424:=eq_true p424
   replace q424:=eq_true q424
   refine start_ (n:=8) (S:=fun w'=>w'.cell? ⟨gb406,0,none⟩=some (.slice Ao16 t400.length co16)∧w'.cell? ⟨gb406,1,none⟩=some (.int .i64 t403)∧w'.cell? ⟨gb406,2,none⟩=some (.int .i64 t404)∧w'.cell? ⟨gb406,3,none⟩=some (.int .i64 t405)∧w'.cell? ⟨gb421,0,none⟩=some (.bool t413)∧w'.cell? ⟨gb421,1,none⟩=some (.bool t414)∧w'.cell? ⟨gb421,2,none⟩=some (.slice Ao33 t415.length co33)∧w'.cell? ⟨gb421,3,none⟩=some (.slice Ao34 t418.length co34)∧w'.cell? (ad424.add (x13_1).toNat)=some (.slice A424_0 (rd_L5 t410 x13_1).length c424_0)) (ds:=[]) #[false,false,false,false,false,false,false,false] (by kernel_rfl) rfl rfl ⟨(blk_cell BK406.out 0).trans rfl,(blk_cell BK406.out 1).trans rfl,(blk_cell BK406.out 2).trans rfl,(blk_cell BK406.out 3).trans rfl,(blk_cell BK421.out 0).trans rfl,(blk_cell BK421.out 1).trans rfl,(blk_cell BK421.out 2).trans rfl,(blk_cell BK421.out 3).trans rfl,hx424_0⟩ (fun hHeld=>?_);refine with_tabW thresherlaw12_IndexGrows.tab12 thresherlaw12_IndexGrows.bits12 (fun HT_ HW_=>?_)
   generalize wr.drew=w88 at HO_9 HO_407000 HO_422002 HO_422003 HO_423002 HO_423003 HO_424002 HO_424003 BK397 BK398 BK406 BK421 BK422 BK423 HB HL424_0 HR424_0 hx424_0 hHeld ⊢
   refine pure_ (i:=2) (N:=some 46) (v:=?_) (a':=?_) #[false,false,true,false,false,false,false,false] rfl rfl (any_of HT_.out (by kernel_rfl)) (fun _ _ _ h=>h) (Or.inl ⟨by rfl,?_⟩) ?_ ?_
   rotate_left;(intro w';go_simp;with_reducible rfl);rotate_left;(simp only [Act.put,List.setIfInBounds_toArray,List.set_cons_zero,List.set_cons_succ,i64_w,i32_w];rfl)
   refine pure_ (i:=3) (N:=some 47) (v:=?_) (a':=?_) #[false,false,true,true,false,false,false,false] rfl rfl (any_of HT_.out (by kernel_rfl)) (fun _ _ _ h=>h) (Or.inl ⟨by rfl,?_⟩) ?_ ?_
   rotate_left;(intro w';go_simp;with_reducible rfl);rotate_left;(simp only [Act.put,List.setIfInBounds_toArray,List.set_cons_zero,List.set_cons_succ,i64_w,i32_w];rfl)
   refine pure_ (i:=4) (N:=some 48) (v:=?_) (a':=?_) #[false,false,true,true,true,false,false,false] rfl rfl (any_of HT_.out (by kernel_rfl)) (fun _ _ _ h=>h) (Or.inl ⟨by rfl,?_⟩) ?_ ?_
   rotate_left;(intro w';go_simp;with_reducible rfl);rotate_left;(simp only [Act.put,List.setIfInBounds_toArray,List.set_cons_zero,List.set_cons_succ,i64_w,i32_w];rfl)
   refine take_ (i:=0) (N:=some 44) (v:=?_) (a':=?_) #[true,false,true,true,true,false,false,false] rfl rfl (take_ofW HT_.out HW_.out (by kernel_rfl)) (fun _ _ _ h=>h) (Or.inl ⟨by rfl,?_⟩) hHeld ?_ ?_
   rotate_left;(rintro w' ⟨s0,s1,s2,s3,s4,s5,s6,s7,s8⟩;go_simp;with_reducible rfl);rotate_left;(simp only [Act.put,List.setIfInBounds_toArray,List.set_cons_zero,List.set_cons_succ,i64_w,i32_w];rfl)
   refine take_ (i:=1) (N:=some 45) (v:=?_) (a':=?_) #[true,true,true,true,true,false,false,false] rfl rfl (take_ofW HT_.out HW_.out (by kernel_rfl)) (fun _ _ _ h=>h) (Or.inl ⟨by rfl,?_⟩) hHeld ?_ ?_
   rotate_left;(rintro w' ⟨s0,s1,s2,s3,s4,s5,s6,s7,s8⟩;go_simp;with_reducible rfl);rotate_left;(simp only [Act.put,List.setIfInBounds_toArray,List.set_cons_zero,List.set_cons_succ,i64_w,i32_w];rfl)
   refine take_ (i:=5) (N:=some 49) (v:=?_) (a':=?_) #[true,true,true,true,true,true,false,false] rfl rfl (take_ofW HT_.out HW_.out (by kernel_rfl)) (fun _ _ _ h=>h) (Or.inl ⟨by rfl,?_⟩) hHeld ?_ ?_
   rotate_left;(rintro w' ⟨s0,s1,s2,s3,s4,s5,s6,s7,s8⟩;go_simp;with_reducible rfl);rotate_left;(simp only [Act.put,List.setIfInBounds_toArray,List.set_cons_zero,List.set_cons_succ,i64_w,i32_w];rfl)
   refine one_ (i:=6) (N:=some 50) #[true,true,true,true,true,true,true,false] rfl rfl (one_of HT_.out (by kernel_rfl)) (by decide) (fun K hK=>?_)
   refine goes_ Try.func12 (by kernel_rfl) rfl #[.agg #[.slice Ao16 t400.length co16,.int .i64 t403,.int .i64 t404,.int .i64 t405],.agg #[.bool t413,.bool t414,.slice Ao33 t415.length co33,.slice Ao34 t418.length co34],.slice A424_0 (rd_L5 t410 x13_1).length c424_0] (by rfl) rfl rfl (by (try simp only [List.map_toArray,List.map_cons,List.map_nil]);first|done|rfl|(simp only [List.length_drop,List.length_take];rfl)) ?_
   with_reducible refine (index_In.calls k1 _ _ t400 t403 t404 t405 t413 t414 _ _ t415 _ _ t418 _ _ (rd_L5 t410 x13_1) t425 _ ?side1 ?side2 ?side3 ?side4 ?side5 ?side6 ?side7 ?side8 A53.out).mono ?_
   (case side1=>repeat (first|exact (Kd.R_reads' HO_407000.out).2.2|(with_reducible refine Kd.C_alloc ?_ _)|(with_reducible refine Kd.C_drewN ?_ _)|(with_reducible refine Kd.C_drew ?_)))
   (case side2=>exact (Kd.R_reads' HO_407000.out).2.1)
   (case side3=>repeat (first|exact (Kd.R_reads' HO_422002.out).2.2|(with_reducible refine Kd.C_alloc ?_ _)|(with_reducible refine Kd.C_drewN ?_ _)|(with_reducible refine Kd.C_drew ?_)))
   (case side4=>exact (Kd.R_reads' HO_422002.out).2.1)
   (case side5=>repeat (first|exact (Kd.R_reads' HO_422003.out).2.2|(with_reducible refine Kd.C_alloc ?_ _)|(with_reducible refine Kd.C_drewN ?_ _)|(with_reducible refine Kd.C_drew ?_)))
   (case side6=>exact (Kd.R_reads' HO_422003.out).2.1)
   (case side7=>repeat (first|exact (by repeat (first|(with_reducible exact HR424_0.out)|(with_reducible refine Kd.C_alloc ?_ _)|(with_reducible refine Kd.C_drewN ?_ _)|(with_reducible refine Kd.C_drew ?_)|exact HR424_0.out))|(with_reducible refine Kd.C_alloc ?_ _)|(with_reducible refine Kd.C_drewN ?_ _)|(with_reducible refine Kd.C_drew ?_)))
   (case side8=>exact HC424_0.out)
   rintro e w89 ⟨rfl,hb⟩
   have HS8_:=(hb.cell (World.block_lt_of_cell? _ _ (hHeld.2.2.2.2.2.2.2.2))).trans (hHeld.2.2.2.2.2.2.2.2)
   refine ⟨_,rfl,?_⟩
   have n0_:=Aside0.mk (Kd.N_below (N_up HO_9.out) hb)
   have n1_:=Aside0.mk (Kd.R_below (R_up HO_407000.out) hb)
   have n2_:=Aside0.mk (Kd.R_below (R_up HO_422002.out) hb)
   have n3_:=Aside0.mk (Kd.R_below (R_up HO_422003.out) hb)
   have n4_:=Aside0.mk (Kd.R_below (R_up HO_423002.out) hb)
   have n5_:=Aside0.mk (Kd.R_below (R_up HO_423003.out) hb)
   have n6_:=Aside0.mk (Kd.R_below (R_up HO_424002.out) hb)
   have n7_:=Aside0.mk (Kd.R_below (R_up HO_424003.out) hb)
   have n8_:=Aside0.mk (Kd.V_below (by (with_reducible repeat (first|apply Kd.V_alloc|apply Kd.V_drewN|apply Kd.V_drew));exact HL424_0.out) hb)
   have n9_:=Aside0.mk (blk_below (g:=gb397) (o:=.cells #[.int .u8 a0_0,.int .u8 a0_1,.int .u8 a0_2,.int .u8 a0_3,.int .u8 a0_4,.int .u8 a0_5,.int .u8 a0_6,.int .u8 a0_7,.int .u8 a0_8,.int .u8 a0_9,.int .u8 a0_10,.int .u8 a0_11] 24 (0,0)) (blk_up BK397.out) hb)
   have n10_:=Aside0.mk (blk_below (g:=gb398) (o:=.cells #[.bool a2_0,.bool a2_1,.slice A2_2 l2_2.length c2_2,.slice A2_3 l2_3.length c2_3] 29 (0,0)) (blk_up BK398.out) hb)
   have n11_:=Aside0.mk (blk_below (g:=gb406) (o:=.cells #[.slice Ao16 t400.length co16,.int .i64 t403,.int .i64 t404,.int .i64 t405] 33 (0,0)) (blk_up BK406.out) hb)
   have n12_:=Aside0.mk (blk_below (g:=gb421) (o:=.cells #[.bool t413,.bool t414,.slice Ao33 t415.length co33,.slice Ao34 t418.length co34] 29 (0,0)) (blk_up BK421.out) hb)
   have n13_:=Aside0.mk (blk_below (g:=gb422) (o:=.cells #[.bool t413,.bool false,.slice Ao33 t415.length co33,.slice Ao34 t418.length co34] 29 (0,0)) (blk_up BK422.out) hb)
   have n14_:=Aside0.mk (blk_below (g:=gb423) (o:=.cells #[.bool false,.bool t414,.slice Ao33 t415.length co33,.slice Ao34 t418.length co34] 29 (0,0)) (blk_up BK423.out) hb)
   have n15_:=Aside0.mk (Kd.C_below (by repeat (first|(with_reducible exact HR424_0.out)|(with_reducible refine Kd.C_alloc ?_ _)|(with_reducible refine Kd.C_drewN ?_ _)|(with_reducible refine Kd.C_drew ?_)|exact HR424_0.out)) hb)
   have n16_:=Aside0.mk (below_step (by repeat (first|(with_reducible first|exact HB.out|apply below_alloc|apply pw_below_drewN|apply below_drew1|refine below_set ?_ GE397.out|refine below_set ?_ GE398.out|refine below_set ?_ GE406.out|refine below_set ?_ GE421.out|refine below_set ?_ GE422.out|refine below_set ?_ GE423.out)|exact HB.out)) hb)
   clear HO_9
   clear HO_407000
   clear HO_422002
   clear HO_422003
   clear HO_423002
   clear HO_423003
   clear HO_424002
   clear HO_424003
   clear HL424_0
   clear BK397
   clear BK398
   clear BK406
   clear BK421
   clear BK422
   clear BK423
   clear HR424_0
   clear HB
   have HO_9:=n0_
   have HO_407000:=n1_
   have HO_422002:=n2_
   have HO_422003:=n3_
   have HO_423002:=n4_
   have HO_423003:=n5_
   have HO_424002:=n6_
   have HO_424003:=n7_
   have HL424_0:=n8_
   have BK397:=n9_
   have BK398:=n10_
   have BK406:=n11_
   have BK421:=n12_
   have BK422:=n13_
   have BK423:=n14_
   have HR424_0:=n15_
   have HB:=n16_
   clear n0_ n1_ n2_ n3_ n4_ n5_ n6_ n7_ n8_ n9_ n10_ n11_ n12_ n13_ n14_ n15_ n16_
   (try clear hb)
   (try clear hb2)
   (try clear hk)
   (try clear hi)
   refine hK.out _ _ ⟨(blk_cell BK406.out 0).trans rfl,(blk_cell BK406.out 1).trans rfl,(blk_cell BK406.out 2).trans rfl,(blk_cell BK406.out 3).trans rfl,(blk_cell BK421.out 0).trans rfl,(blk_cell BK421.out 1).trans rfl,(blk_cell BK421.out 2).trans rfl,(blk_cell BK421.out 3).trans rfl,HS8_⟩ (fun hHeld=>?_)
   clear hK K
   refine norm_ (a':=?_) ?_ ?_
   rotate_left
   ·show Act.put _ (some 50) _=_
    simp only [Act.put,List.setIfInBounds_toArray,List.set_cons_zero,List.set_cons_succ,i64_w,i32_w]
    rfl
   refine pure_ (i:=7) (N:=some 14) (v:=?_) (a':=?_) #[true,true,true,true,true,true,true,true] rfl rfl (any_of HT_.out (by kernel_rfl)) (fun _ _ _ h=>h) (Or.inl ⟨by rfl,?_⟩) ?_ ?_
   rotate_left;(intro w';go_simp;with_reducible rfl);rotate_left;(simp only [Act.put,List.setIfInBounds_toArray,List.set_cons_zero,List.set_cons_succ,i64_w,i32_w];rfl)
   refine done_ (done_of HT_.out (by kernel_rfl)) ?_
   (try clear hHeld)
   try go_wp2
   have n0_:=Aside0.mk (Kd.N_drew HO_9.out)
   have n1_:=Aside0.mk (Kd.R_drew HO_407000.out)
   have n2_:=Aside0.mk (Kd.R_drew HO_422002.out)
   have n3_:=Aside0.mk (Kd.R_drew HO_422003.out)
   have n4_:=Aside0.mk (Kd.R_drew HO_423002.out)
   have n5_:=Aside0.mk (Kd.R_drew HO_423003.out)
   have n6_:=Aside0.mk (Kd.R_drew HO_424002.out)
   have n7_:=Aside0.mk (Kd.R_drew HO_424003.out)
   have n8_:=Aside0.mk (Kd.V_drew HL424_0.out)
   have n9_:=Aside0.mk (blk_drew BK397.out)
   have n10_:=Aside0.mk (blk_drew BK398.out)
   have n11_:=Aside0.mk (blk_drew BK406.out)
   have n12_:=Aside0.mk (blk_drew BK421.out)
   have n13_:=Aside0.mk (blk_drew BK422.out)
   have n14_:=Aside0.mk (blk_drew BK423.out)
   have n15_:=Aside0.mk (Kd.C_drew HR424_0.out)
   have n16_:=Aside0.mk (below_drew1 HB.out)
   clear HO_9
   clear HO_407000
   clear HO_422002
   clear HO_422003
   clear HO_423002
   clear HO_423003
   clear HO_424002
   clear HO_424003
   clear HL424_0
   clear BK397
   clear BK398
   clear BK406
   clear BK421
   clear BK422
   clear BK423
   clear HR424_0
   clear HB
   have HO_9:=n0_
   have HO_407000:=n1_
   have HO_422002:=n2_
   have HO_422003:=n3_
   have HO_423002:=n4_
   have HO_423003:=n5_
   have HO_424002:=n6_
   have HO_424003:=n7_
   have HL424_0:=n8_
   have BK397:=n9_
   have BK398:=n10_
   have BK406:=n11_
   have BK421:=n12_
   have BK422:=n13_
   have BK423:=n14_
   have HR424_0:=n15_
   have HB:=n16_
   clear n0_ n1_ n2_ n3_ n4_ n5_ n6_ n7_ n8_ n9_ n10_ n11_ n12_ n13_ n14_ n15_ n16_
   have p426 : 0≤(x13_1 : Int):=of_decide_eq_true (by first|(with_reducible assumption)|assumption)
   have q426 : x13_1 < (t410.length : Int):=of_decide_eq_true (by first|(with_reducible assumption)|assumption)
   obtain ⟨ad426,A426_0,c426_0,e426,hx426_0,hl426_0,hi426_0⟩:=at_L5 (Kd.N_reads' HO_9.out).2.2 x13_1 p426 q426
   obtain rfl : ad424=ad426:=(by injection e426)
   obtain ⟨ce426,hce426,hMe426,hcc426⟩:=Kd.N_get HO_9.out [] x13_1 p426 (by first|exact q426|exact of_decide_eq_true (by first|(with_reducible assumption)|assumption)|(have e_:=(Kd.N_reads' HO_9.out).1;omega))
   obtain ⟨ua426_0,uc426_0,rfl,ul426_0,ge426_0⟩:=Kd.FK_slice_open hMe426
   have hv426_0:=hcc426 0 _ rfl
   rw [Nat.add_zero,show ((Kd.slice 44 k44)).sz=1 from rfl,Nat.mul_one] at hv426_0
   replace hv426_0:=Option.some.inj (hv426_0.symm.trans hx426_0)
   injection hv426_0 with hva_ hvn_ hvc_
   rw [hva_] at ge426_0
   rw [hvc_] at ul426_0
   have HL426_0:=Aside0.mk (show Kd.V k44 44 _ w.heap.size _ _ (rd_L5 t410 x13_1) from Kd.V_mk ul426_0 ge426_0)
   clear hva_ hvn_ hvc_ ge426_0 ul426_0
   clear hcc426 hce426
   have HR426_0:=Aside0.mk hi426_0
   have HC426_0:=Aside0.mk hl426_0
   clear hi426_0 hl426_0
   replace p426:=eq_true p426
   replace q426:=eq_true q426
   refine start_ (n:=17) (S:=fun w'=>w'.cell? ⟨gb406,0,none⟩=some (.slice Ao16 t400.length co16)∧w'.cell? ⟨gb406,1,none⟩=some (.int .i64 t403)∧w'.cell? ⟨gb406,2,none⟩=some (.int .i64 t404)∧w'.cell? ⟨gb406,3,none⟩=some (.int .i64 t405)∧w'.cell? ⟨gb422,0,none⟩=some (.bool t413)∧w'.cell? ⟨gb422,1,none⟩=some (.bool false)∧w'.cell? ⟨gb422,2,none⟩=some (.slice Ao33 t415.length co33)∧w'.cell? ⟨gb422,3,none⟩=some (.slice Ao34 t418.length co34)∧w'.cell? (ad424.add (x13_1).toNat)=some (.slice A426_0 (rd_L5 t410 x13_1).length c426_0)) (ds:=[]) #[false,false,false,false,false,false,false,false,false,false,false,false,false,false,false,false,false] (by kernel_rfl) rfl rfl ⟨(blk_cell BK406.out 0).trans rfl,(blk_cell BK406.out 1).trans rfl,(blk_cell BK406.out 2).trans rfl,(blk_cell BK406.out 3).trans rfl,(blk_cell BK422.out 0).trans rfl,(blk_cell BK422.out 1).trans rfl,(blk_cell BK422.out 2).trans rfl,(blk_cell BK422.out 3).trans rfl,hx426_0⟩ (fun hHeld=>?_);refine with_tabW thresherlaw12_IndexGrows.tab13 thresherlaw12_IndexGrows.bits13 (fun HT_ HW_=>?_)
   generalize w89.drew=w90 at HO_9 HO_407000 HO_422002 HO_422003 HO_423002 HO_423003 HO_424002 HO_424003 HL424_0 BK397 BK398 BK406 BK421 BK422 BK423 HR424_0 HB HL426_0 HR426_0 hx426_0 hHeld ⊢
   refine pure_ (i:=2) (N:=some 53) (v:=?_) (a':=?_) #[false,false,true,false,false,false,false,false,false,false,false,false,false,false,false,false,false] rfl rfl (any_of HT_.out (by kernel_rfl)) (fun _ _ _ h=>h) (Or.inl ⟨by rfl,?_⟩) ?_ ?_
   rotate_left;(intro w';go_simp;with_reducible rfl);rotate_left;(simp only [Act.put,List.setIfInBounds_toArray,List.set_cons_zero,List.set_cons_succ,i64_w,i32_w];rfl)
   refine pure_ (i:=3) (N:=some 54) (v:=?_) (a':=?_) #[false,false,true,true,false,false,false,false,false,false,false,false,false,false,false,false,false] rfl rfl (any_of HT_.out (by kernel_rfl)) (fun _ _ _ h=>h) (Or.inl ⟨by rfl,?_⟩) ?_ ?_
   rotate_left;(intro w';go_simp;with_reducible rfl);rotate_left;(simp only [Act.put,List.setIfInBounds_toArray,List.set_cons_zero,List.set_cons_succ,i64_w,i32_w];rfl)
   refine pure_ (i:=4) (N:=some 55) (v:=?_) (a':=?_) #[false,false,true,true,true,false,false,false,false,false,false,false,false,false,false,false,false] rfl rfl (any_of HT_.out (by kernel_rfl)) (fun _ _ _ h=>h) (Or.inl ⟨by rfl,?_⟩) ?_ ?_
   rotate_left;(intro w';go_simp;with_reducible rfl);rotate_left;(simp only [Act.put,List.setIfInBounds_toArray,List.set_cons_zero,List.set_cons_succ,i64_w,i32_w];rfl)
   refine take_ (i:=0) (N:=some 51) (v:=?_) (a':=?_) #[true,false,true,true,true,false,false,false,false,false,false,false,false,false,false,false,false] rfl rfl (take_ofW HT_.out HW_.out (by kernel_rfl)) (fun _ _ _ h=>h) (Or.inl ⟨by rfl,?_⟩) hHeld ?_ ?_
   rotate_left;(rintro w' ⟨s0,s1,s2,s3,s4,s5,s6,s7,s8⟩;go_simp;with_reducible rfl);rotate_left;(simp only [Act.put,List.setIfInBounds_toArray,List.set_cons_zero,List.set_cons_succ,i64_w,i32_w];rfl)
   refine take_ (i:=1) (N:=some 52) (v:=?_) (a':=?_) #[true,true,true,true,true,false,false,false,false,false,false,false,false,false,false,false,false] rfl rfl (take_ofW HT_.out HW_.out (by kernel_rfl)) (fun _ _ _ h=>h) (Or.inl ⟨by rfl,?_⟩) hHeld ?_ ?_
   rotate_left;(rintro w' ⟨s0,s1,s2,s3,s4,s5,s6,s7,s8⟩;go_simp;with_reducible rfl);rotate_left;(simp only [Act.put,List.setIfInBounds_toArray,List.set_cons_zero,List.set_cons_succ,i64_w,i32_w];rfl)
   refine take_ (i:=5) (N:=some 56) (v:=?_) (a':=?_) #[true,true,true,true,true,true,false,false,false,false,false,false,false,false,false,false,false] rfl rfl (take_ofW HT_.out HW_.out (by kernel_rfl)) (fun _ _ _ h=>h) (Or.inl ⟨by rfl,?_⟩) hHeld ?_ ?_
   rotate_left;(rintro w' ⟨s0,s1,s2,s3,s4,s5,s6,s7,s8⟩;go_simp;with_reducible rfl);rotate_left;(simp only [Act.put,List.setIfInBounds_toArray,List.set_cons_zero,List.set_cons_succ,i64_w,i32_w];rfl)
   refine one_ (i:=6) (N:=some 57) #[true,true,true,true,true,true,true,false,false,false,false,false,false,false,false,false,false] rfl rfl (one_of HT_.out (by kernel_rfl)) (by decide) (fun K hK=>?_)
   refine goes_ Try.func12 (by kernel_rfl) rfl #[.agg #[.slice Ao16 t400.length co16,.int .i64 t403,.int .i64 t404,.int .i64 t405],.agg #[.bool t413,.bool false,.slice Ao33 t415.length co33,.slice Ao34 t418.length co34],.slice A426_0 (rd_L5 t410 x13_1).length c426_0] (by rfl) rfl rfl (by (try simp only [List.map_toArray,List.map_cons,List.map_nil]);first|done|rfl|(simp only [List.length_drop,List.length_take];rfl)) ?_
   with_reducible refine (index_In.calls k1 _ _ t400 t403 t404 t405 t413 false _ _ t415 _ _ t418 _ _ (rd_L5 t410 x13_1) false _ ?side1 ?side2 ?side3 ?side4 ?side5 ?side6 ?side7 ?side8 A54.out).mono ?_
   (case side1=>repeat (first|exact (Kd.R_reads' HO_407000.out).2.2|(with_reducible refine Kd.C_alloc ?_ _)|(with_reducible refine Kd.C_drewN ?_ _)|(with_reducible refine Kd.C_drew ?_)))
   (case side2=>exact (Kd.R_reads' HO_407000.out).2.1)
   (case side3=>repeat (first|exact (Kd.R_reads' HO_423002.out).2.2|(with_reducible refine Kd.C_alloc ?_ _)|(with_reducible refine Kd.C_drewN ?_ _)|(with_reducible refine Kd.C_drew ?_)))
   (case side4=>exact (Kd.R_reads' HO_423002.out).2.1)
   (case side5=>repeat (first|exact (Kd.R_reads' HO_423003.out).2.2|(with_reducible refine Kd.C_alloc ?_ _)|(with_reducible refine Kd.C_drewN ?_ _)|(with_reducible refine Kd.C_drew ?_)))
   (case side6=>exact (Kd.R_reads' HO_423003.out).2.1)
   (case side7=>repeat (first|exact (by repeat (first|(with_reducible exact HR426_0.out)|(with_reducible refine Kd.C_alloc ?_ _)|(with_reducible refine Kd.C_drewN ?_ _)|(with_reducible refine Kd.C_drew ?_)|exact HR426_0.out))|(with_reducible refine Kd.C_alloc ?_ _)|(with_reducible refine Kd.C_drewN ?_ _)|(with_reducible refine Kd.C_drew ?_)))
   (case side8=>exact HC426_0.out)
   rintro e w91 ⟨rfl,hb⟩
   have HS8_:=(hb.cell (World.block_lt_of_cell? _ _ (hHeld.2.2.2.2.2.2.2.2))).trans (hHeld.2.2.2.2.2.2.2.2)
   refine ⟨_,rfl,?_⟩
   have n0_:=Aside0.mk (Kd.N_below (N_up HO_9.out) hb)
   have n1_:=Aside0.mk (Kd.R_below (R_up HO_407000.out) hb)
   have n2_:=Aside0.mk (Kd.R_below (R_up HO_422002.out) hb)
   have n3_:=Aside0.mk (Kd.R_below (R_up HO_422003.out) hb)
   have n4_:=Aside0.mk (Kd.R_below (R_up HO_423002.out) hb)
   have n5_:=Aside0.mk (Kd.R_below (R_up HO_423003.out) hb)
   have n6_:=Aside0.mk (Kd.R_below (R_up HO_424002.out) hb)
   have n7_:=Aside0.mk (Kd.R_below (R_up HO_424003.out) hb)
   have n8_:=Aside0.mk (Kd.V_below (by (with_reducible repeat (first|apply Kd.V_alloc|apply Kd.V_drewN|apply Kd.V_drew));exact HL424_0.out) hb)
   have n9_:=Aside0.mk (Kd.V_below (by (with_reducible repeat (first|apply Kd.V_alloc|apply Kd.V_drewN|apply Kd.V_drew));exact HL426_0.out) hb)
   have n10_:=Aside0.mk (blk_below (g:=gb397) (o:=.cells #[.int .u8 a0_0,.int .u8 a0_1,.int .u8 a0_2,.int .u8 a0_3,.int .u8 a0_4,.int .u8 a0_5,.int .u8 a0_6,.int .u8 a0_7,.int .u8 a0_8,.int .u8 a0_9,.int .u8 a0_10,.int .u8 a0_11] 24 (0,0)) (blk_up BK397.out) hb)
   have n11_:=Aside0.mk (blk_below (g:=gb398) (o:=.cells #[.bool a2_0,.bool a2_1,.slice A2_2 l2_2.length c2_2,.slice A2_3 l2_3.length c2_3] 29 (0,0)) (blk_up BK398.out) hb)
   have n12_:=Aside0.mk (blk_below (g:=gb406) (o:=.cells #[.slice Ao16 t400.length co16,.int .i64 t403,.int .i64 t404,.int .i64 t405] 33 (0,0)) (blk_up BK406.out) hb)
   have n13_:=Aside0.mk (blk_below (g:=gb421) (o:=.cells #[.bool t413,.bool t414,.slice Ao33 t415.length co33,.slice Ao34 t418.length co34] 29 (0,0)) (blk_up BK421.out) hb)
   have n14_:=Aside0.mk (blk_below (g:=gb422) (o:=.cells #[.bool t413,.bool false,.slice Ao33 t415.length co33,.slice Ao34 t418.length co34] 29 (0,0)) (blk_up BK422.out) hb)
   have n15_:=Aside0.mk (blk_below (g:=gb423) (o:=.cells #[.bool false,.bool t414,.slice Ao33 t415.length co33,.slice Ao34 t418.length co34] 29 (0,0)) (blk_up BK423.out) hb)
   have n16_:=Aside0.mk (Kd.C_below (by repeat (first|(with_reducible exact HR424_0.out)|(with_reducible refine Kd.C_alloc ?_ _)|(with_reducible refine Kd.C_drewN ?_ _)|(with_reducible refine Kd.C_drew ?_)|exact HR424_0.out)) hb)
   have n17_:=Aside0.mk (Kd.C_below (by repeat (first|(with_reducible exact HR426_0.out)|(with_reducible refine Kd.C_alloc ?_ _)|(with_reducible refine Kd.C_drewN ?_ _)|(with_reducible refine Kd.C_drew ?_)|exact HR426_0.out)) hb)
   have n18_:=Aside0.mk (below_step (by repeat (first|(with_reducible first|exact HB.out|apply below_alloc|apply pw_below_drewN|apply below_drew1|refine below_set ?_ GE397.out|refine below_set ?_ GE398.out|refine below_set ?_ GE406.out|refine below_set ?_ GE421.out|refine below_set ?_ GE422.out|refine below_set ?_ GE423.out)|exact HB.out)) hb)
   clear HO_9
   clear HO_407000
   clear HO_422002
   clear HO_422003
   clear HO_423002
   clear HO_423003
   clear HO_424002
   clear HO_424003
   clear HL424_0
   clear HL426_0
   clear BK397
   clear BK398
   clear BK406
   clear BK421
   clear BK422
   clear BK423
   clear HR424_0
   clear HR426_0
   clear HB
   have HO_9:=n0_
   have HO_407000:=n1_
   have HO_422002:=n2_
   have HO_422003:=n3_
   have HO_423002:=n4_
   have HO_423003:=n5_
   have HO_424002:=n6_
   have HO_424003:=n7_
   have HL424_0:=n8_
   have HL426_0:=n9_
   have BK397:=n10_
   have BK398:=n11_
   have BK406:=n12_
   have BK421:=n13_
   have BK422:=n14_
   have BK423:=n15_
   have HR424_0:=n16_
   have HR426_0:=n17_
   have HB:=n18_
   clear n0_ n1_ n2_ n3_ n4_ n5_ n6_ n7_ n8_ n9_ n10_ n11_ n12_ n13_ n14_ n15_ n16_ n17_ n18_
   (try clear hb)
   (try clear hb2)
   (try clear hk)
   (try clear hi)
   refine hK.out _ _ ⟨(blk_cell BK406.out 0).trans rfl,(blk_cell BK406.out 1).trans rfl,(blk_cell BK406.out 2).trans rfl,(blk_cell BK406.out 3).trans rfl,(blk_cell BK422.out 0).trans rfl,(blk_cell BK422.out 1).trans rfl,(blk_cell BK422.out 2).trans rfl,(blk_cell BK422.out 3).trans rfl,HS8_⟩ (fun hHeld=>?_)
   clear hK K
   refine norm_ (a':=?_) ?_ ?_
   rotate_left
   ·show Act.put _ (some 57) _=_
    simp only [Act.put,List.setIfInBounds_toArray,List.set_cons_zero,List.set_cons_succ,i64_w,i32_w]
    rfl
   refine pure_ (i:=7) (N:=some 58) (v:=?_) (a':=?_) #[true,true,true,true,true,true,true,true,false,false,false,false,false,false,false,false,false] rfl rfl (any_of HT_.out (by kernel_rfl)) (fun _ _ _ h=>h) (Or.inl ⟨by rfl,?_⟩) ?_ ?_
   rotate_left;(intro w';go_simp;with_reducible rfl);rotate_left;(simp only [Act.put,List.setIfInBounds_toArray,List.set_cons_zero,List.set_cons_succ,i64_w,i32_w];rfl)
   refine pure_ (i:=8) (N:=some 59) (v:=undef) (a':=?_) #[true,true,true,true,true,true,true,true,true,false,false,false,false,false,false,false,false] rfl rfl (any_of HT_.out (by kernel_rfl)) (fun _ _ _ h=>h) (Or.inr ⟨by rfl,rfl⟩) ?_ ?_
   rotate_left
   ·simp only [Act.put,List.setIfInBounds_toArray,List.set_cons_zero,List.set_cons_succ,i64_w,i32_w]
    rfl
   refine pure_ (i:=9) (N:=some 60) (v:=undef) (a':=?_) #[true,true,true,true,true,true,true,true,true,true,false,false,false,false,false,false,false] rfl rfl (any_of HT_.out (by kernel_rfl)) (fun _ _ _ h=>h) (Or.inr ⟨by rfl,rfl⟩) ?_ ?_
   rotate_left
   ·simp only [Act.put,List.setIfInBounds_toArray,List.set_cons_zero,List.set_cons_succ,i64_w,i32_w]
    rfl
   refine pure_ (i:=10) (N:=some 61) (v:=undef) (a':=?_) #[true,true,true,true,true,true,true,true,true,true,true,false,false,false,false,false,false] rfl rfl (any_of HT_.out (by kernel_rfl)) (fun _ _ _ h=>h) (Or.inr ⟨by rfl,rfl⟩) ?_ ?_
   rotate_left
   ·simp only [Act.put,List.setIfInBounds_toArray,List.set_cons_zero,List.set_cons_succ,i64_w,i32_w]
    rfl
   refine pure_ (i:=11) (N:=some 62) (v:=undef) (a':=?_) #[true,true,true,true,true,true,true,true,true,true,true,true,false,false,false,false,false] rfl rfl (any_of HT_.out (by kernel_rfl)) (fun _ _ _ h=>h) (Or.inr ⟨by rfl,rfl⟩) ?_ ?_
   rotate_left
   ·simp only [Act.put,List.setIfInBounds_toArray,List.set_cons_zero,List.set_cons_succ,i64_w,i32_w]
    rfl
   refine pure_ (i:=12) (N:=some 63) (v:=undef) (a':=?_) #[true,true,true,true,true,true,true,true,true,true,true,true,true,false,false,false,false] rfl rfl (any_of HT_.out (by kernel_rfl)) (fun _ _ _ h=>h) (Or.inr ⟨by rfl,rfl⟩) ?_ ?_
   rotate_left
   ·simp only [Act.put,List.setIfInBounds_toArray,List.set_cons_zero,List.set_cons_succ,i64_w,i32_w]
    rfl
   refine pure_ (i:=13) (N:=some 64) (v:=undef) (a':=?_) #[true,true,true,true,true,true,true,true,true,true,true,true,true,true,false,false,false] rfl rfl (any_of HT_.out (by kernel_rfl)) (fun _ _ _ h=>h) (Or.inr ⟨by rfl,rfl⟩) ?_ ?_
   rotate_left
   ·simp only [Act.put,List.setIfInBounds_toArray,List.set_cons_zero,List.set_cons_succ,i64_w,i32_w]
    rfl
   refine pure_ (i:=14) (N:=some 65) (v:=undef) (a':=?_) #[true,true,true,true,true,true,true,true,true,true,true,true,true,true,true,false,false] rfl rfl (any_of HT_.out (by kernel_rfl)) (fun _ _ _ h=>h) (Or.inr ⟨by rfl,rfl⟩) ?_ ?_
   rotate_left
   ·simp only [Act.put,List.setIfInBounds_toArray,List.set_cons_zero,List.set_cons_succ,i64_w,i32_w]
    rfl
   refine pure_ (i:=15) (N:=some 66) (v:=?_) (a':=?_) #[true,true,true,true,true,true,true,true,true,true,true,true,true,true,true,true,false] rfl rfl (any_of HT_.out (by kernel_rfl)) (fun _ _ _ h=>h) (Or.inl ⟨by rfl,?_⟩) ?_ ?_
   rotate_left;(intro w';go_simp;with_reducible rfl);rotate_left;(simp only [Act.put,List.setIfInBounds_toArray,List.set_cons_zero,List.set_cons_succ,i64_w,i32_w];rfl)
   refine pure_ (i:=16) (N:=some 15) (v:=?_) (a':=?_) #[true,true,true,true,true,true,true,true,true,true,true,true,true,true,true,true,true] rfl rfl (any_of HT_.out (by kernel_rfl)) (fun _ _ _ h=>h) (Or.inl ⟨by rfl,?_⟩) ?_ ?_
   rotate_left;(intro w';go_simp;with_reducible rfl);rotate_left;(simp only [Act.put,List.setIfInBounds_toArray,List.set_cons_zero,List.set_cons_succ,i64_w,i32_w];rfl)
   refine done_ (done_of HT_.out (by kernel_rfl)) ?_
   (try clear hHeld)
   try go_wp2
   have n0_:=Aside0.mk (Kd.N_drew HO_9.out)
   have n1_:=Aside0.mk (Kd.R_drew HO_407000.out)
   have n2_:=Aside0.mk (Kd.R_drew HO_422002.out)
   have n3_:=Aside0.mk (Kd.R_drew HO_422003.out)
   have n4_:=Aside0.mk (Kd.R_drew HO_423002.out)
   have n5_:=Aside0.mk (Kd.R_drew HO_423003.out)
   have n6_:=Aside0.mk (Kd.R_drew HO_424002.out)
   have n7_:=Aside0.mk (Kd.R_drew HO_424003.out)
   have n8_:=Aside0.mk (Kd.V_drew HL424_0.out)
   have n9_:=Aside0.mk (Kd.V_drew HL426_0.out)
   have n10_:=Aside0.mk (blk_drew BK397.out)
   have n11_:=Aside0.mk (blk_drew BK398.out)
   have n12_:=Aside0.mk (blk_drew BK406.out)
   have n13_:=Aside0.mk (blk_drew BK421.out)
   have n14_:=Aside0.mk (blk_drew BK422.out)
   have n15_:=Aside0.mk (blk_drew BK423.out)
   have n16_:=Aside0.mk (Kd.C_drew HR424_0.out)
   have n17_:=Aside0.mk (Kd.C_drew HR426_0.out)
   have n18_:=Aside0.mk (below_drew1 HB.out)
   clear HO_9
   clear HO_407000
   clear HO_422002
   clear HO_422003
   clear HO_423002
   clear HO_423003
   clear HO_424002
   clear HO_424003
   clear HL424_0
   clear HL426_0
   clear BK397
   clear BK398
   clear BK406
   clear BK421
   clear BK422
   clear BK423
   clear HR424_0
   clear HR426_0
   clear HB
   have HO_9:=n0_
   have HO_407000:=n1_
   have HO_422002:=n2_
   have HO_422003:=n3_
   have HO_423002:=n4_
   have HO_423003:=n5_
   have HO_424002:=n6_
   have HO_424003:=n7_
   have HL424_0:=n8_
   have HL426_0:=n9_
   have BK397:=n10_
   have BK398:=n11_
   have BK406:=n12_
   have BK421:=n13_
   have BK422:=n14_
   have BK423:=n15_
   have HR424_0:=n16_
   have HR426_0:=n17_
   have HB:=n18_
   clear n0_ n1_ n2_ n3_ n4_ n5_ n6_ n7_ n8_ n9_ n10_ n11_ n12_ n13_ n14_ n15_ n16_ n17_ n18_
   have p432 : 0≤(x13_1 : Int):=of_decide_eq_true (by first|(with_reducible assumption)|assumption)
   have q432 : x13_1 < (t410.length : Int):=of_decide_eq_true (by first|(with_reducible assumption)|assumption)
   obtain ⟨ad432,A432_0,c432_0,e432,hx432_0,hl432_0,hi432_0⟩:=at_L5 (Kd.N_reads' HO_9.out).2.2 x13_1 p432 q432
   obtain rfl : ad424=ad432:=(by injection e432)
   obtain ⟨ce432,hce432,hMe432,hcc432⟩:=Kd.N_get HO_9.out [] x13_1 p432 (by first|exact q432|exact of_decide_eq_true (by first|(with_reducible assumption)|assumption)|(have e_:=(Kd.N_reads' HO_9.out).1;omega))
   obtain ⟨ua432_0,uc432_0,rfl,ul432_0,ge432_0⟩:=Kd.FK_slice_open hMe432
   have hv432_0:=hcc432 0 _ rfl
   rw [Nat.add_zero,show ((Kd.slice 44 k44)).sz=1 from rfl,Nat.mul_one] at hv432_0
   replace hv432_0:=Option.some.inj (hv432_0.symm.trans hx432_0)
   injection hv432_0 with hva_ hvn_ hvc_
   rw [hva_] at ge432_0
   rw [hvc_] at ul432_0
   have HL432_0:=Aside0.mk (show Kd.V k44 44 _ w.heap.size _ _ (rd_L5 t410 x13_1) from Kd.V_mk ul432_0 ge432_0)
   clear hva_ hvn_ hvc_ ge432_0 ul432_0
   clear hcc432 hce432
   have HR432_0:=Aside0.mk hi432_0
   have HC432_0:=Aside0.mk hl432_0
   clear hi432_0 hl432_0
   replace p432:=eq_true p432
   replace q432:=eq_true q432
   refine start_ (n:=13) (S:=fun w'=>w'.cell? ⟨gb406,0,none⟩=some (.slice Ao16 t400.length co16)∧w'.cell? ⟨gb406,1,none⟩=some (.int .i64 t403)∧w'.cell? ⟨gb406,2,none⟩=some (.int .i64 t404)∧w'.cell? ⟨gb406,3,none⟩=some (.int .i64 t405)∧w'.cell? (ad424.add (x13_1).toNat)=some (.slice A432_0 (rd_L5 t410 x13_1).length c432_0)) (ds:=[]) #[false,false,false,false,false,false,false,false,false,false,false,false,false] (by kernel_rfl) rfl rfl ⟨(blk_cell BK406.out 0).trans rfl,(blk_cell BK406.out 1).trans rfl,(blk_cell BK406.out 2).trans rfl,(blk_cell BK406.out 3).trans rfl,hx432_0⟩ (fun hHeld=>?_);refine with_tabW thresherlaw12_IndexGrows.tab14 thresherlaw12_IndexGrows.bits14 (fun HT_ HW_=>?_)
   generalize w91.drew=w92 at HO_9 HO_407000 HO_422002 HO_422003 HO_423002 HO_423003 HO_424002 HO_424003 HL424_0 HL426_0 BK397 BK398 BK406 BK421 BK422 BK423 HR424_0 HR426_0 HB HL432_0 HR432_0 hx432_0 hHeld ⊢
   refine pure_ (i:=0) (N:=some 67) (v:=?_) (a':=?_) #[true,false,false,false,false,false,false,false,false,false,false,false,false] rfl rfl (any_of HT_.out (by kernel_rfl)) (fun _ _ _ h=>h) (Or.inl ⟨by rfl,?_⟩) ?_ ?_
   rotate_left;(intro w';go_simp;with_reducible rfl);rotate_left;(simp only [Act.put,List.setIfInBounds_toArray,List.set_cons_zero,List.set_cons_succ,i64_w,i32_w];rfl)
   refine pure_ (i:=1) (N:=some 68) (v:=?_) (a':=?_) #[true,true,false,false,false,false,false,false,false,false,false,false,false] rfl rfl (any_of HT_.out (by kernel_rfl)) (fun _ _ _ h=>h) (Or.inl ⟨by rfl,?_⟩) ?_ ?_
   rotate_left;(intro w';go_simp;with_reducible rfl);rotate_left;(simp only [Act.put,List.setIfInBounds_toArray,List.set_cons_zero,List.set_cons_succ,i64_w,i32_w];rfl)
   refine pure_ (i:=2) (N:=some 69) (v:=?_) (a':=?_) #[true,true,true,false,false,false,false,false,false,false,false,false,false] rfl rfl (any_of HT_.out (by kernel_rfl)) (fun _ _ _ h=>h) (Or.inl ⟨by rfl,?_⟩) ?_ ?_
   rotate_left;(intro w';go_simp;with_reducible rfl);rotate_left;(simp only [Act.put,List.setIfInBounds_toArray,List.set_cons_zero,List.set_cons_succ,i64_w,i32_w];rfl)
   refine pure_ (i:=3) (N:=some 70) (v:=?_) (a':=?_) #[true,true,true,true,false,false,false,false,false,false,false,false,false] rfl rfl (any_of HT_.out (by kernel_rfl)) (fun _ _ _ h=>h) (Or.inl ⟨by rfl,?_⟩) ?_ ?_
   rotate_left;(intro w';go_simp;with_reducible rfl);rotate_left;(simp only [Act.put,List.setIfInBounds_toArray,List.set_cons_zero,List.set_cons_succ,i64_w,i32_w];rfl)
   refine pure_ (i:=5) (N:=some 72) (v:=?_) (a':=?_) #[true,true,true,true,false,true,false,false,false,false,false,false,false] rfl rfl (any_of HT_.out (by kernel_rfl)) (fun _ _ _ h=>h) (Or.inl ⟨by rfl,?_⟩) ?_ ?_
   rotate_left;(intro w';go_simp;with_reducible rfl);rotate_left;(simp only [Act.put,List.setIfInBounds_toArray,List.set_cons_zero,List.set_cons_succ,i64_w,i32_w];rfl)
   refine pure_ (i:=6) (N:=some 73) (v:=?_) (a':=?_) #[true,true,true,true,false,true,true,false,false,false,false,false,false] rfl rfl (any_of HT_.out (by kernel_rfl)) (fun _ _ _ h=>h) (Or.inl ⟨by rfl,?_⟩) ?_ ?_
   rotate_left;(intro w';go_simp;with_reducible rfl);rotate_left;(simp only [Act.put,List.setIfInBounds_toArray,List.set_cons_zero,List.set_cons_succ,i64_w,i32_w];rfl)
   refine pure_ (i:=7) (N:=some 74) (v:=?_) (a':=?_) #[true,true,true,true,false,true,true,true,false,false,false,false,false] rfl rfl (any_of HT_.out (by kernel_rfl)) (fun _ _ _ h=>h) (Or.inl ⟨by rfl,?_⟩) ?_ ?_
   rotate_left;(intro w';go_simp;with_reducible rfl);rotate_left;(simp only [Act.put,List.setIfInBounds_toArray,List.set_cons_zero,List.set_cons_succ,i64_w,i32_w];rfl)
   refine pure_ (i:=8) (N:=some 75) (v:=?_) (a':=?_) #[true,true,true,true,false,true,true,true,true,false,false,false,false] rfl rfl (any_of HT_.out (by kernel_rfl)) (fun _ _ _ h=>h) (Or.inl ⟨by rfl,?_⟩) ?_ ?_
   rotate_left;(intro w';go_simp;with_reducible rfl);rotate_left;(simp only [Act.put,List.setIfInBounds_toArray,List.set_cons_zero,List.set_cons_succ,i64_w,i32_w];rfl)
   refine take_ (i:=4) (N:=some 71) (v:=?_) (a':=?_) #[true,true,true,true,true,true,true,true,true,false,false,false,false] rfl rfl (take_ofW HT_.out HW_.out (by kernel_rfl)) (fun _ _ _ h=>h) (Or.inl ⟨by rfl,?_⟩) hHeld ?_ ?_
   rotate_left;(rintro w' ⟨s0,s1,s2,s3,s4⟩;go_simp;with_reducible rfl);rotate_left;(simp only [Act.put,List.setIfInBounds_toArray,List.set_cons_zero,List.set_cons_succ,i64_w,i32_w];rfl)
   refine take_ (i:=9) (N:=some 76) (v:=?_) (a':=?_) #[true,true,true,true,true,true,true,true,true,true,false,false,false] rfl rfl (take_ofW HT_.out HW_.out (by kernel_rfl)) (fun _ _ _ h=>h) (Or.inl ⟨by rfl,?_⟩) hHeld ?_ ?_
   rotate_left;(rintro w' ⟨s0,s1,s2,s3,s4⟩;go_simp;with_reducible rfl);rotate_left;(simp only [Act.put,List.setIfInBounds_toArray,List.set_cons_zero,List.set_cons_succ,i64_w,i32_w];rfl)
   refine one_ (i:=10) (N:=some 77) #[true,true,true,true,true,true,true,true,true,true,true,false,false] rfl rfl (one_of HT_.out (by kernel_rfl)) (by decide) (fun K hK=>?_)
   refine goes_ Try.func12 (by kernel_rfl) rfl #[.agg #[.slice Ao16 t400.length co16,.int .i64 t403,.int .i64 t404,.int .i64 t405],.agg #[.bool false,.bool false,.slice none 0 0,.slice none 0 0],.slice A432_0 (rd_L5 t410 x13_1).length c432_0] (by rfl) rfl rfl (by (try simp only [List.map_toArray,List.map_cons,List.map_nil]);first|done|rfl|(simp only [List.length_drop,List.length_take];rfl)) ?_
   refine (index_In.calls k1 _ _ t400 t403 t404 t405 false false _ _ ([] : List (S44)) _ _ ([] : List (S44)) _ _ (rd_L5 t410 x13_1) true _ ?side1 ?side2 ?side3 ?side4 ?side5 ?side6 ?side7 ?side8 A86.out).mono ?_
   (case side1=>repeat (first|exact (Kd.R_reads' HO_407000.out).2.2|(with_reducible refine Kd.C_alloc ?_ _)|(with_reducible refine Kd.C_drewN ?_ _)|(with_reducible refine Kd.C_drew ?_)))
   (case side2=>exact (Kd.R_reads' HO_407000.out).2.1)
   (case side3=>exact Kd.C_nil _ _)
   (case side4=>exact Nat.le_refl _)
   (case side5=>exact Kd.C_nil _ _)
   (case side6=>exact Nat.le_refl _)
   (case side7=>repeat (first|exact (by repeat (first|(with_reducible exact HR432_0.out)|(with_reducible refine Kd.C_alloc ?_ _)|(with_reducible refine Kd.C_drewN ?_ _)|(with_reducible refine Kd.C_drew ?_)|exact HR432_0.out))|(with_reducible refine Kd.C_alloc ?_ _)|(with_reducible refine Kd.C_drewN ?_ _)|(with_reducible refine Kd.C_drew ?_)))
   (case side8=>exact HC432_0.out)
   rintro e w93 ⟨rfl,hb⟩
   have HS4_:=(hb.cell (World.block_lt_of_cell? _ _ (hHeld.2.2.2.2))).trans (hHeld.2.2.2.2)
   refine ⟨_,rfl,?_⟩
   have n0_:=Aside0.mk (Kd.N_below (N_up HO_9.out) hb)
   have n1_:=Aside0.mk (Kd.R_below (R_up HO_407000.out) hb)
   have n2_:=Aside0.mk (Kd.R_below (R_up HO_422002.out) hb)
   have n3_:=Aside0.mk (Kd.R_below (R_up HO_422003.out) hb)
   have n4_:=Aside0.mk (Kd.R_below (R_up HO_423002.out) hb)
   have n5_:=Aside0.mk (Kd.R_below (R_up HO_423003.out) hb)
   have n6_:=Aside0.mk (Kd.R_below (R_up HO_424002.out) hb)
   have n7_:=Aside0.mk (Kd.R_below (R_up HO_424003.out) hb)
   have n8_:=Aside0.mk (Kd.V_below (by (with_reducible repeat (first|apply Kd.V_alloc|apply Kd.V_drewN|apply Kd.V_drew));exact HL424_0.out) hb)
   have n9_:=Aside0.mk (Kd.V_below (by (with_reducible repeat (first|apply Kd.V_alloc|apply Kd.V_drewN|apply Kd.V_drew));exact HL426_0.out) hb)
   have n10_:=Aside0.mk (Kd.V_below (by (with_reducible repeat (first|apply Kd.V_alloc|apply Kd.V_drewN|apply Kd.V_drew));exact HL432_0.out) hb)
   have n11_:=Aside0.mk (blk_below (g:=gb397) (o:=.cells #[.int .u8 a0_0,.int .u8 a0_1,.int .u8 a0_2,.int .u8 a0_3,.int .u8 a0_4,.int .u8 a0_5,.int .u8 a0_6,.int .u8 a0_7,.int .u8 a0_8,.int .u8 a0_9,.int .u8 a0_10,.int .u8 a0_11] 24 (0,0)) (blk_up BK397.out) hb)
   have n12_:=Aside0.mk (blk_below (g:=gb398) (o:=.cells #[.bool a2_0,.bool a2_1,.slice A2_2 l2_2.length c2_2,.slice A2_3 l2_3.length c2_3] 29 (0,0)) (blk_up BK398.out) hb)
   have n13_:=Aside0.mk (blk_below (g:=gb406) (o:=.cells #[.slice Ao16 t400.length co16,.int .i64 t403,.int .i64 t404,.int .i64 t405] 33 (0,0)) (blk_up BK406.out) hb)
   have n14_:=Aside0.mk (blk_below (g:=gb421) (o:=.cells #[.bool t413,.bool t414,.slice Ao33 t415.length co33,.slice Ao34 t418.length co34] 29 (0,0)) (blk_up BK421.out) hb)
   have n15_:=Aside0.mk (blk_below (g:=gb422) (o:=.cells #[.bool t413,.bool false,.slice Ao33 t415.length co33,.slice Ao34 t418.length co34] 29 (0,0)) (blk_up BK422.out) hb)
   have n16_:=Aside0.mk (blk_below (g:=gb423) (o:=.cells #[.bool false,.bool t414,.slice Ao33 t415.length co33,.slice Ao34 t418.length co34] 29 (0,0)) (blk_up BK423.out) hb)
   have n17_:=Aside0.mk (Kd.C_below (by repeat (first|(with_reducible exact HR424_0.out)|(with_reducible refine Kd.C_alloc ?_ _)|(with_reducible refine Kd.C_drewN ?_ _)|(with_reducible refine Kd.C_drew ?_)|exact HR424_0.out)) hb)
   have n18_:=Aside0.mk (Kd.C_below (by repeat (first|(with_reducible exact HR426_0.out)|(with_reducible refine Kd.C_alloc ?_ _)|(with_reducible refine Kd.C_drewN ?_ _)|(with_reducible refine Kd.C_drew ?_)|exact HR426_0.out)) hb)
   have n19_:=Aside0.mk (Kd.C_below (by repeat (first|(with_reducible exact HR432_0.out)|(with_reducible refine Kd.C_alloc ?_ _)|(with_reducible refine Kd.C_drewN ?_ _)|(with_reducible refine Kd.C_drew ?_)|exact HR432_0.out)) hb)
   have n20_:=Aside0.mk (below_step (by repeat (first|(with_reducible first|exact HB.out|apply below_alloc|apply pw_below_drewN|apply below_drew1|refine below_set ?_ GE397.out|refine below_set ?_ GE398.out|refine below_set ?_ GE406.out|refine below_set ?_ GE421.out|refine below_set ?_ GE422.out|refine below_set ?_ GE423.out)|exact HB.out)) hb)
   clear HO_9
   clear HO_407000
   clear HO_422002
   clear HO_422003
   clear HO_423002
   clear HO_423003
   clear HO_424002
   clear HO_424003
   clear HL424_0
   clear HL426_0
   clear HL432_0
   clear BK397
   clear BK398
   clear BK406
   clear BK421
   clear BK422
   clear BK423
   clear HR424_0
   clear HR426_0
   clear HR432_0
   clear HB
   have HO_9:=n0_
   have HO_407000:=n1_
   have HO_422002:=n2_
   have HO_422003:=n3_
   have HO_423002:=n4_
   have HO_423003:=n5_
   have HO_424002:=n6_
   have HO_424003:=n7_
   have HL424_0:=n8_
   have HL426_0:=n9_
   have HL432_0:=n10_
   have BK397:=n11_
   have BK398:=n12_
   have BK406:=n13_
   have BK421:=n14_
   have BK422:=n15_
   have BK423:=n16_
   have HR424_0:=n17_
   have HR426_0:=n18_
   have HR432_0:=n19_
   have HB:=n20_
   clear n0_ n1_ n2_ n3_ n4_ n5_ n6_ n7_ n8_ n9_ n10_ n11_ n12_ n13_ n14_ n15_ n16_ n17_ n18_ n19_ n20_
   (try clear hb)
   (try clear hb2)
   (try clear hk)
   (try clear hi)
   refine hK.out _ _ ⟨(blk_cell BK406.out 0).trans rfl,(blk_cell BK406.out 1).trans rfl,(blk_cell BK406.out 2).trans rfl,(blk_cell BK406.out 3).trans rfl,HS4_⟩ (fun hHeld=>?_)
   clear hK K
   refine norm_ (a':=?_) ?_ ?_
   rotate_left
   ·show Act.put _ (some 77) _=_
    simp only [Act.put,List.setIfInBounds_toArray,List.set_cons_zero,List.set_cons_succ,i64_w,i32_w]
    rfl
   refine pure_ (i:=11) (N:=some 78) (v:=?_) (a':=?_) #[true,true,true,true,true,true,true,true,true,true,true,true,false] rfl rfl (any_of HT_.out (by kernel_rfl)) (fun _ _ _ h=>h) (Or.inl ⟨by rfl,?_⟩) ?_ ?_
   rotate_left;(intro w';go_simp;with_reducible rfl);rotate_left;(simp only [Act.put,List.setIfInBounds_toArray,List.set_cons_zero,List.set_cons_succ,i64_w,i32_w];rfl)
   refine pure_ (i:=12) (N:=some 79) (v:=?_) (a':=?_) #[true,true,true,true,true,true,true,true,true,true,true,true,true] rfl rfl (any_of HT_.out (by kernel_rfl)) (fun _ _ _ h=>h) (Or.inl ⟨by rfl,?_⟩) ?_ ?_
   rotate_left;(intro w';go_simp;with_reducible rfl);rotate_left;(simp only [Act.put,List.setIfInBounds_toArray,List.set_cons_zero,List.set_cons_succ,i64_w,i32_w];rfl)
   refine done_ (done_of HT_.out (by kernel_rfl)) ?_
   (try clear hHeld)
   try go_wp2
   go_meet
   case rel=>exact ⟨_,(by first|exact H'|(subst_vars;exact H')),⟨by have:=HK1.out;first|omega|exact Nat.le_refl _⟩,⟨by (with_reducible repeat (first|apply Kd.N_alloc|apply Kd.N_drewN|apply Kd.N_drew));exact HO_9.out⟩,⟨by (with_reducible repeat (first|apply Kd.R_alloc|apply Kd.R_drewN|apply Kd.R_drew));exact HO_407000.out⟩,⟨by (with_reducible repeat (first|apply Kd.R_alloc|apply Kd.R_drewN|apply Kd.R_drew));exact HO_422002.out⟩,⟨by (with_reducible repeat (first|apply Kd.R_alloc|apply Kd.R_drewN|apply Kd.R_drew));exact HO_422003.out⟩,⟨by (with_reducible repeat (first|apply Kd.R_alloc|apply Kd.R_drewN|apply Kd.R_drew));exact HO_423002.out⟩,⟨by (with_reducible repeat (first|apply Kd.R_alloc|apply Kd.R_drewN|apply Kd.R_drew));exact HO_423003.out⟩,⟨by (with_reducible repeat (first|apply Kd.R_alloc|apply Kd.R_drewN|apply Kd.R_drew));exact HO_424002.out⟩,⟨by (with_reducible repeat (first|apply Kd.R_alloc|apply Kd.R_drewN|apply Kd.R_drew));exact HO_424003.out⟩,⟨by (with_reducible repeat (first|refine blk_drewN ?_ _|refine blk_drew ?_|refine blk_alloc ?_ _));exact BK397.out⟩,⟨by (with_reducible repeat (first|refine blk_drewN ?_ _|refine blk_drew ?_|refine blk_alloc ?_ _));exact BK398.out⟩,⟨by (with_reducible repeat (first|refine blk_drewN ?_ _|refine blk_drew ?_|refine blk_alloc ?_ _));exact BK406.out⟩,⟨by (with_reducible repeat (first|refine blk_drewN ?_ _|refine blk_drew ?_|refine blk_alloc ?_ _));exact BK421.out⟩,⟨by (with_reducible repeat (first|refine blk_drewN ?_ _|refine blk_drew ?_|refine blk_alloc ?_ _));exact BK422.out⟩,⟨by (with_reducible repeat (first|refine blk_drewN ?_ _|refine blk_drew ?_|refine blk_alloc ?_ _));exact BK423.out⟩,⟨by repeat (first|(with_reducible first|exact HB.out|apply below_alloc|apply pw_below_drewN|apply below_drew1|refine below_set ?_ GE397.out|refine below_set ?_ GE398.out|refine below_set ?_ GE406.out|refine below_set ?_ GE421.out|refine below_set ?_ GE422.out|refine below_set ?_ GE423.out)|exact HB.out)⟩⟩
  ·replace c87:=Bool.eq_false_iff.mpr c87
   subst c87
   have H1 : (some false)=some r:=by rw [if_neg (show ¬ (false=true) by decide)] at H;exact H
   clear H
   have H:=H1
   clear H1
   obtain rfl:=Option.some.inj H
   try go_wp2
   have n0_:=Aside0.mk (Kd.N_drew HO_9.out)
   have n1_:=Aside0.mk (Kd.R_drew HO_407000.out)
   have n2_:=Aside0.mk (Kd.R_drew HO_422002.out)
   have n3_:=Aside0.mk (Kd.R_drew HO_422003.out)
   have n4_:=Aside0.mk (Kd.R_drew HO_423002.out)
   have n5_:=Aside0.mk (Kd.R_drew HO_423003.out)
   have n6_:=Aside0.mk (Kd.R_drew HO_424002.out)
   have n7_:=Aside0.mk (Kd.R_drew HO_424003.out)
   have n8_:=Aside0.mk (blk_drew BK397.out)
   have n9_:=Aside0.mk (blk_drew BK398.out)
   have n10_:=Aside0.mk (blk_drew BK406.out)
   have n11_:=Aside0.mk (blk_drew BK421.out)
   have n12_:=Aside0.mk (blk_drew BK422.out)
   have n13_:=Aside0.mk (blk_drew BK423.out)
   have n14_:=Aside0.mk (below_drew1 HB.out)
   clear HO_9
   clear HO_407000
   clear HO_422002
   clear HO_422003
   clear HO_423002
   clear HO_423003
   clear HO_424002
   clear HO_424003
   clear BK397
   clear BK398
   clear BK406
   clear BK421
   clear BK422
   clear BK423
   clear HB
   have HO_9:=n0_
   have HO_407000:=n1_
   have HO_422002:=n2_
   have HO_422003:=n3_
   have HO_423002:=n4_
   have HO_423003:=n5_
   have HO_424002:=n6_
   have HO_424003:=n7_
   have BK397:=n8_
   have BK398:=n9_
   have BK406:=n10_
   have BK421:=n11_
   have BK422:=n12_
   have BK423:=n13_
   have HB:=n14_
   clear n0_ n1_ n2_ n3_ n4_ n5_ n6_ n7_ n8_ n9_ n10_ n11_ n12_ n13_ n14_
   have p424 : 0≤(x13_1 : Int):=of_decide_eq_true (by first|(with_reducible assumption)|assumption)
   have q424 : x13_1 < (t410.length : Int):=of_decide_eq_true (by first|(with_reducible assumption)|assumption)
   obtain ⟨ad424,A424_0,c424_0,e424,hx424_0,hl424_0,hi424_0⟩:=at_L5 (Kd.N_reads' HO_9.out).2.2 x13_1 p424 q424
   cases e424
   obtain ⟨ce424,hce424,hMe424,hcc424⟩:=Kd.N_get HO_9.out [] x13_1 p424 (by first|exact q424|exact of_decide_eq_true (by first|(with_reducible assumption)|assumption)|(have e_:=(Kd.N_reads' HO_9.out).1;omega))
   obtain ⟨ua424_0,uc424_0,rfl,ul424_0,ge424_0⟩:=Kd.FK_slice_open hMe424
   have hv424_0:=hcc424 0 _ rfl
   rw [Nat.add_zero,show ((Kd.slice 44 k44)).sz=1 from rfl,Nat.mul_one] at hv424_0
   replace hv424_0:=Option.some.inj (hv424_0.symm.trans hx424_0)
   injection hv424_0 with hva_ hvn_ hvc_
   rw [hva_] at ge424_0
   rw [hvc_] at ul424_0
   have HL424_0:=Aside0.mk (show Kd.V k44 44 _ w.heap.size _ _ (rd_L5 t410 x13_1) from Kd.V_mk ul424_0 ge424_0)
   clear hva_ hvn_ hvc_ ge424_0 ul424_0
   clear hcc424 hce424
   have HR424_0:=Aside0.mk hi424_0
   have HC424_0:=Aside0.mk hl424_0
   clear hi424_0 hl424_0
   replace p424:=eq_true p424
   replace q424:=eq_true q424
   refine start_ (n:=8) (S:=fun w'=>w'.cell? ⟨gb406,0,none⟩=some (.slice Ao16 t400.length co16)∧w'.cell? ⟨gb406,1,none⟩=some (.int .i64 t403)∧w'.cell? ⟨gb406,2,none⟩=some (.int .i64 t404)∧w'.cell? ⟨gb406,3,none⟩=some (.int .i64 t405)∧w'.cell? ⟨gb421,0,none⟩=some (.bool t413)∧w'.cell? ⟨gb421,1,none⟩=some (.bool t414)∧w'.cell? ⟨gb421,2,none⟩=some (.slice Ao33 t415.length co33)∧w'.cell? ⟨gb421,3,none⟩=some (.slice Ao34 t418.length co34)∧w'.cell? (ad424.add (x13_1).toNat)=some (.slice A424_0 (rd_L5 t410 x13_1).length c424_0)) (ds:=[]) #[false,false,false,false,false,false,false,false] (by kernel_rfl) rfl rfl ⟨(blk_cell BK406.out 0).trans rfl,(blk_cell BK406.out 1).trans rfl,(blk_cell BK406.out 2).trans rfl,(blk_cell BK406.out 3).trans rfl,(blk_cell BK421.out 0).trans rfl,(blk_cell BK421.out 1).trans rfl,(blk_cell BK421.out 2).trans rfl,(blk_cell BK421.out 3).trans rfl,hx424_0⟩ (fun hHeld=>?_);refine with_tabW thresherlaw12_IndexGrows.tab12 thresherlaw12_IndexGrows.bits12 (fun HT_ HW_=>?_)
   generalize wr.drew=w94 at HO_9 HO_407000 HO_422002 HO_422003 HO_423002 HO_423003 HO_424002 HO_424003 BK397 BK398 BK406 BK421 BK422 BK423 HB HL424_0 HR424_0 hx424_0 hHeld ⊢
   refine pure_ (i:=2) (N:=some 46) (v:=?_) (a':=?_) #[false,false,true,false,false,false,false,false] rfl rfl (any_of HT_.out (by kernel_rfl)) (fun _ _ _ h=>h) (Or.inl ⟨by rfl,?_⟩) ?_ ?_
   rotate_left;(intro w';go_simp;with_reducible rfl);rotate_left;(simp only [Act.put,List.setIfInBounds_toArray,List.set_cons_zero,List.set_cons_succ,i64_w,i32_w];rfl)
   refine pure_ (i:=3) (N:=some 47) (v:=?_) (a':=?_) #[false,false,true,true,false,false,false,false] rfl rfl (any_of HT_.out (by kernel_rfl)) (fun _ _ _ h=>h) (Or.inl ⟨by rfl,?_⟩) ?_ ?_
   rotate_left;(intro w';go_simp;with_reducible rfl);rotate_left;(simp only [Act.put,List.setIfInBounds_toArray,List.set_cons_zero,List.set_cons_succ,i64_w,i32_w];rfl)
   refine pure_ (i:=4) (N:=some 48) (v:=?_) (a':=?_) #[false,false,true,true,true,false,false,false] rfl rfl (any_of HT_.out (by kernel_rfl)) (fun _ _ _ h=>h) (Or.inl ⟨by rfl,?_⟩) ?_ ?_
   rotate_left;(intro w';go_simp;with_reducible rfl);rotate_left;(simp only [Act.put,List.setIfInBounds_toArray,List.set_cons_zero,List.set_cons_succ,i64_w,i32_w];rfl)
   refine take_ (i:=0) (N:=some 44) (v:=?_) (a':=?_) #[true,false,true,true,true,false,false,false] rfl rfl (take_ofW HT_.out HW_.out (by kernel_rfl)) (fun _ _ _ h=>h) (Or.inl ⟨by rfl,?_⟩) hHeld ?_ ?_
   rotate_left;(rintro w' ⟨s0,s1,s2,s3,s4,s5,s6,s7,s8⟩;go_simp;with_reducible rfl);rotate_left;(simp only [Act.put,List.setIfInBounds_toArray,List.set_cons_zero,List.set_cons_succ,i64_w,i32_w];rfl)
   refine take_ (i:=1) (N:=some 45) (v:=?_) (a':=?_) #[true,true,true,true,true,false,false,false] rfl rfl (take_ofW HT_.out HW_.out (by kernel_rfl)) (fun _ _ _ h=>h) (Or.inl ⟨by rfl,?_⟩) hHeld ?_ ?_
   rotate_left;(rintro w' ⟨s0,s1,s2,s3,s4,s5,s6,s7,s8⟩;go_simp;with_reducible rfl);rotate_left;(simp only [Act.put,List.setIfInBounds_toArray,List.set_cons_zero,List.set_cons_succ,i64_w,i32_w];rfl)
   refine take_ (i:=5) (N:=some 49) (v:=?_) (a':=?_) #[true,true,true,true,true,true,false,false] rfl rfl (take_ofW HT_.out HW_.out (by kernel_rfl)) (fun _ _ _ h=>h) (Or.inl ⟨by rfl,?_⟩) hHeld ?_ ?_
   rotate_left;(rintro w' ⟨s0,s1,s2,s3,s4,s5,s6,s7,s8⟩;go_simp;with_reducible rfl);rotate_left;(simp only [Act.put,List.setIfInBounds_toArray,List.set_cons_zero,List.set_cons_succ,i64_w,i32_w];rfl)
   refine one_ (i:=6) (N:=some 50) #[true,true,true,true,true,true,true,false] rfl rfl (one_of HT_.out (by kernel_rfl)) (by decide) (fun K hK=>?_)
   refine goes_ Try.func12 (by kernel_rfl) rfl #[.agg #[.slice Ao16 t400.length co16,.int .i64 t403,.int .i64 t404,.int .i64 t405],.agg #[.bool t413,.bool t414,.slice Ao33 t415.length co33,.slice Ao34 t418.length co34],.slice A424_0 (rd_L5 t410 x13_1).length c424_0] (by rfl) rfl rfl (by (try simp only [List.map_toArray,List.map_cons,List.map_nil]);first|done|rfl|(simp only [List.length_drop,List.length_take];rfl)) ?_
   with_reducible refine (index_In.calls k1 _ _ t400 t403 t404 t405 t413 t414 _ _ t415 _ _ t418 _ _ (rd_L5 t410 x13_1) t425 _ ?side1 ?side2 ?side3 ?side4 ?side5 ?side6 ?side7 ?side8 A53.out).mono ?_
   (case side1=>repeat (first|exact (Kd.R_reads' HO_407000.out).2.2|(with_reducible refine Kd.C_alloc ?_ _)|(with_reducible refine Kd.C_drewN ?_ _)|(with_reducible refine Kd.C_drew ?_)))
   (case side2=>exact (Kd.R_reads' HO_407000.out).2.1)
   (case side3=>repeat (first|exact (Kd.R_reads' HO_422002.out).2.2|(with_reducible refine Kd.C_alloc ?_ _)|(with_reducible refine Kd.C_drewN ?_ _)|(with_reducible refine Kd.C_drew ?_)))
   (case side4=>exact (Kd.R_reads' HO_422002.out).2.1)
   (case side5=>repeat (first|exact (Kd.R_reads' HO_422003.out).2.2|(with_reducible refine Kd.C_alloc ?_ _)|(with_reducible refine Kd.C_drewN ?_ _)|(with_reducible refine Kd.C_drew ?_)))
   (case side6=>exact (Kd.R_reads' HO_422003.out).2.1)
   (case side7=>repeat (first|exact (by repeat (first|(with_reducible exact HR424_0.out)|(with_reducible refine Kd.C_alloc ?_ _)|(with_reducible refine Kd.C_drewN ?_ _)|(with_reducible refine Kd.C_drew ?_)|exact HR424_0.out))|(with_reducible refine Kd.C_alloc ?_ _)|(with_reducible refine Kd.C_drewN ?_ _)|(with_reducible refine Kd.C_drew ?_)))
   (case side8=>exact HC424_0.out)
   rintro e w95 ⟨rfl,hb⟩
   have HS8_:=(hb.cell (World.block_lt_of_cell? _ _ (hHeld.2.2.2.2.2.2.2.2))).trans (hHeld.2.2.2.2.2.2.2.2)
   refine ⟨_,rfl,?_⟩
   have n0_:=Aside0.mk (Kd.N_below (N_up HO_9.out) hb)
   have n1_:=Aside0.mk (Kd.R_below (R_up HO_407000.out) hb)
   have n2_:=Aside0.mk (Kd.R_below (R_up HO_422002.out) hb)
   have n3_:=Aside0.mk (Kd.R_below (R_up HO_422003.out) hb)
   have n4_:=Aside0.mk (Kd.R_below (R_up HO_423002.out) hb)
   have n5_:=Aside0.mk (Kd.R_below (R_up HO_423003.out) hb)
   have n6_:=Aside0.mk (Kd.R_below (R_up HO_424002.out) hb)
   have n7_:=Aside0.mk (Kd.R_below (R_up HO_424003.out) hb)
   have n8_:=Aside0.mk (Kd.V_below (by (with_reducible repeat (first|apply Kd.V_alloc|apply Kd.V_drewN|apply Kd.V_drew));exact HL424_0.out) hb)
   have n9_:=Aside0.mk (blk_below (g:=gb397) (o:=.cells #[.int .u8 a0_0,.int .u8 a0_1,.int .u8 a0_2,.int .u8 a0_3,.int .u8 a0_4,.int .u8 a0_5,.int .u8 a0_6,.int .u8 a0_7,.int .u8 a0_8,.int .u8 a0_9,.int .u8 a0_10,.int .u8 a0_11] 24 (0,0)) (blk_up BK397.out) hb)
   have n10_:=Aside0.mk (blk_below (g:=gb398) (o:=.cells #[.bool a2_0,.bool a2_1,.slice A2_2 l2_2.length c2_2,.slice A2_3 l2_3.length c2_3] 29 (0,0)) (blk_up BK398.out) hb)
   have n11_:=Aside0.mk (blk_below (g:=gb406) (o:=.cells #[.slice Ao16 t400.length co16,.int .i64 t403,.int .i64 t404,.int .i64 t405] 33 (0,0)) (blk_up BK406.out) hb)
   have n12_:=Aside0.mk (blk_below (g:=gb421) (o:=.cells #[.bool t413,.bool t414,.slice Ao33 t415.length co33,.slice Ao34 t418.length co34] 29 (0,0)) (blk_up BK421.out) hb)
   have n13_:=Aside0.mk (blk_below (g:=gb422) (o:=.cells #[.bool t413,.bool false,.slice Ao33 t415.length co33,.slice Ao34 t418.length co34] 29 (0,0)) (blk_up BK422.out) hb)
   have n14_:=Aside0.mk (blk_below (g:=gb423) (o:=.cells #[.bool false,.bool t414,.slice Ao33 t415.length co33,.slice Ao34 t418.length co34] 29 (0,0)) (blk_up BK423.out) hb)
   have n15_:=Aside0.mk (Kd.C_below (by repeat (first|(with_reducible exact HR424_0.out)|(with_reducible refine Kd.C_alloc ?_ _)|(with_reducible refine Kd.C_drewN ?_ _)|(with_reducible refine Kd.C_drew ?_)|exact HR424_0.out)) hb)
   have n16_:=Aside0.mk (below_step (by repeat (first|(with_reducible first|exact HB.out|apply below_alloc|apply pw_below_drewN|apply below_drew1|refine below_set ?_ GE397.out|refine below_set ?_ GE398.out|refine below_set ?_ GE406.out|refine below_set ?_ GE421.out|refine below_set ?_ GE422.out|refine below_set ?_ GE423.out)|exact HB.out)) hb)
   clear HO_9
   clear HO_407000
   clear HO_422002
   clear HO_422003
   clear HO_423002
   clear HO_423003
   clear HO_424002
   clear HO_424003
   clear HL424_0
   clear BK397
   clear BK398
   clear BK406
   clear BK421
   clear BK422
   clear BK423
   clear HR424_0
   clear HB
   have HO_9:=n0_
   have HO_407000:=n1_
   have HO_422002:=n2_
   have HO_422003:=n3_
   have HO_423002:=n4_
   have HO_423003:=n5_
   have HO_424002:=n6_
   have HO_424003:=n7_
   have HL424_0:=n8_
   have BK397:=n9_
   have BK398:=n10_
   have BK406:=n11_
   have BK421:=n12_
   have BK422:=n13_
   have BK423:=n14_
   have HR424_0:=n15_
   have HB:=n16_
   clear n0_ n1_ n2_ n3_ n4_ n5_ n6_ n7_ n8_ n9_ n10_ n11_ n12_ n13_ n14_ n15_ n16_
   (try clear hb)
   (try clear hb2)
   (try clear hk)
   (try clear hi)
   refine hK.out _ _ ⟨(blk_cell BK406.out 0).trans rfl,(blk_cell BK406.out 1).trans rfl,(blk_cell BK406.out 2).trans rfl,(blk_cell BK406.out 3).trans rfl,(blk_cell BK421.out 0).trans rfl,(blk_cell BK421.out 1).trans rfl,(blk_cell BK421.out 2).trans rfl,(blk_cell BK421.out 3).trans rfl,HS8_⟩ (fun hHeld=>?_)
   clear hK K
   refine norm_ (a':=?_) ?_ ?_
   rotate_left
   ·show Act.put _ (some 50) _=_
    simp only [Act.put,List.setIfInBounds_toArray,List.set_cons_zero,List.set_cons_succ,i64_w,i32_w]
    rfl
   refine pure_ (i:=7) (N:=some 14) (v:=?_) (a':=?_) #[true,true,true,true,true,true,true,true] rfl rfl (any_of HT_.out (by kernel_rfl)) (fun _ _ _ h=>h) (Or.inl ⟨by rfl,?_⟩) ?_ ?_
   rotate_left;(intro w';go_simp;with_reducible rfl);rotate_left;(simp only [Act.put,List.setIfInBounds_toArray,List.set_cons_zero,List.set_cons_succ,i64_w,i32_w];rfl)
   refine done_ (done_of HT_.out (by kernel_rfl)) ?_
   (try clear hHeld)
   try go_wp2
   have n0_:=Aside0.mk (Kd.N_drew HO_9.out)
   have n1_:=Aside0.mk (Kd.R_drew HO_407000.out)
   have n2_:=Aside0.mk (Kd.R_drew HO_422002.out)
   have n3_:=Aside0.mk (Kd.R_drew HO_422003.out)
   have n4_:=Aside0.mk (Kd.R_drew HO_423002.out)
   have n5_:=Aside0.mk (Kd.R_drew HO_423003.out)
   have n6_:=Aside0.mk (Kd.R_drew HO_424002.out)
   have n7_:=Aside0.mk (Kd.R_drew HO_424003.out)
   have n8_:=Aside0.mk (Kd.V_drew HL424_0.out)
   have n9_:=Aside0.mk (blk_drew BK397.out)
   have n10_:=Aside0.mk (blk_drew BK398.out)
   have n11_:=Aside0.mk (blk_drew BK406.out)
   have n12_:=Aside0.mk (blk_drew BK421.out)
   have n13_:=Aside0.mk (blk_drew BK422.out)
   have n14_:=Aside0.mk (blk_drew BK423.out)
   have n15_:=Aside0.mk (Kd.C_drew HR424_0.out)
   have n16_:=Aside0.mk (below_drew1 HB.out)
   clear HO_9
   clear HO_407000
   clear HO_422002
   clear HO_422003
   clear HO_423002
   clear HO_423003
   clear HO_424002
   clear HO_424003
   clear HL424_0
   clear BK397
   clear BK398
   clear BK406
   clear BK421
   clear BK422
   clear BK423
   clear HR424_0
   clear HB
   have HO_9:=n0_
   have HO_407000:=n1_
   have HO_422002:=n2_
   have HO_422003:=n3_
   have HO_423002:=n4_
   have HO_423003:=n5_
   have HO_424002:=n6_
   have HO_424003:=n7_
   have HL424_0:=n8_
   have BK397:=n9_
   have BK398:=n10_
   have BK406:=n11_
   have BK421:=n12_
   have BK422:=n13_
   have BK423:=n14_
   have HR424_0:=n15_
   have HB:=n16_
   clear n0_ n1_ n2_ n3_ n4_ n5_ n6_ n7_ n8_ n9_ n10_ n11_ n12_ n13_ n14_ n15_ n16_
   have p426 : 0≤(x13_1 : Int):=of_decide_eq_true (by first|(with_reducible assumption)|assumption)
   have q426 : x13_1 < (t410.length : Int):=of_decide_eq_true (by first|(with_reducible assumption)|assumption)
   obtain ⟨ad426,A426_0,c426_0,e426,hx426_0,hl426_0,hi426_0⟩:=at_L5 (Kd.N_reads' HO_9.out).2.2 x13_1 p426 q426
   obtain rfl : ad424=ad426:=(by injection e426)
   obtain ⟨ce426,hce426,hMe426,hcc426⟩:=Kd.N_get HO_9.out [] x13_1 p426 (by first|exact q426|exact of_decide_eq_true (by first|(with_reducible assumption)|assumption)|(have e_:=(Kd.N_reads' HO_9.out).1;omega))
   obtain ⟨ua426_0,uc426_0,rfl,ul426_0,ge426_0⟩:=Kd.FK_slice_open hMe426
   have hv426_0:=hcc426 0 _ rfl
   rw [Nat.add_zero,show ((Kd.slice 44 k44)).sz=1 from rfl,Nat.mul_one] at hv426_0
   replace hv426_0:=Option.some.inj (hv426_0.symm.trans hx426_0)
   injection hv426_0 with hva_ hvn_ hvc_
   rw [hva_] at ge426_0
   rw [hvc_] at ul426_0
   have HL426_0:=Aside0.mk (show Kd.V k44 44 _ w.heap.size _ _ (rd_L5 t410 x13_1) from Kd.V_mk ul426_0 ge426_0)
   clear hva_ hvn_ hvc_ ge426_0 ul426_0
   clear hcc426 hce426
   have HR426_0:=Aside0.mk hi426_0
   have HC426_0:=Aside0.mk hl426_0
   clear hi426_0 hl426_0
   replace p426:=eq_true p426
   replace q426:=eq_true q426
   refine start_ (n:=17) (S:=fun w'=>w'.cell? ⟨gb406,0,none⟩=some (.slice Ao16 t400.length co16)∧w'.cell? ⟨gb406,1,none⟩=some (.int .i64 t403)∧w'.cell? ⟨gb406,2,none⟩=some (.int .i64 t404)∧w'.cell? ⟨gb406,3,none⟩=some (.int .i64 t405)∧w'.cell? ⟨gb422,0,none⟩=some (.bool t413)∧w'.cell? ⟨gb422,1,none⟩=some (.bool false)∧w'.cell? ⟨gb422,2,none⟩=some (.slice Ao33 t415.length co33)∧w'.cell? ⟨gb422,3,none⟩=some (.slice Ao34 t418.length co34)∧w'.cell? (ad424.add (x13_1).toNat)=some (.slice A426_0 (rd_L5 t410 x13_1).length c426_0)) (ds:=[]) #[false,false,false,false,false,false,false,false,false,false,false,false,false,false,false,false,false] (by kernel_rfl) rfl rfl ⟨(blk_cell BK406.out 0).trans rfl,(blk_cell BK406.out 1).trans rfl,(blk_cell BK406.out 2).trans rfl,(blk_cell BK406.out 3).trans rfl,(blk_cell BK422.out 0).trans rfl,(blk_cell BK422.out 1).trans rfl,(blk_cell BK422.out 2).trans rfl,(blk_cell BK422.out 3).trans rfl,hx426_0⟩ (fun hHeld=>?_);refine with_tabW thresherlaw12_IndexGrows.tab13 thresherlaw12_IndexGrows.bits13 (fun HT_ HW_=>?_)
   generalize w95.drew=w96 at HO_9 HO_407000 HO_422002 HO_422003 HO_423002 HO_423003 HO_424002 HO_424003 HL424_0 BK397 BK398 BK406 BK421 BK422 BK423 HR424_0 HB HL426_0 HR426_0 hx426_0 hHeld ⊢
   refine pure_ (i:=2) (N:=some 53) (v:=?_) (a':=?_) #[false,false,true,false,false,false,false,false,false,false,false,false,false,false,false,false,false] rfl rfl (any_of HT_.out (by kernel_rfl)) (fun _ _ _ h=>h) (Or.inl ⟨by rfl,?_⟩) ?_ ?_
   rotate_left;(intro w';go_simp;with_reducible rfl);rotate_left;(simp only [Act.put,List.setIfInBounds_toArray,List.set_cons_zero,List.set_cons_succ,i64_w,i32_w];rfl)
   refine pure_ (i:=3) (N:=some 54) (v:=?_) (a':=?_) #[false,false,true,true,false,false,false,false,false,false,false,false,false,false,false,false,false] rfl rfl (any_of HT_.out (by kernel_rfl)) (fun _ _ _ h=>h) (Or.inl ⟨by rfl,?_⟩) ?_ ?_
   rotate_left;(intro w';go_simp;with_reducible rfl);rotate_left;(simp only [Act.put,List.setIfInBounds_toArray,List.set_cons_zero,List.set_cons_succ,i64_w,i32_w];rfl)
   refine pure_ (i:=4) (N:=some 55) (v:=?_) (a':=?_) #[false,false,true,true,true,false,false,false,false,false,false,false,false,false,false,false,false] rfl rfl (any_of HT_.out (by kernel_rfl)) (fun _ _ _ h=>h) (Or.inl ⟨by rfl,?_⟩) ?_ ?_
   rotate_left;(intro w';go_simp;with_reducible rfl);rotate_left;(simp only [Act.put,List.setIfInBounds_toArray,List.set_cons_zero,List.set_cons_succ,i64_w,i32_w];rfl)
   refine take_ (i:=0) (N:=some 51) (v:=?_) (a':=?_) #[true,false,true,true,true,false,false,false,false,false,false,false,false,false,false,false,false] rfl rfl (take_ofW HT_.out HW_.out (by kernel_rfl)) (fun _ _ _ h=>h) (Or.inl ⟨by rfl,?_⟩) hHeld ?_ ?_
   rotate_left;(rintro w' ⟨s0,s1,s2,s3,s4,s5,s6,s7,s8⟩;go_simp;with_reducible rfl);rotate_left;(simp only [Act.put,List.setIfInBounds_toArray,List.set_cons_zero,List.set_cons_succ,i64_w,i32_w];rfl)
   refine take_ (i:=1) (N:=some 52) (v:=?_) (a':=?_) #[true,true,true,true,true,false,false,false,false,false,false,false,false,false,false,false,false] rfl rfl (take_ofW HT_.out HW_.out (by kernel_rfl)) (fun _ _ _ h=>h) (Or.inl ⟨by rfl,?_⟩) hHeld ?_ ?_
   rotate_left;(rintro w' ⟨s0,s1,s2,s3,s4,s5,s6,s7,s8⟩;go_simp;with_reducible rfl);rotate_left;(simp only [Act.put,List.setIfInBounds_toArray,List.set_cons_zero,List.set_cons_succ,i64_w,i32_w];rfl)
   refine take_ (i:=5) (N:=some 56) (v:=?_) (a':=?_) #[true,true,true,true,true,true,false,false,false,false,false,false,false,false,false,false,false] rfl rfl (take_ofW HT_.out HW_.out (by kernel_rfl)) (fun _ _ _ h=>h) (Or.inl ⟨by rfl,?_⟩) hHeld ?_ ?_
   rotate_left;(rintro w' ⟨s0,s1,s2,s3,s4,s5,s6,s7,s8⟩;go_simp;with_reducible rfl);rotate_left;(simp only [Act.put,List.setIfInBounds_toArray,List.set_cons_zero,List.set_cons_succ,i64_w,i32_w];rfl)
   refine one_ (i:=6) (N:=some 57) #[true,true,true,true,true,true,true,false,false,false,false,false,false,false,false,false,false] rfl rfl (one_of HT_.out (by kernel_rfl)) (by decide) (fun K hK=>?_)
   refine goes_ Try.func12 (by kernel_rfl) rfl #[.agg #[.slice Ao16 t400.length co16,.int .i64 t403,.int .i64 t404,.int .i64 t405],.agg #[.bool t413,.bool false,.slice Ao33 t415.length co33,.slice Ao34 t418.length co34],.slice A426_0 (rd_L5 t410 x13_1).length c426_0] (by rfl) rfl rfl (by (try simp only [List.map_toArray,List.map_cons,List.map_nil]);first|done|rfl|(simp only [List.length_drop,List.length_take];rfl)) ?_
   with_reducible refine (index_In.calls k1 _ _ t400 t403 t404 t405 t413 false _ _ t415 _ _ t418 _ _ (rd_L5 t410 x13_1) false _ ?side1 ?side2 ?side3 ?side4 ?side5 ?side6 ?side7 ?side8 A54.out).mono ?_
   (case side1=>repeat (first|exact (Kd.R_reads' HO_407000.out).2.2|(with_reducible refine Kd.C_alloc ?_ _)|(with_reducible refine Kd.C_drewN ?_ _)|(with_reducible refine Kd.C_drew ?_)))
   (case side2=>exact (Kd.R_reads' HO_407000.out).2.1)
   (case side3=>repeat (first|exact (Kd.R_reads' HO_423002.out).2.2|(with_reducible refine Kd.C_alloc ?_ _)|(with_reducible refine Kd.C_drewN ?_ _)|(with_reducible refine Kd.C_drew ?_)))
   (case side4=>exact (Kd.R_reads' HO_423002.out).2.1)
   (case side5=>repeat (first|exact (Kd.R_reads' HO_423003.out).2.2|(with_reducible refine Kd.C_alloc ?_ _)|(with_reducible refine Kd.C_drewN ?_ _)|(with_reducible refine Kd.C_drew ?_)))
   (case side6=>exact (Kd.R_reads' HO_423003.out).2.1)
   (case side7=>repeat (first|exact (by repeat (first|(with_reducible exact HR426_0.out)|(with_reducible refine Kd.C_alloc ?_ _)|(with_reducible refine Kd.C_drewN ?_ _)|(with_reducible refine Kd.C_drew ?_)|exact HR426_0.out))|(with_reducible refine Kd.C_alloc ?_ _)|(with_reducible refine Kd.C_drewN ?_ _)|(with_reducible refine Kd.C_drew ?_)))
   (case side8=>exact HC426_0.out)
   rintro e w97 ⟨rfl,hb⟩
   have HS8_:=(hb.cell (World.block_lt_of_cell? _ _ (hHeld.2.2.2.2.2.2.2.2))).trans (hHeld.2.2.2.2.2.2.2.2)
   refine ⟨_,rfl,?_⟩
   have n0_:=Aside0.mk (Kd.N_below (N_up HO_9.out) hb)
   have n1_:=Aside0.mk (Kd.R_below (R_up HO_407000.out) hb)
   have n2_:=Aside0.mk (Kd.R_below (R_up HO_422002.out) hb)
   have n3_:=Aside0.mk (Kd.R_below (R_up HO_422003.out) hb)
   have n4_:=Aside0.mk (Kd.R_below (R_up HO_423002.out) hb)
   have n5_:=Aside0.mk (Kd.R_below (R_up HO_423003.out) hb)
   have n6_:=Aside0.mk (Kd.R_below (R_up HO_424002.out) hb)
   have n7_:=Aside0.mk (Kd.R_below (R_up HO_424003.out) hb)
   have n8_:=Aside0.mk (Kd.V_below (by (with_reducible repeat (first|apply Kd.V_alloc|apply Kd.V_drewN|apply Kd.V_drew));exact HL424_0.out) hb)
   have n9_:=Aside0.mk (Kd.V_below (by (with_reducible repeat (first|apply Kd.V_alloc|apply Kd.V_drewN|apply Kd.V_drew));exact HL426_0.out) hb)
   have n10_:=Aside0.mk (blk_below (g:=gb397) (o:=.cells #[.int .u8 a0_0,.int .u8 a0_1,.int .u8 a0_2,.int .u8 a0_3,.int .u8 a0_4,.int .u8 a0_5,.int .u8 a0_6,.int .u8 a0_7,.int .u8 a0_8,.int .u8 a0_9,.int .u8 a0_10,.int .u8 a0_11] 24 (0,0)) (blk_up BK397.out) hb)
   have n11_:=Aside0.mk (blk_below (g:=gb398) (o:=.cells #[.bool a2_0,.bool a2_1,.slice A2_2 l2_2.length c2_2,.slice A2_3 l2_3.length c2_3] 29 (0,0)) (blk_up BK398.out) hb)
   have n12_:=Aside0.mk (blk_below (g:=gb406) (o:=.cells #[.slice Ao16 t400.length co16,.int .i64 t403,.int .i64 t404,.int .i64 t405] 33 (0,0)) (blk_up BK406.out) hb)
   have n13_:=Aside0.mk (blk_below (g:=gb421) (o:=.cells #[.bool t413,.bool t414,.slice Ao33 t415.length co33,.slice Ao34 t418.length co34] 29 (0,0)) (blk_up BK421.out) hb)
   have n14_:=Aside0.mk (blk_below (g:=gb422) (o:=.cells #[.bool t413,.bool false,.slice Ao33 t415.length co33,.slice Ao34 t418.length co34] 29 (0,0)) (blk_up BK422.out) hb)
   have n15_:=Aside0.mk (blk_below (g:=gb423) (o:=.cells #[.bool false,.bool t414,.slice Ao33 t415.length co33,.slice Ao34 t418.length co34] 29 (0,0)) (blk_up BK423.out) hb)
   have n16_:=Aside0.mk (Kd.C_below (by repeat (first|(with_reducible exact HR424_0.out)|(with_reducible refine Kd.C_alloc ?_ _)|(with_reducible refine Kd.C_drewN ?_ _)|(with_reducible refine Kd.C_drew ?_)|exact HR424_0.out)) hb)
   have n17_:=Aside0.mk (Kd.C_below (by repeat (first|(with_reducible exact HR426_0.out)|(with_reducible refine Kd.C_alloc ?_ _)|(with_reducible refine Kd.C_drewN ?_ _)|(with_reducible refine Kd.C_drew ?_)|exact HR426_0.out)) hb)
   have n18_:=Aside0.mk (below_step (by repeat (first|(with_reducible first|exact HB.out|apply below_alloc|apply pw_below_drewN|apply below_drew1|refine below_set ?_ GE397.out|refine below_set ?_ GE398.out|refine below_set ?_ GE406.out|refine below_set ?_ GE421.out|refine below_set ?_ GE422.out|refine below_set ?_ GE423.out)|exact HB.out)) hb)
   clear HO_9
   clear HO_407000
   clear HO_422002
   clear HO_422003
   clear HO_423002
   clear HO_423003
   clear HO_424002
   clear HO_424003
   clear HL424_0
   clear HL426_0
   clear BK397
   clear BK398
   clear BK406
   clear BK421
   clear BK422
   clear BK423
   clear HR424_0
   clear HR426_0
   clear HB
   have HO_9:=n0_
   have HO_407000:=n1_
   have HO_422002:=n2_
   have HO_422003:=n3_
   have HO_423002:=n4_
   have HO_423003:=n5_
   have HO_424002:=n6_
   have HO_424003:=n7_
   have HL424_0:=n8_
   have HL426_0:=n9_
   have BK397:=n10_
   have BK398:=n11_
   have BK406:=n12_
   have BK421:=n13_
   have BK422:=n14_
   have BK423:=n15_
   have HR424_0:=n16_
   have HR426_0:=n17_
   have HB:=n18_
   clear n0_ n1_ n2_ n3_ n4_ n5_ n6_ n7_ n8_ n9_ n10_ n11_ n12_ n13_ n14_ n15_ n16_ n17_ n18_
   (try clear hb)
   (try clear hb2)
   (try clear hk)
   (try clear hi)
   refine hK.out _ _ ⟨(blk_cell BK406.out 0).trans rfl,(blk_cell BK406.out 1).trans rfl,(blk_cell BK406.out 2).trans rfl,(blk_cell BK406.out 3).trans rfl,(blk_cell BK422.out 0).trans rfl,(blk_cell BK422.out 1).trans rfl,(blk_cell BK422.out 2).trans rfl,(blk_cell BK422.out 3).trans rfl,HS8_⟩ (fun hHeld=>?_)
   clear hK K
   refine norm_ (a':=?_) ?_ ?_
   rotate_left
   ·show Act.put _ (some 57) _=_
    simp only [Act.put,List.setIfInBounds_toArray,List.set_cons_zero,List.set_cons_succ,i64_w,i32_w]
    rfl
   refine pure_ (i:=7) (N:=some 58) (v:=?_) (a':=?_) #[true,true,true,true,true,true,true,true,false,false,false,false,false,false,false,false,false] rfl rfl (any_of HT_.out (by kernel_rfl)) (fun _ _ _ h=>h) (Or.inl ⟨by rfl,?_⟩) ?_ ?_
   rotate_left;(intro w';go_simp;with_reducible rfl);rotate_left;(simp only [Act.put,List.setIfInBounds_toArray,List.set_cons_zero,List.set_cons_succ,i64_w,i32_w];rfl)
   refine pure_ (i:=8) (N:=some 59) (v:=undef) (a':=?_) #[true,true,true,true,true,true,true,true,true,false,false,false,false,false,false,false,false] rfl rfl (any_of HT_.out (by kernel_rfl)) (fun _ _ _ h=>h) (Or.inr ⟨by rfl,rfl⟩) ?_ ?_
   rotate_left
   ·simp only [Act.put,List.setIfInBounds_toArray,List.set_cons_zero,List.set_cons_succ,i64_w,i32_w]
    rfl
   refine pure_ (i:=9) (N:=some 60) (v:=undef) (a':=?_) #[true,true,true,true,true,true,true,true,true,true,false,false,false,false,false,false,false] rfl rfl (any_of HT_.out (by kernel_rfl)) (fun _ _ _ h=>h) (Or.inr ⟨by rfl,rfl⟩) ?_ ?_
   rotate_left
   ·simp only [Act.put,List.setIfInBounds_toArray,List.set_cons_zero,List.set_cons_succ,i64_w,i32_w]
    rfl
   refine pure_ (i:=10) (N:=some 61) (v:=undef) (a':=?_) #[true,true,true,true,true,true,true,true,true,true,true,false,false,false,false,false,false] rfl rfl (any_of HT_.out (by kernel_rfl)) (fun _ _ _ h=>h) (Or.inr ⟨by rfl,rfl⟩) ?_ ?_
   rotate_left
   ·simp only [Act.put,List.setIfInBounds_toArray,List.set_cons_zero,List.set_cons_succ,i64_w,i32_w]
    rfl
   refine pure_ (i:=11) (N:=some 62) (v:=undef) (a':=?_) #[true,true,true,true,true,true,true,true,true,true,true,true,false,false,false,false,false] rfl rfl (any_of HT_.out (by kernel_rfl)) (fun _ _ _ h=>h) (Or.inr ⟨by rfl,rfl⟩) ?_ ?_
   rotate_left
   ·simp only [Act.put,List.setIfInBounds_toArray,List.set_cons_zero,List.set_cons_succ,i64_w,i32_w]
    rfl
   refine pure_ (i:=12) (N:=some 63) (v:=undef) (a':=?_) #[true,true,true,true,true,true,true,true,true,true,true,true,true,false,false,false,false] rfl rfl (any_of HT_.out (by kernel_rfl)) (fun _ _ _ h=>h) (Or.inr ⟨by rfl,rfl⟩) ?_ ?_
   rotate_left
   ·simp only [Act.put,List.setIfInBounds_toArray,List.set_cons_zero,List.set_cons_succ,i64_w,i32_w]
    rfl
   refine pure_ (i:=13) (N:=some 64) (v:=undef) (a':=?_) #[true,true,true,true,true,true,true,true,true,true,true,true,true,true,false,false,false] rfl rfl (any_of HT_.out (by kernel_rfl)) (fun _ _ _ h=>h) (Or.inr ⟨by rfl,rfl⟩) ?_ ?_
   rotate_left
   ·simp only [Act.put,List.setIfInBounds_toArray,List.set_cons_zero,List.set_cons_succ,i64_w,i32_w]
    rfl
   refine pure_ (i:=14) (N:=some 65) (v:=undef) (a':=?_) #[true,true,true,true,true,true,true,true,true,true,true,true,true,true,true,false,false] rfl rfl (any_of HT_.out (by kernel_rfl)) (fun _ _ _ h=>h) (Or.inr ⟨by rfl,rfl⟩) ?_ ?_
   rotate_left
   ·simp only [Act.put,List.setIfInBounds_toArray,List.set_cons_zero,List.set_cons_succ,i64_w,i32_w]
    rfl
   refine pure_ (i:=15) (N:=some 66) (v:=?_) (a':=?_) #[true,true,true,true,true,true,true,true,true,true,true,true,true,true,true,true,false] rfl rfl (any_of HT_.out (by kernel_rfl)) (fun _ _ _ h=>h) (Or.inl ⟨by rfl,?_⟩) ?_ ?_
   rotate_left;(intro w';go_simp;with_reducible rfl);rotate_left;(simp only [Act.put,List.setIfInBounds_toArray,List.set_cons_zero,List.set_cons_succ,i64_w,i32_w];rfl)
   refine pure_ (i:=16) (N:=some 15) (v:=?_) (a':=?_) #[true,true,true,true,true,true,true,true,true,true,true,true,true,true,true,true,true] rfl rfl (any_of HT_.out (by kernel_rfl)) (fun _ _ _ h=>h) (Or.inl ⟨by rfl,?_⟩) ?_ ?_
   rotate_left;(intro w';go_simp;with_reducible rfl);rotate_left;(simp only [Act.put,List.setIfInBounds_toArray,List.set_cons_zero,List.set_cons_succ,i64_w,i32_w];rfl)
   refine done_ (done_of HT_.out (by kernel_rfl)) ?_
   (try clear hHeld)
   try go_wp2
   have n0_:=Aside0.mk (Kd.N_drew HO_9.out)
   have n1_:=Aside0.mk (Kd.R_drew HO_407000.out)
   have n2_:=Aside0.mk (Kd.R_drew HO_422002.out)
   have n3_:=Aside0.mk (Kd.R_drew HO_422003.out)
   have n4_:=Aside0.mk (Kd.R_drew HO_423002.out)
   have n5_:=Aside0.mk (Kd.R_drew HO_423003.out)
   have n6_:=Aside0.mk (Kd.R_drew HO_424002.out)
   have n7_:=Aside0.mk (Kd.R_drew HO_424003.out)
   have n8_:=Aside0.mk (Kd.V_drew HL424_0.out)
   have n9_:=Aside0.mk (Kd.V_drew HL426_0.out)
   have n10_:=Aside0.mk (blk_drew BK397.out)
   have n11_:=Aside0.mk (blk_drew BK398.out)
   have n12_:=Aside0.mk (blk_drew BK406.out)
   have n13_:=Aside0.mk (blk_drew BK421.out)
   have n14_:=Aside0.mk (blk_drew BK422.out)
   have n15_:=Aside0.mk (blk_drew BK423.out)
   have n16_:=Aside0.mk (Kd.C_drew HR424_0.out)
   have n17_:=Aside0.mk (Kd.C_drew HR426_0.out)
   have n18_:=Aside0.mk (below_drew1 HB.out)
   clear HO_9
   clear HO_407000
   clear HO_422002
   clear HO_422003
   clear HO_423002
   clear HO_423003
   clear HO_424002
   clear HO_424003
   clear HL424_0
   clear HL426_0
   clear BK397
   clear BK398
   clear BK406
   clear BK421
   clear BK422
   clear BK423
   clear HR424_0
   clear HR426_0
   clear HB
   have HO_9:=n0_
   have HO_407000:=n1_
   have HO_422002:=n2_
   have HO_422003:=n3_
   have HO_423002:=n4_
   have HO_423003:=n5_
   have HO_424002:=n6_
   have HO_424003:=n7_
   have HL424_0:=n8_
   have HL426_0:=n9_
   have BK397:=n10_
   have BK398:=n11_
   have BK406:=n12_
   have BK421:=n13_
   have BK422:=n14_
   have BK423:=n15_
   have HR424_0:=n16_
   have HR426_0:=n17_
   have HB:=n18_
   clear n0_ n1_ n2_ n3_ n4_ n5_ n6_ n7_ n8_ n9_ n10_ n11_ n12_ n13_ n14_ n15_ n16_ n17_ n18_
   have p432 : 0≤(x13_1 : Int):=of_decide_eq_true (by first|(with_reducible assumption)|assumption)
   have q432 : x13_1 < (t410.length : Int):=of_decide_eq_true (by first|(with_reducible assumption)|assumption)
   obtain ⟨ad432,A432_0,c432_0,e432,hx432_0,hl432_0,hi432_0⟩:=at_L5 (Kd.N_reads' HO_9.out).2.2 x13_1 p432 q432
   obtain rfl : ad424=ad432:=(by injection e432)
   obtain ⟨ce432,hce432,hMe432,hcc432⟩:=Kd.N_get HO_9.out [] x13_1 p432 (by first|exact q432|exact of_decide_eq_true (by first|(with_reducible assumption)|assumption)|(have e_:=(Kd.N_reads' HO_9.out).1;omega))
   obtain ⟨ua432_0,uc432_0,rfl,ul432_0,ge432_0⟩:=Kd.FK_slice_open hMe432
   have hv432_0:=hcc432 0 _ rfl
   rw [Nat.add_zero,show ((Kd.slice 44 k44)).sz=1 from rfl,Nat.mul_one] at hv432_0
   replace hv432_0:=Option.some.inj (hv432_0.symm.trans hx432_0)
   injection hv432_0 with hva_ hvn_ hvc_
   rw [hva_] at ge432_0
   rw [hvc_] at ul432_0
   have HL432_0:=Aside0.mk (show Kd.V k44 44 _ w.heap.size _ _ (rd_L5 t410 x13_1) from Kd.V_mk ul432_0 ge432_0)
   clear hva_ hvn_ hvc_ ge432_0 ul432_0
   clear hcc432 hce432
   have HR432_0:=Aside0.mk hi432_0
   have HC432_0:=Aside0.mk hl432_0
   clear hi432_0 hl432_0
   replace p432:=eq_true p432
   replace q432:=eq_true q432
   refine start_ (n:=13) (S:=fun w'=>w'.cell? ⟨gb406,0,none⟩=some (.slice Ao16 t400.length co16)∧w'.cell? ⟨gb406,1,none⟩=some (.int .i64 t403)∧w'.cell? ⟨gb406,2,none⟩=some (.int .i64 t404)∧w'.cell? ⟨gb406,3,none⟩=some (.int .i64 t405)∧w'.cell? (ad424.add (x13_1).toNat)=some (.slice A432_0 (rd_L5 t410 x13_1).length c432_0)) (ds:=[]) #[false,false,false,false,false,false,false,false,false,false,false,false,false] (by kernel_rfl) rfl rfl ⟨(blk_cell BK406.out 0).trans rfl,(blk_cell BK406.out 1).trans rfl,(blk_cell BK406.out 2).trans rfl,(blk_cell BK406.out 3).trans rfl,hx432_0⟩ (fun hHeld=>?_);refine with_tabW thresherlaw12_IndexGrows.tab14 thresherlaw12_IndexGrows.bits14 (fun HT_ HW_=>?_)
   generalize w97.drew=w98 at HO_9 HO_407000 HO_422002 HO_422003 HO_423002 HO_423003 HO_424002 HO_424003 HL424_0 HL426_0 BK397 BK398 BK406 BK421 BK422 BK423 HR424_0 HR426_0 HB HL432_0 HR432_0 hx432_0 hHeld ⊢
   refine pure_ (i:=0) (N:=some 67) (v:=?_) (a':=?_) #[true,false,false,false,false,false,false,false,false,false,false,false,false] rfl rfl (any_of HT_.out (by kernel_rfl)) (fun _ _ _ h=>h) (Or.inl ⟨by rfl,?_⟩) ?_ ?_
   rotate_left;(intro w';go_simp;with_reducible rfl);rotate_left;(simp only [Act.put,List.setIfInBounds_toArray,List.set_cons_zero,List.set_cons_succ,i64_w,i32_w];rfl)
   refine pure_ (i:=1) (N:=some 68) (v:=?_) (a':=?_) #[true,true,false,false,false,false,false,false,false,false,false,false,false] rfl rfl (any_of HT_.out (by kernel_rfl)) (fun _ _ _ h=>h) (Or.inl ⟨by rfl,?_⟩) ?_ ?_
   rotate_left;(intro w';go_simp;with_reducible rfl);rotate_left;(simp only [Act.put,List.setIfInBounds_toArray,List.set_cons_zero,List.set_cons_succ,i64_w,i32_w];rfl)
   refine pure_ (i:=2) (N:=some 69) (v:=?_) (a':=?_) #[true,true,true,false,false,false,false,false,false,false,false,false,false] rfl rfl (any_of HT_.out (by kernel_rfl)) (fun _ _ _ h=>h) (Or.inl ⟨by rfl,?_⟩) ?_ ?_
   rotate_left;(intro w';go_simp;with_reducible rfl);rotate_left;(simp only [Act.put,List.setIfInBounds_toArray,List.set_cons_zero,List.set_cons_succ,i64_w,i32_w];rfl)
   refine pure_ (i:=3) (N:=some 70) (v:=?_) (a':=?_) #[true,true,true,true,false,false,false,false,false,false,false,false,false] rfl rfl (any_of HT_.out (by kernel_rfl)) (fun _ _ _ h=>h) (Or.inl ⟨by rfl,?_⟩) ?_ ?_
   rotate_left;(intro w';go_simp;with_reducible rfl);rotate_left;(simp only [Act.put,List.setIfInBounds_toArray,List.set_cons_zero,List.set_cons_succ,i64_w,i32_w];rfl)
   refine pure_ (i:=5) (N:=some 72) (v:=?_) (a':=?_) #[true,true,true,true,false,true,false,false,false,false,false,false,false] rfl rfl (any_of HT_.out (by kernel_rfl)) (fun _ _ _ h=>h) (Or.inl ⟨by rfl,?_⟩) ?_ ?_
   rotate_left;(intro w';go_simp;with_reducible rfl);rotate_left;(simp only [Act.put,List.setIfInBounds_toArray,List.set_cons_zero,List.set_cons_succ,i64_w,i32_w];rfl)
   refine pure_ (i:=6) (N:=some 73) (v:=?_) (a':=?_) #[true,true,true,true,false,true,true,false,false,false,false,false,false] rfl rfl (any_of HT_.out (by kernel_rfl)) (fun _ _ _ h=>h) (Or.inl ⟨by rfl,?_⟩) ?_ ?_
   rotate_left;(intro w';go_simp;with_reducible rfl);rotate_left;(simp only [Act.put,List.setIfInBounds_toArray,List.set_cons_zero,List.set_cons_succ,i64_w,i32_w];rfl)
   refine pure_ (i:=7) (N:=some 74) (v:=?_) (a':=?_) #[true,true,true,true,false,true,true,true,false,false,false,false,false] rfl rfl (any_of HT_.out (by kernel_rfl)) (fun _ _ _ h=>h) (Or.inl ⟨by rfl,?_⟩) ?_ ?_
   rotate_left;(intro w';go_simp;with_reducible rfl);rotate_left;(simp only [Act.put,List.setIfInBounds_toArray,List.set_cons_zero,List.set_cons_succ,i64_w,i32_w];rfl)
   refine pure_ (i:=8) (N:=some 75) (v:=?_) (a':=?_) #[true,true,true,true,false,true,true,true,true,false,false,false,false] rfl rfl (any_of HT_.out (by kernel_rfl)) (fun _ _ _ h=>h) (Or.inl ⟨by rfl,?_⟩) ?_ ?_
   rotate_left;(intro w';go_simp;with_reducible rfl);rotate_left;(simp only [Act.put,List.setIfInBounds_toArray,List.set_cons_zero,List.set_cons_succ,i64_w,i32_w];rfl)
   refine take_ (i:=4) (N:=some 71) (v:=?_) (a':=?_) #[true,true,true,true,true,true,true,true,true,false,false,false,false] rfl rfl (take_ofW HT_.out HW_.out (by kernel_rfl)) (fun _ _ _ h=>h) (Or.inl ⟨by rfl,?_⟩) hHeld ?_ ?_
   rotate_left;(rintro w' ⟨s0,s1,s2,s3,s4⟩;go_simp;with_reducible rfl);rotate_left;(simp only [Act.put,List.setIfInBounds_toArray,List.set_cons_zero,List.set_cons_succ,i64_w,i32_w];rfl)
   refine take_ (i:=9) (N:=some 76) (v:=?_) (a':=?_) #[true,true,true,true,true,true,true,true,true,true,false,false,false] rfl rfl (take_ofW HT_.out HW_.out (by kernel_rfl)) (fun _ _ _ h=>h) (Or.inl ⟨by rfl,?_⟩) hHeld ?_ ?_
   rotate_left;(rintro w' ⟨s0,s1,s2,s3,s4⟩;go_simp;with_reducible rfl);rotate_left;(simp only [Act.put,List.setIfInBounds_toArray,List.set_cons_zero,List.set_cons_succ,i64_w,i32_w];rfl)
   refine one_ (i:=10) (N:=some 77) #[true,true,true,true,true,true,true,true,true,true,true,false,false] rfl rfl (one_of HT_.out (by kernel_rfl)) (by decide) (fun K hK=>?_)
   refine goes_ Try.func12 (by kernel_rfl) rfl #[.agg #[.slice Ao16 t400.length co16,.int .i64 t403,.int .i64 t404,.int .i64 t405],.agg #[.bool false,.bool false,.slice none 0 0,.slice none 0 0],.slice A432_0 (rd_L5 t410 x13_1).length c432_0] (by rfl) rfl rfl (by (try simp only [List.map_toArray,List.map_cons,List.map_nil]);first|done|rfl|(simp only [List.length_drop,List.length_take];rfl)) ?_
   refine (index_In.calls k1 _ _ t400 t403 t404 t405 false false _ _ ([] : List (S44)) _ _ ([] : List (S44)) _ _ (rd_L5 t410 x13_1) false _ ?side1 ?side2 ?side3 ?side4 ?side5 ?side6 ?side7 ?side8 A86.out).mono ?_
   (case side1=>repeat (first|exact (Kd.R_reads' HO_407000.out).2.2|(with_reducible refine Kd.C_alloc ?_ _)|(with_reducible refine Kd.C_drewN ?_ _)|(with_reducible refine Kd.C_drew ?_)))
   (case side2=>exact (Kd.R_reads' HO_407000.out).2.1)
   (case side3=>exact Kd.C_nil _ _)
   (case side4=>exact Nat.le_refl _)
   (case side5=>exact Kd.C_nil _ _)
   (case side6=>exact Nat.le_refl _)
   (case side7=>repeat (first|exact (by repeat (first|(with_reducible exact HR432_0.out)|(with_reducible refine Kd.C_alloc ?_ _)|(with_reducible refine Kd.C_drewN ?_ _)|(with_reducible refine Kd.C_drew ?_)|exact HR432_0.out))|(with_reducible refine Kd.C_alloc ?_ _)|(with_reducible refine Kd.C_drewN ?_ _)|(with_reducible refine Kd.C_drew ?_)))
   (case side8=>exact HC432_0.out)
   rintro e w99 ⟨rfl,hb⟩
   have HS4_:=(hb.cell (World.block_lt_of_cell? _ _ (hHeld.2.2.2.2))).trans (hHeld.2.2.2.2)
   refine ⟨_,rfl,?_⟩
   have n0_:=Aside0.mk (Kd.N_below (N_up HO_9.out) hb)
   have n1_:=Aside0.mk (Kd.R_below (R_up HO_407000.out) hb)
   have n2_:=Aside0.mk (Kd.R_below (R_up HO_422002.out) hb)
   have n3_:=Aside0.mk (Kd.R_below (R_up HO_422003.out) hb)
   have n4_:=Aside0.mk (Kd.R_below (R_up HO_423002.out) hb)
   have n5_:=Aside0.mk (Kd.R_below (R_up HO_423003.out) hb)
   have n6_:=Aside0.mk (Kd.R_below (R_up HO_424002.out) hb)
   have n7_:=Aside0.mk (Kd.R_below (R_up HO_424003.out) hb)
   have n8_:=Aside0.mk (Kd.V_below (by (with_reducible repeat (first|apply Kd.V_alloc|apply Kd.V_drewN|apply Kd.V_drew));exact HL424_0.out) hb)
   have n9_:=Aside0.mk (Kd.V_below (by (with_reducible repeat (first|apply Kd.V_alloc|apply Kd.V_drewN|apply Kd.V_drew));exact HL426_0.out) hb)
   have n10_:=Aside0.mk (Kd.V_below (by (with_reducible repeat (first|apply Kd.V_alloc|apply Kd.V_drewN|apply Kd.V_drew));exact HL432_0.out) hb)
   have n11_:=Aside0.mk (blk_below (g:=gb397) (o:=.cells #[.int .u8 a0_0,.int .u8 a0_1,.int .u8 a0_2,.int .u8 a0_3,.int .u8 a0_4,.int .u8 a0_5,.int .u8 a0_6,.int .u8 a0_7,.int .u8 a0_8,.int .u8 a0_9,.int .u8 a0_10,.int .u8 a0_11] 24 (0,0)) (blk_up BK397.out) hb)
   have n12_:=Aside0.mk (blk_below (g:=gb398) (o:=.cells #[.bool a2_0,.bool a2_1,.slice A2_2 l2_2.length c2_2,.slice A2_3 l2_3.length c2_3] 29 (0,0)) (blk_up BK398.out) hb)
   have n13_:=Aside0.mk (blk_below (g:=gb406) (o:=.cells #[.slice Ao16 t400.length co16,.int .i64 t403,.int .i64 t404,.int .i64 t405] 33 (0,0)) (blk_up BK406.out) hb)
   have n14_:=Aside0.mk (blk_below (g:=gb421) (o:=.cells #[.bool t413,.bool t414,.slice Ao33 t415.length co33,.slice Ao34 t418.length co34] 29 (0,0)) (blk_up BK421.out) hb)
   have n15_:=Aside0.mk (blk_below (g:=gb422) (o:=.cells #[.bool t413,.bool false,.slice Ao33 t415.length co33,.slice Ao34 t418.length co34] 29 (0,0)) (blk_up BK422.out) hb)
   have n16_:=Aside0.mk (blk_below (g:=gb423) (o:=.cells #[.bool false,.bool t414,.slice Ao33 t415.length co33,.slice Ao34 t418.length co34] 29 (0,0)) (blk_up BK423.out) hb)
   have n17_:=Aside0.mk (Kd.C_below (by repeat (first|(with_reducible exact HR424_0.out)|(with_reducible refine Kd.C_alloc ?_ _)|(with_reducible refine Kd.C_drewN ?_ _)|(with_reducible refine Kd.C_drew ?_)|exact HR424_0.out)) hb)
   have n18_:=Aside0.mk (Kd.C_below (by repeat (first|(with_reducible exact HR426_0.out)|(with_reducible refine Kd.C_alloc ?_ _)|(with_reducible refine Kd.C_drewN ?_ _)|(with_reducible refine Kd.C_drew ?_)|exact HR426_0.out)) hb)
   have n19_:=Aside0.mk (Kd.C_below (by repeat (first|(with_reducible exact HR432_0.out)|(with_reducible refine Kd.C_alloc ?_ _)|(with_reducible refine Kd.C_drewN ?_ _)|(with_reducible refine Kd.C_drew ?_)|exact HR432_0.out)) hb)
   have n20_:=Aside0.mk (below_step (by repeat (first|(with_reducible first|exact HB.out|apply below_alloc|apply pw_below_drewN|apply below_drew1|refine below_set ?_ GE397.out|refine below_set ?_ GE398.out|refine below_set ?_ GE406.out|refine below_set ?_ GE421.out|refine below_set ?_ GE422.out|refine below_set ?_ GE423.out)|exact HB.out)) hb)
   clear HO_9
   clear HO_407000
   clear HO_422002
   clear HO_422003
   clear HO_423002
   clear HO_423003
   clear HO_424002
   clear HO_424003
   clear HL424_0
   clear HL426_0
   clear HL432_0
   clear BK397
   clear BK398
   clear BK406
   clear BK421
   clear BK422
   clear BK423
   clear HR424_0
   clear HR426_0
   clear HR432_0
   clear HB
   have HO_9:=n0_
   have HO_407000:=n1_
   have HO_422002:=n2_
   have HO_422003:=n3_
   have HO_423002:=n4_
   have HO_423003:=n5_
   have HO_424002:=n6_
   have HO_424003:=n7_
   have HL424_0:=n8_
   have HL426_0:=n9_
   have HL432_0:=n10_
   have BK397:=n11_
   have BK398:=n12_
   have BK406:=n13_
   have BK421:=n14_
   have BK422:=n15_
   have BK423:=n16_
   have HR424_0:=n17_
   have HR426_0:=n18_
   have HR432_0:=n19_
   have HB:=n20_
   clear n0_ n1_ n2_ n3_ n4_ n5_ n6_ n7_ n8_ n9_ n10_ n11_ n12_ n13_ n14_ n15_ n16_ n17_ n18_ n19_ n20_
   (try clear hb)
   (try clear hb2)
   (try clear hk)
   (try clear hi)
   refine hK.out _ _ ⟨(blk_cell BK406.out 0).trans rfl,(blk_cell BK406.out 1).trans rfl,(blk_cell BK406.out 2).trans rfl,(blk_cell BK406.out 3).trans rfl,HS4_⟩ (fun hHeld=>?_)
   clear hK K
   refine norm_ (a':=?_) ?_ ?_
   rotate_left
   ·show Act.put _ (some 77) _=_
    simp only [Act.put,List.setIfInBounds_toArray,List.set_cons_zero,List.set_cons_succ,i64_w,i32_w]
    rfl
   refine pure_ (i:=11) (N:=some 78) (v:=?_) (a':=?_) #[true,true,true,true,true,true,true,true,true,true,true,true,false] rfl rfl (any_of HT_.out (by kernel_rfl)) (fun _ _ _ h=>h) (Or.inl ⟨by rfl,?_⟩) ?_ ?_
   rotate_left;(intro w';go_simp;with_reducible rfl);rotate_left;(simp only [Act.put,List.setIfInBounds_toArray,List.set_cons_zero,List.set_cons_succ,i64_w,i32_w];rfl)
   refine pure_ (i:=12) (N:=some 79) (v:=?_) (a':=?_) #[true,true,true,true,true,true,true,true,true,true,true,true,true] rfl rfl (any_of HT_.out (by kernel_rfl)) (fun _ _ _ h=>h) (Or.inl ⟨by rfl,?_⟩) ?_ ?_
   rotate_left;(intro w';go_simp;with_reducible rfl);rotate_left;(simp only [Act.put,List.setIfInBounds_toArray,List.set_cons_zero,List.set_cons_succ,i64_w,i32_w];rfl)
   refine done_ (done_of HT_.out (by kernel_rfl)) ?_
   (try clear hHeld)
   try go_wp2
   go_ret
   exact ⟨by first|rfl|(simp [errW_none,errW_some] <;> rfl)|(simp [*,errW_none,errW_some] <;> rfl),by repeat (first|(with_reducible first|exact HB.out|apply below_alloc|apply pw_below_drewN|apply below_drew1|refine below_set ?_ GE397.out|refine below_set ?_ GE398.out|refine below_set ?_ GE406.out|refine below_set ?_ GE421.out|refine below_set ?_ GE422.out|refine below_set ?_ GE423.out)|exact HB.out)⟩
end Go.Proofs.Ytfccebnoflhkcaa.P

