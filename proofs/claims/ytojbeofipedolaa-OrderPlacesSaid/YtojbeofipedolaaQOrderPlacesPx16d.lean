/- Texts of OrderPlaces. Merged: Px16d. -/
import Derived.Test.YtojbeofipedolaaQOrderPlacesPx16a
import Derived.Test.YtojbeofipedolaaQOrderPlacesPx0
import Derived.Test.YtojbeofipedolaaQOrderPlacesPx4
import Derived.Test.YtojbeofipedolaaQOrderPlacesPx5
import Derived.Test.YtojbeofipedolaaQOrderPlacesPx10
import Derived.Test.YtojbeofipedolaaQOrderPlacesHOrdA
import Derived.Test.YtojbeofipedolaaQOrderPlacesHOrdE
import Derived.Test.YtojbeofipedolaaQOrderPlacesHOrdF
namespace Go.Proofs.Ytojbeofipedolaa.P
open Go.RowKit Go.Proofs.YtojbeofipedolaaW.PrintWords Go.Proofs.YtojbeofipedolaaW.PrintLast Go.Proofs.YtojbeofipedolaaW.PrintMore
attribute [local go_sem] max2_int min2_int max_two min_two max_three min_three max_four min_four   -- for this text's walks alone
set_option linter.unusedVariables false
set_option linter.unusedSimpArgs false
set_option maxHeartbeats 8000000 in
set_option maxRecDepth 100000 in
theorem thresherlaw09_OrderPlaces.calls_rest2 : thresherlaw09_OrderPlaces.calls_part.2.2.1 := by
 intro k a0_0 a0_1 a0_2 a0_3 a0_4 a0_5 a0_6 a0_7 a0_8 a0_9 a0_10 a0_11 A1 c1 l1 A2 c2 l2 r w hu24 hu31 HR1 HC1 HR2 HC2 t380 A4 t381 t384 t385 t386 A5 t388 A6 t391 A7 t394 A8 t397 A9 t398 A10 _ gb379 w12 GW379 GE379 w13 w15 gb387 w16 GW387 GE387 NB379_387 NB387_379 Ao17 co17 hnb18 hnc18 w20 w21 _ w22 Ao23 co23 _ w24 _ w26 Ao28 co28 Ao29 co29 w30 w32 HO383 HO390 HO393 HO396 _ _ _ wc u17 u18 u19 u20 u21 u22 u23 u24 u25 u26 u27 u28 u29 u30 u31 u32 u33 u34 u35 u36 u37 u38 u39 u40 u41 u42 u43 u44 u45 u46 u47 u49 u50 u51 u52 u53 u54 u55 u56 u57 u58 u59 u60 u61 u62 u63 u64 u65 u66 u67 u68 u69 u70 u71 u72 u73 u74 u75 u76 u77 u78 u79 u80 u81 u82 u83 u84 u85 u86 u87 u88 u89 u90 u91 u92 u93 u94 u95 u96 u97 u98 u99 u100 u101 u102 u103 u104 u105 u106 u107 kj10 HJ10 y399 Ny399 c36b0 c36b1 c37b0 c37b1 y402 Ny402 LMc38 y407 Ny407 y410 Ny410 LMc39 y413 Ny413 c40b0 c41b0 y416 Ny416 LMc42 y421 Ny421 y424 Ny424 c43b0 c43b1 c44b0 c44b1 y427 Ny427 LMc45 y432 Ny432 y435 Ny435 LMc46 y438 Ny438 c47b0 c48b0 y441 Ny441 LMc49 y446 Ny446 y449 Ny449 LMc50 y452 Ny452 y455 Ny455 LMc51 y458 Ny458 t461 A52 t464 A53 y465 Ny465 LMc54 y468 Ny468 t471 A55 t474 A56 HC57 i059 _ _ hcut59 HC406 KY59 q59 i060 _ _ q060 A60 c60 hcut60 HC420 KY60 KA60 q60 _ _ _ w58 _ _ v400 v408 w66 _ Ao68 co68 v414 w67 _ w69 i071 _ _ hcut71 HC431 KY71 q71 i072 _ _ q072 A72 c72 hcut72 HC445 KY72 KA72 q72 _ _ _ w70 v425 v433 w78 _ Ao80 co80 v439 w79 _ v447 w81 Ao82 co82 _ _ _ _ HT_ HW_ w83 HO_9 HO_10 HO_388000 HO406 HO420 HO412 HO423 HO431 HO445 HO437 HO448 BK379 BK387 HB hHeld
 intro hCont
 refine two_ (i:=1) (j:=5) (Ni:=some 74) (Nj:=some 78) #[true,true,true,false,true,false,false,false,true,false,false] #[true,false,true,false,true,true,false,false,true,false,false] rfl rfl rfl rfl (two_of HT_.out (by kernel_rfl)) (by decide) (by decide) (fun K hK=>?_) (fun K hK=>?_)
 ·skip
  refine Kd.N_lit_step (Kd.slice 41 k41) _ 27 ?hg (N':=74) ?hd (xs:=([] : List (List (S41)))) (inner:=[]) (ok:=(fun k_=>some k_≠(.slice Ao28 t391.length co28 : Value).ownBlock∧some k_≠(.slice Ao29 t394.length co29 : Value).ownBlock∧some k_≠(.slice Ao17 t381.length co17 : Value).ownBlock∧some k_≠(.slice Ao68 y410.length co68 : Value).ownBlock∧some k_≠(.slice Ao82 y421.length co82 : Value).ownBlock∧some k_≠(.slice Ao80 y435.length co80 : Value).ownBlock∧some k_≠(v447 : Value).ownBlock∧k_≠gb379∧k_≠gb387)) (okp:=(fun k_=>some k_≠(.slice Ao28 t391.length co28 : Value).ownBlock∧some k_≠(.slice Ao29 t394.length co29 : Value).ownBlock∧some k_≠(.slice Ao17 t381.length co17 : Value).ownBlock∧some k_≠(.slice Ao68 y410.length co68 : Value).ownBlock∧some k_≠(.slice Ao82 y421.length co82 : Value).ownBlock∧some k_≠(.slice Ao80 y435.length co80 : Value).ownBlock∧some k_≠(v447 : Value).ownBlock∧k_≠gb379∧k_≠gb387)) ?hr ?hp (fun _ hk=>hk) ((show ∀ k_,w83.heap.size≤k_→(fun k_=>some k_≠(.slice Ao28 t391.length co28 : Value).ownBlock∧some k_≠(.slice Ao29 t394.length co29 : Value).ownBlock∧some k_≠(.slice Ao17 t381.length co17 : Value).ownBlock∧some k_≠(.slice Ao68 y410.length co68 : Value).ownBlock∧some k_≠(.slice Ao82 y421.length co82 : Value).ownBlock∧some k_≠(.slice Ao80 y435.length co80 : Value).ownBlock∧some k_≠(v447 : Value).ownBlock∧k_≠gb379∧k_≠gb387) k_ from fun k_ hk=>⟨Kd.fresh' (Kd.N_lt (N_up HO_9.out)) k_ hk,Kd.fresh' (Kd.R_lt (R_up HO_10.out)) k_ hk,Kd.fresh' (Kd.R_lt (R_up HO_388000.out)) k_ hk,Kd.fresh' (Kd.N_lt (N_up HO412.out)) k_ hk,Kd.fresh' (Kd.N_lt (N_up HO423.out)) k_ hk,Kd.fresh' (Kd.N_lt (N_up HO437.out)) k_ hk,Kd.fresh' (Kd.N_lt (N_up HO448.out)) k_ hk,Kd.freshB (blk_up BK379.out) k_ hk,Kd.freshB (blk_up BK387.out) k_ hk⟩) _ (Nat.le_refl _)) (Below.refl _ _) (Nat.le_refl _) (by simp) ?_;(case hd=>rfl);(case hg=>rfl);(case hr=>first|(go_simp;done)|(go_simp;rfl));(case hp=>exact (Reps.none _ _))
  intro v450 w84 ho85 hb hg_ hnew_
  clear hg_ hnew_
  (first|rw [← Ny449.out] at ho85|(simp only [Int.reduceToNat] at ho85;rw [← Ny449.out] at ho85))
  have n0_:=Aside0.mk (Kd.N_elder' (N_up HO_9.out) (Kd.N_base ho85) hb)
  have n1_:=Aside0.mk (Kd.R_below (R_up HO_10.out) hb)
  have n2_:=Aside0.mk (Kd.R_below (R_up HO_388000.out) hb)
  have n3_:=Aside0.mk (Kd.V_elder' (V_up HO406.out) (Kd.N_base ho85) hb)
  have n4_:=Aside0.mk (Kd.V_elder' (V_up HO420.out) (Kd.N_base ho85) hb)
  have n5_:=Aside0.mk (Kd.N_elder' (N_up HO412.out) (Kd.N_base ho85) hb)
  have n6_:=Aside0.mk (Kd.N_elder' (N_up HO423.out) (Kd.N_base ho85) hb)
  have n7_:=Aside0.mk (Kd.V_elder' (V_up HO431.out) (Kd.N_base ho85) hb)
  have n8_:=Aside0.mk (Kd.V_elder' (V_up HO445.out) (Kd.N_base ho85) hb)
  have n9_:=Aside0.mk (Kd.N_elder' (N_up HO437.out) (Kd.N_base ho85) hb)
  have n10_:=Aside0.mk (Kd.N_elder' (N_up HO448.out) (Kd.N_base ho85) hb)
  have n11_:=Aside0.mk (Kd.N_lower ho85 (below_size (below_go HB.out)))
  have n12_:=Aside0.mk (blk_below (blk_up BK379.out) hb)
  have n13_:=Aside0.mk (blk_below (blk_up BK387.out) hb)
  have n14_:=Aside0.mk (below_step (below_go HB.out) hb)
  clear HO_9
  clear HO_10
  clear HO_388000
  clear HO406
  clear HO420
  clear HO412
  clear HO423
  clear HO431
  clear HO445
  clear HO437
  clear HO448
  clear BK379
  clear BK387
  clear HB
  have HO_9:=n0_
  have HO_10:=n1_
  have HO_388000:=n2_
  have HO406:=n3_
  have HO420:=n4_
  have HO412:=n5_
  have HO423:=n6_
  have HO431:=n7_
  have HO445:=n8_
  have HO437:=n9_
  have HO448:=n10_
  have HO451:=n11_
  have BK379:=n12_
  have BK387:=n13_
  have HB:=n14_
  clear n0_ n1_ n2_ n3_ n4_ n5_ n6_ n7_ n8_ n9_ n10_ n11_ n12_ n13_ n14_
  clear hb ho85
  refine hK.out _ _ ⟨(blk_cell BK387.out 0).trans rfl,(blk_cell BK387.out 1).trans rfl,(blk_cell BK387.out 2).trans rfl,(blk_cell BK387.out 3).trans rfl⟩ (fun hHeld=>?_)
  clear hK K
  refine norm_ (a':=?_) ?_ ?_
  rotate_left
  ·show Act.put _ (some 74) _=_
   simp only [Act.put,List.setIfInBounds_toArray,List.set_cons_zero,List.set_cons_succ,i64_w,i32_w]
   rfl
  refine two_ (i:=3) (j:=5) (Ni:=some 76) (Nj:=some 78) #[true,true,true,true,true,false,false,false,true,false,false] #[true,true,true,false,true,true,false,false,true,false,false] rfl rfl rfl rfl (two_of HT_.out (by kernel_rfl)) (by decide) (by decide) (fun K hK=>?_) (fun K hK=>?_)
  ·skip
   refine Kd.N_append_rows_step (Kd.slice 41 k41) (w0:=w) w.heap.size (by rfl) (.tmp 74) (.tmp 75) 25 27 (.slice none 0 0) 24 rfl Try.underlying25 info27 rfl (by decide) (by omega) v450 y449 t391 _ _ _ (fun k_=>some k_≠(.slice Ao29 t394.length co29 : Value).ownBlock∧some k_≠(.slice Ao17 t381.length co17 : Value).ownBlock∧some k_≠(.slice Ao68 y410.length co68 : Value).ownBlock∧some k_≠(.slice Ao82 y421.length co82 : Value).ownBlock∧some k_≠(.slice Ao80 y435.length co80 : Value).ownBlock∧some k_≠(v447 : Value).ownBlock∧k_≠gb379∧k_≠gb387) (fun k_=>((fun k_=>some k_≠(.slice Ao29 t394.length co29 : Value).ownBlock∧some k_≠(.slice Ao17 t381.length co17 : Value).ownBlock∧some k_≠(.slice Ao68 y410.length co68 : Value).ownBlock∧some k_≠(.slice Ao82 y421.length co82 : Value).ownBlock∧some k_≠(.slice Ao80 y435.length co80 : Value).ownBlock∧some k_≠(v447 : Value).ownBlock∧k_≠gb379∧k_≠gb387)) k_∧some k_≠(v450 : Value).ownBlock) rfl rfl ?aO ?aR (fun _ hk=>hk) ?aF ?aB ?aS ?aL ?_
   (case aR=>exact (by skip;exact Kd.N_F (Kd.N_mono (ok':=(fun k_=>((fun k_=>some k_≠(.slice Ao29 t394.length co29 : Value).ownBlock∧some k_≠(.slice Ao17 t381.length co17 : Value).ownBlock∧some k_≠(.slice Ao68 y410.length co68 : Value).ownBlock∧some k_≠(.slice Ao82 y421.length co82 : Value).ownBlock∧some k_≠(.slice Ao80 y435.length co80 : Value).ownBlock∧some k_≠(v447 : Value).ownBlock∧k_≠gb379∧k_≠gb387)) k_∧some k_≠(v450 : Value).ownBlock)) (HO_9.out) (fun k_ hk=>⟨⟨hk.1.1.1,⟨hk.1.1.2.1,⟨hk.1.1.2.2.1,⟨hk.1.1.2.2.2.1,⟨hk.1.1.2.2.2.2.1,⟨hk.1.2,⟨hk.1.1.2.2.2.2.2.1,hk.1.1.2.2.2.2.2.2⟩⟩⟩⟩⟩⟩⟩,hk.2⟩))))
   (case aB=>exact (below_go HB.out))
   (case aF=>exact (fun k_ hk=>⟨Kd.fresh' (Kd.R_lt (R_up HO_10.out)) k_ hk,Kd.fresh' (Kd.R_lt (R_up HO_388000.out)) k_ hk,Kd.fresh' (Kd.N_lt (N_up HO412.out)) k_ hk,Kd.fresh' (Kd.N_lt (N_up HO423.out)) k_ hk,Kd.fresh' (Kd.N_lt (N_up HO437.out)) k_ hk,Kd.fresh' (Kd.N_lt (N_up HO448.out)) k_ hk,Kd.freshB (blk_up BK379.out) k_ hk,Kd.freshB (blk_up BK387.out) k_ hk⟩))
   (case aO=>exact (N_upm HO451.out (fun _ hk=>⟨hk.2.1,⟨hk.2.2.1,⟨hk.2.2.2.1,⟨hk.2.2.2.2.1,⟨hk.2.2.2.2.2.1,⟨hk.2.2.2.2.2.2.1,⟨hk.2.2.2.2.2.2.2.1,hk.2.2.2.2.2.2.2.2⟩⟩⟩⟩⟩⟩⟩)))
   (case aS=>exact (below_size (below_go HB.out)))
   (case aL=>have:=LMc50.out;omega)
   intro v453 w86 ho hb hg hat
   rw [← Ny452.out] at ho
   have n0_:=Aside0.mk (Kd.N_afterv (ok:=(fun k_=>some k_≠(.slice Ao29 t394.length co29 : Value).ownBlock∧some k_≠(.slice Ao17 t381.length co17 : Value).ownBlock∧some k_≠(.slice Ao68 y410.length co68 : Value).ownBlock∧some k_≠(.slice Ao82 y421.length co82 : Value).ownBlock∧some k_≠(.slice Ao80 y435.length co80 : Value).ownBlock∧some k_≠(v447 : Value).ownBlock∧k_≠gb379∧k_≠gb387)) (N_upm HO_9.out (fun _ hk=>⟨⟨hk.1.1.1,⟨hk.1.1.2.1,⟨hk.1.1.2.2.1,⟨hk.1.1.2.2.2.1,⟨hk.1.1.2.2.2.2.1,⟨hk.1.2,⟨hk.1.1.2.2.2.2.2.1,hk.1.1.2.2.2.2.2.2⟩⟩⟩⟩⟩⟩⟩,hk.2⟩)) hg hat)
   have n1_:=Aside0.mk (Kd.R_over' (R_up HO_10.out) (Kd.N_typed (N_up HO451.out)) (by decide) hg)
   have n2_:=Aside0.mk (Kd.R_over' (R_up HO_388000.out) (Kd.N_typed (N_up HO451.out)) (by decide) hg)
   have n3_:=Aside0.mk (blk_grown (blk_up BK379.out) hg (Kd.N_ne HO451.out BK379.out (by decide)))
   have n4_:=Aside0.mk (blk_grown (blk_up BK387.out) hg (Kd.N_ne HO451.out BK387.out (by decide)))
   have n5_:=Aside0.mk (Kd.V_afterv (ok:=(fun k_=>some k_≠(.slice Ao29 t394.length co29 : Value).ownBlock∧some k_≠(.slice Ao17 t381.length co17 : Value).ownBlock∧some k_≠(.slice Ao68 y410.length co68 : Value).ownBlock∧some k_≠(.slice Ao82 y421.length co82 : Value).ownBlock∧some k_≠(.slice Ao80 y435.length co80 : Value).ownBlock∧some k_≠(v447 : Value).ownBlock∧k_≠gb379∧k_≠gb387)) (V_upm HO406.out (fun _ hk=>⟨⟨hk.1.1.1,⟨hk.1.1.2.1,⟨hk.1.1.2.2.1,⟨hk.1.1.2.2.2.1,⟨hk.1.1.2.2.2.2.1,⟨hk.1.2,⟨hk.1.1.2.2.2.2.2.1,hk.1.1.2.2.2.2.2.2⟩⟩⟩⟩⟩⟩⟩,hk.2⟩)) hg hat)
   have n6_:=Aside0.mk (Kd.V_afterv (ok:=(fun k_=>some k_≠(.slice Ao29 t394.length co29 : Value).ownBlock∧some k_≠(.slice Ao17 t381.length co17 : Value).ownBlock∧some k_≠(.slice Ao68 y410.length co68 : Value).ownBlock∧some k_≠(.slice Ao82 y421.length co82 : Value).ownBlock∧some k_≠(.slice Ao80 y435.length co80 : Value).ownBlock∧some k_≠(v447 : Value).ownBlock∧k_≠gb379∧k_≠gb387)) (V_upm HO420.out (fun _ hk=>⟨⟨hk.1.1.1,⟨hk.1.1.2.1,⟨hk.1.1.2.2.1,⟨hk.1.1.2.2.2.1,⟨hk.1.1.2.2.2.2.1,⟨hk.1.2,⟨hk.1.1.2.2.2.2.2.1,hk.1.1.2.2.2.2.2.2⟩⟩⟩⟩⟩⟩⟩,hk.2⟩)) hg hat)
   have n7_:=Aside0.mk (Kd.N_afterv (ok:=(fun k_=>some k_≠(.slice Ao28 t391.length co28 : Value).ownBlock∧some k_≠(.slice Ao17 t381.length co17 : Value).ownBlock∧some k_≠(.slice Ao82 y421.length co82 : Value).ownBlock∧some k_≠(.slice Ao80 y435.length co80 : Value).ownBlock∧some k_≠(v447 : Value).ownBlock∧k_≠gb379∧k_≠gb387)) (N_upm HO412.out (fun _ hk=>⟨⟨hk.1.1.1,⟨hk.1.1.2.1,⟨hk.1.1.2.2.1,⟨hk.1.1.2.2.2.1,⟨hk.1.2,⟨hk.1.1.2.2.2.2.1,hk.1.1.2.2.2.2.2⟩⟩⟩⟩⟩⟩,hk.2⟩)) hg hat)
   have n8_:=Aside0.mk (Kd.N_afterv (ok:=(fun k_=>some k_≠(.slice Ao17 t381.length co17 : Value).ownBlock∧some k_≠(.slice Ao80 y435.length co80 : Value).ownBlock∧some k_≠(v447 : Value).ownBlock∧k_≠gb379∧k_≠gb387)) (N_upm HO423.out (fun _ hk=>⟨⟨hk.1.1.1,⟨hk.1.1.2.1,⟨hk.1.2,⟨hk.1.1.2.2.1,hk.1.1.2.2.2⟩⟩⟩⟩,hk.2⟩)) hg hat)
   have n9_:=Aside0.mk (Kd.V_afterv (ok:=(fun k_=>some k_≠(.slice Ao29 t394.length co29 : Value).ownBlock∧some k_≠(.slice Ao17 t381.length co17 : Value).ownBlock∧some k_≠(.slice Ao68 y410.length co68 : Value).ownBlock∧some k_≠(.slice Ao82 y421.length co82 : Value).ownBlock∧some k_≠(.slice Ao80 y435.length co80 : Value).ownBlock∧some k_≠(v447 : Value).ownBlock∧k_≠gb379∧k_≠gb387)) (V_upm HO431.out (fun _ hk=>⟨⟨hk.1.1.1,⟨hk.1.1.2.1,⟨hk.1.1.2.2.1,⟨hk.1.1.2.2.2.1,⟨hk.1.1.2.2.2.2.1,⟨hk.1.2,⟨hk.1.1.2.2.2.2.2.1,hk.1.1.2.2.2.2.2.2⟩⟩⟩⟩⟩⟩⟩,hk.2⟩)) hg hat)
   have n10_:=Aside0.mk (Kd.V_afterv (ok:=(fun k_=>some k_≠(.slice Ao29 t394.length co29 : Value).ownBlock∧some k_≠(.slice Ao17 t381.length co17 : Value).ownBlock∧some k_≠(.slice Ao68 y410.length co68 : Value).ownBlock∧some k_≠(.slice Ao82 y421.length co82 : Value).ownBlock∧some k_≠(.slice Ao80 y435.length co80 : Value).ownBlock∧some k_≠(v447 : Value).ownBlock∧k_≠gb379∧k_≠gb387)) (V_upm HO445.out (fun _ hk=>⟨⟨hk.1.1.1,⟨hk.1.1.2.1,⟨hk.1.1.2.2.1,⟨hk.1.1.2.2.2.1,⟨hk.1.1.2.2.2.2.1,⟨hk.1.2,⟨hk.1.1.2.2.2.2.2.1,hk.1.1.2.2.2.2.2.2⟩⟩⟩⟩⟩⟩⟩,hk.2⟩)) hg hat)
   have n11_:=Aside0.mk (Kd.N_afterv (ok:=(fun k_=>some k_≠(.slice Ao28 t391.length co28 : Value).ownBlock∧some k_≠(.slice Ao17 t381.length co17 : Value).ownBlock∧some k_≠(.slice Ao68 y410.length co68 : Value).ownBlock∧some k_≠(.slice Ao82 y421.length co82 : Value).ownBlock∧some k_≠(v447 : Value).ownBlock∧k_≠gb379∧k_≠gb387)) (N_upm HO437.out (fun _ hk=>⟨⟨hk.1.1.1,⟨hk.1.1.2.1,⟨hk.1.1.2.2.1,⟨hk.1.1.2.2.2.1,⟨hk.1.2,⟨hk.1.1.2.2.2.2.1,hk.1.1.2.2.2.2.2⟩⟩⟩⟩⟩⟩,hk.2⟩)) hg hat)
   have n12_:=Aside0.mk (Kd.N_afterv (ok:=(fun k_=>some k_≠(.slice Ao17 t381.length co17 : Value).ownBlock∧some k_≠(.slice Ao68 y410.length co68 : Value).ownBlock∧some k_≠(.slice Ao82 y421.length co82 : Value).ownBlock∧k_≠gb379∧k_≠gb387)) (N_up HO448.out) hg hat)
   have n13_:=Aside0.mk (hb)
   have n14_:=Aside0.mk (ho)
   clear HO_9
   clear HO_10
   clear HO_388000
   clear BK379
   clear BK387
   clear HO406
   clear HO420
   clear HO412
   clear HO423
   clear HO431
   clear HO445
   clear HO437
   clear HO448
   clear HB
   clear HO451
   have HO_9:=n0_
   have HO_10:=n1_
   have HO_388000:=n2_
   have BK379:=n3_
   have BK387:=n4_
   have HO406:=n5_
   have HO420:=n6_
   have HO412:=n7_
   have HO423:=n8_
   have HO431:=n9_
   have HO445:=n10_
   have HO437:=n11_
   have HO448:=n12_
   have HB:=n13_
   have HO454:=n14_
   clear n0_ n1_ n2_ n3_ n4_ n5_ n6_ n7_ n8_ n9_ n10_ n11_ n12_ n13_ n14_
   clear ho hb hg hat
   refine hK.out _ _ ⟨(blk_cell BK387.out 0).trans rfl,(blk_cell BK387.out 1).trans rfl,(blk_cell BK387.out 2).trans rfl,(blk_cell BK387.out 3).trans rfl⟩ (fun hHeld=>?_)
   clear hK K
   refine norm_ (a':=?_) ?_ ?_
   rotate_left
   ·show Act.put _ (some 76) _=_
    simp only [Act.put,List.setIfInBounds_toArray,List.set_cons_zero,List.set_cons_succ,i64_w,i32_w]
    rfl
   refine one_ (i:=5) (N:=some 78) #[true,true,true,true,true,true,false,false,true,false,false] rfl rfl (one_of HT_.out (by kernel_rfl)) (by decide) (fun K hK=>?_)
   refine Kd.N_lit_step (Kd.slice 41 k41) _ 27 ?hg (N':=78) ?hd (xs:=([t394] : List (List (S41)))) (inner:=[.slice Ao29 t394.length co29]) (ok:=(fun k_=>some k_≠(.slice Ao28 t391.length co28 : Value).ownBlock∧some k_≠(.slice Ao17 t381.length co17 : Value).ownBlock∧some k_≠(.slice Ao68 y410.length co68 : Value).ownBlock∧some k_≠(.slice Ao82 y421.length co82 : Value).ownBlock∧some k_≠(.slice Ao80 y435.length co80 : Value).ownBlock∧some k_≠(v447 : Value).ownBlock∧some k_≠(v453 : Value).ownBlock∧k_≠gb379∧k_≠gb387)) (okp:=(fun k_=>some k_≠(.slice Ao28 t391.length co28 : Value).ownBlock∧some k_≠(.slice Ao17 t381.length co17 : Value).ownBlock∧some k_≠(.slice Ao68 y410.length co68 : Value).ownBlock∧some k_≠(.slice Ao82 y421.length co82 : Value).ownBlock∧some k_≠(.slice Ao80 y435.length co80 : Value).ownBlock∧some k_≠(v447 : Value).ownBlock∧some k_≠(v453 : Value).ownBlock∧k_≠gb379∧k_≠gb387)) ?hr ?hp (fun _ hk=>hk) ((show ∀ k_,w86.heap.size≤k_→(fun k_=>some k_≠(.slice Ao28 t391.length co28 : Value).ownBlock∧some k_≠(.slice Ao17 t381.length co17 : Value).ownBlock∧some k_≠(.slice Ao68 y410.length co68 : Value).ownBlock∧some k_≠(.slice Ao82 y421.length co82 : Value).ownBlock∧some k_≠(.slice Ao80 y435.length co80 : Value).ownBlock∧some k_≠(v447 : Value).ownBlock∧some k_≠(v453 : Value).ownBlock∧k_≠gb379∧k_≠gb387) k_ from fun k_ hk=>⟨Kd.fresh' (Kd.N_lt (N_up HO_9.out)) k_ hk,Kd.fresh' (Kd.R_lt (R_up HO_388000.out)) k_ hk,Kd.fresh' (Kd.N_lt (N_up HO412.out)) k_ hk,Kd.fresh' (Kd.N_lt (N_up HO423.out)) k_ hk,Kd.fresh' (Kd.N_lt (N_up HO437.out)) k_ hk,Kd.fresh' (Kd.N_lt (N_up HO448.out)) k_ hk,Kd.fresh' (Kd.N_lt (N_up HO454.out)) k_ hk,Kd.freshB (blk_up BK379.out) k_ hk,Kd.freshB (blk_up BK387.out) k_ hk⟩) _ (Nat.le_refl _)) (Below.refl _ _) (Nat.le_refl _) (by simp) ?_;(case hd=>rfl);(case hg=>rfl);(case hr=>first|(go_simp;done)|(go_simp;rfl));(case hp=>exact (Reps.one (show Kd.FK (Kd.slice 41 k41) _ _ t394 [.slice Ao29 t394.length co29] from (Kd.FK_slice_mk (Kd.R_reads' (Kd.R_mono (ok':=(fun k_=>some k_≠(.slice Ao28 t391.length co28 : Value).ownBlock∧some k_≠(.slice Ao17 t381.length co17 : Value).ownBlock∧some k_≠(.slice Ao68 y410.length co68 : Value).ownBlock∧some k_≠(.slice Ao82 y421.length co82 : Value).ownBlock∧some k_≠(.slice Ao80 y435.length co80 : Value).ownBlock∧some k_≠(v447 : Value).ownBlock∧some k_≠(v453 : Value).ownBlock∧k_≠gb379∧k_≠gb387)) (Kd.R_types (Kd.R_types (Kd.R_apart' (Kd.R_apart' (Kd.R_apart' (Kd.R_apart' (Kd.R_apart' (Kd.R_apart' (Kd.R_apart' (HO_10.out) (Kd.N_typed HO_9.out) (by decide)) (Kd.R_typed HO_388000.out) (by decide)) (Kd.N_typed HO412.out) (by decide)) (Kd.N_typed HO423.out) (by decide)) (Kd.N_typed HO437.out) (by decide)) (Kd.N_typed HO448.out) (by decide)) (Kd.N_typed HO454.out) (by decide)) BK379.out (by decide)) BK387.out (by decide)) (fun k_ hk=>⟨hk.1.1.1.1.1.1.1.1.2,⟨hk.1.1.1.1.1.1.1.2,⟨hk.1.1.1.1.1.1.2,⟨hk.1.1.1.1.1.2,⟨hk.1.1.1.1.2,⟨hk.1.1.1.2,⟨hk.1.1.2,⟨hk.1.2,hk.2⟩⟩⟩⟩⟩⟩⟩⟩))).2.1 (Kd.R_F (Kd.R_mono (ok':=(fun k_=>some k_≠(.slice Ao28 t391.length co28 : Value).ownBlock∧some k_≠(.slice Ao17 t381.length co17 : Value).ownBlock∧some k_≠(.slice Ao68 y410.length co68 : Value).ownBlock∧some k_≠(.slice Ao82 y421.length co82 : Value).ownBlock∧some k_≠(.slice Ao80 y435.length co80 : Value).ownBlock∧some k_≠(v447 : Value).ownBlock∧some k_≠(v453 : Value).ownBlock∧k_≠gb379∧k_≠gb387)) (Kd.R_types (Kd.R_types (Kd.R_apart' (Kd.R_apart' (Kd.R_apart' (Kd.R_apart' (Kd.R_apart' (Kd.R_apart' (Kd.R_apart' (HO_10.out) (Kd.N_typed HO_9.out) (by decide)) (Kd.R_typed HO_388000.out) (by decide)) (Kd.N_typed HO412.out) (by decide)) (Kd.N_typed HO423.out) (by decide)) (Kd.N_typed HO437.out) (by decide)) (Kd.N_typed HO448.out) (by decide)) (Kd.N_typed HO454.out) (by decide)) BK379.out (by decide)) BK387.out (by decide)) (fun k_ hk=>⟨hk.1.1.1.1.1.1.1.1.2,⟨hk.1.1.1.1.1.1.1.2,⟨hk.1.1.1.1.1.1.2,⟨hk.1.1.1.1.1.2,⟨hk.1.1.1.1.2,⟨hk.1.1.1.2,⟨hk.1.1.2,⟨hk.1.2,hk.2⟩⟩⟩⟩⟩⟩⟩⟩))))) (Reps.none _ _)))
   intro v456 w87 ho88 hb hg_ hnew_
   clear hg_ hnew_
   (first|rw [← Ny455.out] at ho88|(simp only [Int.reduceToNat] at ho88;rw [← Ny455.out] at ho88))
   have n0_:=Aside0.mk (Kd.N_elder' (N_up HO_9.out) (Kd.N_base ho88) hb)
   have n1_:=Aside0.mk (Kd.R_below (R_up HO_10.out) hb)
   have n2_:=Aside0.mk (Kd.R_below (R_up HO_388000.out) hb)
   have n3_:=Aside0.mk (Kd.V_elder' (V_up HO406.out) (Kd.N_base ho88) hb)
   have n4_:=Aside0.mk (Kd.V_elder' (V_up HO420.out) (Kd.N_base ho88) hb)
   have n5_:=Aside0.mk (Kd.N_elder' (N_up HO412.out) (Kd.N_base ho88) hb)
   have n6_:=Aside0.mk (Kd.N_elder' (N_up HO423.out) (Kd.N_base ho88) hb)
   have n7_:=Aside0.mk (Kd.V_elder' (V_up HO431.out) (Kd.N_base ho88) hb)
   have n8_:=Aside0.mk (Kd.V_elder' (V_up HO445.out) (Kd.N_base ho88) hb)
   have n9_:=Aside0.mk (Kd.N_elder' (N_up HO437.out) (Kd.N_base ho88) hb)
   have n10_:=Aside0.mk (Kd.N_elder' (N_up HO448.out) (Kd.N_base ho88) hb)
   have n11_:=Aside0.mk (Kd.N_elder' (N_up HO454.out) (Kd.N_base ho88) hb)
   have n12_:=Aside0.mk (Kd.N_lower ho88 (below_size (below_go HB.out)))
   have n13_:=Aside0.mk (blk_below (blk_up BK379.out) hb)
   have n14_:=Aside0.mk (blk_below (blk_up BK387.out) hb)
   have n15_:=Aside0.mk (below_step (below_go HB.out) hb)
   clear HO_9
   clear HO_10
   clear HO_388000
   clear HO406
   clear HO420
   clear HO412
   clear HO423
   clear HO431
   clear HO445
   clear HO437
   clear HO448
   clear HO454
   clear BK379
   clear BK387
   clear HB
   have HO_9:=n0_
   have HO_10:=n1_
   have HO_388000:=n2_
   have HO406:=n3_
   have HO420:=n4_
   have HO412:=n5_
   have HO423:=n6_
   have HO431:=n7_
   have HO445:=n8_
   have HO437:=n9_
   have HO448:=n10_
   have HO454:=n11_
   have HO457:=n12_
   have BK379:=n13_
   have BK387:=n14_
   have HB:=n15_
   clear n0_ n1_ n2_ n3_ n4_ n5_ n6_ n7_ n8_ n9_ n10_ n11_ n12_ n13_ n14_ n15_
   clear hb ho88
   refine hK.out _ _ ⟨(blk_cell BK387.out 0).trans rfl,(blk_cell BK387.out 1).trans rfl,(blk_cell BK387.out 2).trans rfl,(blk_cell BK387.out 3).trans rfl⟩ (fun hHeld=>?_)
   clear hK K
   refine norm_ (a':=?_) ?_ ?_
   rotate_left
   ·show Act.put _ (some 78) _=_
    simp only [Act.put,List.setIfInBounds_toArray,List.set_cons_zero,List.set_cons_succ,i64_w,i32_w]
    rfl
   exact norm_ (by simp only [putAll,Act.put,List.setIfInBounds_toArray,List.set_cons_zero,List.set_cons_succ]) (hCont (v450,v453,v456) _ ⟨hHeld,(V_upm HO406.out (fun _ hk=>⟨hk.1.1.2.2.1,⟨hk.1.1.2.2.2.1,⟨hk.1.1.2.2.2.2.1,⟨hk.1.1.2.2.2.2.2.1,⟨hk.1.2,⟨hk.2,⟨hk.1.1.1,⟨hk.1.1.2.1,⟨hk.1.1.2.2.2.2.2.2.1,hk.1.1.2.2.2.2.2.2.2⟩⟩⟩⟩⟩⟩⟩⟩⟩)),(N_upm HO412.out (fun _ hk=>⟨hk.1.1.2.2.1,⟨hk.1.1.2.2.2.1,⟨hk.1.1.2.2.2.2.1,⟨hk.1.2,⟨hk.2,⟨hk.1.1.2.1,⟨hk.1.1.1,⟨hk.1.1.2.2.2.2.2.1,hk.1.1.2.2.2.2.2.2⟩⟩⟩⟩⟩⟩⟩⟩)),(V_upm HO420.out (fun _ hk=>⟨hk.1.1.2.2.1,⟨hk.1.1.2.2.2.1,⟨hk.1.1.2.2.2.2.1,⟨hk.1.1.2.2.2.2.2.1,⟨hk.1.2,⟨hk.2,⟨hk.1.1.1,⟨hk.1.1.2.1,⟨hk.1.1.2.2.2.2.2.2.1,hk.1.1.2.2.2.2.2.2.2⟩⟩⟩⟩⟩⟩⟩⟩⟩)),(N_upm HO423.out (fun _ hk=>⟨hk.1.1.2.1,⟨hk.1.1.2.2.1,⟨hk.1.2,⟨hk.2,⟨hk.1.1.1,⟨hk.1.1.2.2.2.1,hk.1.1.2.2.2.2⟩⟩⟩⟩⟩⟩)),(V_upm HO431.out (fun _ hk=>⟨hk.1.1.2.2.1,⟨hk.1.1.2.2.2.1,⟨hk.1.1.2.2.2.2.1,⟨hk.1.1.2.2.2.2.2.1,⟨hk.1.2,⟨hk.2,⟨hk.1.1.1,⟨hk.1.1.2.1,⟨hk.1.1.2.2.2.2.2.2.1,hk.1.1.2.2.2.2.2.2.2⟩⟩⟩⟩⟩⟩⟩⟩⟩)),(N_upm HO437.out (fun _ hk=>⟨hk.1.1.2.2.1,⟨hk.1.1.2.2.2.1,⟨hk.1.1.2.2.2.2.1,⟨hk.1.2,⟨hk.2,⟨hk.1.1.2.1,⟨hk.1.1.1,⟨hk.1.1.2.2.2.2.2.1,hk.1.1.2.2.2.2.2.2⟩⟩⟩⟩⟩⟩⟩⟩)),(V_upm HO445.out (fun _ hk=>⟨hk.1.1.2.2.1,⟨hk.1.1.2.2.2.1,⟨hk.1.1.2.2.2.2.1,⟨hk.1.1.2.2.2.2.2.1,⟨hk.1.2,⟨hk.2,⟨hk.1.1.1,⟨hk.1.1.2.1,⟨hk.1.1.2.2.2.2.2.2.1,hk.1.1.2.2.2.2.2.2.2⟩⟩⟩⟩⟩⟩⟩⟩⟩)),(N_upm HO448.out (fun _ hk=>⟨hk.1.1.2.1,⟨hk.1.1.2.2.1,⟨hk.1.2,⟨hk.2,⟨hk.1.1.1,⟨hk.1.1.2.2.2.1,hk.1.1.2.2.2.2⟩⟩⟩⟩⟩⟩)),(N_upm HO454.out (fun _ hk=>⟨hk.1.2.2.1,⟨hk.1.2.2.2.1,⟨hk.1.2.2.2.2.1,⟨hk.1.2.2.2.2.2.1,⟨hk.2,⟨hk.1.1,⟨hk.1.2.1,⟨hk.1.2.2.2.2.2.2.1,hk.1.2.2.2.2.2.2.2⟩⟩⟩⟩⟩⟩⟩⟩)),(N_upm HO457.out (fun _ hk=>⟨hk.2.2.1,⟨hk.2.2.2.1,⟨hk.2.2.2.2.1,⟨hk.2.2.2.2.2.1,⟨hk.2.2.2.2.2.2.1,⟨hk.2.1,⟨hk.1,⟨hk.2.2.2.2.2.2.2.1,hk.2.2.2.2.2.2.2.2⟩⟩⟩⟩⟩⟩⟩⟩)),(R_up HO_10.out),(R_up HO_388000.out),(N_upm HO_9.out (fun _ hk=>⟨hk.1.1.2.2.1,⟨hk.1.1.2.2.2.1,⟨hk.1.1.2.2.2.2.1,⟨hk.1.1.2.2.2.2.2.1,⟨hk.1.2,⟨hk.2,⟨hk.1.1.1,⟨hk.1.1.2.1,⟨hk.1.1.2.2.2.2.2.2.1,hk.1.1.2.2.2.2.2.2.2⟩⟩⟩⟩⟩⟩⟩⟩⟩)),(blk_up BK379.out),(blk_up BK387.out),(below_go HB.out)⟩)
  ·skip
   refine Kd.N_lit_step (Kd.slice 41 k41) _ 27 ?hg (N':=78) ?hd (xs:=([t394] : List (List (S41)))) (inner:=[.slice Ao29 t394.length co29]) (ok:=(fun k_=>some k_≠(.slice Ao28 t391.length co28 : Value).ownBlock∧some k_≠(.slice Ao17 t381.length co17 : Value).ownBlock∧some k_≠(.slice Ao68 y410.length co68 : Value).ownBlock∧some k_≠(.slice Ao82 y421.length co82 : Value).ownBlock∧some k_≠(.slice Ao80 y435.length co80 : Value).ownBlock∧some k_≠(v447 : Value).ownBlock∧some k_≠(v450 : Value).ownBlock∧k_≠gb379∧k_≠gb387)) (okp:=(fun k_=>some k_≠(.slice Ao28 t391.length co28 : Value).ownBlock∧some k_≠(.slice Ao17 t381.length co17 : Value).ownBlock∧some k_≠(.slice Ao68 y410.length co68 : Value).ownBlock∧some k_≠(.slice Ao82 y421.length co82 : Value).ownBlock∧some k_≠(.slice Ao80 y435.length co80 : Value).ownBlock∧some k_≠(v447 : Value).ownBlock∧some k_≠(v450 : Value).ownBlock∧k_≠gb379∧k_≠gb387)) ?hr ?hp (fun _ hk=>hk) ((show ∀ k_,w84.heap.size≤k_→(fun k_=>some k_≠(.slice Ao28 t391.length co28 : Value).ownBlock∧some k_≠(.slice Ao17 t381.length co17 : Value).ownBlock∧some k_≠(.slice Ao68 y410.length co68 : Value).ownBlock∧some k_≠(.slice Ao82 y421.length co82 : Value).ownBlock∧some k_≠(.slice Ao80 y435.length co80 : Value).ownBlock∧some k_≠(v447 : Value).ownBlock∧some k_≠(v450 : Value).ownBlock∧k_≠gb379∧k_≠gb387) k_ from fun k_ hk=>⟨Kd.fresh' (Kd.N_lt (N_up HO_9.out)) k_ hk,Kd.fresh' (Kd.R_lt (R_up HO_388000.out)) k_ hk,Kd.fresh' (Kd.N_lt (N_up HO412.out)) k_ hk,Kd.fresh' (Kd.N_lt (N_up HO423.out)) k_ hk,Kd.fresh' (Kd.N_lt (N_up HO437.out)) k_ hk,Kd.fresh' (Kd.N_lt (N_up HO448.out)) k_ hk,Kd.fresh' (Kd.N_lt (N_up HO451.out)) k_ hk,Kd.freshB (blk_up BK379.out) k_ hk,Kd.freshB (blk_up BK387.out) k_ hk⟩) _ (Nat.le_refl _)) (Below.refl _ _) (Nat.le_refl _) (by simp) ?_;(case hd=>rfl);(case hg=>rfl);(case hr=>first|(go_simp;done)|(go_simp;rfl));(case hp=>exact (Reps.one (show Kd.FK (Kd.slice 41 k41) _ _ t394 [.slice Ao29 t394.length co29] from (Kd.FK_slice_mk (Kd.R_reads' (Kd.R_mono (ok':=(fun k_=>some k_≠(.slice Ao28 t391.length co28 : Value).ownBlock∧some k_≠(.slice Ao17 t381.length co17 : Value).ownBlock∧some k_≠(.slice Ao68 y410.length co68 : Value).ownBlock∧some k_≠(.slice Ao82 y421.length co82 : Value).ownBlock∧some k_≠(.slice Ao80 y435.length co80 : Value).ownBlock∧some k_≠(v447 : Value).ownBlock∧some k_≠(v450 : Value).ownBlock∧k_≠gb379∧k_≠gb387)) (Kd.R_types (Kd.R_types (Kd.R_apart' (Kd.R_apart' (Kd.R_apart' (Kd.R_apart' (Kd.R_apart' (Kd.R_apart' (Kd.R_apart' (HO_10.out) (Kd.N_typed HO_9.out) (by decide)) (Kd.R_typed HO_388000.out) (by decide)) (Kd.N_typed HO412.out) (by decide)) (Kd.N_typed HO423.out) (by decide)) (Kd.N_typed HO437.out) (by decide)) (Kd.N_typed HO448.out) (by decide)) (Kd.N_typed HO451.out) (by decide)) BK379.out (by decide)) BK387.out (by decide)) (fun k_ hk=>⟨hk.1.1.1.1.1.1.1.1.2,⟨hk.1.1.1.1.1.1.1.2,⟨hk.1.1.1.1.1.1.2,⟨hk.1.1.1.1.1.2,⟨hk.1.1.1.1.2,⟨hk.1.1.1.2,⟨hk.1.1.2,⟨hk.1.2,hk.2⟩⟩⟩⟩⟩⟩⟩⟩))).2.1 (Kd.R_F (Kd.R_mono (ok':=(fun k_=>some k_≠(.slice Ao28 t391.length co28 : Value).ownBlock∧some k_≠(.slice Ao17 t381.length co17 : Value).ownBlock∧some k_≠(.slice Ao68 y410.length co68 : Value).ownBlock∧some k_≠(.slice Ao82 y421.length co82 : Value).ownBlock∧some k_≠(.slice Ao80 y435.length co80 : Value).ownBlock∧some k_≠(v447 : Value).ownBlock∧some k_≠(v450 : Value).ownBlock∧k_≠gb379∧k_≠gb387)) (Kd.R_types (Kd.R_types (Kd.R_apart' (Kd.R_apart' (Kd.R_apart' (Kd.R_apart' (Kd.R_apart' (Kd.R_apart' (Kd.R_apart' (HO_10.out) (Kd.N_typed HO_9.out) (by decide)) (Kd.R_typed HO_388000.out) (by decide)) (Kd.N_typed HO412.out) (by decide)) (Kd.N_typed HO423.out) (by decide)) (Kd.N_typed HO437.out) (by decide)) (Kd.N_typed HO448.out) (by decide)) (Kd.N_typed HO451.out) (by decide)) BK379.out (by decide)) BK387.out (by decide)) (fun k_ hk=>⟨hk.1.1.1.1.1.1.1.1.2,⟨hk.1.1.1.1.1.1.1.2,⟨hk.1.1.1.1.1.1.2,⟨hk.1.1.1.1.1.2,⟨hk.1.1.1.1.2,⟨hk.1.1.1.2,⟨hk.1.1.2,⟨hk.1.2,hk.2⟩⟩⟩⟩⟩⟩⟩⟩))))) (Reps.none _ _)))
   intro v456 w86 ho87 hb hg_ hnew_
   clear hg_ hnew_
   (first|rw [← Ny455.out] at ho87|(simp only [Int.reduceToNat] at ho87;rw [← Ny455.out] at ho87))
   have n0_:=Aside0.mk (Kd.N_elder' (N_up HO_9.out) (Kd.N_base ho87) hb)
   have n1_:=Aside0.mk (Kd.R_below (R_up HO_10.out) hb)
   have n2_:=Aside0.mk (Kd.R_below (R_up HO_388000.out) hb)
   have n3_:=Aside0.mk (Kd.V_elder' (V_up HO406.out) (Kd.N_base ho87) hb)
   have n4_:=Aside0.mk (Kd.V_elder' (V_up HO420.out) (Kd.N_base ho87) hb)
   have n5_:=Aside0.mk (Kd.N_elder' (N_up HO412.out) (Kd.N_base ho87) hb)
   have n6_:=Aside0.mk (Kd.N_elder' (N_up HO423.out) (Kd.N_base ho87) hb)
   have n7_:=Aside0.mk (Kd.V_elder' (V_up HO431.out) (Kd.N_base ho87) hb)
   have n8_:=Aside0.mk (Kd.V_elder' (V_up HO445.out) (Kd.N_base ho87) hb)
   have n9_:=Aside0.mk (Kd.N_elder' (N_up HO437.out) (Kd.N_base ho87) hb)
   have n10_:=Aside0.mk (Kd.N_elder' (N_up HO448.out) (Kd.N_base ho87) hb)
   have n11_:=Aside0.mk (Kd.N_elder' (N_up HO451.out) (Kd.N_base ho87) hb)
   have n12_:=Aside0.mk (Kd.N_lower ho87 (below_size (below_go HB.out)))
   have n13_:=Aside0.mk (blk_below (blk_up BK379.out) hb)
   have n14_:=Aside0.mk (blk_below (blk_up BK387.out) hb)
   have n15_:=Aside0.mk (below_step (below_go HB.out) hb)
   clear HO_9
   clear HO_10
   clear HO_388000
   clear HO406
   clear HO420
   clear HO412
   clear HO423
   clear HO431
   clear HO445
   clear HO437
   clear HO448
   clear HO451
   clear BK379
   clear BK387
   clear HB
   have HO_9:=n0_
   have HO_10:=n1_
   have HO_388000:=n2_
   have HO406:=n3_
   have HO420:=n4_
   have HO412:=n5_
   have HO423:=n6_
   have HO431:=n7_
   have HO445:=n8_
   have HO437:=n9_
   have HO448:=n10_
   have HO451:=n11_
   have HO457:=n12_
   have BK379:=n13_
   have BK387:=n14_
   have HB:=n15_
   clear n0_ n1_ n2_ n3_ n4_ n5_ n6_ n7_ n8_ n9_ n10_ n11_ n12_ n13_ n14_ n15_
   clear hb ho87
   refine hK.out _ _ ⟨(blk_cell BK387.out 0).trans rfl,(blk_cell BK387.out 1).trans rfl,(blk_cell BK387.out 2).trans rfl,(blk_cell BK387.out 3).trans rfl⟩ (fun hHeld=>?_)
   clear hK K
   refine norm_ (a':=?_) ?_ ?_
   rotate_left
   ·show Act.put _ (some 78) _=_
    simp only [Act.put,List.setIfInBounds_toArray,List.set_cons_zero,List.set_cons_succ,i64_w,i32_w]
    rfl
   refine one_ (i:=3) (N:=some 76) #[true,true,true,true,true,true,false,false,true,false,false] rfl rfl (one_of HT_.out (by kernel_rfl)) (by decide) (fun K hK=>?_)
   refine Kd.N_append_rows_step (Kd.slice 41 k41) (w0:=w) w.heap.size (by rfl) (.tmp 74) (.tmp 75) 25 27 (.slice none 0 0) 24 rfl Try.underlying25 info27 rfl (by decide) (by omega) v450 y449 t391 _ _ _ (fun k_=>some k_≠(.slice Ao29 t394.length co29 : Value).ownBlock∧some k_≠(.slice Ao17 t381.length co17 : Value).ownBlock∧some k_≠(.slice Ao68 y410.length co68 : Value).ownBlock∧some k_≠(.slice Ao82 y421.length co82 : Value).ownBlock∧some k_≠(.slice Ao80 y435.length co80 : Value).ownBlock∧some k_≠(v447 : Value).ownBlock∧some k_≠(v456 : Value).ownBlock∧k_≠gb379∧k_≠gb387) (fun k_=>((fun k_=>some k_≠(.slice Ao29 t394.length co29 : Value).ownBlock∧some k_≠(.slice Ao17 t381.length co17 : Value).ownBlock∧some k_≠(.slice Ao68 y410.length co68 : Value).ownBlock∧some k_≠(.slice Ao82 y421.length co82 : Value).ownBlock∧some k_≠(.slice Ao80 y435.length co80 : Value).ownBlock∧some k_≠(v447 : Value).ownBlock∧some k_≠(v456 : Value).ownBlock∧k_≠gb379∧k_≠gb387)) k_∧some k_≠(v450 : Value).ownBlock) rfl rfl ?aO ?aR (fun _ hk=>hk) ?aF ?aB ?aS ?aL ?_
   (case aR=>exact (by skip;exact Kd.N_F (Kd.N_mono (ok':=(fun k_=>((fun k_=>some k_≠(.slice Ao29 t394.length co29 : Value).ownBlock∧some k_≠(.slice Ao17 t381.length co17 : Value).ownBlock∧some k_≠(.slice Ao68 y410.length co68 : Value).ownBlock∧some k_≠(.slice Ao82 y421.length co82 : Value).ownBlock∧some k_≠(.slice Ao80 y435.length co80 : Value).ownBlock∧some k_≠(v447 : Value).ownBlock∧some k_≠(v456 : Value).ownBlock∧k_≠gb379∧k_≠gb387)) k_∧some k_≠(v450 : Value).ownBlock)) (HO_9.out) (fun k_ hk=>⟨⟨hk.1.1.1.1,⟨hk.1.1.1.2.1,⟨hk.1.1.1.2.2.1,⟨hk.1.1.1.2.2.2.1,⟨hk.1.1.1.2.2.2.2.1,⟨hk.1.1.2,⟨hk.2,⟨hk.1.1.1.2.2.2.2.2.1,hk.1.1.1.2.2.2.2.2.2⟩⟩⟩⟩⟩⟩⟩⟩,hk.1.2⟩))))
   (case aB=>exact (below_go HB.out))
   (case aF=>exact (fun k_ hk=>⟨Kd.fresh' (Kd.R_lt (R_up HO_10.out)) k_ hk,Kd.fresh' (Kd.R_lt (R_up HO_388000.out)) k_ hk,Kd.fresh' (Kd.N_lt (N_up HO412.out)) k_ hk,Kd.fresh' (Kd.N_lt (N_up HO423.out)) k_ hk,Kd.fresh' (Kd.N_lt (N_up HO437.out)) k_ hk,Kd.fresh' (Kd.N_lt (N_up HO448.out)) k_ hk,Kd.fresh' (Kd.N_lt (N_up HO457.out)) k_ hk,Kd.freshB (blk_up BK379.out) k_ hk,Kd.freshB (blk_up BK387.out) k_ hk⟩))
   (case aO=>exact (N_upm HO451.out (fun _ hk=>⟨hk.1.2.1,⟨hk.1.2.2.1,⟨hk.1.2.2.2.1,⟨hk.1.2.2.2.2.1,⟨hk.1.2.2.2.2.2.1,⟨hk.1.2.2.2.2.2.2.1,⟨hk.2,⟨hk.1.2.2.2.2.2.2.2.1,hk.1.2.2.2.2.2.2.2.2⟩⟩⟩⟩⟩⟩⟩⟩)))
   (case aS=>exact (below_size (below_go HB.out)))
   (case aL=>have:=LMc50.out;omega)
   intro v453 w88 ho hb hg hat
   rw [← Ny452.out] at ho
   have n0_:=Aside0.mk (Kd.N_afterv (ok:=(fun k_=>some k_≠(.slice Ao29 t394.length co29 : Value).ownBlock∧some k_≠(.slice Ao17 t381.length co17 : Value).ownBlock∧some k_≠(.slice Ao68 y410.length co68 : Value).ownBlock∧some k_≠(.slice Ao82 y421.length co82 : Value).ownBlock∧some k_≠(.slice Ao80 y435.length co80 : Value).ownBlock∧some k_≠(v447 : Value).ownBlock∧some k_≠(v456 : Value).ownBlock∧k_≠gb379∧k_≠gb387)) (N_upm HO_9.out (fun _ hk=>⟨⟨hk.1.1.1.1,⟨hk.1.1.1.2.1,⟨hk.1.1.1.2.2.1,⟨hk.1.1.1.2.2.2.1,⟨hk.1.1.1.2.2.2.2.1,⟨hk.1.1.2,⟨hk.2,⟨hk.1.1.1.2.2.2.2.2.1,hk.1.1.1.2.2.2.2.2.2⟩⟩⟩⟩⟩⟩⟩⟩,hk.1.2⟩)) hg hat)
   have n1_:=Aside0.mk (Kd.R_over' (R_up HO_10.out) (Kd.N_typed (N_up HO451.out)) (by decide) hg)
   have n2_:=Aside0.mk (Kd.R_over' (R_up HO_388000.out) (Kd.N_typed (N_up HO451.out)) (by decide) hg)
   have n3_:=Aside0.mk (blk_grown (blk_up BK379.out) hg (Kd.N_ne HO451.out BK379.out (by decide)))
   have n4_:=Aside0.mk (blk_grown (blk_up BK387.out) hg (Kd.N_ne HO451.out BK387.out (by decide)))
   have n5_:=Aside0.mk (Kd.V_afterv (ok:=(fun k_=>some k_≠(.slice Ao29 t394.length co29 : Value).ownBlock∧some k_≠(.slice Ao17 t381.length co17 : Value).ownBlock∧some k_≠(.slice Ao68 y410.length co68 : Value).ownBlock∧some k_≠(.slice Ao82 y421.length co82 : Value).ownBlock∧some k_≠(.slice Ao80 y435.length co80 : Value).ownBlock∧some k_≠(v447 : Value).ownBlock∧some k_≠(v456 : Value).ownBlock∧k_≠gb379∧k_≠gb387)) (V_upm HO406.out (fun _ hk=>⟨⟨hk.1.1.1.1,⟨hk.1.1.1.2.1,⟨hk.1.1.1.2.2.1,⟨hk.1.1.1.2.2.2.1,⟨hk.1.1.1.2.2.2.2.1,⟨hk.1.1.2,⟨hk.2,⟨hk.1.1.1.2.2.2.2.2.1,hk.1.1.1.2.2.2.2.2.2⟩⟩⟩⟩⟩⟩⟩⟩,hk.1.2⟩)) hg hat)
   have n6_:=Aside0.mk (Kd.V_afterv (ok:=(fun k_=>some k_≠(.slice Ao29 t394.length co29 : Value).ownBlock∧some k_≠(.slice Ao17 t381.length co17 : Value).ownBlock∧some k_≠(.slice Ao68 y410.length co68 : Value).ownBlock∧some k_≠(.slice Ao82 y421.length co82 : Value).ownBlock∧some k_≠(.slice Ao80 y435.length co80 : Value).ownBlock∧some k_≠(v447 : Value).ownBlock∧some k_≠(v456 : Value).ownBlock∧k_≠gb379∧k_≠gb387)) (V_upm HO420.out (fun _ hk=>⟨⟨hk.1.1.1.1,⟨hk.1.1.1.2.1,⟨hk.1.1.1.2.2.1,⟨hk.1.1.1.2.2.2.1,⟨hk.1.1.1.2.2.2.2.1,⟨hk.1.1.2,⟨hk.2,⟨hk.1.1.1.2.2.2.2.2.1,hk.1.1.1.2.2.2.2.2.2⟩⟩⟩⟩⟩⟩⟩⟩,hk.1.2⟩)) hg hat)
   have n7_:=Aside0.mk (Kd.N_afterv (ok:=(fun k_=>some k_≠(.slice Ao28 t391.length co28 : Value).ownBlock∧some k_≠(.slice Ao17 t381.length co17 : Value).ownBlock∧some k_≠(.slice Ao82 y421.length co82 : Value).ownBlock∧some k_≠(.slice Ao80 y435.length co80 : Value).ownBlock∧some k_≠(v447 : Value).ownBlock∧some k_≠(v456 : Value).ownBlock∧k_≠gb379∧k_≠gb387)) (N_upm HO412.out (fun _ hk=>⟨⟨hk.1.1.1.1,⟨hk.1.1.1.2.1,⟨hk.1.1.1.2.2.1,⟨hk.1.1.1.2.2.2.1,⟨hk.1.1.2,⟨hk.2,⟨hk.1.1.1.2.2.2.2.1,hk.1.1.1.2.2.2.2.2⟩⟩⟩⟩⟩⟩⟩,hk.1.2⟩)) hg hat)
   have n8_:=Aside0.mk (Kd.N_afterv (ok:=(fun k_=>some k_≠(.slice Ao17 t381.length co17 : Value).ownBlock∧some k_≠(.slice Ao80 y435.length co80 : Value).ownBlock∧some k_≠(v447 : Value).ownBlock∧some k_≠(v456 : Value).ownBlock∧k_≠gb379∧k_≠gb387)) (N_upm HO423.out (fun _ hk=>⟨⟨hk.1.1.1.1,⟨hk.1.1.1.2.1,⟨hk.1.1.2,⟨hk.2,⟨hk.1.1.1.2.2.1,hk.1.1.1.2.2.2⟩⟩⟩⟩⟩,hk.1.2⟩)) hg hat)
   have n9_:=Aside0.mk (Kd.V_afterv (ok:=(fun k_=>some k_≠(.slice Ao29 t394.length co29 : Value).ownBlock∧some k_≠(.slice Ao17 t381.length co17 : Value).ownBlock∧some k_≠(.slice Ao68 y410.length co68 : Value).ownBlock∧some k_≠(.slice Ao82 y421.length co82 : Value).ownBlock∧some k_≠(.slice Ao80 y435.length co80 : Value).ownBlock∧some k_≠(v447 : Value).ownBlock∧some k_≠(v456 : Value).ownBlock∧k_≠gb379∧k_≠gb387)) (V_upm HO431.out (fun _ hk=>⟨⟨hk.1.1.1.1,⟨hk.1.1.1.2.1,⟨hk.1.1.1.2.2.1,⟨hk.1.1.1.2.2.2.1,⟨hk.1.1.1.2.2.2.2.1,⟨hk.1.1.2,⟨hk.2,⟨hk.1.1.1.2.2.2.2.2.1,hk.1.1.1.2.2.2.2.2.2⟩⟩⟩⟩⟩⟩⟩⟩,hk.1.2⟩)) hg hat)
   have n10_:=Aside0.mk (Kd.V_afterv (ok:=(fun k_=>some k_≠(.slice Ao29 t394.length co29 : Value).ownBlock∧some k_≠(.slice Ao17 t381.length co17 : Value).ownBlock∧some k_≠(.slice Ao68 y410.length co68 : Value).ownBlock∧some k_≠(.slice Ao82 y421.length co82 : Value).ownBlock∧some k_≠(.slice Ao80 y435.length co80 : Value).ownBlock∧some k_≠(v447 : Value).ownBlock∧some k_≠(v456 : Value).ownBlock∧k_≠gb379∧k_≠gb387)) (V_upm HO445.out (fun _ hk=>⟨⟨hk.1.1.1.1,⟨hk.1.1.1.2.1,⟨hk.1.1.1.2.2.1,⟨hk.1.1.1.2.2.2.1,⟨hk.1.1.1.2.2.2.2.1,⟨hk.1.1.2,⟨hk.2,⟨hk.1.1.1.2.2.2.2.2.1,hk.1.1.1.2.2.2.2.2.2⟩⟩⟩⟩⟩⟩⟩⟩,hk.1.2⟩)) hg hat)
   have n11_:=Aside0.mk (Kd.N_afterv (ok:=(fun k_=>some k_≠(.slice Ao28 t391.length co28 : Value).ownBlock∧some k_≠(.slice Ao17 t381.length co17 : Value).ownBlock∧some k_≠(.slice Ao68 y410.length co68 : Value).ownBlock∧some k_≠(.slice Ao82 y421.length co82 : Value).ownBlock∧some k_≠(v447 : Value).ownBlock∧some k_≠(v456 : Value).ownBlock∧k_≠gb379∧k_≠gb387)) (N_upm HO437.out (fun _ hk=>⟨⟨hk.1.1.1.1,⟨hk.1.1.1.2.1,⟨hk.1.1.1.2.2.1,⟨hk.1.1.1.2.2.2.1,⟨hk.1.1.2,⟨hk.2,⟨hk.1.1.1.2.2.2.2.1,hk.1.1.1.2.2.2.2.2⟩⟩⟩⟩⟩⟩⟩,hk.1.2⟩)) hg hat)
   have n12_:=Aside0.mk (Kd.N_afterv (ok:=(fun k_=>some k_≠(.slice Ao17 t381.length co17 : Value).ownBlock∧some k_≠(.slice Ao68 y410.length co68 : Value).ownBlock∧some k_≠(.slice Ao82 y421.length co82 : Value).ownBlock∧some k_≠(v456 : Value).ownBlock∧k_≠gb379∧k_≠gb387)) (N_upm HO448.out (fun _ hk=>⟨⟨hk.1.1.1,⟨hk.1.1.2.1,⟨hk.1.1.2.2.1,⟨hk.2,⟨hk.1.1.2.2.2.1,hk.1.1.2.2.2.2⟩⟩⟩⟩⟩,hk.1.2⟩)) hg hat)
   have n13_:=Aside0.mk (Kd.N_afterv (ok:=(fun k_=>some k_≠(.slice Ao28 t391.length co28 : Value).ownBlock∧some k_≠(.slice Ao17 t381.length co17 : Value).ownBlock∧some k_≠(.slice Ao68 y410.length co68 : Value).ownBlock∧some k_≠(.slice Ao82 y421.length co82 : Value).ownBlock∧some k_≠(.slice Ao80 y435.length co80 : Value).ownBlock∧some k_≠(v447 : Value).ownBlock∧k_≠gb379∧k_≠gb387)) (N_upm HO457.out (fun _ hk=>⟨⟨hk.1,⟨hk.2.1,⟨hk.2.2.1,⟨hk.2.2.2.1,⟨hk.2.2.2.2.1,⟨hk.2.2.2.2.2.1,⟨hk.2.2.2.2.2.2.2.1,hk.2.2.2.2.2.2.2.2⟩⟩⟩⟩⟩⟩⟩,hk.2.2.2.2.2.2.1⟩)) hg hat)
   have n14_:=Aside0.mk (hb)
   have n15_:=Aside0.mk (ho)
   clear HO_9
   clear HO_10
   clear HO_388000
   clear BK379
   clear BK387
   clear HO406
   clear HO420
   clear HO412
   clear HO423
   clear HO431
   clear HO445
   clear HO437
   clear HO448
   clear HO457
   clear HB
   clear HO451
   have HO_9:=n0_
   have HO_10:=n1_
   have HO_388000:=n2_
   have BK379:=n3_
   have BK387:=n4_
   have HO406:=n5_
   have HO420:=n6_
   have HO412:=n7_
   have HO423:=n8_
   have HO431:=n9_
   have HO445:=n10_
   have HO437:=n11_
   have HO448:=n12_
   have HO457:=n13_
   have HB:=n14_
   have HO454:=n15_
   clear n0_ n1_ n2_ n3_ n4_ n5_ n6_ n7_ n8_ n9_ n10_ n11_ n12_ n13_ n14_ n15_
   clear ho hb hg hat
   refine hK.out _ _ ⟨(blk_cell BK387.out 0).trans rfl,(blk_cell BK387.out 1).trans rfl,(blk_cell BK387.out 2).trans rfl,(blk_cell BK387.out 3).trans rfl⟩ (fun hHeld=>?_)
   clear hK K
   refine norm_ (a':=?_) ?_ ?_
   rotate_left
   ·show Act.put _ (some 76) _=_
    simp only [Act.put,List.setIfInBounds_toArray,List.set_cons_zero,List.set_cons_succ,i64_w,i32_w]
    rfl
   exact norm_ (by simp only [putAll,Act.put,List.setIfInBounds_toArray,List.set_cons_zero,List.set_cons_succ]) (hCont (v450,v453,v456) _ ⟨hHeld,(V_upm HO406.out (fun _ hk=>⟨hk.1.2.2.1,⟨hk.1.2.2.2.1,⟨hk.1.2.2.2.2.1,⟨hk.1.2.2.2.2.2.1,⟨hk.2,⟨hk.1.2.2.2.2.2.2.1,⟨hk.1.1,⟨hk.1.2.1,⟨hk.1.2.2.2.2.2.2.2.1,hk.1.2.2.2.2.2.2.2.2⟩⟩⟩⟩⟩⟩⟩⟩⟩)),(N_upm HO412.out (fun _ hk=>⟨hk.1.2.2.1,⟨hk.1.2.2.2.1,⟨hk.1.2.2.2.2.1,⟨hk.2,⟨hk.1.2.2.2.2.2.1,⟨hk.1.2.1,⟨hk.1.1,⟨hk.1.2.2.2.2.2.2.1,hk.1.2.2.2.2.2.2.2⟩⟩⟩⟩⟩⟩⟩⟩)),(V_upm HO420.out (fun _ hk=>⟨hk.1.2.2.1,⟨hk.1.2.2.2.1,⟨hk.1.2.2.2.2.1,⟨hk.1.2.2.2.2.2.1,⟨hk.2,⟨hk.1.2.2.2.2.2.2.1,⟨hk.1.1,⟨hk.1.2.1,⟨hk.1.2.2.2.2.2.2.2.1,hk.1.2.2.2.2.2.2.2.2⟩⟩⟩⟩⟩⟩⟩⟩⟩)),(N_upm HO423.out (fun _ hk=>⟨hk.1.2.1,⟨hk.1.2.2.1,⟨hk.2,⟨hk.1.2.2.2.1,⟨hk.1.1,⟨hk.1.2.2.2.2.1,hk.1.2.2.2.2.2⟩⟩⟩⟩⟩⟩)),(V_upm HO431.out (fun _ hk=>⟨hk.1.2.2.1,⟨hk.1.2.2.2.1,⟨hk.1.2.2.2.2.1,⟨hk.1.2.2.2.2.2.1,⟨hk.2,⟨hk.1.2.2.2.2.2.2.1,⟨hk.1.1,⟨hk.1.2.1,⟨hk.1.2.2.2.2.2.2.2.1,hk.1.2.2.2.2.2.2.2.2⟩⟩⟩⟩⟩⟩⟩⟩⟩)),(N_upm HO437.out (fun _ hk=>⟨hk.1.2.2.1,⟨hk.1.2.2.2.1,⟨hk.1.2.2.2.2.1,⟨hk.2,⟨hk.1.2.2.2.2.2.1,⟨hk.1.2.1,⟨hk.1.1,⟨hk.1.2.2.2.2.2.2.1,hk.1.2.2.2.2.2.2.2⟩⟩⟩⟩⟩⟩⟩⟩)),(V_upm HO445.out (fun _ hk=>⟨hk.1.2.2.1,⟨hk.1.2.2.2.1,⟨hk.1.2.2.2.2.1,⟨hk.1.2.2.2.2.2.1,⟨hk.2,⟨hk.1.2.2.2.2.2.2.1,⟨hk.1.1,⟨hk.1.2.1,⟨hk.1.2.2.2.2.2.2.2.1,hk.1.2.2.2.2.2.2.2.2⟩⟩⟩⟩⟩⟩⟩⟩⟩)),(N_upm HO448.out (fun _ hk=>⟨hk.1.2.1,⟨hk.1.2.2.1,⟨hk.2,⟨hk.1.2.2.2.1,⟨hk.1.1,⟨hk.1.2.2.2.2.1,hk.1.2.2.2.2.2⟩⟩⟩⟩⟩⟩)),(N_upm HO454.out (fun _ hk=>⟨hk.2.2.1,⟨hk.2.2.2.1,⟨hk.2.2.2.2.1,⟨hk.2.2.2.2.2.1,⟨hk.2.2.2.2.2.2.1,⟨hk.1,⟨hk.2.1,⟨hk.2.2.2.2.2.2.2.1,hk.2.2.2.2.2.2.2.2⟩⟩⟩⟩⟩⟩⟩⟩)),(N_upm HO457.out (fun _ hk=>⟨hk.1.2.2.1,⟨hk.1.2.2.2.1,⟨hk.1.2.2.2.2.1,⟨hk.1.2.2.2.2.2.1,⟨hk.2,⟨hk.1.2.1,⟨hk.1.1,⟨hk.1.2.2.2.2.2.2.1,hk.1.2.2.2.2.2.2.2⟩⟩⟩⟩⟩⟩⟩⟩)),(R_up HO_10.out),(R_up HO_388000.out),(N_upm HO_9.out (fun _ hk=>⟨hk.1.2.2.1,⟨hk.1.2.2.2.1,⟨hk.1.2.2.2.2.1,⟨hk.1.2.2.2.2.2.1,⟨hk.2,⟨hk.1.2.2.2.2.2.2.1,⟨hk.1.1,⟨hk.1.2.1,⟨hk.1.2.2.2.2.2.2.2.1,hk.1.2.2.2.2.2.2.2.2⟩⟩⟩⟩⟩⟩⟩⟩⟩)),(blk_up BK379.out),(blk_up BK387.out),(below_go HB.out)⟩)
 ·skip
  refine Kd.N_lit_step (Kd.slice 41 k41) _ 27 ?hg (N':=78) ?hd (xs:=([t394] : List (List (S41)))) (inner:=[.slice Ao29 t394.length co29]) (ok:=(fun k_=>some k_≠(.slice Ao28 t391.length co28 : Value).ownBlock∧some k_≠(.slice Ao17 t381.length co17 : Value).ownBlock∧some k_≠(.slice Ao68 y410.length co68 : Value).ownBlock∧some k_≠(.slice Ao82 y421.length co82 : Value).ownBlock∧some k_≠(.slice Ao80 y435.length co80 : Value).ownBlock∧some k_≠(v447 : Value).ownBlock∧k_≠gb379∧k_≠gb387)) (okp:=(fun k_=>some k_≠(.slice Ao28 t391.length co28 : Value).ownBlock∧some k_≠(.slice Ao17 t381.length co17 : Value).ownBlock∧some k_≠(.slice Ao68 y410.length co68 : Value).ownBlock∧some k_≠(.slice Ao82 y421.length co82 : Value).ownBlock∧some k_≠(.slice Ao80 y435.length co80 : Value).ownBlock∧some k_≠(v447 : Value).ownBlock∧k_≠gb379∧k_≠gb387)) ?hr ?hp (fun _ hk=>hk) ((show ∀ k_,w83.heap.size≤k_→(fun k_=>some k_≠(.slice Ao28 t391.length co28 : Value).ownBlock∧some k_≠(.slice Ao17 t381.length co17 : Value).ownBlock∧some k_≠(.slice Ao68 y410.length co68 : Value).ownBlock∧some k_≠(.slice Ao82 y421.length co82 : Value).ownBlock∧some k_≠(.slice Ao80 y435.length co80 : Value).ownBlock∧some k_≠(v447 : Value).ownBlock∧k_≠gb379∧k_≠gb387) k_ from fun k_ hk=>⟨Kd.fresh' (Kd.N_lt (N_up HO_9.out)) k_ hk,Kd.fresh' (Kd.R_lt (R_up HO_388000.out)) k_ hk,Kd.fresh' (Kd.N_lt (N_up HO412.out)) k_ hk,Kd.fresh' (Kd.N_lt (N_up HO423.out)) k_ hk,Kd.fresh' (Kd.N_lt (N_up HO437.out)) k_ hk,Kd.fresh' (Kd.N_lt (N_up HO448.out)) k_ hk,Kd.freshB (blk_up BK379.out) k_ hk,Kd.freshB (blk_up BK387.out) k_ hk⟩) _ (Nat.le_refl _)) (Below.refl _ _) (Nat.le_refl _) (by simp) ?_;(case hd=>rfl);(case hg=>rfl);(case hr=>first|(go_simp;done)|(go_simp;rfl));(case hp=>exact (Reps.one (show Kd.FK (Kd.slice 41 k41) _ _ t394 [.slice Ao29 t394.length co29] from (Kd.FK_slice_mk (Kd.R_reads' (Kd.R_mono (ok':=(fun k_=>some k_≠(.slice Ao28 t391.length co28 : Value).ownBlock∧some k_≠(.slice Ao17 t381.length co17 : Value).ownBlock∧some k_≠(.slice Ao68 y410.length co68 : Value).ownBlock∧some k_≠(.slice Ao82 y421.length co82 : Value).ownBlock∧some k_≠(.slice Ao80 y435.length co80 : Value).ownBlock∧some k_≠(v447 : Value).ownBlock∧k_≠gb379∧k_≠gb387)) (Kd.R_types (Kd.R_types (Kd.R_apart' (Kd.R_apart' (Kd.R_apart' (Kd.R_apart' (Kd.R_apart' (Kd.R_apart' (HO_10.out) (Kd.N_typed HO_9.out) (by decide)) (Kd.R_typed HO_388000.out) (by decide)) (Kd.N_typed HO412.out) (by decide)) (Kd.N_typed HO423.out) (by decide)) (Kd.N_typed HO437.out) (by decide)) (Kd.N_typed HO448.out) (by decide)) BK379.out (by decide)) BK387.out (by decide)) (fun k_ hk=>⟨hk.1.1.1.1.1.1.1.2,⟨hk.1.1.1.1.1.1.2,⟨hk.1.1.1.1.1.2,⟨hk.1.1.1.1.2,⟨hk.1.1.1.2,⟨hk.1.1.2,⟨hk.1.2,hk.2⟩⟩⟩⟩⟩⟩⟩))).2.1 (Kd.R_F (Kd.R_mono (ok':=(fun k_=>some k_≠(.slice Ao28 t391.length co28 : Value).ownBlock∧some k_≠(.slice Ao17 t381.length co17 : Value).ownBlock∧some k_≠(.slice Ao68 y410.length co68 : Value).ownBlock∧some k_≠(.slice Ao82 y421.length co82 : Value).ownBlock∧some k_≠(.slice Ao80 y435.length co80 : Value).ownBlock∧some k_≠(v447 : Value).ownBlock∧k_≠gb379∧k_≠gb387)) (Kd.R_types (Kd.R_types (Kd.R_apart' (Kd.R_apart' (Kd.R_apart' (Kd.R_apart' (Kd.R_apart' (Kd.R_apart' (HO_10.out) (Kd.N_typed HO_9.out) (by decide)) (Kd.R_typed HO_388000.out) (by decide)) (Kd.N_typed HO412.out) (by decide)) (Kd.N_typed HO423.out) (by decide)) (Kd.N_typed HO437.out) (by decide)) (Kd.N_typed HO448.out) (by decide)) BK379.out (by decide)) BK387.out (by decide)) (fun k_ hk=>⟨hk.1.1.1.1.1.1.1.2,⟨hk.1.1.1.1.1.1.2,⟨hk.1.1.1.1.1.2,⟨hk.1.1.1.1.2,⟨hk.1.1.1.2,⟨hk.1.1.2,⟨hk.1.2,hk.2⟩⟩⟩⟩⟩⟩⟩))))) (Reps.none _ _)))
  intro v456 w84 ho85 hb hg_ hnew_
  clear hg_ hnew_
  (first|rw [← Ny455.out] at ho85|(simp only [Int.reduceToNat] at ho85;rw [← Ny455.out] at ho85))
  have n0_:=Aside0.mk (Kd.N_elder' (N_up HO_9.out) (Kd.N_base ho85) hb)
  have n1_:=Aside0.mk (Kd.R_below (R_up HO_10.out) hb)
  have n2_:=Aside0.mk (Kd.R_below (R_up HO_388000.out) hb)
  have n3_:=Aside0.mk (Kd.V_elder' (V_up HO406.out) (Kd.N_base ho85) hb)
  have n4_:=Aside0.mk (Kd.V_elder' (V_up HO420.out) (Kd.N_base ho85) hb)
  have n5_:=Aside0.mk (Kd.N_elder' (N_up HO412.out) (Kd.N_base ho85) hb)
  have n6_:=Aside0.mk (Kd.N_elder' (N_up HO423.out) (Kd.N_base ho85) hb)
  have n7_:=Aside0.mk (Kd.V_elder' (V_up HO431.out) (Kd.N_base ho85) hb)
  have n8_:=Aside0.mk (Kd.V_elder' (V_up HO445.out) (Kd.N_base ho85) hb)
  have n9_:=Aside0.mk (Kd.N_elder' (N_up HO437.out) (Kd.N_base ho85) hb)
  have n10_:=Aside0.mk (Kd.N_elder' (N_up HO448.out) (Kd.N_base ho85) hb)
  have n11_:=Aside0.mk (Kd.N_lower ho85 (below_size (below_go HB.out)))
  have n12_:=Aside0.mk (blk_below (blk_up BK379.out) hb)
  have n13_:=Aside0.mk (blk_below (blk_up BK387.out) hb)
  have n14_:=Aside0.mk (below_step (below_go HB.out) hb)
  clear HO_9
  clear HO_10
  clear HO_388000
  clear HO406
  clear HO420
  clear HO412
  clear HO423
  clear HO431
  clear HO445
  clear HO437
  clear HO448
  clear BK379
  clear BK387
  clear HB
  have HO_9:=n0_
  have HO_10:=n1_
  have HO_388000:=n2_
  have HO406:=n3_
  have HO420:=n4_
  have HO412:=n5_
  have HO423:=n6_
  have HO431:=n7_
  have HO445:=n8_
  have HO437:=n9_
  have HO448:=n10_
  have HO457:=n11_
  have BK379:=n12_
  have BK387:=n13_
  have HB:=n14_
  clear n0_ n1_ n2_ n3_ n4_ n5_ n6_ n7_ n8_ n9_ n10_ n11_ n12_ n13_ n14_
  clear hb ho85
  refine hK.out _ _ ⟨(blk_cell BK387.out 0).trans rfl,(blk_cell BK387.out 1).trans rfl,(blk_cell BK387.out 2).trans rfl,(blk_cell BK387.out 3).trans rfl⟩ (fun hHeld=>?_)
  clear hK K
  refine norm_ (a':=?_) ?_ ?_
  rotate_left
  ·show Act.put _ (some 78) _=_
   simp only [Act.put,List.setIfInBounds_toArray,List.set_cons_zero,List.set_cons_succ,i64_w,i32_w]
   rfl
  refine one_ (i:=1) (N:=some 74) #[true,true,true,false,true,true,false,false,true,false,false] rfl rfl (one_of HT_.out (by kernel_rfl)) (by decide) (fun K hK=>?_)
  refine Kd.N_lit_step (Kd.slice 41 k41) _ 27 ?hg (N':=74) ?hd (xs:=([] : List (List (S41)))) (inner:=[]) (ok:=(fun k_=>some k_≠(.slice Ao28 t391.length co28 : Value).ownBlock∧some k_≠(.slice Ao29 t394.length co29 : Value).ownBlock∧some k_≠(.slice Ao17 t381.length co17 : Value).ownBlock∧some k_≠(.slice Ao68 y410.length co68 : Value).ownBlock∧some k_≠(.slice Ao82 y421.length co82 : Value).ownBlock∧some k_≠(.slice Ao80 y435.length co80 : Value).ownBlock∧some k_≠(v447 : Value).ownBlock∧some k_≠(v456 : Value).ownBlock∧k_≠gb379∧k_≠gb387)) (okp:=(fun k_=>some k_≠(.slice Ao28 t391.length co28 : Value).ownBlock∧some k_≠(.slice Ao29 t394.length co29 : Value).ownBlock∧some k_≠(.slice Ao17 t381.length co17 : Value).ownBlock∧some k_≠(.slice Ao68 y410.length co68 : Value).ownBlock∧some k_≠(.slice Ao82 y421.length co82 : Value).ownBlock∧some k_≠(.slice Ao80 y435.length co80 : Value).ownBlock∧some k_≠(v447 : Value).ownBlock∧some k_≠(v456 : Value).ownBlock∧k_≠gb379∧k_≠gb387)) ?hr ?hp (fun _ hk=>hk) ((show ∀ k_,w84.heap.size≤k_→(fun k_=>some k_≠(.slice Ao28 t391.length co28 : Value).ownBlock∧some k_≠(.slice Ao29 t394.length co29 : Value).ownBlock∧some k_≠(.slice Ao17 t381.length co17 : Value).ownBlock∧some k_≠(.slice Ao68 y410.length co68 : Value).ownBlock∧some k_≠(.slice Ao82 y421.length co82 : Value).ownBlock∧some k_≠(.slice Ao80 y435.length co80 : Value).ownBlock∧some k_≠(v447 : Value).ownBlock∧some k_≠(v456 : Value).ownBlock∧k_≠gb379∧k_≠gb387) k_ from fun k_ hk=>⟨Kd.fresh' (Kd.N_lt (N_up HO_9.out)) k_ hk,Kd.fresh' (Kd.R_lt (R_up HO_10.out)) k_ hk,Kd.fresh' (Kd.R_lt (R_up HO_388000.out)) k_ hk,Kd.fresh' (Kd.N_lt (N_up HO412.out)) k_ hk,Kd.fresh' (Kd.N_lt (N_up HO423.out)) k_ hk,Kd.fresh' (Kd.N_lt (N_up HO437.out)) k_ hk,Kd.fresh' (Kd.N_lt (N_up HO448.out)) k_ hk,Kd.fresh' (Kd.N_lt (N_up HO457.out)) k_ hk,Kd.freshB (blk_up BK379.out) k_ hk,Kd.freshB (blk_up BK387.out) k_ hk⟩) _ (Nat.le_refl _)) (Below.refl _ _) (Nat.le_refl _) (by simp) ?_;(case hd=>rfl);(case hg=>rfl);(case hr=>first|(go_simp;done)|(go_simp;rfl));(case hp=>exact (Reps.none _ _))
  intro v450 w86 ho87 hb hg_ hnew_
  clear hg_ hnew_
  (first|rw [← Ny449.out] at ho87|(simp only [Int.reduceToNat] at ho87;rw [← Ny449.out] at ho87))
  have n0_:=Aside0.mk (Kd.N_elder' (N_up HO_9.out) (Kd.N_base ho87) hb)
  have n1_:=Aside0.mk (Kd.R_below (R_up HO_10.out) hb)
  have n2_:=Aside0.mk (Kd.R_below (R_up HO_388000.out) hb)
  have n3_:=Aside0.mk (Kd.V_elder' (V_up HO406.out) (Kd.N_base ho87) hb)
  have n4_:=Aside0.mk (Kd.V_elder' (V_up HO420.out) (Kd.N_base ho87) hb)
  have n5_:=Aside0.mk (Kd.N_elder' (N_up HO412.out) (Kd.N_base ho87) hb)
  have n6_:=Aside0.mk (Kd.N_elder' (N_up HO423.out) (Kd.N_base ho87) hb)
  have n7_:=Aside0.mk (Kd.V_elder' (V_up HO431.out) (Kd.N_base ho87) hb)
  have n8_:=Aside0.mk (Kd.V_elder' (V_up HO445.out) (Kd.N_base ho87) hb)
  have n9_:=Aside0.mk (Kd.N_elder' (N_up HO437.out) (Kd.N_base ho87) hb)
  have n10_:=Aside0.mk (Kd.N_elder' (N_up HO448.out) (Kd.N_base ho87) hb)
  have n11_:=Aside0.mk (Kd.N_elder' (N_up HO457.out) (Kd.N_base ho87) hb)
  have n12_:=Aside0.mk (Kd.N_lower ho87 (below_size (below_go HB.out)))
  have n13_:=Aside0.mk (blk_below (blk_up BK379.out) hb)
  have n14_:=Aside0.mk (blk_below (blk_up BK387.out) hb)
  have n15_:=Aside0.mk (below_step (below_go HB.out) hb)
  clear HO_9
  clear HO_10
  clear HO_388000
  clear HO406
  clear HO420
  clear HO412
  clear HO423
  clear HO431
  clear HO445
  clear HO437
  clear HO448
  clear HO457
  clear BK379
  clear BK387
  clear HB
  have HO_9:=n0_
  have HO_10:=n1_
  have HO_388000:=n2_
  have HO406:=n3_
  have HO420:=n4_
  have HO412:=n5_
  have HO423:=n6_
  have HO431:=n7_
  have HO445:=n8_
  have HO437:=n9_
  have HO448:=n10_
  have HO457:=n11_
  have HO451:=n12_
  have BK379:=n13_
  have BK387:=n14_
  have HB:=n15_
  clear n0_ n1_ n2_ n3_ n4_ n5_ n6_ n7_ n8_ n9_ n10_ n11_ n12_ n13_ n14_ n15_
  clear hb ho87
  refine hK.out _ _ ⟨(blk_cell BK387.out 0).trans rfl,(blk_cell BK387.out 1).trans rfl,(blk_cell BK387.out 2).trans rfl,(blk_cell BK387.out 3).trans rfl⟩ (fun hHeld=>?_)
  clear hK K
  refine norm_ (a':=?_) ?_ ?_
  rotate_left
  ·show Act.put _ (some 74) _=_
   simp only [Act.put,List.setIfInBounds_toArray,List.set_cons_zero,List.set_cons_succ,i64_w,i32_w]
   rfl
  refine one_ (i:=3) (N:=some 76) #[true,true,true,true,true,true,false,false,true,false,false] rfl rfl (one_of HT_.out (by kernel_rfl)) (by decide) (fun K hK=>?_)
  refine Kd.N_append_rows_step (Kd.slice 41 k41) (w0:=w) w.heap.size (by rfl) (.tmp 74) (.tmp 75) 25 27 (.slice none 0 0) 24 rfl Try.underlying25 info27 rfl (by decide) (by omega) v450 y449 t391 _ _ _ (fun k_=>some k_≠(.slice Ao29 t394.length co29 : Value).ownBlock∧some k_≠(.slice Ao17 t381.length co17 : Value).ownBlock∧some k_≠(.slice Ao68 y410.length co68 : Value).ownBlock∧some k_≠(.slice Ao82 y421.length co82 : Value).ownBlock∧some k_≠(.slice Ao80 y435.length co80 : Value).ownBlock∧some k_≠(v447 : Value).ownBlock∧some k_≠(v456 : Value).ownBlock∧k_≠gb379∧k_≠gb387) (fun k_=>((fun k_=>some k_≠(.slice Ao29 t394.length co29 : Value).ownBlock∧some k_≠(.slice Ao17 t381.length co17 : Value).ownBlock∧some k_≠(.slice Ao68 y410.length co68 : Value).ownBlock∧some k_≠(.slice Ao82 y421.length co82 : Value).ownBlock∧some k_≠(.slice Ao80 y435.length co80 : Value).ownBlock∧some k_≠(v447 : Value).ownBlock∧some k_≠(v456 : Value).ownBlock∧k_≠gb379∧k_≠gb387)) k_∧some k_≠(v450 : Value).ownBlock) rfl rfl ?aO ?aR (fun _ hk=>hk) ?aF ?aB ?aS ?aL ?_
  (case aR=>exact (by skip;exact Kd.N_F (Kd.N_mono (ok':=(fun k_=>((fun k_=>some k_≠(.slice Ao29 t394.length co29 : Value).ownBlock∧some k_≠(.slice Ao17 t381.length co17 : Value).ownBlock∧some k_≠(.slice Ao68 y410.length co68 : Value).ownBlock∧some k_≠(.slice Ao82 y421.length co82 : Value).ownBlock∧some k_≠(.slice Ao80 y435.length co80 : Value).ownBlock∧some k_≠(v447 : Value).ownBlock∧some k_≠(v456 : Value).ownBlock∧k_≠gb379∧k_≠gb387)) k_∧some k_≠(v450 : Value).ownBlock)) (HO_9.out) (fun k_ hk=>⟨⟨hk.1.1.1.1,⟨hk.1.1.1.2.1,⟨hk.1.1.1.2.2.1,⟨hk.1.1.1.2.2.2.1,⟨hk.1.1.1.2.2.2.2.1,⟨hk.1.1.2,⟨hk.1.2,⟨hk.1.1.1.2.2.2.2.2.1,hk.1.1.1.2.2.2.2.2.2⟩⟩⟩⟩⟩⟩⟩⟩,hk.2⟩))))
  (case aB=>exact (below_go HB.out))
  (case aF=>exact (fun k_ hk=>⟨Kd.fresh' (Kd.R_lt (R_up HO_10.out)) k_ hk,Kd.fresh' (Kd.R_lt (R_up HO_388000.out)) k_ hk,Kd.fresh' (Kd.N_lt (N_up HO412.out)) k_ hk,Kd.fresh' (Kd.N_lt (N_up HO423.out)) k_ hk,Kd.fresh' (Kd.N_lt (N_up HO437.out)) k_ hk,Kd.fresh' (Kd.N_lt (N_up HO448.out)) k_ hk,Kd.fresh' (Kd.N_lt (N_up HO457.out)) k_ hk,Kd.freshB (blk_up BK379.out) k_ hk,Kd.freshB (blk_up BK387.out) k_ hk⟩))
  (case aO=>exact (N_upm HO451.out (fun _ hk=>⟨hk.2.1,⟨hk.2.2.1,⟨hk.2.2.2.1,⟨hk.2.2.2.2.1,⟨hk.2.2.2.2.2.1,⟨hk.2.2.2.2.2.2.1,⟨hk.2.2.2.2.2.2.2.1,⟨hk.2.2.2.2.2.2.2.2.1,hk.2.2.2.2.2.2.2.2.2⟩⟩⟩⟩⟩⟩⟩⟩)))
  (case aS=>exact (below_size (below_go HB.out)))
  (case aL=>have:=LMc50.out;omega)
  intro v453 w88 ho hb hg hat
  rw [← Ny452.out] at ho
  have n0_:=Aside0.mk (Kd.N_afterv (ok:=(fun k_=>some k_≠(.slice Ao29 t394.length co29 : Value).ownBlock∧some k_≠(.slice Ao17 t381.length co17 : Value).ownBlock∧some k_≠(.slice Ao68 y410.length co68 : Value).ownBlock∧some k_≠(.slice Ao82 y421.length co82 : Value).ownBlock∧some k_≠(.slice Ao80 y435.length co80 : Value).ownBlock∧some k_≠(v447 : Value).ownBlock∧some k_≠(v456 : Value).ownBlock∧k_≠gb379∧k_≠gb387)) (N_upm HO_9.out (fun _ hk=>⟨⟨hk.1.1.1.1,⟨hk.1.1.1.2.1,⟨hk.1.1.1.2.2.1,⟨hk.1.1.1.2.2.2.1,⟨hk.1.1.1.2.2.2.2.1,⟨hk.1.1.2,⟨hk.1.2,⟨hk.1.1.1.2.2.2.2.2.1,hk.1.1.1.2.2.2.2.2.2⟩⟩⟩⟩⟩⟩⟩⟩,hk.2⟩)) hg hat)
  have n1_:=Aside0.mk (Kd.R_over' (R_up HO_10.out) (Kd.N_typed (N_up HO451.out)) (by decide) hg)
  have n2_:=Aside0.mk (Kd.R_over' (R_up HO_388000.out) (Kd.N_typed (N_up HO451.out)) (by decide) hg)
  have n3_:=Aside0.mk (blk_grown (blk_up BK379.out) hg (Kd.N_ne HO451.out BK379.out (by decide)))
  have n4_:=Aside0.mk (blk_grown (blk_up BK387.out) hg (Kd.N_ne HO451.out BK387.out (by decide)))
  have n5_:=Aside0.mk (Kd.V_afterv (ok:=(fun k_=>some k_≠(.slice Ao29 t394.length co29 : Value).ownBlock∧some k_≠(.slice Ao17 t381.length co17 : Value).ownBlock∧some k_≠(.slice Ao68 y410.length co68 : Value).ownBlock∧some k_≠(.slice Ao82 y421.length co82 : Value).ownBlock∧some k_≠(.slice Ao80 y435.length co80 : Value).ownBlock∧some k_≠(v447 : Value).ownBlock∧some k_≠(v456 : Value).ownBlock∧k_≠gb379∧k_≠gb387)) (V_upm HO406.out (fun _ hk=>⟨⟨hk.1.1.1.1,⟨hk.1.1.1.2.1,⟨hk.1.1.1.2.2.1,⟨hk.1.1.1.2.2.2.1,⟨hk.1.1.1.2.2.2.2.1,⟨hk.1.1.2,⟨hk.1.2,⟨hk.1.1.1.2.2.2.2.2.1,hk.1.1.1.2.2.2.2.2.2⟩⟩⟩⟩⟩⟩⟩⟩,hk.2⟩)) hg hat)
  have n6_:=Aside0.mk (Kd.V_afterv (ok:=(fun k_=>some k_≠(.slice Ao29 t394.length co29 : Value).ownBlock∧some k_≠(.slice Ao17 t381.length co17 : Value).ownBlock∧some k_≠(.slice Ao68 y410.length co68 : Value).ownBlock∧some k_≠(.slice Ao82 y421.length co82 : Value).ownBlock∧some k_≠(.slice Ao80 y435.length co80 : Value).ownBlock∧some k_≠(v447 : Value).ownBlock∧some k_≠(v456 : Value).ownBlock∧k_≠gb379∧k_≠gb387)) (V_upm HO420.out (fun _ hk=>⟨⟨hk.1.1.1.1,⟨hk.1.1.1.2.1,⟨hk.1.1.1.2.2.1,⟨hk.1.1.1.2.2.2.1,⟨hk.1.1.1.2.2.2.2.1,⟨hk.1.1.2,⟨hk.1.2,⟨hk.1.1.1.2.2.2.2.2.1,hk.1.1.1.2.2.2.2.2.2⟩⟩⟩⟩⟩⟩⟩⟩,hk.2⟩)) hg hat)
  have n7_:=Aside0.mk (Kd.N_afterv (ok:=(fun k_=>some k_≠(.slice Ao28 t391.length co28 : Value).ownBlock∧some k_≠(.slice Ao17 t381.length co17 : Value).ownBlock∧some k_≠(.slice Ao82 y421.length co82 : Value).ownBlock∧some k_≠(.slice Ao80 y435.length co80 : Value).ownBlock∧some k_≠(v447 : Value).ownBlock∧some k_≠(v456 : Value).ownBlock∧k_≠gb379∧k_≠gb387)) (N_upm HO412.out (fun _ hk=>⟨⟨hk.1.1.1.1,⟨hk.1.1.1.2.1,⟨hk.1.1.1.2.2.1,⟨hk.1.1.1.2.2.2.1,⟨hk.1.1.2,⟨hk.1.2,⟨hk.1.1.1.2.2.2.2.1,hk.1.1.1.2.2.2.2.2⟩⟩⟩⟩⟩⟩⟩,hk.2⟩)) hg hat)
  have n8_:=Aside0.mk (Kd.N_afterv (ok:=(fun k_=>some k_≠(.slice Ao17 t381.length co17 : Value).ownBlock∧some k_≠(.slice Ao80 y435.length co80 : Value).ownBlock∧some k_≠(v447 : Value).ownBlock∧some k_≠(v456 : Value).ownBlock∧k_≠gb379∧k_≠gb387)) (N_upm HO423.out (fun _ hk=>⟨⟨hk.1.1.1.1,⟨hk.1.1.1.2.1,⟨hk.1.1.2,⟨hk.1.2,⟨hk.1.1.1.2.2.1,hk.1.1.1.2.2.2⟩⟩⟩⟩⟩,hk.2⟩)) hg hat)
  have n9_:=Aside0.mk (Kd.V_afterv (ok:=(fun k_=>some k_≠(.slice Ao29 t394.length co29 : Value).ownBlock∧some k_≠(.slice Ao17 t381.length co17 : Value).ownBlock∧some k_≠(.slice Ao68 y410.length co68 : Value).ownBlock∧some k_≠(.slice Ao82 y421.length co82 : Value).ownBlock∧some k_≠(.slice Ao80 y435.length co80 : Value).ownBlock∧some k_≠(v447 : Value).ownBlock∧some k_≠(v456 : Value).ownBlock∧k_≠gb379∧k_≠gb387)) (V_upm HO431.out (fun _ hk=>⟨⟨hk.1.1.1.1,⟨hk.1.1.1.2.1,⟨hk.1.1.1.2.2.1,⟨hk.1.1.1.2.2.2.1,⟨hk.1.1.1.2.2.2.2.1,⟨hk.1.1.2,⟨hk.1.2,⟨hk.1.1.1.2.2.2.2.2.1,hk.1.1.1.2.2.2.2.2.2⟩⟩⟩⟩⟩⟩⟩⟩,hk.2⟩)) hg hat)
  have n10_:=Aside0.mk (Kd.V_afterv (ok:=(fun k_=>some k_≠(.slice Ao29 t394.length co29 : Value).ownBlock∧some k_≠(.slice Ao17 t381.length co17 : Value).ownBlock∧some k_≠(.slice Ao68 y410.length co68 : Value).ownBlock∧some k_≠(.slice Ao82 y421.length co82 : Value).ownBlock∧some k_≠(.slice Ao80 y435.length co80 : Value).ownBlock∧some k_≠(v447 : Value).ownBlock∧some k_≠(v456 : Value).ownBlock∧k_≠gb379∧k_≠gb387)) (V_upm HO445.out (fun _ hk=>⟨⟨hk.1.1.1.1,⟨hk.1.1.1.2.1,⟨hk.1.1.1.2.2.1,⟨hk.1.1.1.2.2.2.1,⟨hk.1.1.1.2.2.2.2.1,⟨hk.1.1.2,⟨hk.1.2,⟨hk.1.1.1.2.2.2.2.2.1,hk.1.1.1.2.2.2.2.2.2⟩⟩⟩⟩⟩⟩⟩⟩,hk.2⟩)) hg hat)
  have n11_:=Aside0.mk (Kd.N_afterv (ok:=(fun k_=>some k_≠(.slice Ao28 t391.length co28 : Value).ownBlock∧some k_≠(.slice Ao17 t381.length co17 : Value).ownBlock∧some k_≠(.slice Ao68 y410.length co68 : Value).ownBlock∧some k_≠(.slice Ao82 y421.length co82 : Value).ownBlock∧some k_≠(v447 : Value).ownBlock∧some k_≠(v456 : Value).ownBlock∧k_≠gb379∧k_≠gb387)) (N_upm HO437.out (fun _ hk=>⟨⟨hk.1.1.1.1,⟨hk.1.1.1.2.1,⟨hk.1.1.1.2.2.1,⟨hk.1.1.1.2.2.2.1,⟨hk.1.1.2,⟨hk.1.2,⟨hk.1.1.1.2.2.2.2.1,hk.1.1.1.2.2.2.2.2⟩⟩⟩⟩⟩⟩⟩,hk.2⟩)) hg hat)
  have n12_:=Aside0.mk (Kd.N_afterv (ok:=(fun k_=>some k_≠(.slice Ao17 t381.length co17 : Value).ownBlock∧some k_≠(.slice Ao68 y410.length co68 : Value).ownBlock∧some k_≠(.slice Ao82 y421.length co82 : Value).ownBlock∧some k_≠(v456 : Value).ownBlock∧k_≠gb379∧k_≠gb387)) (N_upm HO448.out (fun _ hk=>⟨⟨hk.1.1.1,⟨hk.1.1.2.1,⟨hk.1.1.2.2.1,⟨hk.1.2,⟨hk.1.1.2.2.2.1,hk.1.1.2.2.2.2⟩⟩⟩⟩⟩,hk.2⟩)) hg hat)
  have n13_:=Aside0.mk (Kd.N_afterv (ok:=(fun k_=>some k_≠(.slice Ao28 t391.length co28 : Value).ownBlock∧some k_≠(.slice Ao17 t381.length co17 : Value).ownBlock∧some k_≠(.slice Ao68 y410.length co68 : Value).ownBlock∧some k_≠(.slice Ao82 y421.length co82 : Value).ownBlock∧some k_≠(.slice Ao80 y435.length co80 : Value).ownBlock∧some k_≠(v447 : Value).ownBlock∧k_≠gb379∧k_≠gb387)) (N_up HO457.out) hg hat)
  have n14_:=Aside0.mk (hb)
  have n15_:=Aside0.mk (ho)
  clear HO_9
  clear HO_10
  clear HO_388000
  clear BK379
  clear BK387
  clear HO406
  clear HO420
  clear HO412
  clear HO423
  clear HO431
  clear HO445
  clear HO437
  clear HO448
  clear HO457
  clear HB
  clear HO451
  have HO_9:=n0_
  have HO_10:=n1_
  have HO_388000:=n2_
  have BK379:=n3_
  have BK387:=n4_
  have HO406:=n5_
  have HO420:=n6_
  have HO412:=n7_
  have HO423:=n8_
  have HO431:=n9_
  have HO445:=n10_
  have HO437:=n11_
  have HO448:=n12_
  have HO457:=n13_
  have HB:=n14_
  have HO454:=n15_
  clear n0_ n1_ n2_ n3_ n4_ n5_ n6_ n7_ n8_ n9_ n10_ n11_ n12_ n13_ n14_ n15_
  clear ho hb hg hat
  refine hK.out _ _ ⟨(blk_cell BK387.out 0).trans rfl,(blk_cell BK387.out 1).trans rfl,(blk_cell BK387.out 2).trans rfl,(blk_cell BK387.out 3).trans rfl⟩ (fun hHeld=>?_)
  clear hK K
  refine norm_ (a':=?_) ?_ ?_
  rotate_left
  ·show Act.put _ (some 76) _=_
   simp only [Act.put,List.setIfInBounds_toArray,List.set_cons_zero,List.set_cons_succ,i64_w,i32_w]
   rfl
  exact norm_ (by simp only [putAll,Act.put,List.setIfInBounds_toArray,List.set_cons_zero,List.set_cons_succ]) (hCont (v450,v453,v456) _ ⟨hHeld,(V_upm HO406.out (fun _ hk=>⟨hk.1.2.2.1,⟨hk.1.2.2.2.1,⟨hk.1.2.2.2.2.1,⟨hk.1.2.2.2.2.2.1,⟨hk.2,⟨hk.1.2.2.2.2.2.2.1,⟨hk.1.1,⟨hk.1.2.1,⟨hk.1.2.2.2.2.2.2.2.1,hk.1.2.2.2.2.2.2.2.2⟩⟩⟩⟩⟩⟩⟩⟩⟩)),(N_upm HO412.out (fun _ hk=>⟨hk.1.2.2.1,⟨hk.1.2.2.2.1,⟨hk.1.2.2.2.2.1,⟨hk.2,⟨hk.1.2.2.2.2.2.1,⟨hk.1.2.1,⟨hk.1.1,⟨hk.1.2.2.2.2.2.2.1,hk.1.2.2.2.2.2.2.2⟩⟩⟩⟩⟩⟩⟩⟩)),(V_upm HO420.out (fun _ hk=>⟨hk.1.2.2.1,⟨hk.1.2.2.2.1,⟨hk.1.2.2.2.2.1,⟨hk.1.2.2.2.2.2.1,⟨hk.2,⟨hk.1.2.2.2.2.2.2.1,⟨hk.1.1,⟨hk.1.2.1,⟨hk.1.2.2.2.2.2.2.2.1,hk.1.2.2.2.2.2.2.2.2⟩⟩⟩⟩⟩⟩⟩⟩⟩)),(N_upm HO423.out (fun _ hk=>⟨hk.1.2.1,⟨hk.1.2.2.1,⟨hk.2,⟨hk.1.2.2.2.1,⟨hk.1.1,⟨hk.1.2.2.2.2.1,hk.1.2.2.2.2.2⟩⟩⟩⟩⟩⟩)),(V_upm HO431.out (fun _ hk=>⟨hk.1.2.2.1,⟨hk.1.2.2.2.1,⟨hk.1.2.2.2.2.1,⟨hk.1.2.2.2.2.2.1,⟨hk.2,⟨hk.1.2.2.2.2.2.2.1,⟨hk.1.1,⟨hk.1.2.1,⟨hk.1.2.2.2.2.2.2.2.1,hk.1.2.2.2.2.2.2.2.2⟩⟩⟩⟩⟩⟩⟩⟩⟩)),(N_upm HO437.out (fun _ hk=>⟨hk.1.2.2.1,⟨hk.1.2.2.2.1,⟨hk.1.2.2.2.2.1,⟨hk.2,⟨hk.1.2.2.2.2.2.1,⟨hk.1.2.1,⟨hk.1.1,⟨hk.1.2.2.2.2.2.2.1,hk.1.2.2.2.2.2.2.2⟩⟩⟩⟩⟩⟩⟩⟩)),(V_upm HO445.out (fun _ hk=>⟨hk.1.2.2.1,⟨hk.1.2.2.2.1,⟨hk.1.2.2.2.2.1,⟨hk.1.2.2.2.2.2.1,⟨hk.2,⟨hk.1.2.2.2.2.2.2.1,⟨hk.1.1,⟨hk.1.2.1,⟨hk.1.2.2.2.2.2.2.2.1,hk.1.2.2.2.2.2.2.2.2⟩⟩⟩⟩⟩⟩⟩⟩⟩)),(N_upm HO448.out (fun _ hk=>⟨hk.1.2.1,⟨hk.1.2.2.1,⟨hk.2,⟨hk.1.2.2.2.1,⟨hk.1.1,⟨hk.1.2.2.2.2.1,hk.1.2.2.2.2.2⟩⟩⟩⟩⟩⟩)),(N_upm HO454.out (fun _ hk=>⟨hk.2.2.1,⟨hk.2.2.2.1,⟨hk.2.2.2.2.1,⟨hk.2.2.2.2.2.1,⟨hk.2.2.2.2.2.2.1,⟨hk.1,⟨hk.2.1,⟨hk.2.2.2.2.2.2.2.1,hk.2.2.2.2.2.2.2.2⟩⟩⟩⟩⟩⟩⟩⟩)),(N_upm HO457.out (fun _ hk=>⟨hk.1.2.2.1,⟨hk.1.2.2.2.1,⟨hk.1.2.2.2.2.1,⟨hk.1.2.2.2.2.2.1,⟨hk.2,⟨hk.1.2.1,⟨hk.1.1,⟨hk.1.2.2.2.2.2.2.1,hk.1.2.2.2.2.2.2.2⟩⟩⟩⟩⟩⟩⟩⟩)),(R_up HO_10.out),(R_up HO_388000.out),(N_upm HO_9.out (fun _ hk=>⟨hk.1.2.2.1,⟨hk.1.2.2.2.1,⟨hk.1.2.2.2.2.1,⟨hk.1.2.2.2.2.2.1,⟨hk.2,⟨hk.1.2.2.2.2.2.2.1,⟨hk.1.1,⟨hk.1.2.1,⟨hk.1.2.2.2.2.2.2.2.1,hk.1.2.2.2.2.2.2.2.2⟩⟩⟩⟩⟩⟩⟩⟩⟩)),(blk_up BK379.out),(blk_up BK387.out),(below_go HB.out)⟩)
end Go.Proofs.Ytojbeofipedolaa.P

