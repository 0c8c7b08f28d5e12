/- Texts of OrderPlaces. Merged: Px16c. -/
import Derived.Test.YtojbeofipedolaaQOrderPlacesPx16a
import Derived.Test.YtojbeofipedolaaQOrderPlacesPx0
import Derived.Test.YtojbeofipedolaaQOrderPlacesPx4
import Derived.Test.YtojbeofipedolaaQOrderPlacesPx5
import Derived.Test.YtojbeofipedolaaQOrderPlacesPx10
import Derived.Test.YtojbeofipedolaaQOrderPlacesHOrdA
import Derived.Test.YtojbeofipedolaaQOrderPlacesHOrdE
import Derived.Test.YtojbeofipedolaaQOrderPlacesHOrdF
namespace Go.Proofs.Ytojbeofipedolaa.P
open Go.RowKit Go.Proofs.YtojbeofipedolaaW.PrintWords Go.Proofs.YtojbeofipedolaaW.PrintLast Go.Proofs.YtojbeofipedolaaW.PrintMore
attribute [local go_sem] max2_int min2_int max_two min_two max_three min_three max_four min_four   -- for this text's walks alone
set_option linter.unusedVariables false
set_option linter.unusedSimpArgs false
set_option maxHeartbeats 8000000 in
set_option maxRecDepth 100000 in
theorem thresherlaw09_OrderPlaces.calls_rest1 : thresherlaw09_OrderPlaces.calls_part.2.1 := by
 intro k a0_0 a0_1 a0_2 a0_3 a0_4 a0_5 a0_6 a0_7 a0_8 a0_9 a0_10 a0_11 A1 c1 l1 A2 c2 l2 r w hu24 hu31 HR1 HC1 HR2 HC2 t380 A4 t381 t384 t385 t386 A5 t388 A6 t391 A7 t394 A8 t397 A9 t398 A10 _ gb379 w12 GW379 GE379 w13 w15 gb387 w16 GW387 GE387 NB379_387 NB387_379 Ao17 co17 hnb18 hnc18 w20 w21 _ w22 Ao23 co23 _ w24 _ w26 Ao28 co28 Ao29 co29 w30 w32 HO383 HO390 HO393 HO396 _ _ _ wc u17 u18 u19 u20 u21 u22 u23 u24 u25 u26 u27 u28 u29 u30 u31 u32 u33 u34 u35 u36 u37 u38 u39 u40 u41 u42 u43 u44 u45 u46 u47 u49 u50 u51 u52 u53 u54 u55 u56 u57 u58 u59 u60 u61 u62 u63 u64 u65 u66 u67 u68 u69 u70 u71 u72 u73 u74 u75 u76 u77 u78 u79 u80 u81 u82 u83 u84 u85 u86 u87 u88 u89 u90 u91 u92 u93 u94 u95 u96 u97 u98 u99 u100 u101 u102 u103 u104 u105 u106 u107 kj10 HJ10 y399 Ny399 c36b0 c36b1 c37b0 c37b1 y402 Ny402 LMc38 y407 Ny407 y410 Ny410 LMc39 y413 Ny413 c40b0 c41b0 y416 Ny416 LMc42 y421 Ny421 y424 Ny424 c43b0 c43b1 c44b0 c44b1 y427 Ny427 LMc45 y432 Ny432 y435 Ny435 LMc46 y438 Ny438 c47b0 c48b0 y441 Ny441 LMc49 y446 Ny446 y449 Ny449 LMc50 y452 Ny452 y455 Ny455 LMc51 y458 Ny458 t461 A52 t464 A53 y465 Ny465 LMc54 y468 Ny468 t471 A55 t474 A56 HC57 i059 _ _ hcut59 HC406 KY59 q59 i060 _ _ q060 A60 c60 hcut60 HC420 KY60 KA60 q60 _ _ _ w58 _ _ v400 v408 w66 _ Ao68 co68 v414 w67 _ v422 w69 _ _ i071 _ _ hcut71 HC431 KY71 q71 i072 _ _ q072 A72 c72 hcut72 HC445 KY72 KA72 q72 hHeld HT_ HW_ w70 HO_9 HO_10 HO_388000 HO406 HO420 HO412 HO423 BK379 BK387 HB HO431 HO445
 intro hCont
 refine two_ (i:=0) (j:=6) (Ni:=some 61) (Nj:=some 67) #[true,true,true,true,false,true,false,false,true,true,true,false,false] #[false,true,true,true,false,true,true,false,true,true,true,false,false] rfl rfl rfl rfl (two_of HT_.out (by kernel_rfl)) (by decide) (by decide) (fun K hK=>?_) (fun K hK=>?_)
 ·skip
  refine Kd.N_lit_step (Kd.slice 41 k41) _ 27 ?hg (N':=61) ?hd (xs:=([] : List (List (S41)))) (inner:=[]) (ok:=(fun k_=>some k_≠(.slice Ao28 t391.length co28 : Value).ownBlock∧some k_≠(.slice Ao29 t394.length co29 : Value).ownBlock∧some k_≠(.slice Ao17 t381.length co17 : Value).ownBlock∧some k_≠(.slice Ao68 y410.length co68 : Value).ownBlock∧some k_≠(v422 : Value).ownBlock∧k_≠gb379∧k_≠gb387)) (okp:=(fun k_=>some k_≠(.slice Ao28 t391.length co28 : Value).ownBlock∧some k_≠(.slice Ao29 t394.length co29 : Value).ownBlock∧some k_≠(.slice Ao17 t381.length co17 : Value).ownBlock∧some k_≠(.slice Ao68 y410.length co68 : Value).ownBlock∧some k_≠(v422 : Value).ownBlock∧k_≠gb379∧k_≠gb387)) ?hr ?hp (fun _ hk=>hk) ((show ∀ k_,w70.heap.size≤k_→(fun k_=>some k_≠(.slice Ao28 t391.length co28 : Value).ownBlock∧some k_≠(.slice Ao29 t394.length co29 : Value).ownBlock∧some k_≠(.slice Ao17 t381.length co17 : Value).ownBlock∧some k_≠(.slice Ao68 y410.length co68 : Value).ownBlock∧some k_≠(v422 : Value).ownBlock∧k_≠gb379∧k_≠gb387) k_ from fun k_ hk=>⟨Kd.fresh' (Kd.N_lt (N_up HO_9.out)) k_ hk,Kd.fresh' (Kd.R_lt (R_up HO_10.out)) k_ hk,Kd.fresh' (Kd.R_lt (R_up HO_388000.out)) k_ hk,Kd.fresh' (Kd.N_lt (N_up HO412.out)) k_ hk,Kd.fresh' (Kd.N_lt (N_up HO423.out)) k_ hk,Kd.freshB (blk_up BK379.out) k_ hk,Kd.freshB (blk_up BK387.out) k_ hk⟩) _ (Nat.le_refl _)) (Below.refl _ _) (Nat.le_refl _) (by simp) ?_;(case hd=>rfl);(case hg=>rfl);(case hr=>first|(go_simp;done)|(go_simp;rfl));(case hp=>exact (Reps.none _ _))
  intro v425 w73 ho74 hb hg_ hnew_
  clear hg_ hnew_
  (first|rw [← Ny424.out] at ho74|(simp only [Int.reduceToNat] at ho74;rw [← Ny424.out] at ho74))
  have n0_:=Aside0.mk (Kd.N_elder' (N_up HO_9.out) (Kd.N_base ho74) hb)
  have n1_:=Aside0.mk (Kd.R_below (R_up HO_10.out) hb)
  have n2_:=Aside0.mk (Kd.R_below (R_up HO_388000.out) hb)
  have n3_:=Aside0.mk (Kd.V_elder' (V_up HO406.out) (Kd.N_base ho74) hb)
  have n4_:=Aside0.mk (Kd.V_elder' (V_up HO420.out) (Kd.N_base ho74) hb)
  have n5_:=Aside0.mk (Kd.N_elder' (N_up HO412.out) (Kd.N_base ho74) hb)
  have n6_:=Aside0.mk (Kd.N_elder' (N_up HO423.out) (Kd.N_base ho74) hb)
  have n7_:=Aside0.mk (Kd.V_elder' (V_up HO431.out) (Kd.N_base ho74) hb)
  have n8_:=Aside0.mk (Kd.V_elder' (V_up HO445.out) (Kd.N_base ho74) hb)
  have n9_:=Aside0.mk (Kd.N_lower ho74 (below_size (below_go HB.out)))
  have n10_:=Aside0.mk (blk_below (blk_up BK379.out) hb)
  have n11_:=Aside0.mk (blk_below (blk_up BK387.out) hb)
  have n12_:=Aside0.mk (below_step (below_go HB.out) hb)
  clear HO_9
  clear HO_10
  clear HO_388000
  clear HO406
  clear HO420
  clear HO412
  clear HO423
  clear HO431
  clear HO445
  clear BK379
  clear BK387
  clear HB
  have HO_9:=n0_
  have HO_10:=n1_
  have HO_388000:=n2_
  have HO406:=n3_
  have HO420:=n4_
  have HO412:=n5_
  have HO423:=n6_
  have HO431:=n7_
  have HO445:=n8_
  have HO426:=n9_
  have BK379:=n10_
  have BK387:=n11_
  have HB:=n12_
  clear n0_ n1_ n2_ n3_ n4_ n5_ n6_ n7_ n8_ n9_ n10_ n11_ n12_
  clear hb ho74
  refine hK.out _ _ trivial (fun hHeld=>?_)
  clear hK K
  refine norm_ (a':=?_) ?_ ?_
  rotate_left
  ·show Act.put _ (some 61) _=_
   simp only [Act.put,List.setIfInBounds_toArray,List.set_cons_zero,List.set_cons_succ,i64_w,i32_w]
   rfl
  refine two_ (i:=4) (j:=6) (Ni:=some 65) (Nj:=some 67) #[true,true,true,true,true,true,false,false,true,true,true,false,false] #[true,true,true,true,false,true,true,false,true,true,true,false,false] rfl rfl rfl rfl (two_of HT_.out (by kernel_rfl)) (by decide) (by decide) (fun K hK=>?_) (fun K hK=>?_)
  ·skip
   refine Kd.N_append_rows_step (Kd.slice 41 k41) (w0:=w) w.heap.size (by rfl) (.tmp 61) (.tmp 64) 25 27 (.slice none 0 0) 24 rfl Try.underlying25 info27 rfl (by decide) (by omega) v425 y424 y427 _ _ _ (fun k_=>some k_≠(.slice Ao29 t394.length co29 : Value).ownBlock∧some k_≠(.slice Ao17 t381.length co17 : Value).ownBlock∧some k_≠(.slice Ao68 y410.length co68 : Value).ownBlock∧some k_≠(v422 : Value).ownBlock∧k_≠gb379∧k_≠gb387) (fun k_=>((fun k_=>some k_≠(.slice Ao29 t394.length co29 : Value).ownBlock∧some k_≠(.slice Ao17 t381.length co17 : Value).ownBlock∧some k_≠(.slice Ao68 y410.length co68 : Value).ownBlock∧some k_≠(v422 : Value).ownBlock∧k_≠gb379∧k_≠gb387)) k_∧some k_≠(v425 : Value).ownBlock) rfl rfl ?aO ?aR (fun _ hk=>hk) ?aF ?aB ?aS ?aL ?_
   (case aR=>exact (by skip;exact Kd.V_F (Kd.V_mono (ok':=(fun k_=>((fun k_=>some k_≠(.slice Ao29 t394.length co29 : Value).ownBlock∧some k_≠(.slice Ao17 t381.length co17 : Value).ownBlock∧some k_≠(.slice Ao68 y410.length co68 : Value).ownBlock∧some k_≠(v422 : Value).ownBlock∧k_≠gb379∧k_≠gb387)) k_∧some k_≠(v425 : Value).ownBlock)) (HO431.out) (fun k_ hk=>⟨⟨hk.1.1.1,⟨hk.1.1.2.1,⟨hk.1.1.2.2.1,⟨hk.1.2,⟨hk.1.1.2.2.2.1,hk.1.1.2.2.2.2⟩⟩⟩⟩⟩,hk.2⟩))))
   (case aB=>exact (below_go HB.out))
   (case aF=>exact (fun k_ hk=>⟨Kd.fresh' (Kd.R_lt (R_up HO_10.out)) k_ hk,Kd.fresh' (Kd.R_lt (R_up HO_388000.out)) k_ hk,Kd.fresh' (Kd.N_lt (N_up HO412.out)) k_ hk,Kd.fresh' (Kd.N_lt (N_up HO423.out)) k_ hk,Kd.freshB (blk_up BK379.out) k_ hk,Kd.freshB (blk_up BK387.out) k_ hk⟩))
   (case aO=>exact (N_upm HO426.out (fun _ hk=>⟨hk.2.1,⟨hk.2.2.1,⟨hk.2.2.2.1,⟨hk.2.2.2.2.1,⟨hk.2.2.2.2.2.1,hk.2.2.2.2.2.2⟩⟩⟩⟩⟩)))
   (case aS=>exact (below_size (below_go HB.out)))
   (case aL=>have:=LMc45.out;omega)
   intro v433 w75 ho hb hg hat
   rw [← Ny432.out] at ho
   have n0_:=Aside0.mk (Kd.N_afterv (ok:=(fun k_=>some k_≠(.slice Ao29 t394.length co29 : Value).ownBlock∧some k_≠(.slice Ao17 t381.length co17 : Value).ownBlock∧some k_≠(.slice Ao68 y410.length co68 : Value).ownBlock∧some k_≠(v422 : Value).ownBlock∧k_≠gb379∧k_≠gb387)) (N_upm HO_9.out (fun _ hk=>⟨⟨hk.1.1.1,⟨hk.1.1.2.1,⟨hk.1.1.2.2.1,⟨hk.1.2,⟨hk.1.1.2.2.2.1,hk.1.1.2.2.2.2⟩⟩⟩⟩⟩,hk.2⟩)) hg hat)
   have n1_:=Aside0.mk (Kd.R_over' (R_up HO_10.out) (Kd.N_typed (N_up HO426.out)) (by decide) hg)
   have n2_:=Aside0.mk (Kd.R_over' (R_up HO_388000.out) (Kd.N_typed (N_up HO426.out)) (by decide) hg)
   have n3_:=Aside0.mk (blk_grown (blk_up BK379.out) hg (Kd.N_ne HO426.out BK379.out (by decide)))
   have n4_:=Aside0.mk (blk_grown (blk_up BK387.out) hg (Kd.N_ne HO426.out BK387.out (by decide)))
   have n5_:=Aside0.mk (Kd.V_afterv (ok:=(fun k_=>some k_≠(.slice Ao29 t394.length co29 : Value).ownBlock∧some k_≠(.slice Ao17 t381.length co17 : Value).ownBlock∧some k_≠(.slice Ao68 y410.length co68 : Value).ownBlock∧some k_≠(v422 : Value).ownBlock∧k_≠gb379∧k_≠gb387)) (V_upm HO406.out (fun _ hk=>⟨⟨hk.1.1.1,⟨hk.1.1.2.1,⟨hk.1.1.2.2.1,⟨hk.1.2,⟨hk.1.1.2.2.2.1,hk.1.1.2.2.2.2⟩⟩⟩⟩⟩,hk.2⟩)) hg hat)
   have n6_:=Aside0.mk (Kd.V_afterv (ok:=(fun k_=>some k_≠(.slice Ao29 t394.length co29 : Value).ownBlock∧some k_≠(.slice Ao17 t381.length co17 : Value).ownBlock∧some k_≠(.slice Ao68 y410.length co68 : Value).ownBlock∧some k_≠(v422 : Value).ownBlock∧k_≠gb379∧k_≠gb387)) (V_upm HO420.out (fun _ hk=>⟨⟨hk.1.1.1,⟨hk.1.1.2.1,⟨hk.1.1.2.2.1,⟨hk.1.2,⟨hk.1.1.2.2.2.1,hk.1.1.2.2.2.2⟩⟩⟩⟩⟩,hk.2⟩)) hg hat)
   have n7_:=Aside0.mk (Kd.N_afterv (ok:=(fun k_=>some k_≠(.slice Ao28 t391.length co28 : Value).ownBlock∧some k_≠(.slice Ao17 t381.length co17 : Value).ownBlock∧some k_≠(v422 : Value).ownBlock∧k_≠gb379∧k_≠gb387)) (N_upm HO412.out (fun _ hk=>⟨⟨hk.1.1.1,⟨hk.1.1.2.1,⟨hk.1.2,⟨hk.1.1.2.2.1,hk.1.1.2.2.2⟩⟩⟩⟩,hk.2⟩)) hg hat)
   have n8_:=Aside0.mk (Kd.N_afterv (ok:=(fun k_=>some k_≠(.slice Ao17 t381.length co17 : Value).ownBlock∧k_≠gb379∧k_≠gb387)) (N_up HO423.out) hg hat)
   have n9_:=Aside0.mk (Kd.V_afterv (ok:=(fun k_=>some k_≠(.slice Ao29 t394.length co29 : Value).ownBlock∧some k_≠(.slice Ao17 t381.length co17 : Value).ownBlock∧some k_≠(.slice Ao68 y410.length co68 : Value).ownBlock∧some k_≠(v422 : Value).ownBlock∧k_≠gb379∧k_≠gb387)) (V_upm HO431.out (fun _ hk=>⟨⟨hk.1.1.1,⟨hk.1.1.2.1,⟨hk.1.1.2.2.1,⟨hk.1.2,⟨hk.1.1.2.2.2.1,hk.1.1.2.2.2.2⟩⟩⟩⟩⟩,hk.2⟩)) hg hat)
   have n10_:=Aside0.mk (Kd.V_afterv (ok:=(fun k_=>some k_≠(.slice Ao29 t394.length co29 : Value).ownBlock∧some k_≠(.slice Ao17 t381.length co17 : Value).ownBlock∧some k_≠(.slice Ao68 y410.length co68 : Value).ownBlock∧some k_≠(v422 : Value).ownBlock∧k_≠gb379∧k_≠gb387)) (V_upm HO445.out (fun _ hk=>⟨⟨hk.1.1.1,⟨hk.1.1.2.1,⟨hk.1.1.2.2.1,⟨hk.1.2,⟨hk.1.1.2.2.2.1,hk.1.1.2.2.2.2⟩⟩⟩⟩⟩,hk.2⟩)) hg hat)
   have n11_:=Aside0.mk (hb)
   have n12_:=Aside0.mk (ho)
   clear HO_9
   clear HO_10
   clear HO_388000
   clear BK379
   clear BK387
   clear HO406
   clear HO420
   clear HO412
   clear HO423
   clear HO431
   clear HO445
   clear HB
   clear HO426
   have HO_9:=n0_
   have HO_10:=n1_
   have HO_388000:=n2_
   have BK379:=n3_
   have BK387:=n4_
   have HO406:=n5_
   have HO420:=n6_
   have HO412:=n7_
   have HO423:=n8_
   have HO431:=n9_
   have HO445:=n10_
   have HB:=n11_
   have HO434:=n12_
   clear n0_ n1_ n2_ n3_ n4_ n5_ n6_ n7_ n8_ n9_ n10_ n11_ n12_
   clear ho hb hg hat
   refine hK.out _ _ trivial (fun hHeld=>?_)
   clear hK K
   refine norm_ (a':=?_) ?_ ?_
   rotate_left
   ·show Act.put _ (some 65) _=_
    simp only [Act.put,List.setIfInBounds_toArray,List.set_cons_zero,List.set_cons_succ,i64_w,i32_w]
    rfl
   refine one_ (i:=6) (N:=some 67) #[true,true,true,true,true,true,true,false,true,true,true,false,false] rfl rfl (one_of HT_.out (by kernel_rfl)) (by decide) (fun K hK=>?_)
   refine Kd.N_lit_step (Kd.slice 41 k41) _ 27 ?hg (N':=67) ?hd (xs:=([t394] : List (List (S41)))) (inner:=[.slice Ao29 t394.length co29]) (ok:=(fun k_=>some k_≠(.slice Ao28 t391.length co28 : Value).ownBlock∧some k_≠(.slice Ao17 t381.length co17 : Value).ownBlock∧some k_≠(.slice Ao68 y410.length co68 : Value).ownBlock∧some k_≠(v422 : Value).ownBlock∧some k_≠(v433 : Value).ownBlock∧k_≠gb379∧k_≠gb387)) (okp:=(fun k_=>some k_≠(.slice Ao28 t391.length co28 : Value).ownBlock∧some k_≠(.slice Ao17 t381.length co17 : Value).ownBlock∧some k_≠(.slice Ao68 y410.length co68 : Value).ownBlock∧some k_≠(v422 : Value).ownBlock∧some k_≠(v433 : Value).ownBlock∧k_≠gb379∧k_≠gb387)) ?hr ?hp (fun _ hk=>hk) ((show ∀ k_,w75.heap.size≤k_→(fun k_=>some k_≠(.slice Ao28 t391.length co28 : Value).ownBlock∧some k_≠(.slice Ao17 t381.length co17 : Value).ownBlock∧some k_≠(.slice Ao68 y410.length co68 : Value).ownBlock∧some k_≠(v422 : Value).ownBlock∧some k_≠(v433 : Value).ownBlock∧k_≠gb379∧k_≠gb387) k_ from fun k_ hk=>⟨Kd.fresh' (Kd.N_lt (N_up HO_9.out)) k_ hk,Kd.fresh' (Kd.R_lt (R_up HO_388000.out)) k_ hk,Kd.fresh' (Kd.N_lt (N_up HO412.out)) k_ hk,Kd.fresh' (Kd.N_lt (N_up HO423.out)) k_ hk,Kd.fresh' (Kd.N_lt (N_up HO434.out)) k_ hk,Kd.freshB (blk_up BK379.out) k_ hk,Kd.freshB (blk_up BK387.out) k_ hk⟩) _ (Nat.le_refl _)) (Below.refl _ _) (Nat.le_refl _) (by simp) ?_;(case hd=>rfl);(case hg=>rfl);(case hr=>first|(go_simp;done)|(go_simp;rfl));(case hp=>exact (Reps.one (show Kd.FK (Kd.slice 41 k41) _ _ t394 [.slice Ao29 t394.length co29] from (Kd.FK_slice_mk (Kd.R_reads' (Kd.R_mono (ok':=(fun k_=>some k_≠(.slice Ao28 t391.length co28 : Value).ownBlock∧some k_≠(.slice Ao17 t381.length co17 : Value).ownBlock∧some k_≠(.slice Ao68 y410.length co68 : Value).ownBlock∧some k_≠(v422 : Value).ownBlock∧some k_≠(v433 : Value).ownBlock∧k_≠gb379∧k_≠gb387)) (Kd.R_types (Kd.R_types (Kd.R_apart' (Kd.R_apart' (Kd.R_apart' (Kd.R_apart' (Kd.R_apart' (HO_10.out) (Kd.N_typed HO_9.out) (by decide)) (Kd.R_typed HO_388000.out) (by decide)) (Kd.N_typed HO412.out) (by decide)) (Kd.N_typed HO423.out) (by decide)) (Kd.N_typed HO434.out) (by decide)) BK379.out (by decide)) BK387.out (by decide)) (fun k_ hk=>⟨hk.1.1.1.1.1.1.2,⟨hk.1.1.1.1.1.2,⟨hk.1.1.1.1.2,⟨hk.1.1.1.2,⟨hk.1.1.2,⟨hk.1.2,hk.2⟩⟩⟩⟩⟩⟩))).2.1 (Kd.R_F (Kd.R_mono (ok':=(fun k_=>some k_≠(.slice Ao28 t391.length co28 : Value).ownBlock∧some k_≠(.slice Ao17 t381.length co17 : Value).ownBlock∧some k_≠(.slice Ao68 y410.length co68 : Value).ownBlock∧some k_≠(v422 : Value).ownBlock∧some k_≠(v433 : Value).ownBlock∧k_≠gb379∧k_≠gb387)) (Kd.R_types (Kd.R_types (Kd.R_apart' (Kd.R_apart' (Kd.R_apart' (Kd.R_apart' (Kd.R_apart' (HO_10.out) (Kd.N_typed HO_9.out) (by decide)) (Kd.R_typed HO_388000.out) (by decide)) (Kd.N_typed HO412.out) (by decide)) (Kd.N_typed HO423.out) (by decide)) (Kd.N_typed HO434.out) (by decide)) BK379.out (by decide)) BK387.out (by decide)) (fun k_ hk=>⟨hk.1.1.1.1.1.1.2,⟨hk.1.1.1.1.1.2,⟨hk.1.1.1.1.2,⟨hk.1.1.1.2,⟨hk.1.1.2,⟨hk.1.2,hk.2⟩⟩⟩⟩⟩⟩))))) (Reps.none _ _)))
   intro v436 w76 ho77 hb hg_ hnew_
   clear hg_ hnew_
   (first|rw [← Ny435.out] at ho77|(simp only [Int.reduceToNat] at ho77;rw [← Ny435.out] at ho77))
   have n0_:=Aside0.mk (Kd.N_elder' (N_up HO_9.out) (Kd.N_base ho77) hb)
   have n1_:=Aside0.mk (Kd.R_below (R_up HO_10.out) hb)
   have n2_:=Aside0.mk (Kd.R_below (R_up HO_388000.out) hb)
   have n3_:=Aside0.mk (Kd.V_elder' (V_up HO406.out) (Kd.N_base ho77) hb)
   have n4_:=Aside0.mk (Kd.V_elder' (V_up HO420.out) (Kd.N_base ho77) hb)
   have n5_:=Aside0.mk (Kd.N_elder' (N_up HO412.out) (Kd.N_base ho77) hb)
   have n6_:=Aside0.mk (Kd.N_elder' (N_up HO423.out) (Kd.N_base ho77) hb)
   have n7_:=Aside0.mk (Kd.V_elder' (V_up HO431.out) (Kd.N_base ho77) hb)
   have n8_:=Aside0.mk (Kd.V_elder' (V_up HO445.out) (Kd.N_base ho77) hb)
   have n9_:=Aside0.mk (Kd.N_elder' (N_up HO434.out) (Kd.N_base ho77) hb)
   have n10_:=Aside0.mk (Kd.N_lower ho77 (below_size (below_go HB.out)))
   have n11_:=Aside0.mk (blk_below (blk_up BK379.out) hb)
   have n12_:=Aside0.mk (blk_below (blk_up BK387.out) hb)
   have n13_:=Aside0.mk (below_step (below_go HB.out) hb)
   clear HO_9
   clear HO_10
   clear HO_388000
   clear HO406
   clear HO420
   clear HO412
   clear HO423
   clear HO431
   clear HO445
   clear HO434
   clear BK379
   clear BK387
   clear HB
   have HO_9:=n0_
   have HO_10:=n1_
   have HO_388000:=n2_
   have HO406:=n3_
   have HO420:=n4_
   have HO412:=n5_
   have HO423:=n6_
   have HO431:=n7_
   have HO445:=n8_
   have HO434:=n9_
   have HO437:=n10_
   have BK379:=n11_
   have BK387:=n12_
   have HB:=n13_
   clear n0_ n1_ n2_ n3_ n4_ n5_ n6_ n7_ n8_ n9_ n10_ n11_ n12_ n13_
   clear hb ho77
   refine hK.out _ _ trivial (fun hHeld=>?_)
   clear hK K
   refine norm_ (a':=?_) ?_ ?_
   rotate_left
   ·show Act.put _ (some 67) _=_
    simp only [Act.put,List.setIfInBounds_toArray,List.set_cons_zero,List.set_cons_succ,i64_w,i32_w]
    rfl
   exact norm_ (by simp only [putAll,Act.put,List.setIfInBounds_toArray,List.set_cons_zero,List.set_cons_succ]) (hCont (v425,v433,v436) _ ⟨(V_upm HO406.out (fun _ hk=>⟨hk.1.1.2.2.1,⟨hk.1.1.2.2.2.1,⟨hk.1.2,⟨hk.2,⟨hk.1.1.1,⟨hk.1.1.2.1,⟨hk.1.1.2.2.2.2.1,hk.1.1.2.2.2.2.2⟩⟩⟩⟩⟩⟩⟩)),(N_upm HO412.out (fun _ hk=>⟨hk.1.1.2.2.1,⟨hk.1.2,⟨hk.2,⟨hk.1.1.2.1,⟨hk.1.1.1,⟨hk.1.1.2.2.2.1,hk.1.1.2.2.2.2⟩⟩⟩⟩⟩⟩)),(V_upm HO420.out (fun _ hk=>⟨hk.1.1.2.2.1,⟨hk.1.1.2.2.2.1,⟨hk.1.2,⟨hk.2,⟨hk.1.1.1,⟨hk.1.1.2.1,⟨hk.1.1.2.2.2.2.1,hk.1.1.2.2.2.2.2⟩⟩⟩⟩⟩⟩⟩)),(N_upm HO423.out (fun _ hk=>⟨hk.1.2,⟨hk.2,⟨hk.1.1.1,⟨hk.1.1.2.1,hk.1.1.2.2⟩⟩⟩⟩)),(V_upm HO431.out (fun _ hk=>⟨hk.1.1.2.2.1,⟨hk.1.1.2.2.2.1,⟨hk.1.2,⟨hk.2,⟨hk.1.1.1,⟨hk.1.1.2.1,⟨hk.1.1.2.2.2.2.1,hk.1.1.2.2.2.2.2⟩⟩⟩⟩⟩⟩⟩)),(N_upm HO434.out (fun _ hk=>⟨hk.1.2.2.1,⟨hk.1.2.2.2.1,⟨hk.2,⟨hk.1.1,⟨hk.1.2.1,⟨hk.1.2.2.2.2.1,hk.1.2.2.2.2.2⟩⟩⟩⟩⟩⟩)),(N_upm HO437.out (fun _ hk=>⟨hk.2.2.1,⟨hk.2.2.2.1,⟨hk.2.2.2.2.1,⟨hk.2.1,⟨hk.1,⟨hk.2.2.2.2.2.1,hk.2.2.2.2.2.2⟩⟩⟩⟩⟩⟩)),(V_upm HO445.out (fun _ hk=>⟨hk.1.1.2.2.1,⟨hk.1.1.2.2.2.1,⟨hk.1.2,⟨hk.2,⟨hk.1.1.1,⟨hk.1.1.2.1,⟨hk.1.1.2.2.2.2.1,hk.1.1.2.2.2.2.2⟩⟩⟩⟩⟩⟩⟩)),(R_up HO_10.out),(R_up HO_388000.out),(N_upm HO_9.out (fun _ hk=>⟨hk.1.1.2.2.1,⟨hk.1.1.2.2.2.1,⟨hk.1.2,⟨hk.2,⟨hk.1.1.1,⟨hk.1.1.2.1,⟨hk.1.1.2.2.2.2.1,hk.1.1.2.2.2.2.2⟩⟩⟩⟩⟩⟩⟩)),(blk_up BK379.out),(blk_up BK387.out),(below_go HB.out)⟩)
  ·skip
   refine Kd.N_lit_step (Kd.slice 41 k41) _ 27 ?hg (N':=67) ?hd (xs:=([t394] : List (List (S41)))) (inner:=[.slice Ao29 t394.length co29]) (ok:=(fun k_=>some k_≠(.slice Ao28 t391.length co28 : Value).ownBlock∧some k_≠(.slice Ao17 t381.length co17 : Value).ownBlock∧some k_≠(.slice Ao68 y410.length co68 : Value).ownBlock∧some k_≠(v422 : Value).ownBlock∧some k_≠(v425 : Value).ownBlock∧k_≠gb379∧k_≠gb387)) (okp:=(fun k_=>some k_≠(.slice Ao28 t391.length co28 : Value).ownBlock∧some k_≠(.slice Ao17 t381.length co17 : Value).ownBlock∧some k_≠(.slice Ao68 y410.length co68 : Value).ownBlock∧some k_≠(v422 : Value).ownBlock∧some k_≠(v425 : Value).ownBlock∧k_≠gb379∧k_≠gb387)) ?hr ?hp (fun _ hk=>hk) ((show ∀ k_,w73.heap.size≤k_→(fun k_=>some k_≠(.slice Ao28 t391.length co28 : Value).ownBlock∧some k_≠(.slice Ao17 t381.length co17 : Value).ownBlock∧some k_≠(.slice Ao68 y410.length co68 : Value).ownBlock∧some k_≠(v422 : Value).ownBlock∧some k_≠(v425 : Value).ownBlock∧k_≠gb379∧k_≠gb387) k_ from fun k_ hk=>⟨Kd.fresh' (Kd.N_lt (N_up HO_9.out)) k_ hk,Kd.fresh' (Kd.R_lt (R_up HO_388000.out)) k_ hk,Kd.fresh' (Kd.N_lt (N_up HO412.out)) k_ hk,Kd.fresh' (Kd.N_lt (N_up HO423.out)) k_ hk,Kd.fresh' (Kd.N_lt (N_up HO426.out)) k_ hk,Kd.freshB (blk_up BK379.out) k_ hk,Kd.freshB (blk_up BK387.out) k_ hk⟩) _ (Nat.le_refl _)) (Below.refl _ _) (Nat.le_refl _) (by simp) ?_;(case hd=>rfl);(case hg=>rfl);(case hr=>first|(go_simp;done)|(go_simp;rfl));(case hp=>exact (Reps.one (show Kd.FK (Kd.slice 41 k41) _ _ t394 [.slice Ao29 t394.length co29] from (Kd.FK_slice_mk (Kd.R_reads' (Kd.R_mono (ok':=(fun k_=>some k_≠(.slice Ao28 t391.length co28 : Value).ownBlock∧some k_≠(.slice Ao17 t381.length co17 : Value).ownBlock∧some k_≠(.slice Ao68 y410.length co68 : Value).ownBlock∧some k_≠(v422 : Value).ownBlock∧some k_≠(v425 : Value).ownBlock∧k_≠gb379∧k_≠gb387)) (Kd.R_types (Kd.R_types (Kd.R_apart' (Kd.R_apart' (Kd.R_apart' (Kd.R_apart' (Kd.R_apart' (HO_10.out) (Kd.N_typed HO_9.out) (by decide)) (Kd.R_typed HO_388000.out) (by decide)) (Kd.N_typed HO412.out) (by decide)) (Kd.N_typed HO423.out) (by decide)) (Kd.N_typed HO426.out) (by decide)) BK379.out (by decide)) BK387.out (by decide)) (fun k_ hk=>⟨hk.1.1.1.1.1.1.2,⟨hk.1.1.1.1.1.2,⟨hk.1.1.1.1.2,⟨hk.1.1.1.2,⟨hk.1.1.2,⟨hk.1.2,hk.2⟩⟩⟩⟩⟩⟩))).2.1 (Kd.R_F (Kd.R_mono (ok':=(fun k_=>some k_≠(.slice Ao28 t391.length co28 : Value).ownBlock∧some k_≠(.slice Ao17 t381.length co17 : Value).ownBlock∧some k_≠(.slice Ao68 y410.length co68 : Value).ownBlock∧some k_≠(v422 : Value).ownBlock∧some k_≠(v425 : Value).ownBlock∧k_≠gb379∧k_≠gb387)) (Kd.R_types (Kd.R_types (Kd.R_apart' (Kd.R_apart' (Kd.R_apart' (Kd.R_apart' (Kd.R_apart' (HO_10.out) (Kd.N_typed HO_9.out) (by decide)) (Kd.R_typed HO_388000.out) (by decide)) (Kd.N_typed HO412.out) (by decide)) (Kd.N_typed HO423.out) (by decide)) (Kd.N_typed HO426.out) (by decide)) BK379.out (by decide)) BK387.out (by decide)) (fun k_ hk=>⟨hk.1.1.1.1.1.1.2,⟨hk.1.1.1.1.1.2,⟨hk.1.1.1.1.2,⟨hk.1.1.1.2,⟨hk.1.1.2,⟨hk.1.2,hk.2⟩⟩⟩⟩⟩⟩))))) (Reps.none _ _)))
   intro v436 w75 ho76 hb hg_ hnew_
   clear hg_ hnew_
   (first|rw [← Ny435.out] at ho76|(simp only [Int.reduceToNat] at ho76;rw [← Ny435.out] at ho76))
   have n0_:=Aside0.mk (Kd.N_elder' (N_up HO_9.out) (Kd.N_base ho76) hb)
   have n1_:=Aside0.mk (Kd.R_below (R_up HO_10.out) hb)
   have n2_:=Aside0.mk (Kd.R_below (R_up HO_388000.out) hb)
   have n3_:=Aside0.mk (Kd.V_elder' (V_up HO406.out) (Kd.N_base ho76) hb)
   have n4_:=Aside0.mk (Kd.V_elder' (V_up HO420.out) (Kd.N_base ho76) hb)
   have n5_:=Aside0.mk (Kd.N_elder' (N_up HO412.out) (Kd.N_base ho76) hb)
   have n6_:=Aside0.mk (Kd.N_elder' (N_up HO423.out) (Kd.N_base ho76) hb)
   have n7_:=Aside0.mk (Kd.V_elder' (V_up HO431.out) (Kd.N_base ho76) hb)
   have n8_:=Aside0.mk (Kd.V_elder' (V_up HO445.out) (Kd.N_base ho76) hb)
   have n9_:=Aside0.mk (Kd.N_elder' (N_up HO426.out) (Kd.N_base ho76) hb)
   have n10_:=Aside0.mk (Kd.N_lower ho76 (below_size (below_go HB.out)))
   have n11_:=Aside0.mk (blk_below (blk_up BK379.out) hb)
   have n12_:=Aside0.mk (blk_below (blk_up BK387.out) hb)
   have n13_:=Aside0.mk (below_step (below_go HB.out) hb)
   clear HO_9
   clear HO_10
   clear HO_388000
   clear HO406
   clear HO420
   clear HO412
   clear HO423
   clear HO431
   clear HO445
   clear HO426
   clear BK379
   clear BK387
   clear HB
   have HO_9:=n0_
   have HO_10:=n1_
   have HO_388000:=n2_
   have HO406:=n3_
   have HO420:=n4_
   have HO412:=n5_
   have HO423:=n6_
   have HO431:=n7_
   have HO445:=n8_
   have HO426:=n9_
   have HO437:=n10_
   have BK379:=n11_
   have BK387:=n12_
   have HB:=n13_
   clear n0_ n1_ n2_ n3_ n4_ n5_ n6_ n7_ n8_ n9_ n10_ n11_ n12_ n13_
   clear hb ho76
   refine hK.out _ _ trivial (fun hHeld=>?_)
   clear hK K
   refine norm_ (a':=?_) ?_ ?_
   rotate_left
   ·show Act.put _ (some 67) _=_
    simp only [Act.put,List.setIfInBounds_toArray,List.set_cons_zero,List.set_cons_succ,i64_w,i32_w]
    rfl
   refine one_ (i:=4) (N:=some 65) #[true,true,true,true,true,true,true,false,true,true,true,false,false] rfl rfl (one_of HT_.out (by kernel_rfl)) (by decide) (fun K hK=>?_)
   refine Kd.N_append_rows_step (Kd.slice 41 k41) (w0:=w) w.heap.size (by rfl) (.tmp 61) (.tmp 64) 25 27 (.slice none 0 0) 24 rfl Try.underlying25 info27 rfl (by decide) (by omega) v425 y424 y427 _ _ _ (fun k_=>some k_≠(.slice Ao29 t394.length co29 : Value).ownBlock∧some k_≠(.slice Ao17 t381.length co17 : Value).ownBlock∧some k_≠(.slice Ao68 y410.length co68 : Value).ownBlock∧some k_≠(v422 : Value).ownBlock∧some k_≠(v436 : Value).ownBlock∧k_≠gb379∧k_≠gb387) (fun k_=>((fun k_=>some k_≠(.slice Ao29 t394.length co29 : Value).ownBlock∧some k_≠(.slice Ao17 t381.length co17 : Value).ownBlock∧some k_≠(.slice Ao68 y410.length co68 : Value).ownBlock∧some k_≠(v422 : Value).ownBlock∧some k_≠(v436 : Value).ownBlock∧k_≠gb379∧k_≠gb387)) k_∧some k_≠(v425 : Value).ownBlock) rfl rfl ?aO ?aR (fun _ hk=>hk) ?aF ?aB ?aS ?aL ?_
   (case aR=>exact (by skip;exact Kd.V_F (Kd.V_mono (ok':=(fun k_=>((fun k_=>some k_≠(.slice Ao29 t394.length co29 : Value).ownBlock∧some k_≠(.slice Ao17 t381.length co17 : Value).ownBlock∧some k_≠(.slice Ao68 y410.length co68 : Value).ownBlock∧some k_≠(v422 : Value).ownBlock∧some k_≠(v436 : Value).ownBlock∧k_≠gb379∧k_≠gb387)) k_∧some k_≠(v425 : Value).ownBlock)) (HO431.out) (fun k_ hk=>⟨⟨hk.1.1.1.1,⟨hk.1.1.1.2.1,⟨hk.1.1.1.2.2.1,⟨hk.1.1.2,⟨hk.2,⟨hk.1.1.1.2.2.2.1,hk.1.1.1.2.2.2.2⟩⟩⟩⟩⟩⟩,hk.1.2⟩))))
   (case aB=>exact (below_go HB.out))
   (case aF=>exact (fun k_ hk=>⟨Kd.fresh' (Kd.R_lt (R_up HO_10.out)) k_ hk,Kd.fresh' (Kd.R_lt (R_up HO_388000.out)) k_ hk,Kd.fresh' (Kd.N_lt (N_up HO412.out)) k_ hk,Kd.fresh' (Kd.N_lt (N_up HO423.out)) k_ hk,Kd.fresh' (Kd.N_lt (N_up HO437.out)) k_ hk,Kd.freshB (blk_up BK379.out) k_ hk,Kd.freshB (blk_up BK387.out) k_ hk⟩))
   (case aO=>exact (N_upm HO426.out (fun _ hk=>⟨hk.1.2.1,⟨hk.1.2.2.1,⟨hk.1.2.2.2.1,⟨hk.1.2.2.2.2.1,⟨hk.2,⟨hk.1.2.2.2.2.2.1,hk.1.2.2.2.2.2.2⟩⟩⟩⟩⟩⟩)))
   (case aS=>exact (below_size (below_go HB.out)))
   (case aL=>have:=LMc45.out;omega)
   intro v433 w77 ho hb hg hat
   rw [← Ny432.out] at ho
   have n0_:=Aside0.mk (Kd.N_afterv (ok:=(fun k_=>some k_≠(.slice Ao29 t394.length co29 : Value).ownBlock∧some k_≠(.slice Ao17 t381.length co17 : Value).ownBlock∧some k_≠(.slice Ao68 y410.length co68 : Value).ownBlock∧some k_≠(v422 : Value).ownBlock∧some k_≠(v436 : Value).ownBlock∧k_≠gb379∧k_≠gb387)) (N_upm HO_9.out (fun _ hk=>⟨⟨hk.1.1.1.1,⟨hk.1.1.1.2.1,⟨hk.1.1.1.2.2.1,⟨hk.1.1.2,⟨hk.2,⟨hk.1.1.1.2.2.2.1,hk.1.1.1.2.2.2.2⟩⟩⟩⟩⟩⟩,hk.1.2⟩)) hg hat)
   have n1_:=Aside0.mk (Kd.R_over' (R_up HO_10.out) (Kd.N_typed (N_up HO426.out)) (by decide) hg)
   have n2_:=Aside0.mk (Kd.R_over' (R_up HO_388000.out) (Kd.N_typed (N_up HO426.out)) (by decide) hg)
   have n3_:=Aside0.mk (blk_grown (blk_up BK379.out) hg (Kd.N_ne HO426.out BK379.out (by decide)))
   have n4_:=Aside0.mk (blk_grown (blk_up BK387.out) hg (Kd.N_ne HO426.out BK387.out (by decide)))
   have n5_:=Aside0.mk (Kd.V_afterv (ok:=(fun k_=>some k_≠(.slice Ao29 t394.length co29 : Value).ownBlock∧some k_≠(.slice Ao17 t381.length co17 : Value).ownBlock∧some k_≠(.slice Ao68 y410.length co68 : Value).ownBlock∧some k_≠(v422 : Value).ownBlock∧some k_≠(v436 : Value).ownBlock∧k_≠gb379∧k_≠gb387)) (V_upm HO406.out (fun _ hk=>⟨⟨hk.1.1.1.1,⟨hk.1.1.1.2.1,⟨hk.1.1.1.2.2.1,⟨hk.1.1.2,⟨hk.2,⟨hk.1.1.1.2.2.2.1,hk.1.1.1.2.2.2.2⟩⟩⟩⟩⟩⟩,hk.1.2⟩)) hg hat)
   have n6_:=Aside0.mk (Kd.V_afterv (ok:=(fun k_=>some k_≠(.slice Ao29 t394.length co29 : Value).ownBlock∧some k_≠(.slice Ao17 t381.length co17 : Value).ownBlock∧some k_≠(.slice Ao68 y410.length co68 : Value).ownBlock∧some k_≠(v422 : Value).ownBlock∧some k_≠(v436 : Value).ownBlock∧k_≠gb379∧k_≠gb387)) (V_upm HO420.out (fun _ hk=>⟨⟨hk.1.1.1.1,⟨hk.1.1.1.2.1,⟨hk.1.1.1.2.2.1,⟨hk.1.1.2,⟨hk.2,⟨hk.1.1.1.2.2.2.1,hk.1.1.1.2.2.2.2⟩⟩⟩⟩⟩⟩,hk.1.2⟩)) hg hat)
   have n7_:=Aside0.mk (Kd.N_afterv (ok:=(fun k_=>some k_≠(.slice Ao28 t391.length co28 : Value).ownBlock∧some k_≠(.slice Ao17 t381.length co17 : Value).ownBlock∧some k_≠(v422 : Value).ownBlock∧some k_≠(v436 : Value).ownBlock∧k_≠gb379∧k_≠gb387)) (N_upm HO412.out (fun _ hk=>⟨⟨hk.1.1.1.1,⟨hk.1.1.1.2.1,⟨hk.1.1.2,⟨hk.2,⟨hk.1.1.1.2.2.1,hk.1.1.1.2.2.2⟩⟩⟩⟩⟩,hk.1.2⟩)) hg hat)
   have n8_:=Aside0.mk (Kd.N_afterv (ok:=(fun k_=>some k_≠(.slice Ao17 t381.length co17 : Value).ownBlock∧some k_≠(v436 : Value).ownBlock∧k_≠gb379∧k_≠gb387)) (N_upm HO423.out (fun _ hk=>⟨⟨hk.1.1.1,⟨hk.2,⟨hk.1.1.2.1,hk.1.1.2.2⟩⟩⟩,hk.1.2⟩)) hg hat)
   have n9_:=Aside0.mk (Kd.V_afterv (ok:=(fun k_=>some k_≠(.slice Ao29 t394.length co29 : Value).ownBlock∧some k_≠(.slice Ao17 t381.length co17 : Value).ownBlock∧some k_≠(.slice Ao68 y410.length co68 : Value).ownBlock∧some k_≠(v422 : Value).ownBlock∧some k_≠(v436 : Value).ownBlock∧k_≠gb379∧k_≠gb387)) (V_upm HO431.out (fun _ hk=>⟨⟨hk.1.1.1.1,⟨hk.1.1.1.2.1,⟨hk.1.1.1.2.2.1,⟨hk.1.1.2,⟨hk.2,⟨hk.1.1.1.2.2.2.1,hk.1.1.1.2.2.2.2⟩⟩⟩⟩⟩⟩,hk.1.2⟩)) hg hat)
   have n10_:=Aside0.mk (Kd.V_afterv (ok:=(fun k_=>some k_≠(.slice Ao29 t394.length co29 : Value).ownBlock∧some k_≠(.slice Ao17 t381.length co17 : Value).ownBlock∧some k_≠(.slice Ao68 y410.length co68 : Value).ownBlock∧some k_≠(v422 : Value).ownBlock∧some k_≠(v436 : Value).ownBlock∧k_≠gb379∧k_≠gb387)) (V_upm HO445.out (fun _ hk=>⟨⟨hk.1.1.1.1,⟨hk.1.1.1.2.1,⟨hk.1.1.1.2.2.1,⟨hk.1.1.2,⟨hk.2,⟨hk.1.1.1.2.2.2.1,hk.1.1.1.2.2.2.2⟩⟩⟩⟩⟩⟩,hk.1.2⟩)) hg hat)
   have n11_:=Aside0.mk (Kd.N_afterv (ok:=(fun k_=>some k_≠(.slice Ao28 t391.length co28 : Value).ownBlock∧some k_≠(.slice Ao17 t381.length co17 : Value).ownBlock∧some k_≠(.slice Ao68 y410.length co68 : Value).ownBlock∧some k_≠(v422 : Value).ownBlock∧k_≠gb379∧k_≠gb387)) (N_upm HO437.out (fun _ hk=>⟨⟨hk.1,⟨hk.2.1,⟨hk.2.2.1,⟨hk.2.2.2.1,⟨hk.2.2.2.2.2.1,hk.2.2.2.2.2.2⟩⟩⟩⟩⟩,hk.2.2.2.2.1⟩)) hg hat)
   have n12_:=Aside0.mk (hb)
   have n13_:=Aside0.mk (ho)
   clear HO_9
   clear HO_10
   clear HO_388000
   clear BK379
   clear BK387
   clear HO406
   clear HO420
   clear HO412
   clear HO423
   clear HO431
   clear HO445
   clear HO437
   clear HB
   clear HO426
   have HO_9:=n0_
   have HO_10:=n1_
   have HO_388000:=n2_
   have BK379:=n3_
   have BK387:=n4_
   have HO406:=n5_
   have HO420:=n6_
   have HO412:=n7_
   have HO423:=n8_
   have HO431:=n9_
   have HO445:=n10_
   have HO437:=n11_
   have HB:=n12_
   have HO434:=n13_
   clear n0_ n1_ n2_ n3_ n4_ n5_ n6_ n7_ n8_ n9_ n10_ n11_ n12_ n13_
   clear ho hb hg hat
   refine hK.out _ _ trivial (fun hHeld=>?_)
   clear hK K
   refine norm_ (a':=?_) ?_ ?_
   rotate_left
   ·show Act.put _ (some 65) _=_
    simp only [Act.put,List.setIfInBounds_toArray,List.set_cons_zero,List.set_cons_succ,i64_w,i32_w]
    rfl
   exact norm_ (by simp only [putAll,Act.put,List.setIfInBounds_toArray,List.set_cons_zero,List.set_cons_succ]) (hCont (v425,v433,v436) _ ⟨(V_upm HO406.out (fun _ hk=>⟨hk.1.2.2.1,⟨hk.1.2.2.2.1,⟨hk.2,⟨hk.1.2.2.2.2.1,⟨hk.1.1,⟨hk.1.2.1,⟨hk.1.2.2.2.2.2.1,hk.1.2.2.2.2.2.2⟩⟩⟩⟩⟩⟩⟩)),(N_upm HO412.out (fun _ hk=>⟨hk.1.2.2.1,⟨hk.2,⟨hk.1.2.2.2.1,⟨hk.1.2.1,⟨hk.1.1,⟨hk.1.2.2.2.2.1,hk.1.2.2.2.2.2⟩⟩⟩⟩⟩⟩)),(V_upm HO420.out (fun _ hk=>⟨hk.1.2.2.1,⟨hk.1.2.2.2.1,⟨hk.2,⟨hk.1.2.2.2.2.1,⟨hk.1.1,⟨hk.1.2.1,⟨hk.1.2.2.2.2.2.1,hk.1.2.2.2.2.2.2⟩⟩⟩⟩⟩⟩⟩)),(N_upm HO423.out (fun _ hk=>⟨hk.2,⟨hk.1.2.1,⟨hk.1.1,⟨hk.1.2.2.1,hk.1.2.2.2⟩⟩⟩⟩)),(V_upm HO431.out (fun _ hk=>⟨hk.1.2.2.1,⟨hk.1.2.2.2.1,⟨hk.2,⟨hk.1.2.2.2.2.1,⟨hk.1.1,⟨hk.1.2.1,⟨hk.1.2.2.2.2.2.1,hk.1.2.2.2.2.2.2⟩⟩⟩⟩⟩⟩⟩)),(N_upm HO434.out (fun _ hk=>⟨hk.2.2.1,⟨hk.2.2.2.1,⟨hk.2.2.2.2.1,⟨hk.1,⟨hk.2.1,⟨hk.2.2.2.2.2.1,hk.2.2.2.2.2.2⟩⟩⟩⟩⟩⟩)),(N_upm HO437.out (fun _ hk=>⟨hk.1.2.2.1,⟨hk.1.2.2.2.1,⟨hk.2,⟨hk.1.2.1,⟨hk.1.1,⟨hk.1.2.2.2.2.1,hk.1.2.2.2.2.2⟩⟩⟩⟩⟩⟩)),(V_upm HO445.out (fun _ hk=>⟨hk.1.2.2.1,⟨hk.1.2.2.2.1,⟨hk.2,⟨hk.1.2.2.2.2.1,⟨hk.1.1,⟨hk.1.2.1,⟨hk.1.2.2.2.2.2.1,hk.1.2.2.2.2.2.2⟩⟩⟩⟩⟩⟩⟩)),(R_up HO_10.out),(R_up HO_388000.out),(N_upm HO_9.out (fun _ hk=>⟨hk.1.2.2.1,⟨hk.1.2.2.2.1,⟨hk.2,⟨hk.1.2.2.2.2.1,⟨hk.1.1,⟨hk.1.2.1,⟨hk.1.2.2.2.2.2.1,hk.1.2.2.2.2.2.2⟩⟩⟩⟩⟩⟩⟩)),(blk_up BK379.out),(blk_up BK387.out),(below_go HB.out)⟩)
 ·skip
  refine Kd.N_lit_step (Kd.slice 41 k41) _ 27 ?hg (N':=67) ?hd (xs:=([t394] : List (List (S41)))) (inner:=[.slice Ao29 t394.length co29]) (ok:=(fun k_=>some k_≠(.slice Ao28 t391.length co28 : Value).ownBlock∧some k_≠(.slice Ao17 t381.length co17 : Value).ownBlock∧some k_≠(.slice Ao68 y410.length co68 : Value).ownBlock∧some k_≠(v422 : Value).ownBlock∧k_≠gb379∧k_≠gb387)) (okp:=(fun k_=>some k_≠(.slice Ao28 t391.length co28 : Value).ownBlock∧some k_≠(.slice Ao17 t381.length co17 : Value).ownBlock∧some k_≠(.slice Ao68 y410.length co68 : Value).ownBlock∧some k_≠(v422 : Value).ownBlock∧k_≠gb379∧k_≠gb387)) ?hr ?hp (fun _ hk=>hk) ((show ∀ k_,w70.heap.size≤k_→(fun k_=>some k_≠(.slice Ao28 t391.length co28 : Value).ownBlock∧some k_≠(.slice Ao17 t381.length co17 : Value).ownBlock∧some k_≠(.slice Ao68 y410.length co68 : Value).ownBlock∧some k_≠(v422 : Value).ownBlock∧k_≠gb379∧k_≠gb387) k_ from fun k_ hk=>⟨Kd.fresh' (Kd.N_lt (N_up HO_9.out)) k_ hk,Kd.fresh' (Kd.R_lt (R_up HO_388000.out)) k_ hk,Kd.fresh' (Kd.N_lt (N_up HO412.out)) k_ hk,Kd.fresh' (Kd.N_lt (N_up HO423.out)) k_ hk,Kd.freshB (blk_up BK379.out) k_ hk,Kd.freshB (blk_up BK387.out) k_ hk⟩) _ (Nat.le_refl _)) (Below.refl _ _) (Nat.le_refl _) (by simp) ?_;(case hd=>rfl);(case hg=>rfl);(case hr=>first|(go_simp;done)|(go_simp;rfl));(case hp=>exact (Reps.one (show Kd.FK (Kd.slice 41 k41) _ _ t394 [.slice Ao29 t394.length co29] from (Kd.FK_slice_mk (Kd.R_reads' (Kd.R_mono (ok':=(fun k_=>some k_≠(.slice Ao28 t391.length co28 : Value).ownBlock∧some k_≠(.slice Ao17 t381.length co17 : Value).ownBlock∧some k_≠(.slice Ao68 y410.length co68 : Value).ownBlock∧some k_≠(v422 : Value).ownBlock∧k_≠gb379∧k_≠gb387)) (Kd.R_types (Kd.R_types (Kd.R_apart' (Kd.R_apart' (Kd.R_apart' (Kd.R_apart' (HO_10.out) (Kd.N_typed HO_9.out) (by decide)) (Kd.R_typed HO_388000.out) (by decide)) (Kd.N_typed HO412.out) (by decide)) (Kd.N_typed HO423.out) (by decide)) BK379.out (by decide)) BK387.out (by decide)) (fun k_ hk=>⟨hk.1.1.1.1.1.2,⟨hk.1.1.1.1.2,⟨hk.1.1.1.2,⟨hk.1.1.2,⟨hk.1.2,hk.2⟩⟩⟩⟩⟩))).2.1 (Kd.R_F (Kd.R_mono (ok':=(fun k_=>some k_≠(.slice Ao28 t391.length co28 : Value).ownBlock∧some k_≠(.slice Ao17 t381.length co17 : Value).ownBlock∧some k_≠(.slice Ao68 y410.length co68 : Value).ownBlock∧some k_≠(v422 : Value).ownBlock∧k_≠gb379∧k_≠gb387)) (Kd.R_types (Kd.R_types (Kd.R_apart' (Kd.R_apart' (Kd.R_apart' (Kd.R_apart' (HO_10.out) (Kd.N_typed HO_9.out) (by decide)) (Kd.R_typed HO_388000.out) (by decide)) (Kd.N_typed HO412.out) (by decide)) (Kd.N_typed HO423.out) (by decide)) BK379.out (by decide)) BK387.out (by decide)) (fun k_ hk=>⟨hk.1.1.1.1.1.2,⟨hk.1.1.1.1.2,⟨hk.1.1.1.2,⟨hk.1.1.2,⟨hk.1.2,hk.2⟩⟩⟩⟩⟩))))) (Reps.none _ _)))
  intro v436 w73 ho74 hb hg_ hnew_
  clear hg_ hnew_
  (first|rw [← Ny435.out] at ho74|(simp only [Int.reduceToNat] at ho74;rw [← Ny435.out] at ho74))
  have n0_:=Aside0.mk (Kd.N_elder' (N_up HO_9.out) (Kd.N_base ho74) hb)
  have n1_:=Aside0.mk (Kd.R_below (R_up HO_10.out) hb)
  have n2_:=Aside0.mk (Kd.R_below (R_up HO_388000.out) hb)
  have n3_:=Aside0.mk (Kd.V_elder' (V_up HO406.out) (Kd.N_base ho74) hb)
  have n4_:=Aside0.mk (Kd.V_elder' (V_up HO420.out) (Kd.N_base ho74) hb)
  have n5_:=Aside0.mk (Kd.N_elder' (N_up HO412.out) (Kd.N_base ho74) hb)
  have n6_:=Aside0.mk (Kd.N_elder' (N_up HO423.out) (Kd.N_base ho74) hb)
  have n7_:=Aside0.mk (Kd.V_elder' (V_up HO431.out) (Kd.N_base ho74) hb)
  have n8_:=Aside0.mk (Kd.V_elder' (V_up HO445.out) (Kd.N_base ho74) hb)
  have n9_:=Aside0.mk (Kd.N_lower ho74 (below_size (below_go HB.out)))
  have n10_:=Aside0.mk (blk_below (blk_up BK379.out) hb)
  have n11_:=Aside0.mk (blk_below (blk_up BK387.out) hb)
  have n12_:=Aside0.mk (below_step (below_go HB.out) hb)
  clear HO_9
  clear HO_10
  clear HO_388000
  clear HO406
  clear HO420
  clear HO412
  clear HO423
  clear HO431
  clear HO445
  clear BK379
  clear BK387
  clear HB
  have HO_9:=n0_
  have HO_10:=n1_
  have HO_388000:=n2_
  have HO406:=n3_
  have HO420:=n4_
  have HO412:=n5_
  have HO423:=n6_
  have HO431:=n7_
  have HO445:=n8_
  have HO437:=n9_
  have BK379:=n10_
  have BK387:=n11_
  have HB:=n12_
  clear n0_ n1_ n2_ n3_ n4_ n5_ n6_ n7_ n8_ n9_ n10_ n11_ n12_
  clear hb ho74
  refine hK.out _ _ trivial (fun hHeld=>?_)
  clear hK K
  refine norm_ (a':=?_) ?_ ?_
  rotate_left
  ·show Act.put _ (some 67) _=_
   simp only [Act.put,List.setIfInBounds_toArray,List.set_cons_zero,List.set_cons_succ,i64_w,i32_w]
   rfl
  refine one_ (i:=0) (N:=some 61) #[true,true,true,true,false,true,true,false,true,true,true,false,false] rfl rfl (one_of HT_.out (by kernel_rfl)) (by decide) (fun K hK=>?_)
  refine Kd.N_lit_step (Kd.slice 41 k41) _ 27 ?hg (N':=61) ?hd (xs:=([] : List (List (S41)))) (inner:=[]) (ok:=(fun k_=>some k_≠(.slice Ao28 t391.length co28 : Value).ownBlock∧some k_≠(.slice Ao29 t394.length co29 : Value).ownBlock∧some k_≠(.slice Ao17 t381.length co17 : Value).ownBlock∧some k_≠(.slice Ao68 y410.length co68 : Value).ownBlock∧some k_≠(v422 : Value).ownBlock∧some k_≠(v436 : Value).ownBlock∧k_≠gb379∧k_≠gb387)) (okp:=(fun k_=>some k_≠(.slice Ao28 t391.length co28 : Value).ownBlock∧some k_≠(.slice Ao29 t394.length co29 : Value).ownBlock∧some k_≠(.slice Ao17 t381.length co17 : Value).ownBlock∧some k_≠(.slice Ao68 y410.length co68 : Value).ownBlock∧some k_≠(v422 : Value).ownBlock∧some k_≠(v436 : Value).ownBlock∧k_≠gb379∧k_≠gb387)) ?hr ?hp (fun _ hk=>hk) ((show ∀ k_,w73.heap.size≤k_→(fun k_=>some k_≠(.slice Ao28 t391.length co28 : Value).ownBlock∧some k_≠(.slice Ao29 t394.length co29 : Value).ownBlock∧some k_≠(.slice Ao17 t381.length co17 : Value).ownBlock∧some k_≠(.slice Ao68 y410.length co68 : Value).ownBlock∧some k_≠(v422 : Value).ownBlock∧some k_≠(v436 : Value).ownBlock∧k_≠gb379∧k_≠gb387) k_ from fun k_ hk=>⟨Kd.fresh' (Kd.N_lt (N_up HO_9.out)) k_ hk,Kd.fresh' (Kd.R_lt (R_up HO_10.out)) k_ hk,Kd.fresh' (Kd.R_lt (R_up HO_388000.out)) k_ hk,Kd.fresh' (Kd.N_lt (N_up HO412.out)) k_ hk,Kd.fresh' (Kd.N_lt (N_up HO423.out)) k_ hk,Kd.fresh' (Kd.N_lt (N_up HO437.out)) k_ hk,Kd.freshB (blk_up BK379.out) k_ hk,Kd.freshB (blk_up BK387.out) k_ hk⟩) _ (Nat.le_refl _)) (Below.refl _ _) (Nat.le_refl _) (by simp) ?_;(case hd=>rfl);(case hg=>rfl);(case hr=>first|(go_simp;done)|(go_simp;rfl));(case hp=>exact (Reps.none _ _))
  intro v425 w75 ho76 hb hg_ hnew_
  clear hg_ hnew_
  (first|rw [← Ny424.out] at ho76|(simp only [Int.reduceToNat] at ho76;rw [← Ny424.out] at ho76))
  have n0_:=Aside0.mk (Kd.N_elder' (N_up HO_9.out) (Kd.N_base ho76) hb)
  have n1_:=Aside0.mk (Kd.R_below (R_up HO_10.out) hb)
  have n2_:=Aside0.mk (Kd.R_below (R_up HO_388000.out) hb)
  have n3_:=Aside0.mk (Kd.V_elder' (V_up HO406.out) (Kd.N_base ho76) hb)
  have n4_:=Aside0.mk (Kd.V_elder' (V_up HO420.out) (Kd.N_base ho76) hb)
  have n5_:=Aside0.mk (Kd.N_elder' (N_up HO412.out) (Kd.N_base ho76) hb)
  have n6_:=Aside0.mk (Kd.N_elder' (N_up HO423.out) (Kd.N_base ho76) hb)
  have n7_:=Aside0.mk (Kd.V_elder' (V_up HO431.out) (Kd.N_base ho76) hb)
  have n8_:=Aside0.mk (Kd.V_elder' (V_up HO445.out) (Kd.N_base ho76) hb)
  have n9_:=Aside0.mk (Kd.N_elder' (N_up HO437.out) (Kd.N_base ho76) hb)
  have n10_:=Aside0.mk (Kd.N_lower ho76 (below_size (below_go HB.out)))
  have n11_:=Aside0.mk (blk_below (blk_up BK379.out) hb)
  have n12_:=Aside0.mk (blk_below (blk_up BK387.out) hb)
  have n13_:=Aside0.mk (below_step (below_go HB.out) hb)
  clear HO_9
  clear HO_10
  clear HO_388000
  clear HO406
  clear HO420
  clear HO412
  clear HO423
  clear HO431
  clear HO445
  clear HO437
  clear BK379
  clear BK387
  clear HB
  have HO_9:=n0_
  have HO_10:=n1_
  have HO_388000:=n2_
  have HO406:=n3_
  have HO420:=n4_
  have HO412:=n5_
  have HO423:=n6_
  have HO431:=n7_
  have HO445:=n8_
  have HO437:=n9_
  have HO426:=n10_
  have BK379:=n11_
  have BK387:=n12_
  have HB:=n13_
  clear n0_ n1_ n2_ n3_ n4_ n5_ n6_ n7_ n8_ n9_ n10_ n11_ n12_ n13_
  clear hb ho76
  refine hK.out _ _ trivial (fun hHeld=>?_)
  clear hK K
  refine norm_ (a':=?_) ?_ ?_
  rotate_left
  ·show Act.put _ (some 61) _=_
   simp only [Act.put,List.setIfInBounds_toArray,List.set_cons_zero,List.set_cons_succ,i64_w,i32_w]
   rfl
  refine one_ (i:=4) (N:=some 65) #[true,true,true,true,true,true,true,false,true,true,true,false,false] rfl rfl (one_of HT_.out (by kernel_rfl)) (by decide) (fun K hK=>?_)
  refine Kd.N_append_rows_step (Kd.slice 41 k41) (w0:=w) w.heap.size (by rfl) (.tmp 61) (.tmp 64) 25 27 (.slice none 0 0) 24 rfl Try.underlying25 info27 rfl (by decide) (by omega) v425 y424 y427 _ _ _ (fun k_=>some k_≠(.slice Ao29 t394.length co29 : Value).ownBlock∧some k_≠(.slice Ao17 t381.length co17 : Value).ownBlock∧some k_≠(.slice Ao68 y410.length co68 : Value).ownBlock∧some k_≠(v422 : Value).ownBlock∧some k_≠(v436 : Value).ownBlock∧k_≠gb379∧k_≠gb387) (fun k_=>((fun k_=>some k_≠(.slice Ao29 t394.length co29 : Value).ownBlock∧some k_≠(.slice Ao17 t381.length co17 : Value).ownBlock∧some k_≠(.slice Ao68 y410.length co68 : Value).ownBlock∧some k_≠(v422 : Value).ownBlock∧some k_≠(v436 : Value).ownBlock∧k_≠gb379∧k_≠gb387)) k_∧some k_≠(v425 : Value).ownBlock) rfl rfl ?aO ?aR (fun _ hk=>hk) ?aF ?aB ?aS ?aL ?_
  (case aR=>exact (by skip;exact Kd.V_F (Kd.V_mono (ok':=(fun k_=>((fun k_=>some k_≠(.slice Ao29 t394.length co29 : Value).ownBlock∧some k_≠(.slice Ao17 t381.length co17 : Value).ownBlock∧some k_≠(.slice Ao68 y410.length co68 : Value).ownBlock∧some k_≠(v422 : Value).ownBlock∧some k_≠(v436 : Value).ownBlock∧k_≠gb379∧k_≠gb387)) k_∧some k_≠(v425 : Value).ownBlock)) (HO431.out) (fun k_ hk=>⟨⟨hk.1.1.1.1,⟨hk.1.1.1.2.1,⟨hk.1.1.1.2.2.1,⟨hk.1.1.2,⟨hk.1.2,⟨hk.1.1.1.2.2.2.1,hk.1.1.1.2.2.2.2⟩⟩⟩⟩⟩⟩,hk.2⟩))))
  (case aB=>exact (below_go HB.out))
  (case aF=>exact (fun k_ hk=>⟨Kd.fresh' (Kd.R_lt (R_up HO_10.out)) k_ hk,Kd.fresh' (Kd.R_lt (R_up HO_388000.out)) k_ hk,Kd.fresh' (Kd.N_lt (N_up HO412.out)) k_ hk,Kd.fresh' (Kd.N_lt (N_up HO423.out)) k_ hk,Kd.fresh' (Kd.N_lt (N_up HO437.out)) k_ hk,Kd.freshB (blk_up BK379.out) k_ hk,Kd.freshB (blk_up BK387.out) k_ hk⟩))
  (case aO=>exact (N_upm HO426.out (fun _ hk=>⟨hk.2.1,⟨hk.2.2.1,⟨hk.2.2.2.1,⟨hk.2.2.2.2.1,⟨hk.2.2.2.2.2.1,⟨hk.2.2.2.2.2.2.1,hk.2.2.2.2.2.2.2⟩⟩⟩⟩⟩⟩)))
  (case aS=>exact (below_size (below_go HB.out)))
  (case aL=>have:=LMc45.out;omega)
  intro v433 w77 ho hb hg hat
  rw [← Ny432.out] at ho
  have n0_:=Aside0.mk (Kd.N_afterv (ok:=(fun k_=>some k_≠(.slice Ao29 t394.length co29 : Value).ownBlock∧some k_≠(.slice Ao17 t381.length co17 : Value).ownBlock∧some k_≠(.slice Ao68 y410.length co68 : Value).ownBlock∧some k_≠(v422 : Value).ownBlock∧some k_≠(v436 : Value).ownBlock∧k_≠gb379∧k_≠gb387)) (N_upm HO_9.out (fun _ hk=>⟨⟨hk.1.1.1.1,⟨hk.1.1.1.2.1,⟨hk.1.1.1.2.2.1,⟨hk.1.1.2,⟨hk.1.2,⟨hk.1.1.1.2.2.2.1,hk.1.1.1.2.2.2.2⟩⟩⟩⟩⟩⟩,hk.2⟩)) hg hat)
  have n1_:=Aside0.mk (Kd.R_over' (R_up HO_10.out) (Kd.N_typed (N_up HO426.out)) (by decide) hg)
  have n2_:=Aside0.mk (Kd.R_over' (R_up HO_388000.out) (Kd.N_typed (N_up HO426.out)) (by decide) hg)
  have n3_:=Aside0.mk (blk_grown (blk_up BK379.out) hg (Kd.N_ne HO426.out BK379.out (by decide)))
  have n4_:=Aside0.mk (blk_grown (blk_up BK387.out) hg (Kd.N_ne HO426.out BK387.out (by decide)))
  have n5_:=Aside0.mk (Kd.V_afterv (ok:=(fun k_=>some k_≠(.slice Ao29 t394.length co29 : Value).ownBlock∧some k_≠(.slice Ao17 t381.length co17 : Value).ownBlock∧some k_≠(.slice Ao68 y410.length co68 : Value).ownBlock∧some k_≠(v422 : Value).ownBlock∧some k_≠(v436 : Value).ownBlock∧k_≠gb379∧k_≠gb387)) (V_upm HO406.out (fun _ hk=>⟨⟨hk.1.1.1.1,⟨hk.1.1.1.2.1,⟨hk.1.1.1.2.2.1,⟨hk.1.1.2,⟨hk.1.2,⟨hk.1.1.1.2.2.2.1,hk.1.1.1.2.2.2.2⟩⟩⟩⟩⟩⟩,hk.2⟩)) hg hat)
  have n6_:=Aside0.mk (Kd.V_afterv (ok:=(fun k_=>some k_≠(.slice Ao29 t394.length co29 : Value).ownBlock∧some k_≠(.slice Ao17 t381.length co17 : Value).ownBlock∧some k_≠(.slice Ao68 y410.length co68 : Value).ownBlock∧some k_≠(v422 : Value).ownBlock∧some k_≠(v436 : Value).ownBlock∧k_≠gb379∧k_≠gb387)) (V_upm HO420.out (fun _ hk=>⟨⟨hk.1.1.1.1,⟨hk.1.1.1.2.1,⟨hk.1.1.1.2.2.1,⟨hk.1.1.2,⟨hk.1.2,⟨hk.1.1.1.2.2.2.1,hk.1.1.1.2.2.2.2⟩⟩⟩⟩⟩⟩,hk.2⟩)) hg hat)
  have n7_:=Aside0.mk (Kd.N_afterv (ok:=(fun k_=>some k_≠(.slice Ao28 t391.length co28 : Value).ownBlock∧some k_≠(.slice Ao17 t381.length co17 : Value).ownBlock∧some k_≠(v422 : Value).ownBlock∧some k_≠(v436 : Value).ownBlock∧k_≠gb379∧k_≠gb387)) (N_upm HO412.out (fun _ hk=>⟨⟨hk.1.1.1.1,⟨hk.1.1.1.2.1,⟨hk.1.1.2,⟨hk.1.2,⟨hk.1.1.1.2.2.1,hk.1.1.1.2.2.2⟩⟩⟩⟩⟩,hk.2⟩)) hg hat)
  have n8_:=Aside0.mk (Kd.N_afterv (ok:=(fun k_=>some k_≠(.slice Ao17 t381.length co17 : Value).ownBlock∧some k_≠(v436 : Value).ownBlock∧k_≠gb379∧k_≠gb387)) (N_upm HO423.out (fun _ hk=>⟨⟨hk.1.1.1,⟨hk.1.2,⟨hk.1.1.2.1,hk.1.1.2.2⟩⟩⟩,hk.2⟩)) hg hat)
  have n9_:=Aside0.mk (Kd.V_afterv (ok:=(fun k_=>some k_≠(.slice Ao29 t394.length co29 : Value).ownBlock∧some k_≠(.slice Ao17 t381.length co17 : Value).ownBlock∧some k_≠(.slice Ao68 y410.length co68 : Value).ownBlock∧some k_≠(v422 : Value).ownBlock∧some k_≠(v436 : Value).ownBlock∧k_≠gb379∧k_≠gb387)) (V_upm HO431.out (fun _ hk=>⟨⟨hk.1.1.1.1,⟨hk.1.1.1.2.1,⟨hk.1.1.1.2.2.1,⟨hk.1.1.2,⟨hk.1.2,⟨hk.1.1.1.2.2.2.1,hk.1.1.1.2.2.2.2⟩⟩⟩⟩⟩⟩,hk.2⟩)) hg hat)
  have n10_:=Aside0.mk (Kd.V_afterv (ok:=(fun k_=>some k_≠(.slice Ao29 t394.length co29 : Value).ownBlock∧some k_≠(.slice Ao17 t381.length co17 : Value).ownBlock∧some k_≠(.slice Ao68 y410.length co68 : Value).ownBlock∧some k_≠(v422 : Value).ownBlock∧some k_≠(v436 : Value).ownBlock∧k_≠gb379∧k_≠gb387)) (V_upm HO445.out (fun _ hk=>⟨⟨hk.1.1.1.1,⟨hk.1.1.1.2.1,⟨hk.1.1.1.2.2.1,⟨hk.1.1.2,⟨hk.1.2,⟨hk.1.1.1.2.2.2.1,hk.1.1.1.2.2.2.2⟩⟩⟩⟩⟩⟩,hk.2⟩)) hg hat)
  have n11_:=Aside0.mk (Kd.N_afterv (ok:=(fun k_=>some k_≠(.slice Ao28 t391.length co28 : Value).ownBlock∧some k_≠(.slice Ao17 t381.length co17 : Value).ownBlock∧some k_≠(.slice Ao68 y410.length co68 : Value).ownBlock∧some k_≠(v422 : Value).ownBlock∧k_≠gb379∧k_≠gb387)) (N_up HO437.out) hg hat)
  have n12_:=Aside0.mk (hb)
  have n13_:=Aside0.mk (ho)
  clear HO_9
  clear HO_10
  clear HO_388000
  clear BK379
  clear BK387
  clear HO406
  clear HO420
  clear HO412
  clear HO423
  clear HO431
  clear HO445
  clear HO437
  clear HB
  clear HO426
  have HO_9:=n0_
  have HO_10:=n1_
  have HO_388000:=n2_
  have BK379:=n3_
  have BK387:=n4_
  have HO406:=n5_
  have HO420:=n6_
  have HO412:=n7_
  have HO423:=n8_
  have HO431:=n9_
  have HO445:=n10_
  have HO437:=n11_
  have HB:=n12_
  have HO434:=n13_
  clear n0_ n1_ n2_ n3_ n4_ n5_ n6_ n7_ n8_ n9_ n10_ n11_ n12_ n13_
  clear ho hb hg hat
  refine hK.out _ _ trivial (fun hHeld=>?_)
  clear hK K
  refine norm_ (a':=?_) ?_ ?_
  rotate_left
  ·show Act.put _ (some 65) _=_
   simp only [Act.put,List.setIfInBounds_toArray,List.set_cons_zero,List.set_cons_succ,i64_w,i32_w]
   rfl
  exact norm_ (by simp only [putAll,Act.put,List.setIfInBounds_toArray,List.set_cons_zero,List.set_cons_succ]) (hCont (v425,v433,v436) _ ⟨(V_upm HO406.out (fun _ hk=>⟨hk.1.2.2.1,⟨hk.1.2.2.2.1,⟨hk.2,⟨hk.1.2.2.2.2.1,⟨hk.1.1,⟨hk.1.2.1,⟨hk.1.2.2.2.2.2.1,hk.1.2.2.2.2.2.2⟩⟩⟩⟩⟩⟩⟩)),(N_upm HO412.out (fun _ hk=>⟨hk.1.2.2.1,⟨hk.2,⟨hk.1.2.2.2.1,⟨hk.1.2.1,⟨hk.1.1,⟨hk.1.2.2.2.2.1,hk.1.2.2.2.2.2⟩⟩⟩⟩⟩⟩)),(V_upm HO420.out (fun _ hk=>⟨hk.1.2.2.1,⟨hk.1.2.2.2.1,⟨hk.2,⟨hk.1.2.2.2.2.1,⟨hk.1.1,⟨hk.1.2.1,⟨hk.1.2.2.2.2.2.1,hk.1.2.2.2.2.2.2⟩⟩⟩⟩⟩⟩⟩)),(N_upm HO423.out (fun _ hk=>⟨hk.2,⟨hk.1.2.1,⟨hk.1.1,⟨hk.1.2.2.1,hk.1.2.2.2⟩⟩⟩⟩)),(V_upm HO431.out (fun _ hk=>⟨hk.1.2.2.1,⟨hk.1.2.2.2.1,⟨hk.2,⟨hk.1.2.2.2.2.1,⟨hk.1.1,⟨hk.1.2.1,⟨hk.1.2.2.2.2.2.1,hk.1.2.2.2.2.2.2⟩⟩⟩⟩⟩⟩⟩)),(N_upm HO434.out (fun _ hk=>⟨hk.2.2.1,⟨hk.2.2.2.1,⟨hk.2.2.2.2.1,⟨hk.1,⟨hk.2.1,⟨hk.2.2.2.2.2.1,hk.2.2.2.2.2.2⟩⟩⟩⟩⟩⟩)),(N_upm HO437.out (fun _ hk=>⟨hk.1.2.2.1,⟨hk.1.2.2.2.1,⟨hk.2,⟨hk.1.2.1,⟨hk.1.1,⟨hk.1.2.2.2.2.1,hk.1.2.2.2.2.2⟩⟩⟩⟩⟩⟩)),(V_upm HO445.out (fun _ hk=>⟨hk.1.2.2.1,⟨hk.1.2.2.2.1,⟨hk.2,⟨hk.1.2.2.2.2.1,⟨hk.1.1,⟨hk.1.2.1,⟨hk.1.2.2.2.2.2.1,hk.1.2.2.2.2.2.2⟩⟩⟩⟩⟩⟩⟩)),(R_up HO_10.out),(R_up HO_388000.out),(N_upm HO_9.out (fun _ hk=>⟨hk.1.2.2.1,⟨hk.1.2.2.2.1,⟨hk.2,⟨hk.1.2.2.2.2.1,⟨hk.1.1,⟨hk.1.2.1,⟨hk.1.2.2.2.2.2.1,hk.1.2.2.2.2.2.2⟩⟩⟩⟩⟩⟩⟩)),(blk_up BK379.out),(blk_up BK387.out),(below_go HB.out)⟩)
end Go.Proofs.Ytojbeofipedolaa.P

