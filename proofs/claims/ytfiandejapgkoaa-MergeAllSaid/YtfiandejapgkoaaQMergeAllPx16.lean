/- Texts of MergeAll. Merged: Px16. -/
import Derived.Test.YtfiandejapgkoaaQMergeAllPx0
import Derived.Test.YtfiandejapgkoaaQMergeAllPx10
import Derived.Test.YtfiandejapgkoaaQMergeAllPx15
namespace Go.Proofs.Ytfiandejapgkoaa.P
open Go.RowKit Go.Proofs.YtfiandejapgkoaaW.PrintWords Go.Proofs.YtfiandejapgkoaaW.PrintLast Go.Proofs.YtfiandejapgkoaaW.PrintMore
attribute [local go_sem] max2_int min2_int max_two min_two max_three min_three max_four min_four   -- for this text's walks alone
set_option linter.unusedVariables false
set_option linter.unusedSimpArgs false
def thresherref14_Folded.f (k : Nat) (l0_0 : List Int) (a0_1 : Int) (a0_2 : Int) (a0_3 : Int) (l1 : List (List (List (S31)))) : Option ((List (List (S31)))):=(thresherref14_Rows.f k l0_0 a0_1 a0_2 a0_3 l1).bind fun t387=>((thresherref13_Rows.f k l0_0 a0_1 a0_2 a0_3 t387).bind fun t390=>(some t390))
theorem thresherref14_Folded.mono : ∀ a0 a1 a2 a3 a4 k,LeO (thresherref14_Folded.f k a0 a1 a2 a3 a4) (thresherref14_Folded.f (k + 1) a0 a1 a2 a3 a4):=by
 intro a0 a1 a2 a3 a4 k
 unfold thresherref14_Folded.f
 repeat' first
   | (with_reducible exact thresherref13_Rows.mono _ _ _ _ _ _)
   | (with_reducible exact thresherref14_Rows.mono _ _ _ _ _ _)
   | (with_reducible exact LeO.refl _)
   | (with_reducible exact LeO.none _)
   | (with_reducible refine LeO.ite ?_ ?_)
   | (with_reducible refine LeO.bind ?_ (fun _=>?_))
   | exact thresherref13_Rows.mono _ _ _ _ _ _
   | exact thresherref14_Rows.mono _ _ _ _ _ _
   | exact LeO.none _
   | refine LeO.ite ?_ ?_
   | refine LeO.bind ?_ (fun _=>?_)
set_option maxHeartbeats 8000000 in
set_option maxRecDepth 100000 in
theorem thresherref14_Folded.calls (k : Nat) (A0_0 : Option Addr) (c0_0 : Nat) (l0_0 : List Int) (a0_1 : Int) (a0_2 : Int) (a0_3 : Int) (P1_ : Nat→Prop) (A1 : Option Addr) (c1 : Nat) (l1 : List (List (List (S31)))) (r : List (List (S31))) (w : World) (hr0_0 : Kd.C (Kd.int .i64) w A0_0 l0_0.length l0_0) (hc0_0 : l0_0.length≤c0_0) (hs1 : Kd.V (Kd.slice 33 (Kd.slice 31 k31)) 28 w w.heap.size (fun k_=>P1_ k_) (.slice A1 l1.length c1) l1) (h : thresherref14_Folded.f k l0_0 a0_1 a0_2 a0_3 l1=some r) :
  Calls Try.prog 15 #[.agg #[.slice A0_0 l0_0.length c0_0,.int .i64 a0_1,.int .i64 a0_2,.int .i64 a0_3],.slice A1 l1.length c1] w fun e w'=>∃ v0_ : Value,e=.returned (v0_)∧Kd.N (Kd.slice 31 k31) 33 w' w.heap.size (fun k_=>(P1_ k_ ∨ w.heap.size≤k_)) v0_ r∧Below w.heap.size w w':=by
 have hu26:=Try.underlying26
 have HR0_0:=Aside0.mk hr0_0
 have HC0_0:=Aside0.mk hc0_0
 clear hr0_0 hc0_0
 have HO1:=Aside0.mk (show Kd.V (Kd.slice 33 (Kd.slice 31 k31)) 28 w w.heap.size (fun k_=>(P1_ k_ ∨ w.heap.size≤k_)) (.slice A1 l1.length c1) l1 from Kd.V_mono hs1 (fun k_ hk=>.inl hk))
 have HB:=Aside0.mk (Below.refl w.heap.size w)
 have H : ((thresherref14_Rows.f k l0_0 a0_1 a0_2 a0_3 l1).bind fun t387=>((thresherref13_Rows.f k l0_0 a0_1 a0_2 a0_3 t387).bind fun t390=>(some t390)))=some r:=h
 clear h
 replace H:=Option.bind_eq_some_iff.mp H
 obtain ⟨t387,A30,H⟩:=H
 replace H : ((thresherref13_Rows.f k l0_0 a0_1 a0_2 a0_3 t387).bind fun t390=>(some t390))=some r:=H
 have A3:=Aside0.mk A30
 clear A30
 replace H:=Option.bind_eq_some_iff.mp H
 obtain ⟨t390,A40,H⟩:=H
 replace H : (some t390)=some r:=H
 have A4:=Aside0.mk A40
 clear A40
 obtain rfl:=Option.some.inj H
 go_enter Try.func15,Try.ntmps15
 try go_wp2_with (first|((with_reducible refine gate_dst (N:=2) rfl ?_);refine box_event ?hg (N:=2) ?hd (cs:=#[.slice A0_0 l0_0.length c0_0,.int .i64 a0_1,.int .i64 a0_2,.int .i64 a0_3]) (t:=26) ?hr ?_;(case hd=>rfl);(case hg=>rfl);(case hr=>first|(go_simp;done)|(go_simp;rfl));intro gb386 hg w5 hbox hb;have n0_:=Aside0.mk (Kd.V_below (Kd.V_elderB (V_up HO1.out) gb386 (Nat.le_of_eq hg.symm)) hb);have n1_:=Aside0.mk (below_step (below_up HB.out) hb);have n2_:=Aside0.mk (hbox);have n3_:=Aside0.mk ((by rw [hg];exact (below_size (below_up HB.out)) : w.heap.size≤gb386));have n4_:=Aside0.mk ((by rw [hg];exact (below_size (below_up HB.out)) : w.heap.size≤gb386));clear HO1;clear HB;have HO1:=n0_;have HB:=n1_;have BK386:=n2_;have GW386:=n3_;have GE386:=n4_;clear n0_ n1_ n2_ n3_ n4_;clear hb hbox hg))
 have n0_:=Aside0.mk (Kd.V_drew HO1.out)
 have n1_:=Aside0.mk (blk_drew BK386.out)
 have n2_:=Aside0.mk (below_drew1 HB.out)
 clear HO1
 clear BK386
 clear HB
 have HO1:=n0_
 have BK386:=n1_
 have HB:=n2_
 clear n0_ n1_ n2_
 refine start_ (n:=6) (S:=fun w'=>w'.cell? ⟨gb386,0,none⟩=some (.slice A0_0 l0_0.length c0_0)∧w'.cell? ⟨gb386,1,none⟩=some (.int .i64 a0_1)∧w'.cell? ⟨gb386,2,none⟩=some (.int .i64 a0_2)∧w'.cell? ⟨gb386,3,none⟩=some (.int .i64 a0_3)) (ds:=[]) #[false,false,false,false,false,false] (by kernel_rfl) rfl rfl ⟨(blk_cell BK386.out 0).trans rfl,(blk_cell BK386.out 1).trans rfl,(blk_cell BK386.out 2).trans rfl,(blk_cell BK386.out 3).trans rfl⟩ (fun hHeld=>?_)
 generalize w5.drew=w6 at HO1 BK386 HB hHeld ⊢
 refine pure_ (i:=2) (N:=some 7) (v:=?_) (a':=?_) #[false,false,true,false,false,false] rfl rfl (by kernel_rfl) (fun _ _ _ h=>h) (Or.inl ⟨by rfl,?_⟩) ?_ ?_
 rotate_left;(intro w';go_simp;with_reducible rfl);rotate_left;(simp only [Act.put,List.setIfInBounds_toArray,List.set_cons_zero,List.set_cons_succ,i64_w,i32_w];rfl)
 refine take_ (i:=0) (N:=some 5) (v:=?_) (a':=?_) #[true,false,true,false,false,false] rfl rfl (by kernel_rfl) (fun _ _ _ h=>h) (Or.inl ⟨by rfl,?_⟩) hHeld ?_ ?_
 rotate_left;(rintro w' ⟨s0,s1,s2,s3⟩;go_simp;with_reducible rfl);rotate_left;(simp only [Act.put,List.setIfInBounds_toArray,List.set_cons_zero,List.set_cons_succ,i64_w,i32_w];rfl)
 refine take_ (i:=1) (N:=some 6) (v:=?_) (a':=?_) #[true,true,true,false,false,false] rfl rfl (by kernel_rfl) (fun _ _ _ h=>h) (Or.inl ⟨by rfl,?_⟩) hHeld ?_ ?_
 rotate_left;(rintro w' ⟨s0,s1,s2,s3⟩;go_simp;with_reducible rfl);rotate_left;(simp only [Act.put,List.setIfInBounds_toArray,List.set_cons_zero,List.set_cons_succ,i64_w,i32_w];rfl)
 refine one_ (i:=3) (N:=some 8) #[true,true,true,true,false,false] rfl rfl (by kernel_rfl) (by decide) (fun K hK=>?_)
 refine goes_ Try.func13 (by kernel_rfl) rfl #[.agg #[.slice A0_0 l0_0.length c0_0,.int .i64 a0_1,.int .i64 a0_2,.int .i64 a0_3],.slice A1 l1.length c1] (by rfl) rfl rfl (by (try simp only [List.map_toArray,List.map_cons,List.map_nil]);first|done|rfl|(simp only [List.length_drop,List.length_take];rfl)) ?_
 with_reducible refine (thresherref14_Rows.calls k _ _ l0_0 a0_1 a0_2 a0_3 (fun k_=>((P1_ k_ ∨ w.heap.size≤k_)∧k_≠gb386)) _ _ l1 t387 _ ?side1 ?side2 ?side3 A3.out).mono ?_
 (case side1=>repeat (first|exact (Kd.C_below HR0_0.out HB.out)|(with_reducible refine Kd.C_alloc ?_ _)|(with_reducible refine Kd.C_drewN ?_ _)|(with_reducible refine Kd.C_drew ?_)))
 (case side2=>exact HC0_0.out)
 (case side3=>exact HO1.out)
 rintro e w7 ⟨v388,rfl,ho0,hb⟩
 refine ⟨_,rfl,?_⟩
 have n0_:=Aside0.mk (Kd.V_elder' (V_up HO1.out) (by first|exact Kd.N_base ho0|exact Kd.S_base ho0) hb)
 have n1_:=Aside0.mk (Kd.N_lower (Kd.N_mono (ok':=fun k_=>(P1_ k_ ∨ w.heap.size≤k_)∧k_≠gb386) ho0 (fun k_ hk_=>⟨Or.elim hk_ (fun hs_=>hs_.1) (fun hn_=>(.inr (Nat.le_trans (below_size (below_go HB.out)) hn_))),Or.elim hk_ (fun hs_=>hs_.2) (fun hn_=>(Kd.freshB (blk_up BK386.out) k_ hn_))⟩)) (below_size (below_go HB.out)))
 have n2_:=Aside0.mk (blk_below (blk_up BK386.out) hb)
 have n3_:=Aside0.mk (below_step (below_go HB.out) hb)
 clear HO1
 clear BK386
 clear HB
 have HO1:=n0_
 have HO389:=n1_
 have BK386:=n2_
 have HB:=n3_
 clear n0_ n1_ n2_ n3_
 (try clear hb)
 (try clear hb2)
 (try clear hk)
 (try clear hi)
 (try clear ho0)
 obtain ⟨Ao8,co8,eo8⟩:=Kd.N_slice HO389.out
 (first|subst eo8|(injection eo8 with f1_ f2_ f3_;have f4_:=f1_.symm;have f5_:=f3_.symm;clear f1_ f2_ f3_;subst f4_;subst f5_))
 refine hK.out _ _ ⟨(blk_cell BK386.out 0).trans rfl,(blk_cell BK386.out 1).trans rfl,(blk_cell BK386.out 2).trans rfl,(blk_cell BK386.out 3).trans rfl⟩ (fun hHeld=>?_)
 clear hK K
 refine norm_ (a':=?_) ?_ ?_
 rotate_left
 ·show Act.put _ (some 8) _=_
  simp only [Act.put,List.setIfInBounds_toArray,List.set_cons_zero,List.set_cons_succ,i64_w,i32_w]
  rfl
 refine one_ (i:=4) (N:=some 9) #[true,true,true,true,true,false] rfl rfl (by kernel_rfl) (by decide) (fun K hK=>?_)
 refine goes_ Try.func26 (by kernel_rfl) rfl #[.agg #[.slice A0_0 l0_0.length c0_0,.int .i64 a0_1,.int .i64 a0_2,.int .i64 a0_3],.slice Ao8 t387.length co8] (by rfl) rfl rfl (by (try simp only [List.map_toArray,List.map_cons,List.map_nil]);first|done|rfl|(simp only [List.length_drop,List.length_take];rfl)) ?_
 with_reducible refine (thresherref13_Rows.calls k _ _ l0_0 a0_1 a0_2 a0_3 (fun k_=>((P1_ k_ ∨ w.heap.size≤k_)∧k_≠gb386)) _ _ t387 t390 _ ?side1 ?side2 ?side3 A4.out).mono ?_
 (case side1=>repeat (first|exact (Kd.C_below HR0_0.out HB.out)|(with_reducible refine Kd.C_alloc ?_ _)|(with_reducible refine Kd.C_drewN ?_ _)|(with_reducible refine Kd.C_drew ?_)))
 (case side2=>exact HC0_0.out)
 (case side3=>exact Kd.N_V (HO389.out))
 rintro e w9 ⟨v391,rfl,ho0,hb⟩
 refine ⟨_,rfl,?_⟩
 have n0_:=Aside0.mk (Kd.V_elder' (V_up HO1.out) (by first|exact Kd.N_base ho0|exact Kd.S_base ho0) hb)
 have n1_:=Aside0.mk (Kd.N_elder' (N_up HO389.out) (by first|exact Kd.N_base ho0|exact Kd.S_base ho0) hb)
 have n2_:=Aside0.mk (Kd.N_lower (Kd.N_mono (ok':=fun k_=>(P1_ k_ ∨ w.heap.size≤k_)∧k_≠gb386) ho0 (fun k_ hk_=>⟨Or.elim hk_ (fun hs_=>hs_.1) (fun hn_=>(.inr (Nat.le_trans (below_size (below_go HB.out)) hn_))),Or.elim hk_ (fun hs_=>hs_.2) (fun hn_=>(Kd.freshB (blk_up BK386.out) k_ hn_))⟩)) (below_size (below_go HB.out)))
 have n3_:=Aside0.mk (blk_below (blk_up BK386.out) hb)
 have n4_:=Aside0.mk (below_step (below_go HB.out) hb)
 clear HO1
 clear HO389
 clear BK386
 clear HB
 have HO1:=n0_
 have HO389:=n1_
 have HO392:=n2_
 have BK386:=n3_
 have HB:=n4_
 clear n0_ n1_ n2_ n3_ n4_
 (try clear hb)
 (try clear hb2)
 (try clear hk)
 (try clear hi)
 (try clear ho0)
 refine hK.out _ _ ⟨(blk_cell BK386.out 0).trans rfl,(blk_cell BK386.out 1).trans rfl,(blk_cell BK386.out 2).trans rfl,(blk_cell BK386.out 3).trans rfl⟩ (fun hHeld=>?_)
 clear hK K
 refine norm_ (a':=?_) ?_ ?_
 rotate_left
 ·show Act.put _ (some 9) _=_
  simp only [Act.put,List.setIfInBounds_toArray,List.set_cons_zero,List.set_cons_succ,i64_w,i32_w]
  rfl
 refine pure_ (i:=5) (N:=some 4) (v:=?_) (a':=?_) #[true,true,true,true,true,true] rfl rfl (by kernel_rfl) (fun _ _ _ h=>h) (Or.inl ⟨by rfl,?_⟩) ?_ ?_
 rotate_left;(intro w';go_simp;with_reducible rfl);rotate_left;(simp only [Act.put,List.setIfInBounds_toArray,List.set_cons_zero,List.set_cons_succ,i64_w,i32_w];rfl)
 refine done_ (by kernel_rfl) ?_
 try go_wp2
 go_ret
 exact ⟨_,by first|rfl|(simp [errW_none,errW_some] <;> rfl)|(simp [*,errW_none,errW_some] <;> rfl),by (with_reducible repeat (first|apply Kd.N_alloc|apply Kd.N_drewN|apply Kd.N_drew));exact Kd.N_mono HO392.out (fun _ hk=>hk.1),by repeat (first|(with_reducible first|exact HB.out|apply below_alloc|apply pw_below_drewN|apply below_drew1|refine below_set ?_ GE386.out)|exact HB.out)⟩
end Go.Proofs.Ytfiandejapgkoaa.P

