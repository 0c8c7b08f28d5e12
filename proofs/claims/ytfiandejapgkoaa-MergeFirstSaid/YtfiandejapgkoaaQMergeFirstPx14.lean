/- Texts of MergeFirst. Merged: Px14. -/
import Derived.Test.YtfiandejapgkoaaQMergeFirstPx0
import Derived.Test.YtfiandejapgkoaaQMergeFirstPx5
import Derived.Test.YtfiandejapgkoaaQMergeFirstPx13
import Derived.Test.YtfiandejapgkoaaMMergeFirst1
namespace Go.Proofs.Ytfiandejapgkoaa.P
open Go.RowKit Go.Proofs.YtfiandejapgkoaaW.PrintWords Go.Proofs.YtfiandejapgkoaaW.PrintLast Go.Proofs.YtfiandejapgkoaaW.PrintMore
attribute [local go_sem] max2_int min2_int max_two min_two max_three min_three max_four min_four   -- for this text's walks alone
set_option linter.unusedVariables false
set_option linter.unusedSimpArgs false
def merge_Folded.f (k : Nat) (l0_0 : List Int) (a0_1 : Int) (a0_2 : Int) (a0_3 : Int) (l1 : List (List (List (S31)))) : Option ((List (List (S31)))):=(merge_Rows.f k l0_0 a0_1 a0_2 a0_3 l1).bind fun t346=>((fold_Rows.f k l0_0 a0_1 a0_2 a0_3 t346).bind fun t349=>(some t349))
theorem merge_Folded.mono : ∀ a0 a1 a2 a3 a4 k,LeO (merge_Folded.f k a0 a1 a2 a3 a4) (merge_Folded.f (k + 1) a0 a1 a2 a3 a4):=by
 intro a0 a1 a2 a3 a4 k
 unfold merge_Folded.f
 repeat' first
   | (with_reducible exact fold_Rows.mono _ _ _ _ _ _)
   | (with_reducible exact merge_Rows.mono _ _ _ _ _ _)
   | (with_reducible exact LeO.refl _)
   | (with_reducible exact LeO.none _)
   | (with_reducible refine LeO.ite ?_ ?_)
   | (with_reducible refine LeO.bind ?_ (fun _=>?_))
   | exact fold_Rows.mono _ _ _ _ _ _
   | exact merge_Rows.mono _ _ _ _ _ _
   | exact LeO.none _
   | refine LeO.ite ?_ ?_
   | refine LeO.bind ?_ (fun _=>?_)
set_option maxHeartbeats 8000000 in
set_option maxRecDepth 100000 in
theorem merge_Folded.calls (k : Nat) (A0_0 : Option Addr) (c0_0 : Nat) (l0_0 : List Int) (a0_1 : Int) (a0_2 : Int) (a0_3 : Int) (P1_ : Nat→Prop) (A1 : Option Addr) (c1 : Nat) (l1 : List (List (List (S31)))) (r : List (List (S31))) (w : World) (hr0_0 : Kd.C (Kd.int .i64) w A0_0 l0_0.length l0_0) (hc0_0 : l0_0.length≤c0_0) (hs1 : Kd.V (Kd.slice 33 (Kd.slice 31 k31)) 28 w w.heap.size (fun k_=>P1_ k_) (.slice A1 l1.length c1) l1) (h : merge_Folded.f k l0_0 a0_1 a0_2 a0_3 l1=some r) :
  Calls Try.prog 14 #[.agg #[.slice A0_0 l0_0.length c0_0,.int .i64 a0_1,.int .i64 a0_2,.int .i64 a0_3],.slice A1 l1.length c1] w fun e w'=>∃ v0_ : Value,e=.returned (v0_)∧Kd.N (Kd.slice 31 k31) 33 w' w.heap.size (fun k_=>(P1_ k_ ∨ w.heap.size≤k_)) v0_ r∧Below w.heap.size w w':=by
 have hu26:=Try.underlying26
 have HR0_0:=Aside0.mk hr0_0
 have HC0_0:=Aside0.mk hc0_0
 clear hr0_0 hc0_0
 have HO1:=Aside0.mk (show Kd.V (Kd.slice 33 (Kd.slice 31 k31)) 28 w w.heap.size (fun k_=>(P1_ k_ ∨ w.heap.size≤k_)) (.slice A1 l1.length c1) l1 from Kd.V_mono hs1 (fun k_ hk=>.inl hk))
 have HB:=Aside0.mk (Below.refl w.heap.size w)
 have H : ((merge_Rows.f k l0_0 a0_1 a0_2 a0_3 l1).bind fun t346=>((fold_Rows.f k l0_0 a0_1 a0_2 a0_3 t346).bind fun t349=>(some t349)))=some r:=h
 clear h
 replace H:=Option.bind_eq_some_iff.mp H
 obtain ⟨t346,A30,H⟩:=H
 replace H : ((fold_Rows.f k l0_0 a0_1 a0_2 a0_3 t346).bind fun t349=>(some t349))=some r:=H
 have A3:=Aside0.mk A30
 clear A30
 replace H:=Option.bind_eq_some_iff.mp H
 obtain ⟨t349,A40,H⟩:=H
 replace H : (some t349)=some r:=H
 have A4:=Aside0.mk A40
 clear A40
 obtain rfl:=Option.some.inj H
 go_enter Try.func14,Try.ntmps14
 try go_wp2_with (first|((with_reducible refine gate_dst (N:=2) rfl ?_);refine box_event ?hg (N:=2) ?hd (cs:=#[.slice A0_0 l0_0.length c0_0,.int .i64 a0_1,.int .i64 a0_2,.int .i64 a0_3]) (t:=26) ?hr ?_;(case hd=>rfl);(case hg=>rfl);(case hr=>first|(go_simp;done)|(go_simp;rfl));intro gb345 hg w5 hbox hb;have n0_:=Aside0.mk (Kd.V_below (Kd.V_elderB (V_up HO1.out) gb345 (Nat.le_of_eq hg.symm)) hb);have n1_:=Aside0.mk (below_step (below_up HB.out) hb);have n2_:=Aside0.mk (hbox);have n3_:=Aside0.mk ((by rw [hg];exact (below_size (below_up HB.out)) : w.heap.size≤gb345));have n4_:=Aside0.mk ((by rw [hg];exact (below_size (below_up HB.out)) : w.heap.size≤gb345));clear HO1;clear HB;have HO1:=n0_;have HB:=n1_;have BK345:=n2_;have GW345:=n3_;have GE345:=n4_;clear n0_ n1_ n2_ n3_ n4_;clear hb hbox hg))
 have n0_:=Aside0.mk (Kd.V_drew HO1.out)
 have n1_:=Aside0.mk (blk_drew BK345.out)
 have n2_:=Aside0.mk (below_drew1 HB.out)
 clear HO1
 clear BK345
 clear HB
 have HO1:=n0_
 have BK345:=n1_
 have HB:=n2_
 clear n0_ n1_ n2_
 refine start_ (n:=6) (S:=fun w'=>w'.cell? ⟨gb345,0,none⟩=some (.slice A0_0 l0_0.length c0_0)∧w'.cell? ⟨gb345,1,none⟩=some (.int .i64 a0_1)∧w'.cell? ⟨gb345,2,none⟩=some (.int .i64 a0_2)∧w'.cell? ⟨gb345,3,none⟩=some (.int .i64 a0_3)) (ds:=[]) #[false,false,false,false,false,false] (by kernel_rfl) rfl rfl ⟨(blk_cell BK345.out 0).trans rfl,(blk_cell BK345.out 1).trans rfl,(blk_cell BK345.out 2).trans rfl,(blk_cell BK345.out 3).trans rfl⟩ (fun hHeld=>?_)
 generalize w5.drew=w6 at HO1 BK345 HB hHeld ⊢
 refine pure_ (i:=2) (N:=some 7) (v:=?_) (a':=?_) #[false,false,true,false,false,false] rfl rfl (by kernel_rfl) (fun _ _ _ h=>h) (Or.inl ⟨by rfl,?_⟩) ?_ ?_
 rotate_left;(intro w';go_simp;with_reducible rfl);rotate_left;(simp only [Act.put,List.setIfInBounds_toArray,List.set_cons_zero,List.set_cons_succ,i64_w,i32_w];rfl)
 refine take_ (i:=0) (N:=some 5) (v:=?_) (a':=?_) #[true,false,true,false,false,false] rfl rfl (by kernel_rfl) (fun _ _ _ h=>h) (Or.inl ⟨by rfl,?_⟩) hHeld ?_ ?_
 rotate_left;(rintro w' ⟨s0,s1,s2,s3⟩;go_simp;with_reducible rfl);rotate_left;(simp only [Act.put,List.setIfInBounds_toArray,List.set_cons_zero,List.set_cons_succ,i64_w,i32_w];rfl)
 refine take_ (i:=1) (N:=some 6) (v:=?_) (a':=?_) #[true,true,true,false,false,false] rfl rfl (by kernel_rfl) (fun _ _ _ h=>h) (Or.inl ⟨by rfl,?_⟩) hHeld ?_ ?_
 rotate_left;(rintro w' ⟨s0,s1,s2,s3⟩;go_simp;with_reducible rfl);rotate_left;(simp only [Act.put,List.setIfInBounds_toArray,List.set_cons_zero,List.set_cons_succ,i64_w,i32_w];rfl)
 refine one_ (i:=3) (N:=some 8) #[true,true,true,true,false,false] rfl rfl (by kernel_rfl) (by decide) (fun K hK=>?_)
 refine goes_ Try.func9 (by kernel_rfl) rfl #[.agg #[.slice A0_0 l0_0.length c0_0,.int .i64 a0_1,.int .i64 a0_2,.int .i64 a0_3],.slice A1 l1.length c1] (by rfl) rfl rfl (by (try simp only [List.map_toArray,List.map_cons,List.map_nil]);first|done|rfl|(simp only [List.length_drop,List.length_take];rfl)) ?_
 with_reducible refine (merge_Rows.calls k _ _ l0_0 a0_1 a0_2 a0_3 (fun k_=>((P1_ k_ ∨ w.heap.size≤k_)∧k_≠gb345)) _ _ l1 t346 _ ?side1 ?side2 ?side3 A3.out).mono ?_
 (case side1=>repeat (first|exact (Kd.C_below HR0_0.out HB.out)|(with_reducible refine Kd.C_alloc ?_ _)|(with_reducible refine Kd.C_drewN ?_ _)|(with_reducible refine Kd.C_drew ?_)))
 (case side2=>exact HC0_0.out)
 (case side3=>exact HO1.out)
 rintro e w7 ⟨v347,rfl,ho0,hb⟩
 refine ⟨_,rfl,?_⟩
 have n0_:=Aside0.mk (Kd.V_elder' (V_up HO1.out) (by first|exact Kd.N_base ho0|exact Kd.S_base ho0) hb)
 have n1_:=Aside0.mk (Kd.N_lower (Kd.N_mono (ok':=fun k_=>(P1_ k_ ∨ w.heap.size≤k_)∧k_≠gb345) ho0 (fun k_ hk_=>⟨Or.elim hk_ (fun hs_=>hs_.1) (fun hn_=>(.inr (Nat.le_trans (below_size (below_go HB.out)) hn_))),Or.elim hk_ (fun hs_=>hs_.2) (fun hn_=>(Kd.freshB (blk_up BK345.out) k_ hn_))⟩)) (below_size (below_go HB.out)))
 have n2_:=Aside0.mk (blk_below (blk_up BK345.out) hb)
 have n3_:=Aside0.mk (below_step (below_go HB.out) hb)
 clear HO1
 clear BK345
 clear HB
 have HO1:=n0_
 have HO348:=n1_
 have BK345:=n2_
 have HB:=n3_
 clear n0_ n1_ n2_ n3_
 (try clear hb)
 (try clear hb2)
 (try clear hk)
 (try clear hi)
 (try clear ho0)
 obtain ⟨Ao8,co8,eo8⟩:=Kd.N_slice HO348.out
 (first|subst eo8|(injection eo8 with f1_ f2_ f3_;have f4_:=f1_.symm;have f5_:=f3_.symm;clear f1_ f2_ f3_;subst f4_;subst f5_))
 refine hK.out _ _ ⟨(blk_cell BK345.out 0).trans rfl,(blk_cell BK345.out 1).trans rfl,(blk_cell BK345.out 2).trans rfl,(blk_cell BK345.out 3).trans rfl⟩ (fun hHeld=>?_)
 clear hK K
 refine norm_ (a':=?_) ?_ ?_
 rotate_left
 ·show Act.put _ (some 8) _=_
  simp only [Act.put,List.setIfInBounds_toArray,List.set_cons_zero,List.set_cons_succ,i64_w,i32_w]
  rfl
 refine one_ (i:=4) (N:=some 9) #[true,true,true,true,true,false] rfl rfl (by kernel_rfl) (by decide) (fun K hK=>?_)
 refine goes_ Try.func25 (by kernel_rfl) rfl #[.agg #[.slice A0_0 l0_0.length c0_0,.int .i64 a0_1,.int .i64 a0_2,.int .i64 a0_3],.slice Ao8 t346.length co8] (by rfl) rfl rfl (by (try simp only [List.map_toArray,List.map_cons,List.map_nil]);first|done|rfl|(simp only [List.length_drop,List.length_take];rfl)) ?_
 with_reducible refine (fold_Rows.calls k _ _ l0_0 a0_1 a0_2 a0_3 (fun k_=>((P1_ k_ ∨ w.heap.size≤k_)∧k_≠gb345)) _ _ t346 t349 _ ?side1 ?side2 ?side3 A4.out).mono ?_
 (case side1=>repeat (first|exact (Kd.C_below HR0_0.out HB.out)|(with_reducible refine Kd.C_alloc ?_ _)|(with_reducible refine Kd.C_drewN ?_ _)|(with_reducible refine Kd.C_drew ?_)))
 (case side2=>exact HC0_0.out)
 (case side3=>exact Kd.N_V (HO348.out))
 rintro e w9 ⟨v350,rfl,ho0,hb⟩
 refine ⟨_,rfl,?_⟩
 have n0_:=Aside0.mk (Kd.V_elder' (V_up HO1.out) (by first|exact Kd.N_base ho0|exact Kd.S_base ho0) hb)
 have n1_:=Aside0.mk (Kd.N_elder' (N_up HO348.out) (by first|exact Kd.N_base ho0|exact Kd.S_base ho0) hb)
 have n2_:=Aside0.mk (Kd.N_lower (Kd.N_mono (ok':=fun k_=>(P1_ k_ ∨ w.heap.size≤k_)∧k_≠gb345) ho0 (fun k_ hk_=>⟨Or.elim hk_ (fun hs_=>hs_.1) (fun hn_=>(.inr (Nat.le_trans (below_size (below_go HB.out)) hn_))),Or.elim hk_ (fun hs_=>hs_.2) (fun hn_=>(Kd.freshB (blk_up BK345.out) k_ hn_))⟩)) (below_size (below_go HB.out)))
 have n3_:=Aside0.mk (blk_below (blk_up BK345.out) hb)
 have n4_:=Aside0.mk (below_step (below_go HB.out) hb)
 clear HO1
 clear HO348
 clear BK345
 clear HB
 have HO1:=n0_
 have HO348:=n1_
 have HO351:=n2_
 have BK345:=n3_
 have HB:=n4_
 clear n0_ n1_ n2_ n3_ n4_
 (try clear hb)
 (try clear hb2)
 (try clear hk)
 (try clear hi)
 (try clear ho0)
 refine hK.out _ _ ⟨(blk_cell BK345.out 0).trans rfl,(blk_cell BK345.out 1).trans rfl,(blk_cell BK345.out 2).trans rfl,(blk_cell BK345.out 3).trans rfl⟩ (fun hHeld=>?_)
 clear hK K
 refine norm_ (a':=?_) ?_ ?_
 rotate_left
 ·show Act.put _ (some 9) _=_
  simp only [Act.put,List.setIfInBounds_toArray,List.set_cons_zero,List.set_cons_succ,i64_w,i32_w]
  rfl
 refine pure_ (i:=5) (N:=some 4) (v:=?_) (a':=?_) #[true,true,true,true,true,true] rfl rfl (by kernel_rfl) (fun _ _ _ h=>h) (Or.inl ⟨by rfl,?_⟩) ?_ ?_
 rotate_left;(intro w';go_simp;with_reducible rfl);rotate_left;(simp only [Act.put,List.setIfInBounds_toArray,List.set_cons_zero,List.set_cons_succ,i64_w,i32_w];rfl)
 refine done_ (by kernel_rfl) ?_
 try go_wp2
 go_ret
 exact ⟨_,by first|rfl|(simp [errW_none,errW_some] <;> rfl)|(simp [*,errW_none,errW_some] <;> rfl),by (with_reducible repeat (first|apply Kd.N_alloc|apply Kd.N_drewN|apply Kd.N_drew));exact Kd.N_mono HO351.out (fun _ hk=>hk.1),by repeat (first|(with_reducible first|exact HB.out|apply below_alloc|apply pw_below_drewN|apply below_drew1|refine below_set ?_ GE345.out)|exact HB.out)⟩
def thresherref03_Add.f (k : Nat) (a0 : Int) (a1_0 : Int) (a1_1 : ByteArray) (a2_0 : Int) (a2_1 : ByteArray) : Option (Int × ByteArray):=(thresherref03_both.f k a0 a1_0 a1_1 a2_0 a2_1).bind fun t355=>(if t355=true then (if a0=3 then (some (a2_0,a2_1)) else (some (wrap64 (a1_0 + a2_0),(⟨#[]⟩ : ByteArray)))) else (some (0,(⟨#[]⟩ : ByteArray))))
theorem thresherref03_Add.mono : ∀ a0 a1 a2 a3 a4 k,LeO (thresherref03_Add.f k a0 a1 a2 a3 a4) (thresherref03_Add.f (k + 1) a0 a1 a2 a3 a4):=by
 intro a0 a1 a2 a3 a4 k
 unfold thresherref03_Add.f
 repeat' first
   | (with_reducible exact thresherref03_both.mono _ _ _ _ _ _)
   | (with_reducible exact LeO.refl _)
   | (with_reducible exact LeO.none _)
   | (with_reducible refine LeO.ite ?_ ?_)
   | (with_reducible refine LeO.bind ?_ (fun _=>?_))
   | exact thresherref03_both.mono _ _ _ _ _ _
   | exact LeO.none _
   | refine LeO.ite ?_ ?_
   | refine LeO.bind ?_ (fun _=>?_)
set_option maxHeartbeats 8000000 in
set_option maxRecDepth 100000 in
theorem thresherref03_Add.calls (k : Nat) (a0 : Int) (a1_0 : Int) (a1_1 : ByteArray) (a2_0 : Int) (a2_1 : ByteArray) (r1 : Int) (r2 : ByteArray) (w : World) (h : thresherref03_Add.f k a0 a1_0 a1_1 a2_0 a2_1=some (r1,r2)) :
  Calls Try.prog 38 #[.int .i64 a0,.agg #[.int .i64 a1_0,.string a1_1],.agg #[.int .i64 a2_0,.string a2_1]] w fun e w'=>e=.returned (.agg #[.int .i64 r1,.string r2])∧Below w.heap.size w w':=by
 have hu31:=Try.underlying31
 have HB:=Aside0.mk (Below.refl w.heap.size w)
 have H : ((thresherref03_both.f k a0 a1_0 a1_1 a2_0 a2_1).bind fun t355=>(if t355=true then (if a0=3 then (some (a2_0,a2_1)) else (some (wrap64 (a1_0 + a2_0),(⟨#[]⟩ : ByteArray)))) else (some (0,(⟨#[]⟩ : ByteArray)))))=some (r1,r2):=h
 clear h
 replace H:=Option.bind_eq_some_iff.mp H
 obtain ⟨t355,A40,H⟩:=H
 replace H : (if t355=true then (if a0=3 then (some (a2_0,a2_1)) else (some (wrap64 (a1_0 + a2_0),(⟨#[]⟩ : ByteArray)))) else (some (0,(⟨#[]⟩ : ByteArray))))=some (r1,r2):=H
 have A4:=Aside0.mk A40
 clear A40
 by_cases c5 : t355=true
 ·subst c5
  have H1 : (if a0=3 then (some (a2_0,a2_1)) else (some (wrap64 (a1_0 + a2_0),(⟨#[]⟩ : ByteArray))))=some (r1,r2):=by rw [if_pos rfl] at H;exact H
  clear H
  have H:=H1
  clear H1
  by_cases c6 : a0=3
  ·rw [if_pos c6] at H
   have c6b0 : (a0 == 3)=true:=beq_iff_eq.mpr c6
   have c6b1 : (a0 != 3)=false:=bne_eq_false_iff_eq.mpr c6
   clear c6
   simp only [Option.some.injEq,Prod.mk.injEq] at H
   obtain ⟨rfl,rfl⟩:=H
   go_enter Try.func38,Try.ntmps38
   go_wp2_with (first|((with_reducible refine gate_dst (N:=4) rfl ?_);refine box_event ?hg (N:=4) ?hd (cs:=#[.int .i64 a1_0,.string a1_1]) (t:=31) ?hr ?_;(case hd=>rfl);(case hg=>rfl);(case hr=>first|(go_simp;done)|(go_simp;rfl));intro gb352 hg w7 hbox hb;have n0_:=Aside0.mk (below_step (below_up HB.out) hb);have n1_:=Aside0.mk (hbox);have n2_:=Aside0.mk ((by rw [hg];exact (below_size (below_up HB.out)) : w.heap.size≤gb352));have n3_:=Aside0.mk ((by rw [hg];exact (below_size (below_up HB.out)) : w.heap.size≤gb352));clear HB;have HB:=n0_;have BK352:=n1_;have GW352:=n2_;have GE352:=n3_;clear n0_ n1_ n2_ n3_;clear hb hbox hg)|((with_reducible refine gate_dst (N:=5) rfl ?_);refine box_event ?hg (N:=5) ?hd (cs:=#[.int .i64 a2_0,.string a2_1]) (t:=31) ?hr ?_;(case hd=>rfl);(case hg=>rfl);(case hr=>first|(go_simp;done)|(go_simp;rfl));intro gb353 hg w8 hbox hb;have n0_:=Aside0.mk (blk_below (blk_up BK352.out) hb);have n1_:=Aside0.mk (below_step (below_go HB.out) hb);have n2_:=Aside0.mk (hbox);have n3_:=Aside0.mk ((by rw [hg];exact (below_size (below_go HB.out)) : w.heap.size≤gb353));have n4_:=Aside0.mk ((by rw [hg];exact (below_size (below_go HB.out)) : w.heap.size≤gb353));have n5_:=Aside0.mk ((by rw [hg];exact Nat.ne_of_lt (blk_lt (blk_up BK352.out)) : gb352≠gb353));have n6_:=Aside0.mk ((by rw [hg];exact Nat.ne_of_gt (blk_lt (blk_up BK352.out)) : gb353≠gb352));clear BK352;clear HB;have BK352:=n0_;have HB:=n1_;have BK353:=n2_;have GW353:=n3_;have GE353:=n4_;have NB352_353:=n5_;have NB353_352:=n6_;clear n0_ n1_ n2_ n3_ n4_ n5_ n6_;clear hb hbox hg)|((with_reducible refine gate_dst (N:=6) rfl ?_);refine box_event ?hg (N:=6) ?hd (cs:=#[.int .i64 0,.string (⟨#[]⟩ : ByteArray)]) (t:=31) ?hr ?_;(case hd=>rfl);(case hg=>rfl);(case hr=>first|(go_simp;done)|(go_simp;rfl));intro gb354 hg w9 hbox hb;have n0_:=Aside0.mk (blk_below (blk_up BK352.out) hb);have n1_:=Aside0.mk (blk_below (blk_up BK353.out) hb);have n2_:=Aside0.mk (below_step (below_go HB.out) hb);have n3_:=Aside0.mk (hbox);have n4_:=Aside0.mk ((by rw [hg];exact (below_size (below_go HB.out)) : w.heap.size≤gb354));have n5_:=Aside0.mk ((by rw [hg];exact (below_size (below_go HB.out)) : w.heap.size≤gb354));have n6_:=Aside0.mk ((by rw [hg];exact Nat.ne_of_lt (blk_lt (blk_up BK352.out)) : gb352≠gb354));have n7_:=Aside0.mk ((by rw [hg];exact Nat.ne_of_gt (blk_lt (blk_up BK352.out)) : gb354≠gb352));have n8_:=Aside0.mk ((by rw [hg];exact Nat.ne_of_lt (blk_lt (blk_up BK353.out)) : gb353≠gb354));have n9_:=Aside0.mk ((by rw [hg];exact Nat.ne_of_gt (blk_lt (blk_up BK353.out)) : gb354≠gb353));clear BK352;clear BK353;clear HB;have BK352:=n0_;have BK353:=n1_;have HB:=n2_;have BK354:=n3_;have GW354:=n4_;have GE354:=n5_;have NB352_354:=n6_;have NB354_352:=n7_;have NB353_354:=n8_;have NB354_353:=n9_;clear n0_ n1_ n2_ n3_ n4_ n5_ n6_ n7_ n8_ n9_;clear hb hbox hg;have hnb10:=NB352_353.out;have hnc10:=NB353_352.out;have hnb11:=NB352_354.out;have hnc11:=NB354_352.out;have hcz12_0 : w9.cell? ⟨gb352,0,none⟩=some (.int .i64 a1_0):=(blk_cell BK352.out 0).trans rfl;have hcz12_1 : w9.cell? ⟨gb352,1,none⟩=some (.string a1_1):=(blk_cell BK352.out 1).trans rfl;have hfz12_0:=blk_frozen BK352.out 0;have hfz12_1:=blk_frozen BK352.out 1;have hnb13:=NB353_354.out;have hnc13:=NB354_353.out;have hcz14_0 : w9.cell? ⟨gb353,0,none⟩=some (.int .i64 a2_0):=(blk_cell BK353.out 0).trans rfl;have hcz14_1 : w9.cell? ⟨gb353,1,none⟩=some (.string a2_1):=(blk_cell BK353.out 1).trans rfl;have hfz14_0:=blk_frozen BK353.out 0;have hfz14_1:=blk_frozen BK353.out 1)|((with_reducible refine gate_callee (f:=39) rfl ?_);refine goesL_ (some 11) rfl rfl Try.func39 (by kernel_rfl) rfl #[.int .i64 a0,.agg #[.int .i64 a1_0,.string a1_1],.agg #[.int .i64 a2_0,.string a2_1]] rfl (by (try simp only [List.map_toArray,List.map_cons,List.map_nil]);first|done|rfl|(simp only [List.length_drop,List.length_take];rfl)) ?_;(with_reducible refine (thresherref03_both.calls k a0 a1_0 a1_1 a2_0 a2_1 true _ A4.out).mono ?_);rintro e w15 ⟨rfl,hb⟩;refine ⟨_,rfl,?_⟩;have n0_:=Aside0.mk (blk_below (blk_up BK352.out) hb);have n1_:=Aside0.mk (blk_below (blk_up BK353.out) hb);have n2_:=Aside0.mk (blk_below (g:=gb354) (o:=.cells #[.int .i64 0,.string (⟨#[]⟩ : ByteArray)] 31 (0,0)) (blk_up BK354.out) hb);have n3_:=Aside0.mk (below_step (below_go HB.out) hb);clear BK352;clear BK353;clear BK354;clear HB;have BK352:=n0_;have BK353:=n1_;have BK354:=n2_;have HB:=n3_;clear n0_ n1_ n2_ n3_;(try clear hb);(try clear hb2);(try clear hk);(try clear hi);have hcz16_0 : w15.cell? ⟨gb353,0,none⟩=some (.int .i64 a2_0):=(blk_cell BK353.out 0).trans rfl;have hcz16_1 : w15.cell? ⟨gb353,1,none⟩=some (.string a2_1):=(blk_cell BK353.out 1).trans rfl;have hfz16_0:=blk_frozen BK353.out 0;have hfz16_1:=blk_frozen BK353.out 1;have hcz17_0 : w15.cell? ⟨gb354,0,none⟩=some (.int .i64 0):=(blk_cell BK354.out 0).trans rfl;have hcz17_1 : w15.cell? ⟨gb354,1,none⟩=some (.string (⟨#[]⟩ : ByteArray)):=(blk_cell BK354.out 1).trans rfl;have hfz17_0:=blk_frozen BK354.out 0;have hfz17_1:=blk_frozen BK354.out 1))
   refine bodyPost_ret (results_cell_row rfl _ _ gb354 31 #[.int .i64 a2_0,.string a2_1] (0,0) _ rfl (by (with_reducible repeat (first|refine blk_drewN ?_ _|refine blk_drew ?_|refine blk_alloc ?_ _));refine blk_put (cs:=#[.int .i64 a2_0,.string (⟨#[]⟩ : ByteArray)]) ?_ 1 _ rfl;(with_reducible repeat (first|refine blk_drewN ?_ _|refine blk_drew ?_|refine blk_alloc ?_ _));refine blk_put (cs:=#[.int .i64 0,.string (⟨#[]⟩ : ByteArray)]) ?_ 0 _ rfl;(with_reducible repeat (first|refine blk_drewN ?_ _|refine blk_drew ?_|refine blk_alloc ?_ _));exact BK354.out) Try.underlying31 rfl (by kernel_rfl)) rfl ?_
   exact ⟨by first|rfl|(simp [errW_none,errW_some] <;> rfl)|(simp [*,errW_none,errW_some] <;> rfl),by repeat (first|(with_reducible first|exact HB.out|apply below_alloc|apply pw_below_drewN|apply below_drew1|refine below_set ?_ GE352.out|refine below_set ?_ GE353.out|refine below_set ?_ GE354.out)|exact HB.out)⟩
  ·rw [if_neg c6] at H
   have c6b0 : (a0 == 3)=false:=beq_eq_false_iff_ne.mpr c6
   have c6b1 : (a0 != 3)=true:=bne_iff_ne.mpr c6
   simp only [Option.some.injEq,Prod.mk.injEq] at H
   obtain ⟨rfl,rfl⟩:=H
   go_enter Try.func38,Try.ntmps38
   go_wp2_with (first|((with_reducible refine gate_dst (N:=4) rfl ?_);refine box_event ?hg (N:=4) ?hd (cs:=#[.int .i64 a1_0,.string a1_1]) (t:=31) ?hr ?_;(case hd=>rfl);(case hg=>rfl);(case hr=>first|(go_simp;done)|(go_simp;rfl));intro gb352 hg w18 hbox hb;have n0_:=Aside0.mk (below_step (below_up HB.out) hb);have n1_:=Aside0.mk (hbox);have n2_:=Aside0.mk ((by rw [hg];exact (below_size (below_up HB.out)) : w.heap.size≤gb352));have n3_:=Aside0.mk ((by rw [hg];exact (below_size (below_up HB.out)) : w.heap.size≤gb352));clear HB;have HB:=n0_;have BK352:=n1_;have GW352:=n2_;have GE352:=n3_;clear n0_ n1_ n2_ n3_;clear hb hbox hg)|((with_reducible refine gate_dst (N:=5) rfl ?_);refine box_event ?hg (N:=5) ?hd (cs:=#[.int .i64 a2_0,.string a2_1]) (t:=31) ?hr ?_;(case hd=>rfl);(case hg=>rfl);(case hr=>first|(go_simp;done)|(go_simp;rfl));intro gb353 hg w19 hbox hb;have n0_:=Aside0.mk (blk_below (blk_up BK352.out) hb);have n1_:=Aside0.mk (below_step (below_go HB.out) hb);have n2_:=Aside0.mk (hbox);have n3_:=Aside0.mk ((by rw [hg];exact (below_size (below_go HB.out)) : w.heap.size≤gb353));have n4_:=Aside0.mk ((by rw [hg];exact (below_size (below_go HB.out)) : w.heap.size≤gb353));have n5_:=Aside0.mk ((by rw [hg];exact Nat.ne_of_lt (blk_lt (blk_up BK352.out)) : gb352≠gb353));have n6_:=Aside0.mk ((by rw [hg];exact Nat.ne_of_gt (blk_lt (blk_up BK352.out)) : gb353≠gb352));clear BK352;clear HB;have BK352:=n0_;have HB:=n1_;have BK353:=n2_;have GW353:=n3_;have GE353:=n4_;have NB352_353:=n5_;have NB353_352:=n6_;clear n0_ n1_ n2_ n3_ n4_ n5_ n6_;clear hb hbox hg)|((with_reducible refine gate_dst (N:=6) rfl ?_);refine box_event ?hg (N:=6) ?hd (cs:=#[.int .i64 0,.string (⟨#[]⟩ : ByteArray)]) (t:=31) ?hr ?_;(case hd=>rfl);(case hg=>rfl);(case hr=>first|(go_simp;done)|(go_simp;rfl));intro gb354 hg w20 hbox hb;have n0_:=Aside0.mk (blk_below (blk_up BK352.out) hb);have n1_:=Aside0.mk (blk_below (blk_up BK353.out) hb);have n2_:=Aside0.mk (below_step (below_go HB.out) hb);have n3_:=Aside0.mk (hbox);have n4_:=Aside0.mk ((by rw [hg];exact (below_size (below_go HB.out)) : w.heap.size≤gb354));have n5_:=Aside0.mk ((by rw [hg];exact (below_size (below_go HB.out)) : w.heap.size≤gb354));have n6_:=Aside0.mk ((by rw [hg];exact Nat.ne_of_lt (blk_lt (blk_up BK352.out)) : gb352≠gb354));have n7_:=Aside0.mk ((by rw [hg];exact Nat.ne_of_gt (blk_lt (blk_up BK352.out)) : gb354≠gb352));have n8_:=Aside0.mk ((by rw [hg];exact Nat.ne_of_lt (blk_lt (blk_up BK353.out)) : gb353≠gb354));have n9_:=Aside0.mk ((by rw [hg];exact Nat.ne_of_gt (blk_lt (blk_up BK353.out)) : gb354≠gb353));clear BK352;clear BK353;clear HB;have BK352:=n0_;have BK353:=n1_;have HB:=n2_;have BK354:=n3_;have GW354:=n4_;have GE354:=n5_;have NB352_354:=n6_;have NB354_352:=n7_;have NB353_354:=n8_;have NB354_353:=n9_;clear n0_ n1_ n2_ n3_ n4_ n5_ n6_ n7_ n8_ n9_;clear hb hbox hg;have hnb21:=NB352_353.out;have hnc21:=NB353_352.out;have hnb22:=NB352_354.out;have hnc22:=NB354_352.out;have hcz23_0 : w20.cell? ⟨gb352,0,none⟩=some (.int .i64 a1_0):=(blk_cell BK352.out 0).trans rfl;have hcz23_1 : w20.cell? ⟨gb352,1,none⟩=some (.string a1_1):=(blk_cell BK352.out 1).trans rfl;have hfz23_0:=blk_frozen BK352.out 0;have hfz23_1:=blk_frozen BK352.out 1;have hnb24:=NB353_354.out;have hnc24:=NB354_353.out;have hcz25_0 : w20.cell? ⟨gb353,0,none⟩=some (.int .i64 a2_0):=(blk_cell BK353.out 0).trans rfl;have hcz25_1 : w20.cell? ⟨gb353,1,none⟩=some (.string a2_1):=(blk_cell BK353.out 1).trans rfl;have hfz25_0:=blk_frozen BK353.out 0;have hfz25_1:=blk_frozen BK353.out 1)|((with_reducible refine gate_callee (f:=39) rfl ?_);refine goesL_ (some 11) rfl rfl Try.func39 (by kernel_rfl) rfl #[.int .i64 a0,.agg #[.int .i64 a1_0,.string a1_1],.agg #[.int .i64 a2_0,.string a2_1]] rfl (by (try simp only [List.map_toArray,List.map_cons,List.map_nil]);first|done|rfl|(simp only [List.length_drop,List.length_take];rfl)) ?_;(with_reducible refine (thresherref03_both.calls k a0 a1_0 a1_1 a2_0 a2_1 true _ A4.out).mono ?_);rintro e w26 ⟨rfl,hb⟩;refine ⟨_,rfl,?_⟩;have n0_:=Aside0.mk (blk_below (blk_up BK352.out) hb);have n1_:=Aside0.mk (blk_below (blk_up BK353.out) hb);have n2_:=Aside0.mk (blk_below (g:=gb354) (o:=.cells #[.int .i64 0,.string (⟨#[]⟩ : ByteArray)] 31 (0,0)) (blk_up BK354.out) hb);have n3_:=Aside0.mk (below_step (below_go HB.out) hb);clear BK352;clear BK353;clear BK354;clear HB;have BK352:=n0_;have BK353:=n1_;have BK354:=n2_;have HB:=n3_;clear n0_ n1_ n2_ n3_;(try clear hb);(try clear hb2);(try clear hk);(try clear hi);have hcz27_0 : w26.cell? ⟨gb352,0,none⟩=some (.int .i64 a1_0):=(blk_cell BK352.out 0).trans rfl;have hcz27_1 : w26.cell? ⟨gb352,1,none⟩=some (.string a1_1):=(blk_cell BK352.out 1).trans rfl;have hfz27_0:=blk_frozen BK352.out 0;have hfz27_1:=blk_frozen BK352.out 1;have hcz28_0 : w26.cell? ⟨gb353,0,none⟩=some (.int .i64 a2_0):=(blk_cell BK353.out 0).trans rfl;have hcz28_1 : w26.cell? ⟨gb353,1,none⟩=some (.string a2_1):=(blk_cell BK353.out 1).trans rfl;have hfz28_0:=blk_frozen BK353.out 0;have hfz28_1:=blk_frozen BK353.out 1;have hcz29_0 : w26.cell? ⟨gb354,0,none⟩=some (.int .i64 0):=(blk_cell BK354.out 0).trans rfl;have hcz29_1 : w26.cell? ⟨gb354,1,none⟩=some (.string (⟨#[]⟩ : ByteArray)):=(blk_cell BK354.out 1).trans rfl;have hfz29_0:=blk_frozen BK354.out 0;have hfz29_1:=blk_frozen BK354.out 1))
   refine bodyPost_ret (results_cell_row rfl _ _ gb354 31 #[.int .i64 (wrap64 (a1_0 + a2_0)),.string (⟨#[]⟩ : ByteArray)] (0,0) _ rfl (by (with_reducible repeat (first|refine blk_drewN ?_ _|refine blk_drew ?_|refine blk_alloc ?_ _));refine blk_put (cs:=#[.int .i64 (wrap64 (a1_0 + a2_0)),.string (⟨#[]⟩ : ByteArray)]) ?_ 1 _ rfl;(with_reducible repeat (first|refine blk_drewN ?_ _|refine blk_drew ?_|refine blk_alloc ?_ _));refine blk_put (cs:=#[.int .i64 0,.string (⟨#[]⟩ : ByteArray)]) ?_ 0 _ rfl;(with_reducible repeat (first|refine blk_drewN ?_ _|refine blk_drew ?_|refine blk_alloc ?_ _));exact BK354.out) Try.underlying31 rfl (by kernel_rfl)) rfl ?_
   exact ⟨by first|rfl|(simp [errW_none,errW_some] <;> rfl)|(simp [*,errW_none,errW_some] <;> rfl),by repeat (first|(with_reducible first|exact HB.out|apply below_alloc|apply pw_below_drewN|apply below_drew1|refine below_set ?_ GE352.out|refine below_set ?_ GE353.out|refine below_set ?_ GE354.out)|exact HB.out)⟩
 ·replace c5:=Bool.eq_false_iff.mpr c5
  subst c5
  have H1 : (some (0,(⟨#[]⟩ : ByteArray)))=some (r1,r2):=by rw [if_neg (show ¬ (false=true) by decide)] at H;exact H
  clear H
  have H:=H1
  clear H1
  simp only [Option.some.injEq,Prod.mk.injEq] at H
  obtain ⟨rfl,rfl⟩:=H
  go_enter Try.func38,Try.ntmps38
  go_wp2_with (first|((with_reducible refine gate_dst (N:=4) rfl ?_);refine box_event ?hg (N:=4) ?hd (cs:=#[.int .i64 a1_0,.string a1_1]) (t:=31) ?hr ?_;(case hd=>rfl);(case hg=>rfl);(case hr=>first|(go_simp;done)|(go_simp;rfl));intro gb352 hg w30 hbox hb;have n0_:=Aside0.mk (below_step (below_up HB.out) hb);have n1_:=Aside0.mk (hbox);have n2_:=Aside0.mk ((by rw [hg];exact (below_size (below_up HB.out)) : w.heap.size≤gb352));have n3_:=Aside0.mk ((by rw [hg];exact (below_size (below_up HB.out)) : w.heap.size≤gb352));clear HB;have HB:=n0_;have BK352:=n1_;have GW352:=n2_;have GE352:=n3_;clear n0_ n1_ n2_ n3_;clear hb hbox hg)|((with_reducible refine gate_dst (N:=5) rfl ?_);refine box_event ?hg (N:=5) ?hd (cs:=#[.int .i64 a2_0,.string a2_1]) (t:=31) ?hr ?_;(case hd=>rfl);(case hg=>rfl);(case hr=>first|(go_simp;done)|(go_simp;rfl));intro gb353 hg w31 hbox hb;have n0_:=Aside0.mk (blk_below (blk_up BK352.out) hb);have n1_:=Aside0.mk (below_step (below_go HB.out) hb);have n2_:=Aside0.mk (hbox);have n3_:=Aside0.mk ((by rw [hg];exact (below_size (below_go HB.out)) : w.heap.size≤gb353));have n4_:=Aside0.mk ((by rw [hg];exact (below_size (below_go HB.out)) : w.heap.size≤gb353));have n5_:=Aside0.mk ((by rw [hg];exact Nat.ne_of_lt (blk_lt (blk_up BK352.out)) : gb352≠gb353));have n6_:=Aside0.mk ((by rw [hg];exact Nat.ne_of_gt (blk_lt (blk_up BK352.out)) : gb353≠gb352));clear BK352;clear HB;have BK352:=n0_;have HB:=n1_;have BK353:=n2_;have GW353:=n3_;have GE353:=n4_;have NB352_353:=n5_;have NB353_352:=n6_;clear n0_ n1_ n2_ n3_ n4_ n5_ n6_;clear hb hbox hg)|((with_reducible refine gate_dst (N:=6) rfl ?_);refine box_event ?hg (N:=6) ?hd (cs:=#[.int .i64 0,.string (⟨#[]⟩ : ByteArray)]) (t:=31) ?hr ?_;(case hd=>rfl);(case hg=>rfl);(case hr=>first|(go_simp;done)|(go_simp;rfl));intro gb354 hg w32 hbox hb;have n0_:=Aside0.mk (blk_below (blk_up BK352.out) hb);have n1_:=Aside0.mk (blk_below (blk_up BK353.out) hb);have n2_:=Aside0.mk (below_step (below_go HB.out) hb);have n3_:=Aside0.mk (hbox);have n4_:=Aside0.mk ((by rw [hg];exact (below_size (below_go HB.out)) : w.heap.size≤gb354));have n5_:=Aside0.mk ((by rw [hg];exact (below_size (below_go HB.out)) : w.heap.size≤gb354));have n6_:=Aside0.mk ((by rw [hg];exact Nat.ne_of_lt (blk_lt (blk_up BK352.out)) : gb352≠gb354));have n7_:=Aside0.mk ((by rw [hg];exact Nat.ne_of_gt (blk_lt (blk_up BK352.out)) : gb354≠gb352));have n8_:=Aside0.mk ((by rw [hg];exact Nat.ne_of_lt (blk_lt (blk_up BK353.out)) : gb353≠gb354));have n9_:=Aside0.mk ((by rw [hg];exact Nat.ne_of_gt (blk_lt (blk_up BK353.out)) : gb354≠gb353));clear BK352;clear BK353;clear HB;have BK352:=n0_;have BK353:=n1_;have HB:=n2_;have BK354:=n3_;have GW354:=n4_;have GE354:=n5_;have NB352_354:=n6_;have NB354_352:=n7_;have NB353_354:=n8_;have NB354_353:=n9_;clear n0_ n1_ n2_ n3_ n4_ n5_ n6_ n7_ n8_ n9_;clear hb hbox hg;have hnb33:=NB352_353.out;have hnc33:=NB353_352.out;have hnb34:=NB352_354.out;have hnc34:=NB354_352.out;have hcz35_0 : w32.cell? ⟨gb352,0,none⟩=some (.int .i64 a1_0):=(blk_cell BK352.out 0).trans rfl;have hcz35_1 : w32.cell? ⟨gb352,1,none⟩=some (.string a1_1):=(blk_cell BK352.out 1).trans rfl;have hfz35_0:=blk_frozen BK352.out 0;have hfz35_1:=blk_frozen BK352.out 1;have hnb36:=NB353_354.out;have hnc36:=NB354_353.out;have hcz37_0 : w32.cell? ⟨gb353,0,none⟩=some (.int .i64 a2_0):=(blk_cell BK353.out 0).trans rfl;have hcz37_1 : w32.cell? ⟨gb353,1,none⟩=some (.string a2_1):=(blk_cell BK353.out 1).trans rfl;have hfz37_0:=blk_frozen BK353.out 0;have hfz37_1:=blk_frozen BK353.out 1)|((with_reducible refine gate_callee (f:=39) rfl ?_);refine goesL_ (some 11) rfl rfl Try.func39 (by kernel_rfl) rfl #[.int .i64 a0,.agg #[.int .i64 a1_0,.string a1_1],.agg #[.int .i64 a2_0,.string a2_1]] rfl (by (try simp only [List.map_toArray,List.map_cons,List.map_nil]);first|done|rfl|(simp only [List.length_drop,List.length_take];rfl)) ?_;(with_reducible refine (thresherref03_both.calls k a0 a1_0 a1_1 a2_0 a2_1 false _ A4.out).mono ?_);rintro e w38 ⟨rfl,hb⟩;refine ⟨_,rfl,?_⟩;have n0_:=Aside0.mk (blk_below (blk_up BK352.out) hb);have n1_:=Aside0.mk (blk_below (blk_up BK353.out) hb);have n2_:=Aside0.mk (blk_below (g:=gb354) (o:=.cells #[.int .i64 0,.string (⟨#[]⟩ : ByteArray)] 31 (0,0)) (blk_up BK354.out) hb);have n3_:=Aside0.mk (below_step (below_go HB.out) hb);clear BK352;clear BK353;clear BK354;clear HB;have BK352:=n0_;have BK353:=n1_;have BK354:=n2_;have HB:=n3_;clear n0_ n1_ n2_ n3_;(try clear hb);(try clear hb2);(try clear hk);(try clear hi);have hcz39_0 : w38.cell? ⟨gb354,0,none⟩=some (.int .i64 0):=(blk_cell BK354.out 0).trans rfl;have hcz39_1 : w38.cell? ⟨gb354,1,none⟩=some (.string (⟨#[]⟩ : ByteArray)):=(blk_cell BK354.out 1).trans rfl;have hfz39_0:=blk_frozen BK354.out 0;have hfz39_1:=blk_frozen BK354.out 1))
  refine bodyPost_ret (results_cell_row rfl _ _ gb354 31 #[.int .i64 0,.string (⟨#[]⟩ : ByteArray)] (0,0) _ rfl (by (with_reducible repeat (first|refine blk_drewN ?_ _|refine blk_drew ?_|refine blk_alloc ?_ _));refine blk_put (cs:=#[.int .i64 0,.string (⟨#[]⟩ : ByteArray)]) ?_ 1 _ rfl;(with_reducible repeat (first|refine blk_drewN ?_ _|refine blk_drew ?_|refine blk_alloc ?_ _));refine blk_put (cs:=#[.int .i64 0,.string (⟨#[]⟩ : ByteArray)]) ?_ 0 _ rfl;(with_reducible repeat (first|refine blk_drewN ?_ _|refine blk_drew ?_|refine blk_alloc ?_ _));exact BK354.out) Try.underlying31 rfl (by kernel_rfl)) rfl ?_
  exact ⟨by first|rfl|(simp [errW_none,errW_some] <;> rfl)|(simp [*,errW_none,errW_some] <;> rfl),by repeat (first|(with_reducible first|exact HB.out|apply below_alloc|apply pw_below_drewN|apply below_drew1|refine below_set ?_ GE352.out|refine below_set ?_ GE353.out|refine below_set ?_ GE354.out)|exact HB.out)⟩
def thresherref13_One.l0 : Nat→List (S31)→List (S31)→List (S31)→Int→List Int→Int→Int→Int→Option ((List (S31)))
 | 0,_,_,_,_,_,_,_,_=>none
 | k + 1,x1,x2,x7,x8,x357000,x357001,x357002,x357003=>if x8 < (x7.length : Int) then (if x357002=3 then (if 0≤x8 then (if x8 < (x357000.length : Int) then (if x8 < (x1.length : Int) then (if x8 < (x2.length : Int) then ((thresherref03_Add.f k (rd x357000 x8) ((rd_T31 x1 x8).f0) ((rd_T31 x1 x8).f1) ((rd_T31 x2 x8).f0) ((rd_T31 x2 x8).f1)).bind fun bt366=>(thresherref13_One.l0 k x1 x2 (x7.set (x8 : Int).toNat (⟨bt366.1,bt366.2⟩ : S31)) (wrap64 (x8 + 1)) x357000 x357001 x357002 x357003)) else (none)) else (none)) else (none)) else (none)) else (some x7)) else (some x7)
def thresherref13_One.f (k : Nat) (l0_0 : List Int) (a0_1 : Int) (a0_2 : Int) (a0_3 : Int) (l1 : List (S31)) (l2 : List (S31)) : Option ((List (S31))):=(some (([] : List (S31)) : List (S31))).bind fun y357=>(if y357.length + l2.length < 5864062014805 then (thresherref13_One.l0 k l1 l2 (y357 ++ l2) a0_1 l0_0 a0_1 a0_2 a0_3) else (none))
theorem thresherref13_One.mono_l : ∀ k,(∀ y0 y1 y2 y3 y4 y5 y6 y7,LeO (thresherref13_One.l0 k y0 y1 y2 y3 y4 y5 y6 y7) (thresherref13_One.l0 (k + 1) y0 y1 y2 y3 y4 y5 y6 y7))
 | 0=>fun _ _ _ _ _ _ _ _ r h=>by simp [thresherref13_One.l0] at h
 | k + 1=>by
  have ih0:=thresherref13_One.mono_l k
  ·intro y0 y1 y2 y3 y4 y5 y6 y7
   unfold thresherref13_One.l0
   repeat' first
   | (with_reducible exact ih0 _ _ _ _ _ _ _ _)
   | (with_reducible exact thresherref03_Add.mono _ _ _ _ _ _)
   | (with_reducible exact LeO.refl _)
   | (with_reducible exact LeO.none _)
   | (with_reducible refine LeO.ite ?_ ?_)
   | (with_reducible refine LeO.bind ?_ (fun _=>?_))
   | exact ih0 _ _ _ _ _ _ _ _
   | exact thresherref03_Add.mono _ _ _ _ _ _
   | exact LeO.none _
   | refine LeO.ite ?_ ?_
   | refine LeO.bind ?_ (fun _=>?_)
theorem thresherref13_One.mono : ∀ a0 a1 a2 a3 a4 a5 k,LeO (thresherref13_One.f k a0 a1 a2 a3 a4 a5) (thresherref13_One.f (k + 1) a0 a1 a2 a3 a4 a5):=by
 intro a0 a1 a2 a3 a4 a5 k
 have ih0:=thresherref13_One.mono_l k
 unfold thresherref13_One.f
 repeat' first
   | (with_reducible exact ih0 _ _ _ _ _ _ _ _)
   | (with_reducible exact thresherref03_Add.mono _ _ _ _ _ _)
   | (with_reducible exact LeO.refl _)
   | (with_reducible exact LeO.none _)
   | (with_reducible refine LeO.ite ?_ ?_)
   | (with_reducible refine LeO.bind ?_ (fun _=>?_))
   | exact ih0 _ _ _ _ _ _ _ _
   | exact thresherref03_Add.mono _ _ _ _ _ _
   | exact LeO.none _
   | refine LeO.ite ?_ ?_
   | refine LeO.bind ?_ (fun _=>?_)
def thresherref13_One.T5 : Bool × List (List Nat × List Nat):=(true,[([],[]),([],[]),([],[]),([2],[2]),([],[]),([3,4],[3,4]),([5],[5]),([],[]),([],[]),([7,8],[7,8]),([9],[9]),([],[]),([],[]),([11,12],[11,12]),([13],[13]),([6,10,14],[6,10,14]),([0,1,0,1,2,3,4,5,6,7,8,9,10,11,12,13,14,15],[0,1]),([16,15,15,0,1,2,3,4,5,6,7,8,9,10,11,12,13,14,15],[15,16])])
def thresherref13_One.B5 : List Nat:=[0,0,0,4,0,28,60,0,0,384,896,0,0,6144,14336,32764,65535,131071]
theorem thresherref13_One.tab5 : rtab .any (opsOf Try.f34 5)=thresherref13_One.T5:=by kernel_rfl
theorem thresherref13_One.bits5 : waitsOk thresherref13_One.T5.2 thresherref13_One.B5=true:=by kernel_rfl
set_option maxHeartbeats 8000000 in
set_option maxRecDepth 100000 in
theorem thresherref13_One.calls (k : Nat) (A0_0 : Option Addr) (c0_0 : Nat) (l0_0 : List Int) (a0_1 : Int) (a0_2 : Int) (a0_3 : Int) (A1 : Option Addr) (c1 : Nat) (l1 : List (S31)) (A2 : Option Addr) (c2 : Nat) (l2 : List (S31)) (r : List (S31)) (w : World) (hr0_0 : Kd.C (Kd.int .i64) w A0_0 l0_0.length l0_0) (hc0_0 : l0_0.length≤c0_0) (hr1 : Kd.C k31 w A1 l1.length l1) (hc1 : l1.length≤c1) (hr2 : Kd.C k31 w A2 l2.length l2) (hc2 : l2.length≤c2) (h : thresherref13_One.f k l0_0 a0_1 a0_2 a0_3 l1 l2=some r) :
  Calls Try.prog 34 #[.agg #[.slice A0_0 l0_0.length c0_0,.int .i64 a0_1,.int .i64 a0_2,.int .i64 a0_3],.slice A1 l1.length c1,.slice A2 l2.length c2] w fun e w'=>∃ v0_ : Value,e=.returned (v0_)∧Kd.R k31 31 w' w.heap.size (fun _=>True) v0_ r∧Below w.heap.size w w':=by
 have hu26:=Try.underlying26
 have hu31:=Try.underlying31
 have HR0_0:=Aside0.mk hr0_0
 have HC0_0:=Aside0.mk hc0_0
 clear hr0_0 hc0_0
 have HR1:=Aside0.mk hr1
 have HC1:=Aside0.mk hc1
 clear hr1 hc1
 have HR2:=Aside0.mk hr2
 have HC2:=Aside0.mk hc2
 clear hr2 hc2
 have HB:=Aside0.mk (Below.refl w.heap.size w)
 have H : ((some (([] : List (S31)) : List (S31))).bind fun y357=>(if y357.length + l2.length < 5864062014805 then (thresherref13_One.l0 k l1 l2 (y357 ++ l2) a0_1 l0_0 a0_1 a0_2 a0_3) else (none)))=some r:=h
 clear h
 obtain ⟨y357,hy357⟩ : ∃ y_ : List (S31),y_=(([] : List (S31))):=⟨_,rfl⟩
 replace H : (if y357.length + l2.length < 5864062014805 then (thresherref13_One.l0 k l1 l2 (y357 ++ l2) a0_1 l0_0 a0_1 a0_2 a0_3) else (none))=some r:=by first|(rw [hy357];with_reducible exact H)|(have H2_:=(Option.bind_some _ _).symm.trans H;rw [hy357];with_reducible exact H2_)|(have H2_:=(Option.bind_some _ _).symm.trans H;with_reducible exact H2_)|with_reducible exact H|(rw [hy357];exact H)|exact H
 have Ny357:=Aside0.mk hy357
 clear hy357
 by_cases c4 : y357.length + l2.length < 5864062014805
 ·rw [if_pos c4] at H
  have LMc4:=Aside0.mk c4
  clear c4
  obtain ⟨y360,hy360⟩ : ∃ y_ : List (S31),y_=(y357 ++ l2):=⟨_,rfl⟩
  replace H : (thresherref13_One.l0 k l1 l2 y360 a0_1 l0_0 a0_1 a0_2 a0_3)=some r:=by first|(rw [hy360];with_reducible exact H)|(have H2_:=(Option.bind_some _ _).symm.trans H;rw [hy360];with_reducible exact H2_)|(have H2_:=(Option.bind_some _ _).symm.trans H;with_reducible exact H2_)|with_reducible exact H|(rw [hy360];exact H)|exact H
  have Ny360:=Aside0.mk hy360
  clear hy360
  have H':=Aside0.mk H
  clear H
  go_enter Try.func34,Try.ntmps34
  go_wp2_with (first|((with_reducible refine gate_dst (N:=3) rfl ?_);refine box_event ?hg (N:=3) ?hd (cs:=#[.slice A0_0 l0_0.length c0_0,.int .i64 a0_1,.int .i64 a0_2,.int .i64 a0_3]) (t:=26) ?hr ?_;(case hd=>rfl);(case hg=>rfl);(case hr=>first|(go_simp;done)|(go_simp;rfl));intro gb356 hg w5 hbox hb;have n0_:=Aside0.mk (below_step (below_up HB.out) hb);have n1_:=Aside0.mk (hbox);have n2_:=Aside0.mk ((by rw [hg];exact (below_size (below_up HB.out)) : w.heap.size≤gb356));have n3_:=Aside0.mk ((by rw [hg];exact (below_size (below_up HB.out)) : w.heap.size≤gb356));clear HB;have HB:=n0_;have BK356:=n1_;have GW356:=n2_;have GE356:=n3_;clear n0_ n1_ n2_ n3_;clear hb hbox hg)|((with_reducible refine gate_dst (N:=9) rfl ?_);refine Kd.R_lit k31 _ 31 ?hg (N:=9) ?hd (xs:=([] : List (S31))) (inner:=[]) (ok:=fun _=>True) (okp:=fun _=>True) ?hr ?hp (fun _ hk=>hk) trivial (Below.refl _ _) (Nat.le_refl _) (by simp) ?_;(case hd=>rfl);(case hg=>rfl);(case hr=>first|(go_simp;done)|(go_simp;rfl));(case hp=>exact (Reps.none _ _));intro v358 w6 ho7 hb hg_ hnew_;clear hg_ hnew_;(first|rw [← Ny357.out] at ho7|(simp only [Int.reduceToNat] at ho7;rw [← Ny357.out] at ho7));have n0_:=Aside0.mk (Kd.R_lower ho7 (below_size (below_go HB.out)));have n1_:=Aside0.mk (blk_below (blk_up BK356.out) hb);have n2_:=Aside0.mk (below_step (below_go HB.out) hb);clear BK356;clear HB;have HO359:=n0_;have BK356:=n1_;have HB:=n2_;clear n0_ n1_ n2_;clear hb ho7)|((with_reducible refine gate_builtin (b:=.append) (xs:=#[.tmp 9,.tmp 10]) rfl ?_);at_builtin;refine Kd.R_append_rows k31 (w0:=w) w.heap.size rfl (.tmp 9) (.tmp 10) 33 31 (.agg #[(.int .i64 0),(.string ⟨#[]⟩)]) 24 rfl Try.underlying33 info31 rfl (by decide) (by omega) v358 y357 l2 _ _ _ (fun _=>True) (fun _=>False) rfl rfl ?aO ?aR (fun _ _ h=>h) (fun _ h=>h.elim) ?aF ?aB ?aS ?aL ?_;(case aR=>repeat (first|exact (Kd.C_below HR2.out HB.out)|(with_reducible refine Kd.C_alloc ?_ _)|(with_reducible refine Kd.C_drewN ?_ _)|(with_reducible refine Kd.C_drew ?_)));(case aB=>exact (below_go HB.out));(case aF=>exact (fun _ _=>trivial));(case aO=>exact (R_up HO359.out));(case aS=>exact (below_size (below_go HB.out)));(case aL=>have:=LMc4.out;omega);intro v361 w8 ho hb hg hat;rw [← Ny360.out] at ho;have n0_:=Aside0.mk (blk_grown (blk_up BK356.out) hg (Kd.R_ne HO359.out BK356.out (by decide)));have n1_:=Aside0.mk (hb);have n2_:=Aside0.mk (ho);clear BK356;clear HB;clear HO359;have BK356:=n0_;have HB:=n1_;have HO362:=n2_;clear n0_ n1_ n2_;clear ho hb hg hat;have hcz9_0 : w8.cell? ⟨gb356,0,none⟩=some (.slice A0_0 l0_0.length c0_0):=(blk_cell BK356.out 0).trans rfl;have hcz9_1 : w8.cell? ⟨gb356,1,none⟩=some (.int .i64 a0_1):=(blk_cell BK356.out 1).trans rfl;have hcz9_2 : w8.cell? ⟨gb356,2,none⟩=some (.int .i64 a0_2):=(blk_cell BK356.out 2).trans rfl;have hcz9_3 : w8.cell? ⟨gb356,3,none⟩=some (.int .i64 a0_3):=(blk_cell BK356.out 3).trans rfl;have hfz9_0:=blk_frozen BK356.out 0;have hfz9_1:=blk_frozen BK356.out 1;have hfz9_2:=blk_frozen BK356.out 2;have hfz9_3:=blk_frozen BK356.out 3))
  go_loopg [8] k (fun kq v8 w'=>∃ (x7_1 : List (S31)) (x8_1 : Int),v8=.int .i64 x8_1∧Aside0 (thresherref13_One.l0 kq l1 l2 x7_1 x8_1 l0_0 a0_1 a0_2 a0_3=some r)∧Aside0 (kq≤k)∧Aside0 (Kd.R k31 31 w' w.heap.size (fun _=>True) v361 x7_1)∧Aside0 (w'.heap[gb356]?=some (.cells #[(.slice A0_0 l0_0.length c0_0),.int .i64 a0_1,.int .i64 a0_2,.int .i64 a0_3] 26 (0,0)))∧Aside0 (Below w.heap.size w w'))
  case atStart=>exact ⟨(y360),(a0_1),(by first|rfl|(simp;done)|(simp [*];done)),H',⟨Nat.le_refl _⟩,⟨by (with_reducible repeat (first|apply Kd.R_alloc|apply Kd.R_drewN|apply Kd.R_drew));exact HO362.out⟩,⟨by (with_reducible repeat (first|refine blk_drewN ?_ _|refine blk_drew ?_|refine blk_alloc ?_ _));exact BK356.out⟩,⟨by repeat (first|(with_reducible first|exact HB.out|apply below_alloc|apply pw_below_drewN|apply below_drew1|refine below_set ?_ GE356.out)|exact HB.out)⟩⟩
  case round =>
   clear H'
   try clear c1
   try clear c2
   try clear p2
   try clear c3
   try clear c4
   try clear hcz9_0
   try clear hcz9_1
   try clear hcz9_2
   try clear hcz9_3
   try clear hfz9_0
   try clear hfz9_1
   try clear hfz9_2
   try clear hfz9_3
   obtain ⟨x7_1,x8_1,rfl,HA,HK1,HO_7,BK356,HB⟩:=hrel
   cases gk with
   | zero=>exact absurd HA.out (by simp [thresherref13_One.l0])
   | succ k1 =>
    have H:=HA.out
    clear HA
    simp only [thresherref13_One.l0] at H
    by_cases c10 : x8_1 < (x7_1.length : Int)
    ·rw [if_pos c10] at H
     have c10b0 : decide (x8_1 < (x7_1.length : Int))=true:=decide_eq_true c10
     clear c10
     by_cases c11 : a0_2=3
     ·rw [if_pos c11] at H
      have c11b0 : (a0_2 == 3)=true:=beq_iff_eq.mpr c11
      have c11b1 : (a0_2 != 3)=false:=bne_eq_false_iff_eq.mpr c11
      clear c11
      by_cases c12 : 0≤x8_1
      ·rw [if_pos c12] at H
       have c12b0 : decide (0≤x8_1)=true:=decide_eq_true c12
       clear c12
       by_cases c13 : x8_1 < (l0_0.length : Int)
       ·rw [if_pos c13] at H
        have c13b0 : decide (x8_1 < (l0_0.length : Int))=true:=decide_eq_true c13
        clear c13
        by_cases c14 : x8_1 < (l1.length : Int)
        ·rw [if_pos c14] at H
         have c14b0 : decide (x8_1 < (l1.length : Int))=true:=decide_eq_true c14
         clear c14
         by_cases c15 : x8_1 < (l2.length : Int)
         ·rw [if_pos c15] at H
          have c15b0 : decide (x8_1 < (l2.length : Int))=true:=decide_eq_true c15
          clear c15
          replace H:=Option.bind_eq_some_iff.mp H
          obtain ⟨⟨t366,t367⟩,A160,H⟩:=H
          replace H : (thresherref13_One.l0 k1 l1 l2 (x7_1.set (x8_1 : Int).toNat (⟨t366,t367⟩ : S31)) (wrap64 (x8_1 + 1)) l0_0 a0_1 a0_2 a0_3)=some r:=H
          have A16:=Aside0.mk A160
          clear A160
          obtain ⟨y368,hy368⟩ : ∃ y_ : List (S31),y_=(x7_1.set (x8_1 : Int).toNat (⟨t366,t367⟩ : S31)):=⟨_,rfl⟩
          replace H : (thresherref13_One.l0 k1 l1 l2 y368 (wrap64 (x8_1 + 1)) l0_0 a0_1 a0_2 a0_3)=some r:=by first|(rw [hy368];with_reducible exact H)|(have H2_:=(Option.bind_some _ _).symm.trans H;rw [hy368];with_reducible exact H2_)|(have H2_:=(Option.bind_some _ _).symm.trans H;with_reducible exact H2_)|with_reducible exact H|(rw [hy368];exact H)|exact H
          have Ny368:=Aside0.mk hy368
          clear hy368
          have H':=Aside0.mk H
          clear H
          obtain ⟨Ao18,co18,eo18⟩:=Kd.R_slice HO_7.out
          subst eo18
          have hcz19_0 : wr.cell? ⟨gb356,0,none⟩=some (.slice A0_0 l0_0.length c0_0):=(blk_cell BK356.out 0).trans rfl
          have hcz19_1 : wr.cell? ⟨gb356,1,none⟩=some (.int .i64 a0_1):=(blk_cell BK356.out 1).trans rfl
          have hcz19_2 : wr.cell? ⟨gb356,2,none⟩=some (.int .i64 a0_2):=(blk_cell BK356.out 2).trans rfl
          have hcz19_3 : wr.cell? ⟨gb356,3,none⟩=some (.int .i64 a0_3):=(blk_cell BK356.out 3).trans rfl
          have hfz19_0:=blk_frozen BK356.out 0
          have hfz19_1:=blk_frozen BK356.out 1
          have hfz19_2:=blk_frozen BK356.out 2
          have hfz19_3:=blk_frozen BK356.out 3
          try go_wp2
          have n0_:=Aside0.mk (Kd.R_drew HO_7.out)
          have n1_:=Aside0.mk (blk_drew BK356.out)
          have n2_:=Aside0.mk (below_drew1 HB.out)
          clear HO_7
          clear BK356
          clear HB
          have HO_7:=n0_
          have BK356:=n1_
          have HB:=n2_
          clear n0_ n1_ n2_
          have p363 : 0≤(x8_1 : Int):=of_decide_eq_true (by first|(with_reducible assumption)|assumption)
          have q363 : x8_1 < (l0_0.length : Int):=of_decide_eq_true (by first|(with_reducible assumption)|assumption)
          obtain ⟨ad363,e363,hx363_0⟩:=Kd.at_int HR0_0.out x8_1 p363 q363
          have hw363_0:=hx363_0
          cases e363
          replace hx363_0:=(HB.out.cell (World.block_lt_of_cell? w _ hx363_0)).trans hx363_0
          replace p363:=eq_true p363
          replace q363:=eq_true q363
          have p364 : 0≤(x8_1 : Int):=of_decide_eq_true (by first|(with_reducible assumption)|assumption)
          have q364 : x8_1 < (l1.length : Int):=of_decide_eq_true (by first|(with_reducible assumption)|assumption)
          obtain ⟨ad364,e364,hx364_0,hx364_1⟩:=at_T31 HR1.out x8_1 p364 q364
          have hw364_1:=hx364_1
          have hw364_0:=hx364_0
          cases e364
          replace hx364_0:=(HB.out.cell (World.block_lt_of_cell? w _ hx364_0)).trans hx364_0
          replace hx364_1:=(HB.out.cell (World.block_lt_of_cell? w _ hx364_1)).trans hx364_1
          replace p364:=eq_true p364
          replace q364:=eq_true q364
          have p365 : 0≤(x8_1 : Int):=of_decide_eq_true (by first|(with_reducible assumption)|assumption)
          have q365 : x8_1 < (l2.length : Int):=of_decide_eq_true (by first|(with_reducible assumption)|assumption)
          obtain ⟨ad365,e365,hx365_0,hx365_1⟩:=at_T31 HR2.out x8_1 p365 q365
          have hw365_1:=hx365_1
          have hw365_0:=hx365_0
          cases e365
          replace hx365_0:=(HB.out.cell (World.block_lt_of_cell? w _ hx365_0)).trans hx365_0
          replace hx365_1:=(HB.out.cell (World.block_lt_of_cell? w _ hx365_1)).trans hx365_1
          replace p365:=eq_true p365
          replace q365:=eq_true q365
          refine start_ (n:=18) (S:=fun w'=>w'.cell? ⟨gb356,0,none⟩=some (.slice (some ad363) l0_0.length c0_0)∧w'.cell? ⟨gb356,1,none⟩=some (.int .i64 a0_1)∧w'.cell? ⟨gb356,2,none⟩=some (.int .i64 a0_2)∧w'.cell? ⟨gb356,3,none⟩=some (.int .i64 a0_3)∧w'.cell? (ad363.add (x8_1).toNat)=some (.int .i64 (rd l0_0 x8_1))∧w'.cell? (ad364.add ((x8_1).toNat * 2))=some (.int .i64 ((rd_T31 l1 x8_1).f0))∧w'.cell? ⟨(ad364.add ((x8_1).toNat * 2)).block,(ad364.add ((x8_1).toNat * 2)).off + 1,none⟩=some (.string ((rd_T31 l1 x8_1).f1))∧w'.cell? (ad365.add ((x8_1).toNat * 2))=some (.int .i64 ((rd_T31 l2 x8_1).f0))∧w'.cell? ⟨(ad365.add ((x8_1).toNat * 2)).block,(ad365.add ((x8_1).toNat * 2)).off + 1,none⟩=some (.string ((rd_T31 l2 x8_1).f1))) (ds:=[17]) #[false,false,false,false,false,false,false,false,false,false,false,false,false,false,false,false,false,false] (by kernel_rfl) rfl rfl ⟨(blk_cell BK356.out 0).trans rfl,(blk_cell BK356.out 1).trans rfl,(blk_cell BK356.out 2).trans rfl,(blk_cell BK356.out 3).trans rfl,((HB.out.cell (World.block_lt_of_cell? w _ hw363_0)).trans hw363_0),((HB.out.cell (World.block_lt_of_cell? w _ hw364_0)).trans hw364_0),((HB.out.cell (World.block_lt_of_cell? w _ hw364_1)).trans hw364_1),((HB.out.cell (World.block_lt_of_cell? w _ hw365_0)).trans hw365_0),((HB.out.cell (World.block_lt_of_cell? w _ hw365_1)).trans hw365_1)⟩ (fun hHeld=>?_);refine with_tabW thresherref13_One.tab5 thresherref13_One.bits5 (fun HT_ HW_=>?_)
          generalize wr.drew=w20 at HO_7 BK356 HB hx363_0 hx364_0 hx364_1 hx365_0 hx365_1 hHeld ⊢
          refine pure_ (i:=0) (N:=some 25) (v:=?_) (a':=?_) #[true,false,false,false,false,false,false,false,false,false,false,false,false,false,false,false,false,false] rfl rfl (any_of HT_.out (by kernel_rfl)) (fun _ _ _ h=>h) (Or.inl ⟨by rfl,?_⟩) ?_ ?_
          rotate_left;(intro w';go_simp;with_reducible rfl);rotate_left;(simp only [Act.put,List.setIfInBounds_toArray,List.set_cons_zero,List.set_cons_succ,i64_w,i32_w];rfl)
          refine pure_ (i:=1) (N:=some 26) (v:=?_) (a':=?_) #[true,true,false,false,false,false,false,false,false,false,false,false,false,false,false,false,false,false] rfl rfl (any_of HT_.out (by kernel_rfl)) (fun _ _ _ h=>h) (Or.inl ⟨by rfl,?_⟩) ?_ ?_
          rotate_left;(intro w';go_simp;with_reducible rfl);rotate_left;(simp only [Act.put,List.setIfInBounds_toArray,List.set_cons_zero,List.set_cons_succ,i64_w,i32_w];rfl)
          refine pure_ (i:=2) (N:=some 27) (v:=?_) (a':=?_) #[true,true,true,false,false,false,false,false,false,false,false,false,false,false,false,false,false,false] rfl rfl (any_of HT_.out (by kernel_rfl)) (fun _ _ _ h=>h) (Or.inl ⟨by rfl,?_⟩) ?_ ?_
          rotate_left;(intro w';go_simp;with_reducible rfl);rotate_left;(simp only [Act.put,List.setIfInBounds_toArray,List.set_cons_zero,List.set_cons_succ,i64_w,i32_w];rfl)
          refine pure_ (i:=4) (N:=some 29) (v:=?_) (a':=?_) #[true,true,true,false,true,false,false,false,false,false,false,false,false,false,false,false,false,false] rfl rfl (any_of HT_.out (by kernel_rfl)) (fun _ _ _ h=>h) (Or.inl ⟨by rfl,?_⟩) ?_ ?_
          rotate_left;(intro w';go_simp;with_reducible rfl);rotate_left;(simp only [Act.put,List.setIfInBounds_toArray,List.set_cons_zero,List.set_cons_succ,i64_w,i32_w];rfl)
          refine pure_ (i:=7) (N:=some 32) (v:=?_) (a':=?_) #[true,true,true,false,true,false,false,true,false,false,false,false,false,false,false,false,false,false] rfl rfl (any_of HT_.out (by kernel_rfl)) (fun _ _ _ h=>h) (Or.inl ⟨by rfl,?_⟩) ?_ ?_
          rotate_left;(intro w';go_simp;with_reducible rfl);rotate_left;(simp only [Act.put,List.setIfInBounds_toArray,List.set_cons_zero,List.set_cons_succ,i64_w,i32_w];rfl)
          refine pure_ (i:=8) (N:=some 33) (v:=?_) (a':=?_) #[true,true,true,false,true,false,false,true,true,false,false,false,false,false,false,false,false,false] rfl rfl (any_of HT_.out (by kernel_rfl)) (fun _ _ _ h=>h) (Or.inl ⟨by rfl,?_⟩) ?_ ?_
          rotate_left;(intro w';go_simp;with_reducible rfl);rotate_left;(simp only [Act.put,List.setIfInBounds_toArray,List.set_cons_zero,List.set_cons_succ,i64_w,i32_w];rfl)
          refine pure_ (i:=9) (N:=some 34) (v:=?_) (a':=?_) #[true,true,true,false,true,false,false,true,true,true,false,false,false,false,false,false,false,false] rfl rfl (any_of HT_.out (by kernel_rfl)) (fun _ _ _ h=>h) (Or.inl ⟨by rfl,?_⟩) ?_ ?_
          rotate_left;(intro w';go_simp;with_reducible rfl);rotate_left;(simp only [Act.put,List.setIfInBounds_toArray,List.set_cons_zero,List.set_cons_succ,i64_w,i32_w];rfl)
          refine pure_ (i:=11) (N:=some 36) (v:=?_) (a':=?_) #[true,true,true,false,true,false,false,true,true,true,false,true,false,false,false,false,false,false] rfl rfl (any_of HT_.out (by kernel_rfl)) (fun _ _ _ h=>h) (Or.inl ⟨by rfl,?_⟩) ?_ ?_
          rotate_left;(intro w';go_simp;with_reducible rfl);rotate_left;(simp only [Act.put,List.setIfInBounds_toArray,List.set_cons_zero,List.set_cons_succ,i64_w,i32_w];rfl)
          refine pure_ (i:=12) (N:=some 37) (v:=?_) (a':=?_) #[true,true,true,false,true,false,false,true,true,true,false,true,true,false,false,false,false,false] rfl rfl (any_of HT_.out (by kernel_rfl)) (fun _ _ _ h=>h) (Or.inl ⟨by rfl,?_⟩) ?_ ?_
          rotate_left;(intro w';go_simp;with_reducible rfl);rotate_left;(simp only [Act.put,List.setIfInBounds_toArray,List.set_cons_zero,List.set_cons_succ,i64_w,i32_w];rfl)
          refine pure_ (i:=13) (N:=some 38) (v:=?_) (a':=?_) #[true,true,true,false,true,false,false,true,true,true,false,true,true,true,false,false,false,false] rfl rfl (any_of HT_.out (by kernel_rfl)) (fun _ _ _ h=>h) (Or.inl ⟨by rfl,?_⟩) ?_ ?_
          rotate_left;(intro w';go_simp;with_reducible rfl);rotate_left;(simp only [Act.put,List.setIfInBounds_toArray,List.set_cons_zero,List.set_cons_succ,i64_w,i32_w];rfl)
          refine take_ (i:=3) (N:=some 28) (v:=?_) (a':=?_) #[true,true,true,true,true,false,false,true,true,true,false,true,true,true,false,false,false,false] rfl rfl (take_ofW HT_.out HW_.out (by kernel_rfl)) (fun _ _ _ h=>h) (Or.inl ⟨by rfl,?_⟩) hHeld ?_ ?_
          rotate_left;(rintro w' ⟨s0,s1,s2,s3,s4,s5,s6,s7,s8⟩;go_simp;with_reducible rfl);rotate_left;(simp only [Act.put,List.setIfInBounds_toArray,List.set_cons_zero,List.set_cons_succ,i64_w,i32_w];rfl)
          refine pure_ (i:=5) (N:=some 30) (v:=?_) (a':=?_) #[true,true,true,true,true,true,false,true,true,true,false,true,true,true,false,false,false,false] rfl rfl (any_of HT_.out (by kernel_rfl)) (fun _ _ _ h=>h) (Or.inl ⟨by rfl,?_⟩) ?_ ?_
          rotate_left;(intro w';go_simp;with_reducible rfl);rotate_left;(simp only [Act.put,List.setIfInBounds_toArray,List.set_cons_zero,List.set_cons_succ,i64_w,i32_w];rfl)
          refine take_ (i:=6) (N:=some 31) (v:=?_) (a':=?_) #[true,true,true,true,true,true,true,true,true,true,false,true,true,true,false,false,false,false] rfl rfl (take_ofW HT_.out HW_.out (by kernel_rfl)) (fun _ _ _ h=>h) (Or.inl ⟨by rfl,?_⟩) hHeld ?_ ?_
          rotate_left;(rintro w' ⟨s0,s1,s2,s3,s4,s5,s6,s7,s8⟩;go_simp;with_reducible rfl);rotate_left;(simp only [Act.put,List.setIfInBounds_toArray,List.set_cons_zero,List.set_cons_succ,i64_w,i32_w];rfl)
          refine take_ (i:=10) (N:=some 35) (v:=?_) (a':=?_) #[true,true,true,true,true,true,true,true,true,true,true,true,true,true,false,false,false,false] rfl rfl (take_ofW HT_.out HW_.out (by kernel_rfl)) (fun _ _ _ h=>h) (Or.inl ⟨by rfl,?_⟩) hHeld ?_ ?_
          rotate_left;(rintro w' ⟨s0,s1,s2,s3,s4,s5,s6,s7,s8⟩;go_simp;with_reducible rfl);rotate_left;(simp only [Act.put,List.setIfInBounds_toArray,List.set_cons_zero,List.set_cons_succ,i64_w,i32_w];rfl)
          refine take_ (i:=14) (N:=some 39) (v:=?_) (a':=?_) #[true,true,true,true,true,true,true,true,true,true,true,true,true,true,true,false,false,false] rfl rfl (take_ofW HT_.out HW_.out (by kernel_rfl)) (fun _ _ _ h=>h) (Or.inl ⟨by rfl,?_⟩) hHeld ?_ ?_
          rotate_left;(rintro w' ⟨s0,s1,s2,s3,s4,s5,s6,s7,s8⟩;go_simp;with_reducible rfl);rotate_left;(simp only [Act.put,List.setIfInBounds_toArray,List.set_cons_zero,List.set_cons_succ,i64_w,i32_w];rfl)
          refine one_ (i:=15) (N:=some 40) #[true,true,true,true,true,true,true,true,true,true,true,true,true,true,true,true,false,false] rfl rfl (one_of HT_.out (by kernel_rfl)) (by decide) (fun K hK=>?_)
          refine goes_ Try.func38 (by kernel_rfl) rfl #[.int .i64 (rd l0_0 x8_1),.agg #[.int .i64 ((rd_T31 l1 x8_1).f0),.string ((rd_T31 l1 x8_1).f1)],.agg #[.int .i64 ((rd_T31 l2 x8_1).f0),.string ((rd_T31 l2 x8_1).f1)]] (by rfl) rfl rfl (by (try simp only [List.map_toArray,List.map_cons,List.map_nil]);first|done|rfl|(simp only [List.length_drop,List.length_take];rfl)) ?_
          with_reducible refine (thresherref03_Add.calls k1 (rd l0_0 x8_1) ((rd_T31 l1 x8_1).f0) ((rd_T31 l1 x8_1).f1) ((rd_T31 l2 x8_1).f0) ((rd_T31 l2 x8_1).f1) t366 t367 _ A16.out).mono ?_
          rintro e w21 ⟨rfl,hb⟩
          refine ⟨_,rfl,?_⟩
          have n0_:=Aside0.mk (Kd.R_below (R_up HO_7.out) hb)
          have n1_:=Aside0.mk (blk_below (blk_up BK356.out) hb)
          have n2_:=Aside0.mk (below_step (below_go HB.out) hb)
          clear HO_7
          clear BK356
          clear HB
          have HO_7:=n0_
          have BK356:=n1_
          have HB:=n2_
          clear n0_ n1_ n2_
          (try clear hb)
          (try clear hb2)
          (try clear hk)
          (try clear hi)
          have p17 : 0≤(x8_1 : Int):=of_decide_eq_true (by first|(with_reducible assumption)|assumption)
          have q17 : (x8_1 : Int) < ((x7_1.length : Int) : Int):=of_decide_eq_true (by first|(with_reducible assumption)|assumption)
          obtain ⟨go17,co17,eo17,gb17,gl17,cl17,HG17⟩:=Kd.R_form HO_7.out (by omega)
          (first|cases eo17|(injection eo17 with ea_ en_ ec_;(first|subst ea_|(injection ea_ with ea_;subst ea_));subst ec_;clear en_))
          have GB17:=Aside0.mk gb17
          have GG17:=Aside0.mk HG17
          clear gb17 gl17 HG17
          obtain ⟨ce17,hcl17,hM17,hcc17,hfr17⟩:=Kd.R_elem HO_7.out z31 (x8_1 : Int) p17 q17
          obtain rfl:=k31_openM hM17
          have hx17_0 : World.cell? _ ⟨go17,(x8_1 : Int).toNat * 2,none⟩=some (.int .i64 ((rd_T31 x7_1 x8_1).f0)):=hcc17 0 _ rfl
          have hx17_1 : World.cell? _ ⟨go17,(x8_1 : Int).toNat * 2 + 1,none⟩=some (.string ((rd_T31 x7_1 x8_1).f1)):=hcc17 1 _ rfl
          have hf17_0 : World.frozen? _ ⟨go17,(x8_1 : Int).toNat * 2,none⟩=false:=hfr17 0
          have hf17_1 : World.frozen? _ ⟨go17,(x8_1 : Int).toNat * 2 + 1,none⟩=false:=hfr17 1
          clear hcl17 hcc17 hfr17 hM17
          replace p17:=eq_true p17
          replace q17:=eq_true q17
          obtain ⟨ce22,hcl22,hM22,hcc22,hfr22⟩:=Kd.R_elem HO_7.out z31 (x8_1 : Int) (of_decide_eq_true (by first|(with_reducible assumption)|assumption)) (by have h_ : (x8_1 : Int) < ((x7_1.length : Int) : Int):=of_decide_eq_true (by first|(with_reducible assumption)|assumption);first|exact h_|(have e_:=(Kd.R_reads' HO_7.out).1;omega)|simpa using h_)
          obtain rfl:=k31_openM hM22
          have HP22:=(Kd.R_seg HO_7.out (x8_1 : Int) (of_decide_eq_true (by first|(with_reducible assumption)|assumption)) (by have h_ : (x8_1 : Int) < ((x7_1.length : Int) : Int):=of_decide_eq_true (by first|(with_reducible assumption)|assumption);first|exact h_|(have e_:=(Kd.R_reads' HO_7.out).1;omega)|simpa using h_) (seg:=[.int .i64 t366,.string t367]) (j:=0) hcl22 hcc22 (show 2≤2 from by decide) (x':=(⟨t366,t367⟩ : S31)) (k31_mkM _ _ _ (⟨t366,t367⟩ : S31) ) (fun _ hk=>hk)).1
          rw [← Ny368.out] at HP22
          have HQ22:=Aside0.mk HP22
          clear hcl22 hcc22 hfr22 hM22 HP22
          refine hK.out _ _ ⟨(blk_cell BK356.out 0).trans rfl,(blk_cell BK356.out 1).trans rfl,(blk_cell BK356.out 2).trans rfl,(blk_cell BK356.out 3).trans rfl,((HB.out.cell (World.block_lt_of_cell? w _ hw363_0)).trans hw363_0),((HB.out.cell (World.block_lt_of_cell? w _ hw364_0)).trans hw364_0),((HB.out.cell (World.block_lt_of_cell? w _ hw364_1)).trans hw364_1),((HB.out.cell (World.block_lt_of_cell? w _ hw365_0)).trans hw365_0),((HB.out.cell (World.block_lt_of_cell? w _ hw365_1)).trans hw365_1)⟩ (fun hHeld=>?_)
          clear hK K
          refine norm_ (a':=?_) ?_ ?_
          rotate_left
          ·show Act.put _ (some 40) _=_
           simp only [Act.put,List.setIfInBounds_toArray,List.set_cons_zero,List.set_cons_succ,i64_w,i32_w]
           rfl
          refine pure_ (i:=16) (N:=some 41) (v:=?_) (a':=?_) #[true,true,true,true,true,true,true,true,true,true,true,true,true,true,true,true,true,false] rfl rfl (any_of HT_.out (by kernel_rfl)) (fun _ _ _ h=>h) (Or.inl ⟨by rfl,?_⟩) ?_ ?_
          rotate_left;(intro w';go_simp;with_reducible rfl);rotate_left;(simp only [Act.put,List.setIfInBounds_toArray,List.set_cons_zero,List.set_cons_succ,i64_w,i32_w];rfl)
          refine last_ (i:=17) (N:=none) #[true,true,true,true,true,true,true,true,true,true,true,true,true,true,true,true,true,true] rfl rfl (one_of HT_.out (by kernel_rfl)) (by decide) (fun K hK=>?_)
          refine skip_ (w1:=?_) (by rfl) rfl ?_ ?_
          rotate_left
          ·go_simp
           rfl
          refine hK.out _ _ ?_
          clear hK K
          refine done_ (done_of HT_.out (by kernel_rfl)) ?_
          (try clear hHeld)
          try go_wp2
          go_roundg k1
          case measure=>have:=HK1.out;omega
          case rel=>exact ⟨(y368),(wrap64 (x8_1 + 1)),(by first|rfl|(simp;done)|(simp [*];done)),(by first|exact H'|(subst_vars;exact H')),⟨by have:=HK1.out;omega⟩,⟨by (with_reducible repeat (first|apply Kd.R_alloc|apply Kd.R_drewN|apply Kd.R_drew));exact HQ22.out⟩,⟨by (with_reducible repeat (first|refine blk_drewN ?_ _|refine blk_drew ?_|refine blk_alloc ?_ _));refine blk_far ?_ (by have h_:=Kd.R_ne HO_7.out BK356.out (by decide);intro e_;exact h_ (by rw [e_];rfl)) _;(with_reducible repeat (first|refine blk_drewN ?_ _|refine blk_drew ?_|refine blk_alloc ?_ _));refine blk_far ?_ (by have h_:=Kd.R_ne HO_7.out BK356.out (by decide);intro e_;exact h_ (by rw [e_];rfl)) _;(with_reducible repeat (first|refine blk_drewN ?_ _|refine blk_drew ?_|refine blk_alloc ?_ _));exact BK356.out⟩,⟨by repeat (first|(with_reducible first|exact HB.out|apply below_alloc|apply pw_below_drewN|apply below_drew1|refine below_set ?_ GB17.out|refine below_set ?_ GB17.out|refine below_set ?_ GE356.out)|exact HB.out)⟩⟩
         ·rw [if_neg c15] at H
          exact absurd H (by simp)
        ·rw [if_neg c14] at H
         exact absurd H (by simp)
       ·rw [if_neg c13] at H
        exact absurd H (by simp)
      ·rw [if_neg c12] at H
       exact absurd H (by simp)
     ·rw [if_neg c11] at H
      have c11b0 : (a0_2 == 3)=false:=beq_eq_false_iff_ne.mpr c11
      have c11b1 : (a0_2 != 3)=true:=bne_iff_ne.mpr c11
      obtain rfl:=Option.some.inj H
      obtain ⟨Ao23,co23,eo23⟩:=Kd.R_slice HO_7.out
      subst eo23
      have hcz24_0 : wr.cell? ⟨gb356,0,none⟩=some (.slice A0_0 l0_0.length c0_0):=(blk_cell BK356.out 0).trans rfl
      have hcz24_1 : wr.cell? ⟨gb356,1,none⟩=some (.int .i64 a0_1):=(blk_cell BK356.out 1).trans rfl
      have hcz24_2 : wr.cell? ⟨gb356,2,none⟩=some (.int .i64 a0_2):=(blk_cell BK356.out 2).trans rfl
      have hcz24_3 : wr.cell? ⟨gb356,3,none⟩=some (.int .i64 a0_3):=(blk_cell BK356.out 3).trans rfl
      have hfz24_0:=blk_frozen BK356.out 0
      have hfz24_1:=blk_frozen BK356.out 1
      have hfz24_2:=blk_frozen BK356.out 2
      have hfz24_3:=blk_frozen BK356.out 3
      go_wp2
      go_ret
      exact ⟨_,by first|rfl|(simp [errW_none,errW_some] <;> rfl)|(simp [*,errW_none,errW_some] <;> rfl),by (with_reducible repeat (first|apply Kd.R_alloc|apply Kd.R_drewN|apply Kd.R_drew));exact HO_7.out,by repeat (first|(with_reducible first|exact HB.out|apply below_alloc|apply pw_below_drewN|apply below_drew1|refine below_set ?_ GE356.out)|exact HB.out)⟩
    ·rw [if_neg c10] at H
     have c10b0 : decide (x8_1 < (x7_1.length : Int))=false:=decide_eq_false c10
     clear c10
     obtain rfl:=Option.some.inj H
     obtain ⟨Ao25,co25,eo25⟩:=Kd.R_slice HO_7.out
     subst eo25
     go_wp2
     go_ret
     exact ⟨_,by first|rfl|(simp [errW_none,errW_some] <;> rfl)|(simp [*,errW_none,errW_some] <;> rfl),by (with_reducible repeat (first|apply Kd.R_alloc|apply Kd.R_drewN|apply Kd.R_drew));exact HO_7.out,by repeat (first|(with_reducible first|exact HB.out|apply below_alloc|apply pw_below_drewN|apply below_drew1|refine below_set ?_ GE356.out)|exact HB.out)⟩
 ·rw [if_neg c4] at H
  exact absurd H (by simp)
end Go.Proofs.Ytfiandejapgkoaa.P

