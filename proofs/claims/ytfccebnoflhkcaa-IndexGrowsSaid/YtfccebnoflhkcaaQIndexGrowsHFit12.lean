/- Texts of IndexGrows. Merged: HFit12. -/
import Derived.Test.YtfccebnoflhkcaaQIndexGrowsPx7
import Derived.Test.YtfccebnoflhkcaaQIndexGrowsHBase
/- thresherref12.Fit, by hand: a range whose ends are made to fit, cut as they are. -/
namespace Go.Proofs.Ytfccebnoflhkcaa.P
open Go.RowKit Go.Proofs.YtfccebnoflhkcaaW.PrintWords Go.Proofs.YtfccebnoflhkcaaW.PrintLast Go.Proofs.YtfccebnoflhkcaaW.PrintMore
set_option linter.unusedVariables false
set_option linter.unusedSimpArgs false
def thresherref12_Fit.f (k : Nat) (T : List Int) (a b d : Int) (hl hh : Bool) (lo hi : List S44) : Option (Bool × Bool × (List (S44)) × (List (S44))) :=
 (thresherref04_Fit.f k T a b d lo).bind fun x=>(thresherref04_Fit.f k T a b d hi).bind fun y=>some (hl,hh,x.take (min lo.length x.length),y.take (min hi.length y.length))
theorem thresherref12_Fit.mono : ∀ T a b d hl hh lo hi k,LeO (thresherref12_Fit.f k T a b d hl hh lo hi) (thresherref12_Fit.f (k + 1) T a b d hl hh lo hi):=fun T a b d hl hh lo hi k =>
 LeO.bind (thresherref04_Fit.mono _ _ _ _ _ _) (fun _=>LeO.bind (thresherref04_Fit.mono _ _ _ _ _ _) (fun _=>LeO.refl _))
theorem apart_lo {W w1 : World} {v : Value} {ys : List (S44)} {ok : Nat→Prop} (hv : Kd.R k44 44 w1 W.heap.size ok v ys) : ∀ k,k < W.heap.size→some k≠v.ownBlock:=fun k hk h=>by
 have:=Kd.R_base hv k h.symm
 omega
theorem apart_hi {W : World} {B : Nat} {u : Value} {xs : List (S44)} {ok : Nat→Prop} (hu : Kd.R k44 44 W B ok u xs) : ∀ k,W.heap.size≤k→some k≠u.ownBlock:=fun k hk h=>by
 have:=((Kd.R_bound hu).1 k h.symm).2.2.1
 omega
set_option maxHeartbeats 8000000 in
set_option maxRecDepth 100000 in
theorem thresherref12_Fit.calls (k : Nat) (A : Option Addr) (c : Nat) (T : List Int) (a b d : Int) (hl hh : Bool) (AL : Option Addr) (cL : Nat) (lo : List (S44)) (AH : Option Addr) (cH : Nat) (hi : List (S44)) (r1 r2 : Bool) (r3 r4 : List (S44)) (w : World)
  (hT : Kd.C (Kd.int .i64) w A T.length T) (hc : T.length≤c) (hL : Kd.C k44 w AL lo.length lo) (hcL : lo.length≤cL) (hH : Kd.C k44 w AH hi.length hi) (hcH : hi.length≤cH)
  (h : thresherref12_Fit.f k T a b d hl hh lo hi=some (r1,r2,r3,r4)) :
  Calls Try.prog 11 #[.agg #[.slice A T.length c,.int .i64 a,.int .i64 b,.int .i64 d],.agg #[.bool hl,.bool hh,.slice AL lo.length cL,.slice AH hi.length cH]] w fun e w'=>∃ v2_ v3_ : Value,e=.returned (.agg #[.bool r1,.bool r2,v2_,v3_])∧Kd.R k44 44 w' w.heap.size (fun k_=>some k_≠(v3_ : Value).ownBlock) v2_ r3∧Kd.R k44 44 w' w.heap.size (fun k_=>some k_≠(v2_ : Value).ownBlock) v3_ r4∧Below w.heap.size w w':=by
 unfold thresherref12_Fit.f at h
 obtain ⟨x1,h1,h⟩:=Option.bind_eq_some_iff.mp h
 obtain ⟨x2,h2,h⟩:=Option.bind_eq_some_iff.mp h
 simp only [Option.some.injEq,Prod.mk.injEq] at h
 obtain ⟨rfl,rfl,e3,e4⟩:=h
 have E3:=Aside0.mk e3
 have E4:=Aside0.mk e4
 clear e3 e4
 have H1:=Aside0.mk h1
 have H2:=Aside0.mk h2
 have HT:=Aside0.mk hT
 have HL:=Aside0.mk hL
 have HH:=Aside0.mk hH
 have HC:=Aside0.mk (And.intro hc (And.intro hcL hcH))
 clear h1 h2 hT hL hH hc hcL hcH
 have HB:=Aside0.mk (Below.refl w.heap.size w)
 have hu33:=Try.underlying33
 have hu29:=Try.underlying29
 go_enter Try.func11,Try.ntmps11
 go_wp2_with (first|((with_reducible refine gate_dst (N:=2) rfl ?_);refine box_event ?hg (N:=2) ?hd (cs:=#[.slice A T.length c,.int .i64 a,.int .i64 b,.int .i64 d]) (t:=33) ?hr ?_;(case hd=>rfl);(case hg=>rfl);(case hr=>first|(go_simp;done)|(go_simp;rfl));intro gs hg w4 hbox hb;have nb_:=Aside0.mk (below_step HB.out hb);have nh_:=Aside0.mk hbox;have ng_:=Aside0.mk ((by rw [hg];exact below_size HB.out) : w.heap.size≤gs);clear HB;have HB:=nb_;have BKgs:=nh_;have GEgs:=ng_;clear nb_ nh_ ng_;clear hb hbox hg)|((with_reducible refine gate_dst (N:=3) rfl ?_);refine box_event ?hg (N:=3) ?hd (cs:=#[.bool hl,.bool hh,.slice AL lo.length cL,.slice AH hi.length cH]) (t:=29) ?hr ?_;(case hd=>rfl);(case hg=>rfl);(case hr=>first|(go_simp;done)|(go_simp;rfl));intro gr hg w4 hbox hb;have n0_:=Aside0.mk (blk_below BKgs.out hb);have nb_:=Aside0.mk (below_step HB.out hb);have nh_:=Aside0.mk hbox;have ng_:=Aside0.mk ((by rw [hg];exact below_size HB.out) : w.heap.size≤gr);clear HB;have HB:=nb_;have BKgr:=nh_;have GEgr:=ng_;clear nb_ nh_ ng_;clear BKgs;have BKgs:=n0_;clear n0_;clear hb hbox hg)|((with_reducible refine gate_dst (N:=4) rfl ?_);refine box_event ?hg (N:=4) ?hd (cs:=#[.bool false,.bool false,.slice none 0 0,.slice none 0 0]) (t:=29) ?hr ?_;(case hd=>rfl);(case hg=>rfl);(case hr=>first|(go_simp;done)|(go_simp;rfl));intro gz hg w4 hbox hb;have n0_:=Aside0.mk (blk_below BKgs.out hb);have n1_:=Aside0.mk (blk_below BKgr.out hb);have nb_:=Aside0.mk (below_step HB.out hb);have nh_:=Aside0.mk hbox;have ng_:=Aside0.mk ((by rw [hg];exact below_size HB.out) : w.heap.size≤gz);clear HB;have HB:=nb_;have BKgz:=nh_;have GEgz:=ng_;clear nb_ nh_ ng_;clear BKgs;have BKgs:=n0_;clear n0_;clear BKgr;have BKgr:=n1_;clear n1_;clear hb hbox hg;have cgs0 : w4.cell? ⟨gs,0,none⟩=some (.slice A T.length c):=(blk_cell BKgs.out 0).trans rfl;have cgs1 : w4.cell? ⟨gs,1,none⟩=some (.int .i64 a):=(blk_cell BKgs.out 1).trans rfl;have cgs2 : w4.cell? ⟨gs,2,none⟩=some (.int .i64 b):=(blk_cell BKgs.out 2).trans rfl;have cgs3 : w4.cell? ⟨gs,3,none⟩=some (.int .i64 d):=(blk_cell BKgs.out 3).trans rfl;have cgr0 : w4.cell? ⟨gr,0,none⟩=some (.bool hl):=(blk_cell BKgr.out 0).trans rfl;have cgr1 : w4.cell? ⟨gr,1,none⟩=some (.bool hh):=(blk_cell BKgr.out 1).trans rfl;have cgr2 : w4.cell? ⟨gr,2,none⟩=some (.slice AL lo.length cL):=(blk_cell BKgr.out 2).trans rfl;have cgr3 : w4.cell? ⟨gr,3,none⟩=some (.slice AH hi.length cH):=(blk_cell BKgr.out 3).trans rfl)|((with_reducible refine gate_callee (f:=22) rfl ?_);refine goesL_ (some 10) rfl rfl Try.func22 (by kernel_rfl) rfl #[.agg #[.slice A T.length c,.int .i64 a,.int .i64 b,.int .i64 d],.slice AL lo.length cL] rfl (by (try simp only [List.map_toArray,List.map_cons,List.map_nil]);first|done|rfl) ?_;(with_reducible refine (thresherref04_Fit.calls k A c T a b d AL cL lo x1 _ (Kd.C_below HT.out HB.out) HC.out.1 (Kd.C_below HL.out HB.out) HC.out.2.1 H1.out).mono ?_);rintro e w4 ⟨v1,rfl,hv,hb⟩;refine ⟨_,rfl,?_⟩;obtain ⟨A1,c1,rfl⟩:=Kd.R_slice hv;have HV:=Aside0.mk (Kd.R_lower hv HB.out.size);clear hv;(try clear cgs0);(try clear cgs1);(try clear cgs2);(try clear cgs3);(try clear cgr0);(try clear cgr1);(try clear cgr2);(try clear cgr3);have n0_:=Aside0.mk (blk_below BKgs.out hb);have n1_:=Aside0.mk (blk_below BKgr.out hb);have n2_:=Aside0.mk (blk_below BKgz.out hb);have nb_:=Aside0.mk (below_step HB.out hb);clear BKgs BKgr BKgz HB;have BKgs:=n0_;have BKgr:=n1_;have BKgz:=n2_;have HB:=nb_;clear n0_ n1_ n2_ nb_;clear hb;have cgs0 : w4.cell? ⟨gs,0,none⟩=some (.slice A T.length c):=(blk_cell BKgs.out 0).trans rfl;have cgs1 : w4.cell? ⟨gs,1,none⟩=some (.int .i64 a):=(blk_cell BKgs.out 1).trans rfl;have cgs2 : w4.cell? ⟨gs,2,none⟩=some (.int .i64 b):=(blk_cell BKgs.out 2).trans rfl;have cgs3 : w4.cell? ⟨gs,3,none⟩=some (.int .i64 d):=(blk_cell BKgs.out 3).trans rfl;have cgr0 : w4.cell? ⟨gr,0,none⟩=some (.bool hl):=(blk_cell BKgr.out 0).trans rfl;have cgr1 : w4.cell? ⟨gr,1,none⟩=some (.bool hh):=(blk_cell BKgr.out 1).trans rfl;have cgr2 : w4.cell? ⟨gr,2,none⟩=some (.slice AL lo.length cL):=(blk_cell BKgr.out 2).trans rfl;have cgr3 : w4.cell? ⟨gr,3,none⟩=some (.slice AH hi.length cH):=(blk_cell BKgr.out 3).trans rfl)|((with_reducible refine gate_callee (f:=22) rfl ?_);refine goesL_ (some 14) rfl rfl Try.func22 (by kernel_rfl) rfl #[.agg #[.slice A T.length c,.int .i64 a,.int .i64 b,.int .i64 d],.slice AH hi.length cH] rfl (by (try simp only [List.map_toArray,List.map_cons,List.map_nil]);first|done|rfl) ?_;(with_reducible refine (thresherref04_Fit.calls k A c T a b d AH cH hi x2 _ (Kd.C_below HT.out HB.out) HC.out.1 (Kd.C_below HH.out HB.out) HC.out.2.2 H2.out).mono ?_);rintro e w4 ⟨v2,rfl,hv,hb⟩;refine ⟨_,rfl,?_⟩;obtain ⟨A2,c2,rfl⟩:=Kd.R_slice hv;have HU:=Aside0.mk (Kd.R_lower (Kd.R_mono (ok':=fun k_=>some k_≠(Value.slice A1 x1.length c1).ownBlock) (Kd.R_bound hv) (fun k_ hk=>apart_hi HV.out k_ hk.2.1)) HB.out.size);have HV2:=Aside0.mk (Kd.R_below (Kd.R_mono (ok':=fun k_=>some k_≠(Value.slice A2 x2.length c2).ownBlock) (Kd.R_bound HV.out) (fun k_ hk=>apart_lo hv k_ hk.2.2.1)) hb);clear hv;(try clear cgs0);(try clear cgs1);(try clear cgs2);(try clear cgs3);(try clear cgr0);(try clear cgr1);(try clear cgr2);(try clear cgr3);have n0_:=Aside0.mk (blk_below BKgs.out hb);have n1_:=Aside0.mk (blk_below BKgr.out hb);have n2_:=Aside0.mk (blk_below BKgz.out hb);have nb_:=Aside0.mk (below_step HB.out hb);clear BKgs BKgr BKgz HB;have BKgs:=n0_;have BKgr:=n1_;have BKgz:=n2_;have HB:=nb_;clear n0_ n1_ n2_ nb_;clear hb;have cgs0 : w4.cell? ⟨gs,0,none⟩=some (.slice A T.length c):=(blk_cell BKgs.out 0).trans rfl;have cgs1 : w4.cell? ⟨gs,1,none⟩=some (.int .i64 a):=(blk_cell BKgs.out 1).trans rfl;have cgs2 : w4.cell? ⟨gs,2,none⟩=some (.int .i64 b):=(blk_cell BKgs.out 2).trans rfl;have cgs3 : w4.cell? ⟨gs,3,none⟩=some (.int .i64 d):=(blk_cell BKgs.out 3).trans rfl;have cgr0 : w4.cell? ⟨gr,0,none⟩=some (.bool hl):=(blk_cell BKgr.out 0).trans rfl;have cgr1 : w4.cell? ⟨gr,1,none⟩=some (.bool hh):=(blk_cell BKgr.out 1).trans rfl;have cgr2 : w4.cell? ⟨gr,2,none⟩=some (.slice AL lo.length cL):=(blk_cell BKgr.out 2).trans rfl;have cgr3 : w4.cell? ⟨gr,3,none⟩=some (.slice AH hi.length cH):=(blk_cell BKgr.out 3).trans rfl))
 have hc1:=(Kd.R_reads' HV2.out).2.1
 have hc2:=(Kd.R_reads' HU.out).2.1
 obtain ⟨m1,hm1⟩ : ∃ m1,m1=min lo.length x1.length:=⟨_,rfl⟩
 obtain ⟨m2,hm2⟩ : ∃ m2,m2=min hi.length x2.length:=⟨_,rfl⟩
 have hq1 : min (lo.length : Int) (x1.length : Int)=(m1 : Int):=by rw [hm1];omega
 have hq2 : min (hi.length : Int) (x2.length : Int)=(m2 : Int):=by rw [hm2];omega
 have hle1 : m1≤x1.length:=by omega
 have hle2 : m2≤x2.length:=by omega
 obtain ⟨i0,hi0,_,hsz,_⟩:=info_parts info44
 have hcut1:=cut_to (P:=Try.prog) 27 44 .i64 Try.underlying27 hi0 A1 x1.length c1 m1 (by omega) (by omega) hc1
 have hcut2:=cut_to (P:=Try.prog) 27 44 .i64 Try.underlying27 hi0 A2 x2.length c2 m2 (by omega) (by omega) hc2
 simp only [Int.toNat_natCast] at hcut1 hcut2
 have hr1 : Kd.R k44 44 w4 w.heap.size (fun k_=>some k_≠(Value.slice A2 m2 c2).ownBlock) (.slice A1 m1 c1) r3:=by rw [← E3.out,← hm1];exact Kd.R_mono (Kd.R_take (m:=m1) HV2.out hle1) (fun k_ hk=>by cases A2 with|none=>exact hk|some ad=>exact hk)
 have hr2 : Kd.R k44 44 w4 w.heap.size (fun k_=>some k_≠(Value.slice A1 m1 c1).ownBlock) (.slice A2 m2 c2) r4:=by rw [← E4.out,← hm2];exact Kd.R_mono (Kd.R_take (m:=m2) HU.out hle2) (fun k_ hk=>by cases A1 with|none=>exact hk|some ad=>exact hk)
 have HR1:=Aside0.mk hr1
 have HR2:=Aside0.mk hr2
 have HL1:=Aside0.mk (show r3.length=m1 by rw [← E3.out,List.length_take,hm1];omega)
 have HL2:=Aside0.mk (show r4.length=m2 by rw [← E4.out,List.length_take,hm2];omega)
 clear hm1 hm2 hr1 hr2 hc1 hc2 hi0 hsz hle1 hle2
 have hcz0 : w4.cell? ⟨gz,0,none⟩=some (.bool false):=(blk_cell BKgz.out 0).trans rfl
 have hcz1 : w4.cell? ⟨gz,1,none⟩=some (.bool false):=(blk_cell BKgz.out 1).trans rfl
 have hcz2 : w4.cell? ⟨gz,2,none⟩=some (.slice none 0 0):=(blk_cell BKgz.out 2).trans rfl
 have hcz3 : w4.cell? ⟨gz,3,none⟩=some (.slice none 0 0):=(blk_cell BKgz.out 3).trans rfl
 have hfz0:=blk_frozen BKgz.out 0
 have hfz1:=blk_frozen BKgz.out 1
 have hfz2:=blk_frozen BKgz.out 2
 have hfz3:=blk_frozen BKgz.out 3
 refine start_ (n:=22) (S:=fun w'=>w'.cell? ⟨gr,0,none⟩=some (.bool hl)∧w'.cell? ⟨gr,1,none⟩=some (.bool hh)∧w'.cell? ⟨gr,2,none⟩=some (.slice AL lo.length cL)∧w'.cell? ⟨gr,3,none⟩=some (.slice AH hi.length cH)) (ds:=[21]) #[false,false,false,false,false,false,false,false,false,false,false,false,false,false,false,false,false,false,false,false,false,false] (by kernel_rfl) rfl rfl ⟨cgr0,cgr1,cgr2,cgr3⟩ (fun hHeld=>?_)
 refine pure_ (i:=0) (N:=some 15) (v:=?_) (a':=?_) #[true,false,false,false,false,false,false,false,false,false,false,false,false,false,false,false,false,false,false,false,false,false] rfl rfl (by kernel_rfl) (fun _ _ _ h=>h) (Or.inl ⟨by rfl,?_⟩) ?_ ?_
 rotate_left;(intro w';go_simp;with_reducible rfl);rotate_left;(simp only [Act.put,List.setIfInBounds_toArray,List.set_cons_zero,List.set_cons_succ,i64_w,i32_w];rfl)
 refine pure_ (i:=2) (N:=some 17) (v:=?_) (a':=?_) #[true,false,true,false,false,false,false,false,false,false,false,false,false,false,false,false,false,false,false,false,false,false] rfl rfl (by kernel_rfl) (fun _ _ _ h=>h) (Or.inl ⟨by rfl,?_⟩) ?_ ?_
 rotate_left;(intro w';go_simp;with_reducible rfl);rotate_left;(simp only [Act.put,List.setIfInBounds_toArray,List.set_cons_zero,List.set_cons_succ,i64_w,i32_w];rfl)
 refine pure_ (i:=4) (N:=some 19) (v:=?_) (a':=?_) #[true,false,true,false,true,false,false,false,false,false,false,false,false,false,false,false,false,false,false,false,false,false] rfl rfl (by kernel_rfl) (fun _ _ _ h=>h) (Or.inl ⟨by rfl,?_⟩) ?_ ?_
 rotate_left;(intro w';go_simp;with_reducible rfl);rotate_left;(simp only [Act.put,List.setIfInBounds_toArray,List.set_cons_zero,List.set_cons_succ,i64_w,i32_w];rfl)
 refine pure_ (i:=5) (N:=some 20) (v:=?_) (a':=?_) #[true,false,true,false,true,true,false,false,false,false,false,false,false,false,false,false,false,false,false,false,false,false] rfl rfl (by kernel_rfl) (fun _ _ _ h=>h) (Or.inl ⟨by rfl,?_⟩) ?_ ?_
 rotate_left;(intro w';go_simp;with_reducible rfl);rotate_left;(simp only [Act.put,List.setIfInBounds_toArray,List.set_cons_zero,List.set_cons_succ,i64_w,i32_w];rfl)
 refine pure_ (i:=8) (N:=some 23) (v:=?_) (a':=?_) #[true,false,true,false,true,true,false,false,true,false,false,false,false,false,false,false,false,false,false,false,false,false] rfl rfl (by kernel_rfl) (fun _ _ _ h=>h) (Or.inl ⟨by rfl,?_⟩) ?_ ?_
 rotate_left;(intro w';go_simp;with_reducible rfl);rotate_left;(simp only [Act.put,List.setIfInBounds_toArray,List.set_cons_zero,List.set_cons_succ,i64_w,i32_w];rfl)
 refine pure_ (i:=9) (N:=some 24) (v:=?_) (a':=?_) #[true,false,true,false,true,true,false,false,true,true,false,false,false,false,false,false,false,false,false,false,false,false] rfl rfl (by kernel_rfl) (fun _ _ _ h=>h) (Or.inl ⟨by rfl,?_⟩) ?_ ?_
 rotate_left;(intro w';go_simp;with_reducible rfl);rotate_left;(simp only [Act.put,List.setIfInBounds_toArray,List.set_cons_zero,List.set_cons_succ,i64_w,i32_w];rfl)
 refine pure_ (i:=12) (N:=some 27) (v:=?_) (a':=?_) #[true,false,true,false,true,true,false,false,true,true,false,false,true,false,false,false,false,false,false,false,false,false] rfl rfl (by kernel_rfl) (fun _ _ _ h=>h) (Or.inl ⟨by rfl,?_⟩) ?_ ?_
 rotate_left;(intro w';go_simp;with_reducible rfl);rotate_left;(simp only [Act.put,List.setIfInBounds_toArray,List.set_cons_zero,List.set_cons_succ,i64_w,i32_w];rfl)
 refine pure_ (i:=13) (N:=some 28) (v:=?_) (a':=?_) #[true,false,true,false,true,true,false,false,true,true,false,false,true,true,false,false,false,false,false,false,false,false] rfl rfl (by kernel_rfl) (fun _ _ _ h=>h) (Or.inl ⟨by rfl,?_⟩) ?_ ?_
 rotate_left;(intro w';go_simp;with_reducible rfl);rotate_left;(simp only [Act.put,List.setIfInBounds_toArray,List.set_cons_zero,List.set_cons_succ,i64_w,i32_w];rfl)
 refine pure_ (i:=16) (N:=some 31) (v:=?_) (a':=?_) #[true,false,true,false,true,true,false,false,true,true,false,false,true,true,false,false,true,false,false,false,false,false] rfl rfl (by kernel_rfl) (fun _ _ _ h=>h) (Or.inl ⟨by rfl,?_⟩) ?_ ?_
 rotate_left;(intro w';go_simp;with_reducible rfl);rotate_left;(simp only [Act.put,List.setIfInBounds_toArray,List.set_cons_zero,List.set_cons_succ,i64_w,i32_w];rfl)
 refine pure_ (i:=17) (N:=some 32) (v:=?_) (a':=?_) #[true,false,true,false,true,true,false,false,true,true,false,false,true,true,false,false,true,true,false,false,false,false] rfl rfl (by kernel_rfl) (fun _ _ _ h=>h) (Or.inl ⟨by rfl,?_⟩) ?_ ?_
 rotate_left;(intro w';go_simp;with_reducible rfl);rotate_left;(simp only [Act.put,List.setIfInBounds_toArray,List.set_cons_zero,List.set_cons_succ,i64_w,i32_w];rfl)
 refine take_ (i:=1) (N:=some 16) (v:=?_) (a':=?_) #[true,true,true,false,true,true,false,false,true,true,false,false,true,true,false,false,true,true,false,false,false,false] rfl rfl (by kernel_rfl) (fun _ _ _ h=>h) (Or.inl ⟨by rfl,?_⟩) hHeld ?_ ?_
 rotate_left;(rintro w' ⟨s0,s1,s2,s3⟩;go_simp;with_reducible rfl);rotate_left;(simp only [Act.put,List.setIfInBounds_toArray,List.set_cons_zero,List.set_cons_succ,i64_w,i32_w];rfl)
 refine take_ (i:=3) (N:=some 18) (v:=?_) (a':=?_) #[true,true,true,true,true,true,false,false,true,true,false,false,true,true,false,false,true,true,false,false,false,false] rfl rfl (by kernel_rfl) (fun _ _ _ h=>h) (Or.inl ⟨by rfl,?_⟩) hHeld ?_ ?_
 rotate_left;(rintro w' ⟨s0,s1,s2,s3⟩;go_simp;with_reducible rfl);rotate_left;(simp only [Act.put,List.setIfInBounds_toArray,List.set_cons_zero,List.set_cons_succ,i64_w,i32_w];rfl)
 refine take_ (i:=6) (N:=some 21) (v:=?_) (a':=?_) #[true,true,true,true,true,true,true,false,true,true,false,false,true,true,false,false,true,true,false,false,false,false] rfl rfl (by kernel_rfl) (fun _ _ _ h=>h) (Or.inl ⟨by rfl,?_⟩) hHeld ?_ ?_
 rotate_left;(rintro w' ⟨s0,s1,s2,s3⟩;go_simp;with_reducible rfl);rotate_left;(simp only [Act.put,List.setIfInBounds_toArray,List.set_cons_zero,List.set_cons_succ,i64_w,i32_w];rfl)
 refine pure_ (i:=7) (N:=some 22) (v:=?_) (a':=?_) #[true,true,true,true,true,true,true,true,true,true,false,false,true,true,false,false,true,true,false,false,false,false] rfl rfl (by kernel_rfl) (fun _ _ _ h=>h) (Or.inl ⟨by rfl,?_⟩) ?_ ?_
 rotate_left;(intro w';go_simp;with_reducible rfl);rotate_left;(simp only [Act.put,List.setIfInBounds_toArray,List.set_cons_zero,List.set_cons_succ,i64_w,i32_w];rfl)
 refine pure_ (i:=10) (N:=some 25) (v:=?_) (a':=?_) #[true,true,true,true,true,true,true,true,true,true,true,false,true,true,false,false,true,true,false,false,false,false] rfl rfl (by kernel_rfl) (fun _ _ _ h=>h) (Or.inl ⟨by rfl,?_⟩) ?_ ?_
 rotate_left;(intro w';go_simp;with_reducible rfl);rotate_left;(simp only [Act.put,List.setIfInBounds_toArray,List.set_cons_zero,List.set_cons_succ,i64_w,i32_w];rfl)
 refine pure_ (i:=11) (N:=some 26) (v:=?_) (a':=?_) #[true,true,true,true,true,true,true,true,true,true,true,true,true,true,false,false,true,true,false,false,false,false] rfl rfl (by kernel_rfl) (fun _ _ _ h=>h) (Or.inl ⟨by rfl,?_⟩) ?_ ?_
 rotate_left;(intro w';go_simp;with_reducible rfl);rotate_left;(simp only [Act.put,List.setIfInBounds_toArray,List.set_cons_zero,List.set_cons_succ,i64_w,i32_w];rfl)
 refine take_ (i:=14) (N:=some 29) (v:=?_) (a':=?_) #[true,true,true,true,true,true,true,true,true,true,true,true,true,true,true,false,true,true,false,false,false,false] rfl rfl (by kernel_rfl) (fun _ _ _ h=>h) (Or.inl ⟨by rfl,?_⟩) hHeld ?_ ?_
 rotate_left;(rintro w' ⟨s0,s1,s2,s3⟩;go_simp;with_reducible rfl);rotate_left;(simp only [Act.put,List.setIfInBounds_toArray,List.set_cons_zero,List.set_cons_succ,i64_w,i32_w];rfl)
 refine pure_ (i:=15) (N:=some 30) (v:=?_) (a':=?_) #[true,true,true,true,true,true,true,true,true,true,true,true,true,true,true,true,true,true,false,false,false,false] rfl rfl (by kernel_rfl) (fun _ _ _ h=>h) (Or.inl ⟨by rfl,?_⟩) ?_ ?_
 rotate_left;(intro w';go_simp;with_reducible rfl);rotate_left;(simp only [Act.put,List.setIfInBounds_toArray,List.set_cons_zero,List.set_cons_succ,i64_w,i32_w];rfl)
 refine pure_ (i:=18) (N:=some 33) (v:=?_) (a':=?_) #[true,true,true,true,true,true,true,true,true,true,true,true,true,true,true,true,true,true,true,false,false,false] rfl rfl (by kernel_rfl) (fun _ _ _ h=>h) (Or.inl ⟨by rfl,?_⟩) ?_ ?_
 rotate_left;(intro w';go_simp;with_reducible rfl);rotate_left;(simp only [Act.put,List.setIfInBounds_toArray,List.set_cons_zero,List.set_cons_succ,i64_w,i32_w];rfl)
 refine pure_ (i:=19) (N:=some 34) (v:=?_) (a':=?_) #[true,true,true,true,true,true,true,true,true,true,true,true,true,true,true,true,true,true,true,true,false,false] rfl rfl (by kernel_rfl) (fun _ _ _ h=>h) (Or.inl ⟨by rfl,?_⟩) ?_ ?_
 rotate_left;(intro w';go_simp;with_reducible rfl);rotate_left;(simp only [Act.put,List.setIfInBounds_toArray,List.set_cons_zero,List.set_cons_succ,i64_w,i32_w];rfl)
 refine pure_ (i:=20) (N:=some 35) (v:=?_) (a':=?_) #[true,true,true,true,true,true,true,true,true,true,true,true,true,true,true,true,true,true,true,true,true,false] rfl rfl (by kernel_rfl) (fun _ _ _ h=>h) (Or.inl ⟨by rfl,?_⟩) ?_ ?_
 rotate_left;(intro w';go_simp;with_reducible rfl);rotate_left;(simp only [Act.put,List.setIfInBounds_toArray,List.set_cons_zero,List.set_cons_succ,i64_w,i32_w];rfl)
 refine last_ (i:=21) (N:=none) #[true,true,true,true,true,true,true,true,true,true,true,true,true,true,true,true,true,true,true,true,true,true] rfl rfl (by kernel_rfl) (by decide) (fun K hK=>?_)
 refine skip_ (w1:=?_) (by rfl) rfl ?_ ?_
 rotate_left
 ·go_simp
  rfl
 refine hK.out _ _ ?_
 clear hK K
 refine done_ (by kernel_rfl) ?_
 go_wp2
 refine bodyPost_ret (results_cell_row rfl _ _ gz 29 #[(.bool hl),(.bool hh),(.slice A1 m1 c1),(.slice A2 m2 c2)] (0,0) _ rfl (by (with_reducible repeat (first|refine blk_drewN ?_ _|refine blk_drew ?_|refine blk_alloc ?_ _));refine blk_put (cs:=#[(.bool hl),(.bool hh),(.slice A1 m1 c1),(.slice none 0 0)]) ?_ 3 _ rfl;(with_reducible repeat (first|refine blk_drewN ?_ _|refine blk_drew ?_|refine blk_alloc ?_ _));refine blk_put (cs:=#[(.bool hl),(.bool hh),(.slice none 0 0),(.slice none 0 0)]) ?_ 2 _ rfl;(with_reducible repeat (first|refine blk_drewN ?_ _|refine blk_drew ?_|refine blk_alloc ?_ _));refine blk_put (cs:=#[(.bool hl),(.bool false),(.slice none 0 0),(.slice none 0 0)]) ?_ 1 _ rfl;(with_reducible repeat (first|refine blk_drewN ?_ _|refine blk_drew ?_|refine blk_alloc ?_ _));refine blk_put (cs:=#[(.bool false),(.bool false),(.slice none 0 0),(.slice none 0 0)]) ?_ 0 _ rfl;(with_reducible repeat (first|refine blk_drewN ?_ _|refine blk_drew ?_|refine blk_alloc ?_ _));exact BKgz.out) Try.underlying29 rfl (by kernel_rfl)) rfl ?_
 exact ⟨_,_,rfl,by (with_reducible repeat (first|apply Kd.R_alloc|apply Kd.R_drewN|apply Kd.R_drew));exact Kd.R_mono (Kd.R_far (p:=⟨gz,3,none⟩) (Kd.R_far (p:=⟨gz,2,none⟩) (Kd.R_far (p:=⟨gz,1,none⟩) (Kd.R_far (p:=⟨gz,0,none⟩) (Kd.R_types HR1.out BKgz.out (by decide)) (fun _ hk=>hk.2) (.bool hl)) (fun _ hk=>hk.2) (.bool hh)) (fun _ hk=>hk.2) (.slice A1 m1 c1)) (fun _ hk=>hk.2) (.slice A2 m2 c2)) (fun _ hk=>hk.1),by (with_reducible repeat (first|apply Kd.R_alloc|apply Kd.R_drewN|apply Kd.R_drew));exact Kd.R_mono (Kd.R_far (p:=⟨gz,3,none⟩) (Kd.R_far (p:=⟨gz,2,none⟩) (Kd.R_far (p:=⟨gz,1,none⟩) (Kd.R_far (p:=⟨gz,0,none⟩) (Kd.R_types HR2.out BKgz.out (by decide)) (fun _ hk=>hk.2) (.bool hl)) (fun _ hk=>hk.2) (.bool hh)) (fun _ hk=>hk.2) (.slice A1 m1 c1)) (fun _ hk=>hk.2) (.slice A2 m2 c2)) (fun _ hk=>hk.1),by repeat (first|(with_reducible first|exact HB.out|apply below_alloc|apply pw_below_drewN|apply below_drew1|refine below_set ?_ GEgz.out)|exact HB.out)⟩
end Go.Proofs.Ytfccebnoflhkcaa.P

