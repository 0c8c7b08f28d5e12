/- Texts of FilterMay. Merged: HMay. -/
import Derived.Test.YtbkpifcjgedjaaaQFilterMayPx15
import Derived.Test.YtbkpifcjgedjaaaQFilterMayHKit
/- FilterMay's closure, by hand: what it was given, and one filter more. -/
namespace Go.Proofs.Ytbkpifcjgedjaaa.P
open Go.RowKit Go.Proofs.YtbkpifcjgedjaaaW.PrintWords Go.Proofs.YtbkpifcjgedjaaaW.PrintLast Go.Proofs.YtbkpifcjgedjaaaW.PrintMore
set_option linter.unusedVariables false
set_option linter.unusedSimpArgs false
set_option maxHeartbeats 4000000 in
set_option maxRecDepth 100000 in
theorem with_any (x : S39) (gf : Nat) (A : Option Addr) (n c : Nat) (fit : List (S39)) (w : World) (hg : w.heap[gf]?=some (.cells #[.slice A n c] 25 (0,0))) (hC : Kd.C k39 w A n fit) (hn : n≤100) :
  Calls Try.prog 19 #[.agg #[.int .i64 x.f0,.int .i64 x.f1,.int .i64 x.f2.f0,.string x.f2.f1],.pointer (some ⟨gf,0,none⟩)] w fun e w'=>∃ v : Value,e=.returned v∧Kd.R k39 39 w' w.heap.size (fun _=>True) v (fit ++ [(⟨x.f0,x.f1,(⟨x.f2.f0,x.f2.f1⟩ : S37)⟩ : S39)])∧Below w.heap.size w w':=by
 have hu39:=Try.underlying39
 have hu25:=Try.underlying25
 have LN:=Aside0.mk (And.intro hn (show fit.length=n from hC.1))
 have LG:=Aside0.mk (blk_lt hg)
 obtain ⟨w1,hw1⟩ : ∃ W,W=w.alloc (.cells #[.int .i64 x.f0,.int .i64 x.f1,.int .i64 x.f2.f0,.string x.f2.f1] 39 (0,0)):=⟨_,rfl⟩
 have hs1 : w1.heap.size=w.heap.size + 1:=by rw [hw1];simp
 have hb1 : w1.heap[w.heap.size]?=some (.cells #[.int .i64 x.f0,.int .i64 x.f1,.int .i64 x.f2.f0,.string x.f2.f1] 39 (0,0)):=by rw [hw1];exact blk_new w _
 have hB1 : Below w.heap.size w w1:=by rw [hw1];exact (Below.refl _ _).alloc (Nat.le_refl _) _
 have hf0:=Aside0.mk ((blk_cell hb1 0).trans rfl : w1.cell? ⟨w.heap.size,0,none⟩=some (.int .i64 x.f0))
 have hf1:=Aside0.mk ((blk_cell hb1 1).trans rfl : w1.cell? ⟨w.heap.size,1,none⟩=some (.int .i64 x.f1))
 have hf2:=Aside0.mk ((blk_cell hb1 2).trans rfl : w1.cell? ⟨w.heap.size,2,none⟩=some (.int .i64 x.f2.f0))
 have hf3:=Aside0.mk ((blk_cell hb1 3).trans rfl : w1.cell? ⟨w.heap.size,3,none⟩=some (.string x.f2.f1))
 have hg0:=Aside0.mk ((hB1.cell (p:=⟨gf,0,none⟩) LG.out).trans ((blk_cell hg 0).trans rfl) : w1.cell? ⟨gf,0,none⟩=some (.slice A n c))
 have hC1:=Aside0.mk (Kd.C_below hC hB1)
 have LT:=Aside0.mk (And.intro (by show w.heap.size < w1.heap.size;omega) (by show gf < w1.heap.size;have:=LG.out;omega) : w.heap.size < w1.heap.size∧gf < w1.heap.size)
 have HB0:=Aside0.mk hB1
 have HS:=Aside0.mk hs1
 clear hb1 hB1 hg hC hn hs1
 go_enter Try.func19,Try.ntmps19
 go_wp2
 rw [← hw1]
 have HB:=Aside0.mk ((Below.refl w1.heap.size w1).drew)
 clear hw1
 refine start_ (n:=7) (S:=fun w'=>w'.cell? ⟨w.heap.size,0,none⟩=some (.int .i64 x.f0)∧w'.cell? ⟨w.heap.size,1,none⟩=some (.int .i64 x.f1)∧w'.cell? ⟨w.heap.size,2,none⟩=some (.int .i64 x.f2.f0)∧w'.cell? ⟨w.heap.size,3,none⟩=some (.string x.f2.f1)∧w'.cell? ⟨gf,0,none⟩=some (.slice A n c)) (ds:=[]) #[false,false,false,false,false,false,false] (by kernel_rfl) rfl rfl ⟨(HB.out.cell LT.out.1).trans hf0.out,(HB.out.cell LT.out.1).trans hf1.out,(HB.out.cell LT.out.1).trans hf2.out,(HB.out.cell LT.out.1).trans hf3.out,(HB.out.cell LT.out.2).trans hg0.out⟩ (fun hHeld=>?_)
 refine take_ (i:=1) (N:=some 5) (v:=?_) (a':=?_) #[false,true,false,false,false,false,false] rfl rfl (by kernel_rfl) (fun _ _ _ h=>h) (Or.inl ⟨by rfl,?_⟩) hHeld ?_ ?_
 rotate_left;(rintro w' ⟨s0,s1,s2,s3,s4⟩;go_simp;with_reducible rfl);rotate_left;(simp only [Act.put,List.setIfInBounds_toArray,List.set_cons_zero,List.set_cons_succ,i64_w,i32_w];rfl)
 refine take_ (i:=3) (N:=some 7) (v:=?_) (a':=?_) #[false,true,false,true,false,false,false] rfl rfl (by kernel_rfl) (fun _ _ _ h=>h) (Or.inl ⟨by rfl,?_⟩) hHeld ?_ ?_
 rotate_left;(rintro w' ⟨s0,s1,s2,s3,s4⟩;go_simp;with_reducible rfl);rotate_left;(simp only [Act.put,List.setIfInBounds_toArray,List.set_cons_zero,List.set_cons_succ,i64_w,i32_w];rfl)
 refine join_ (σ:=Value × Value × Value) 2 #[true,true,true,true,true,false,false] (fun s=>[(4,s.1),(6,s.2.1),(8,s.2.2)]) (fun s w'=>Aside0 (Kd.R k39 39 w' w1.heap.size (fun _=>True) s.2.1 fit)∧Aside0 (Kd.R k39 39 w' w1.heap.size (fun _=>True) s.2.2 [(⟨x.f0,x.f1,(⟨x.f2.f0,x.f2.f1⟩ : S37)⟩ : S39)])∧Aside0 (Below w1.heap.size w1 w')) ?_ ?_
 rotate_left
 ·intro hCont
  refine two_ (i:=0) (j:=4) (Ni:=some 4) (Nj:=some 8) #[true,true,false,true,false,false,false] #[false,true,false,true,true,false,false] rfl rfl rfl rfl (by kernel_rfl) (by decide) (by decide) (fun K hK=>?_) (fun K hK=>?_)
  ·skip
   refine Kd.R_lit_step k39 _ 39 ?hg (N:=4) ?hd (xs:=([] : List (S39))) (inner:=[]) (ok:=fun _=>True) (okp:=fun _=>True) ?hr ?hp (fun _ hk=>hk) trivial (Below.refl _ _) (Nat.le_refl _) (by simp) ?_
   (case hd=>rfl)
   (case hg=>rfl)
   (case hr=>first|(go_simp;done)|(go_simp;rfl))
   (case hp=>exact (Reps.none _ _))
   intro u4 wa ho hb hg_ hnew_
   clear hg_ hnew_
   have n0_:=Aside0.mk (Kd.R_lower ho (below_size HB.out))
   have n1_:=Aside0.mk (below_step HB.out hb)
   clear HB
   have HO4:=n0_
   have HB:=n1_
   clear n0_ n1_
   clear hb ho
   refine hK.out _ _ ⟨(HB.out.cell LT.out.1).trans hf0.out,(HB.out.cell LT.out.1).trans hf1.out,(HB.out.cell LT.out.1).trans hf2.out,(HB.out.cell LT.out.1).trans hf3.out,(HB.out.cell LT.out.2).trans hg0.out⟩ (fun hHeld=>?_)
   clear hK K
   refine norm_ (a':=?_) ?_ ?_
   rotate_left
   ·show Act.put _ (some 4) _=_
    simp only [Act.put,List.setIfInBounds_toArray,List.set_cons_zero,List.set_cons_succ,i64_w,i32_w]
    rfl
   refine two_ (i:=2) (j:=4) (Ni:=some 6) (Nj:=some 8) #[true,true,true,true,false,false,false] #[true,true,false,true,true,false,false] rfl rfl rfl rfl (by kernel_rfl) (by decide) (by decide) (fun K hK=>?_) (fun K hK=>?_)
   ·skip
    refine Kd.R_append_rows_step k39 (w0:=w1) w1.heap.size (by rfl) (.tmp 4) (.tmp 5) 25 39 (.agg #[(.int .i64 0),(.int .i64 0),(.int .i64 0),(.string ⟨#[]⟩)]) 40 rfl Try.underlying25 info39 rfl (by decide) (by omega) u4 [] fit _ _ _ (fun _=>True) (fun _=>False) rfl rfl ?aO ?aR (fun _ _ h=>h) (fun _ h=>h.elim) ?aF HB.out (below_size HB.out) ?aL ?_
    (case aR=>exact Kd.C_below hC1.out HB.out)
    (case aO=>exact Kd.R_mono HO4.out (fun _ hk=>trivial))
    (case aF=>exact (fun k_ hk=>trivial))
    (case aL=>have:=LN.out.1;simp only [List.length_nil];omega)
    intro u6 wa ho hb hg hat
    rw [List.nil_append] at ho
    have n0_:=Aside0.mk (ho)
    have n1_:=Aside0.mk (hb)
    clear HB
    have HO6:=n0_
    have HB:=n1_
    clear n0_ n1_
    clear ho hb hg hat HO4
    refine hK.out _ _ ⟨(HB.out.cell LT.out.1).trans hf0.out,(HB.out.cell LT.out.1).trans hf1.out,(HB.out.cell LT.out.1).trans hf2.out,(HB.out.cell LT.out.1).trans hf3.out,(HB.out.cell LT.out.2).trans hg0.out⟩ (fun hHeld=>?_)
    clear hK K
    refine norm_ (a':=?_) ?_ ?_
    rotate_left
    ·show Act.put _ (some 6) _=_
     simp only [Act.put,List.setIfInBounds_toArray,List.set_cons_zero,List.set_cons_succ,i64_w,i32_w]
     rfl
    refine one_ (i:=4) (N:=some 8) #[true,true,true,true,true,false,false] rfl rfl (by kernel_rfl) (by decide) (fun K hK=>?_)
    refine Kd.R_lit_step k39 _ 39 ?hg (N:=8) ?hd (xs:=([(⟨x.f0,x.f1,(⟨x.f2.f0,x.f2.f1⟩ : S37)⟩ : S39)] : List (S39))) (inner:=[.int .i64 x.f0,.int .i64 x.f1,.int .i64 x.f2.f0,.string x.f2.f1]) (ok:=fun _=>True) (okp:=fun _=>True) ?hr ?hp (fun _ hk=>hk) trivial (Below.refl _ _) (Nat.le_refl _) (by simp) ?_
    (case hd=>rfl)
    (case hg=>rfl)
    (case hr=>first|(go_simp;done)|(go_simp;rfl))
    (case hp=>exact (Reps.c4 (k39_mkM _ _ _ (⟨x.f0,x.f1,(⟨x.f2.f0,x.f2.f1⟩ : S37)⟩ : S39)) (Reps.none _ _)))
    intro u8 wa ho hb hg_ hnew_
    clear hg_ hnew_
    have n0_:=Aside0.mk (Kd.R_elder' HO6.out (Kd.R_base ho) hb)
    have n1_:=Aside0.mk (Kd.R_lower (Kd.R_new' ho (Kd.R_lt HO6.out)) (below_size HB.out))
    have n2_:=Aside0.mk (below_step HB.out hb)
    clear HO6 HB
    have HO6:=n0_
    have HO8:=n1_
    have HB:=n2_
    clear n0_ n1_ n2_
    clear hb ho
    refine hK.out _ _ ⟨(HB.out.cell LT.out.1).trans hf0.out,(HB.out.cell LT.out.1).trans hf1.out,(HB.out.cell LT.out.1).trans hf2.out,(HB.out.cell LT.out.1).trans hf3.out,(HB.out.cell LT.out.2).trans hg0.out⟩ (fun hHeld=>?_)
    clear hK K
    refine norm_ (a':=?_) ?_ ?_
    rotate_left
    ·show Act.put _ (some 8) _=_
     simp only [Act.put,List.setIfInBounds_toArray,List.set_cons_zero,List.set_cons_succ,i64_w,i32_w]
     rfl
    exact norm_ (by simp only [putAll,Act.put,List.setIfInBounds_toArray,List.set_cons_zero,List.set_cons_succ]) (hCont (u4,u6,u8) _ ⟨⟨Kd.R_mono HO6.out (fun _ _=>trivial)⟩,⟨Kd.R_mono HO8.out (fun _ _=>trivial)⟩,HB⟩)
   ·skip
    refine Kd.R_lit_step k39 _ 39 ?hg (N:=8) ?hd (xs:=([(⟨x.f0,x.f1,(⟨x.f2.f0,x.f2.f1⟩ : S37)⟩ : S39)] : List (S39))) (inner:=[.int .i64 x.f0,.int .i64 x.f1,.int .i64 x.f2.f0,.string x.f2.f1]) (ok:=fun _=>True) (okp:=fun _=>True) ?hr ?hp (fun _ hk=>hk) trivial (Below.refl _ _) (Nat.le_refl _) (by simp) ?_
    (case hd=>rfl)
    (case hg=>rfl)
    (case hr=>first|(go_simp;done)|(go_simp;rfl))
    (case hp=>exact (Reps.c4 (k39_mkM _ _ _ (⟨x.f0,x.f1,(⟨x.f2.f0,x.f2.f1⟩ : S37)⟩ : S39)) (Reps.none _ _)))
    intro u8 wa ho hb hg_ hnew_
    clear hg_ hnew_
    have n0_:=Aside0.mk (Kd.R_elder' HO4.out (Kd.R_base ho) hb)
    have n1_:=Aside0.mk (Kd.R_lower (Kd.R_new' ho (Kd.R_lt HO4.out)) (below_size HB.out))
    have n2_:=Aside0.mk (below_step HB.out hb)
    clear HO4 HB
    have HO4:=n0_
    have HO8:=n1_
    have HB:=n2_
    clear n0_ n1_ n2_
    clear hb ho
    refine hK.out _ _ ⟨(HB.out.cell LT.out.1).trans hf0.out,(HB.out.cell LT.out.1).trans hf1.out,(HB.out.cell LT.out.1).trans hf2.out,(HB.out.cell LT.out.1).trans hf3.out,(HB.out.cell LT.out.2).trans hg0.out⟩ (fun hHeld=>?_)
    clear hK K
    refine norm_ (a':=?_) ?_ ?_
    rotate_left
    ·show Act.put _ (some 8) _=_
     simp only [Act.put,List.setIfInBounds_toArray,List.set_cons_zero,List.set_cons_succ,i64_w,i32_w]
     rfl
    refine one_ (i:=2) (N:=some 6) #[true,true,true,true,true,false,false] rfl rfl (by kernel_rfl) (by decide) (fun K hK=>?_)
    refine Kd.R_append_rows_step k39 (w0:=w1) w1.heap.size (by rfl) (.tmp 4) (.tmp 5) 25 39 (.agg #[(.int .i64 0),(.int .i64 0),(.int .i64 0),(.string ⟨#[]⟩)]) 40 rfl Try.underlying25 info39 rfl (by decide) (by omega) u4 [] fit _ _ _ (fun k_=>some k_≠(u8 : Value).ownBlock) (fun _=>False) rfl rfl ?aO ?aR (fun _ _ h=>h) (fun _ h=>h.elim) ?aF HB.out (below_size HB.out) ?aL ?_
    (case aR=>exact Kd.C_below hC1.out HB.out)
    (case aO=>exact Kd.R_mono HO4.out (fun _ hk=>by simpa using hk))
    (case aF=>exact (fun k_ hk=>Kd.fresh' (Kd.R_lt HO8.out) k_ hk))
    (case aL=>have:=LN.out.1;simp only [List.length_nil];omega)
    intro u6 wa ho hb hg hat
    rw [List.nil_append] at ho
    have n0_:=Aside0.mk (Kd.R_after (ok:=fun _=>True) (Kd.R_mono HO8.out (fun _ hk=>by simpa using hk)) hg hat)
    have n1_:=Aside0.mk (ho)
    have n2_:=Aside0.mk (hb)
    clear HO8 HB
    have HO8:=n0_
    have HO6:=n1_
    have HB:=n2_
    clear n0_ n1_ n2_
    clear ho hb hg hat HO4
    refine hK.out _ _ ⟨(HB.out.cell LT.out.1).trans hf0.out,(HB.out.cell LT.out.1).trans hf1.out,(HB.out.cell LT.out.1).trans hf2.out,(HB.out.cell LT.out.1).trans hf3.out,(HB.out.cell LT.out.2).trans hg0.out⟩ (fun hHeld=>?_)
    clear hK K
    refine norm_ (a':=?_) ?_ ?_
    rotate_left
    ·show Act.put _ (some 6) _=_
     simp only [Act.put,List.setIfInBounds_toArray,List.set_cons_zero,List.set_cons_succ,i64_w,i32_w]
     rfl
    exact norm_ (by simp only [putAll,Act.put,List.setIfInBounds_toArray,List.set_cons_zero,List.set_cons_succ]) (hCont (u4,u6,u8) _ ⟨⟨Kd.R_mono HO6.out (fun _ _=>trivial)⟩,⟨Kd.R_mono HO8.out (fun _ _=>trivial)⟩,HB⟩)
  ·skip
   refine Kd.R_lit_step k39 _ 39 ?hg (N:=8) ?hd (xs:=([(⟨x.f0,x.f1,(⟨x.f2.f0,x.f2.f1⟩ : S37)⟩ : S39)] : List (S39))) (inner:=[.int .i64 x.f0,.int .i64 x.f1,.int .i64 x.f2.f0,.string x.f2.f1]) (ok:=fun _=>True) (okp:=fun _=>True) ?hr ?hp (fun _ hk=>hk) trivial (Below.refl _ _) (Nat.le_refl _) (by simp) ?_
   (case hd=>rfl)
   (case hg=>rfl)
   (case hr=>first|(go_simp;done)|(go_simp;rfl))
   (case hp=>exact (Reps.c4 (k39_mkM _ _ _ (⟨x.f0,x.f1,(⟨x.f2.f0,x.f2.f1⟩ : S37)⟩ : S39)) (Reps.none _ _)))
   intro u8 wa ho hb hg_ hnew_
   clear hg_ hnew_
   have n0_:=Aside0.mk (Kd.R_lower ho (below_size HB.out))
   have n1_:=Aside0.mk (below_step HB.out hb)
   clear HB
   have HO8:=n0_
   have HB:=n1_
   clear n0_ n1_
   clear hb ho
   refine hK.out _ _ ⟨(HB.out.cell LT.out.1).trans hf0.out,(HB.out.cell LT.out.1).trans hf1.out,(HB.out.cell LT.out.1).trans hf2.out,(HB.out.cell LT.out.1).trans hf3.out,(HB.out.cell LT.out.2).trans hg0.out⟩ (fun hHeld=>?_)
   clear hK K
   refine norm_ (a':=?_) ?_ ?_
   rotate_left
   ·show Act.put _ (some 8) _=_
    simp only [Act.put,List.setIfInBounds_toArray,List.set_cons_zero,List.set_cons_succ,i64_w,i32_w]
    rfl
   refine one_ (i:=0) (N:=some 4) #[true,true,false,true,true,false,false] rfl rfl (by kernel_rfl) (by decide) (fun K hK=>?_)
   refine Kd.R_lit_step k39 _ 39 ?hg (N:=4) ?hd (xs:=([] : List (S39))) (inner:=[]) (ok:=fun _=>True) (okp:=fun _=>True) ?hr ?hp (fun _ hk=>hk) trivial (Below.refl _ _) (Nat.le_refl _) (by simp) ?_
   (case hd=>rfl)
   (case hg=>rfl)
   (case hr=>first|(go_simp;done)|(go_simp;rfl))
   (case hp=>exact (Reps.none _ _))
   intro u4 wa ho hb hg_ hnew_
   clear hg_ hnew_
   have n0_:=Aside0.mk (Kd.R_elder' HO8.out (Kd.R_base ho) hb)
   have n1_:=Aside0.mk (Kd.R_lower (Kd.R_new' ho (Kd.R_lt HO8.out)) (below_size HB.out))
   have n2_:=Aside0.mk (below_step HB.out hb)
   clear HO8 HB
   have HO8:=n0_
   have HO4:=n1_
   have HB:=n2_
   clear n0_ n1_ n2_
   clear hb ho
   refine hK.out _ _ ⟨(HB.out.cell LT.out.1).trans hf0.out,(HB.out.cell LT.out.1).trans hf1.out,(HB.out.cell LT.out.1).trans hf2.out,(HB.out.cell LT.out.1).trans hf3.out,(HB.out.cell LT.out.2).trans hg0.out⟩ (fun hHeld=>?_)
   clear hK K
   refine norm_ (a':=?_) ?_ ?_
   rotate_left
   ·show Act.put _ (some 4) _=_
    simp only [Act.put,List.setIfInBounds_toArray,List.set_cons_zero,List.set_cons_succ,i64_w,i32_w]
    rfl
   refine one_ (i:=2) (N:=some 6) #[true,true,true,true,true,false,false] rfl rfl (by kernel_rfl) (by decide) (fun K hK=>?_)
   refine Kd.R_append_rows_step k39 (w0:=w1) w1.heap.size (by rfl) (.tmp 4) (.tmp 5) 25 39 (.agg #[(.int .i64 0),(.int .i64 0),(.int .i64 0),(.string ⟨#[]⟩)]) 40 rfl Try.underlying25 info39 rfl (by decide) (by omega) u4 [] fit _ _ _ (fun k_=>some k_≠(u8 : Value).ownBlock) (fun _=>False) rfl rfl ?aO ?aR (fun _ _ h=>h) (fun _ h=>h.elim) ?aF HB.out (below_size HB.out) ?aL ?_
   (case aR=>exact Kd.C_below hC1.out HB.out)
   (case aO=>exact Kd.R_mono HO4.out (fun _ hk=>by simpa using hk))
   (case aF=>exact (fun k_ hk=>Kd.fresh' (Kd.R_lt HO8.out) k_ hk))
   (case aL=>have:=LN.out.1;simp only [List.length_nil];omega)
   intro u6 wa ho hb hg hat
   rw [List.nil_append] at ho
   have n0_:=Aside0.mk (Kd.R_after (ok:=fun _=>True) (Kd.R_mono HO8.out (fun _ hk=>by simpa using hk)) hg hat)
   have n1_:=Aside0.mk (ho)
   have n2_:=Aside0.mk (hb)
   clear HO8 HB
   have HO8:=n0_
   have HO6:=n1_
   have HB:=n2_
   clear n0_ n1_ n2_
   clear ho hb hg hat HO4
   refine hK.out _ _ ⟨(HB.out.cell LT.out.1).trans hf0.out,(HB.out.cell LT.out.1).trans hf1.out,(HB.out.cell LT.out.1).trans hf2.out,(HB.out.cell LT.out.1).trans hf3.out,(HB.out.cell LT.out.2).trans hg0.out⟩ (fun hHeld=>?_)
   clear hK K
   refine norm_ (a':=?_) ?_ ?_
   rotate_left
   ·show Act.put _ (some 6) _=_
    simp only [Act.put,List.setIfInBounds_toArray,List.set_cons_zero,List.set_cons_succ,i64_w,i32_w]
    rfl
   exact norm_ (by simp only [putAll,Act.put,List.setIfInBounds_toArray,List.set_cons_zero,List.set_cons_succ]) (hCont (u4,u6,u8) _ ⟨⟨Kd.R_mono HO6.out (fun _ _=>trivial)⟩,⟨Kd.R_mono HO8.out (fun _ _=>trivial)⟩,HB⟩)
 clear HB hHeld
 rintro ⟨u4,u6,u8⟩ w5 ⟨HO6,HO8,HB⟩
 have hHeld : (fun w' : World=>w'.cell? ⟨w.heap.size,0,none⟩=some (.int .i64 x.f0)∧w'.cell? ⟨w.heap.size,1,none⟩=some (.int .i64 x.f1)∧w'.cell? ⟨w.heap.size,2,none⟩=some (.int .i64 x.f2.f0)∧w'.cell? ⟨w.heap.size,3,none⟩=some (.string x.f2.f1)∧w'.cell? ⟨gf,0,none⟩=some (.slice A n c)) w5:=⟨(HB.out.cell LT.out.1).trans hf0.out,(HB.out.cell LT.out.1).trans hf1.out,(HB.out.cell LT.out.1).trans hf2.out,(HB.out.cell LT.out.1).trans hf3.out,(HB.out.cell LT.out.2).trans hg0.out⟩
 refine norm_ (a':=?_) ?_ ?_
 rotate_left
 ·simp only [putAll,Act.put,List.setIfInBounds_toArray,List.set_cons_zero,List.set_cons_succ]
  rfl
 refine one_ (i:=5) (N:=some 9) #[true,true,true,true,true,true,false] rfl rfl (by kernel_rfl) (by decide) (fun K hK=>?_)
 obtain ⟨A8,c8,e8⟩:=Kd.R_slice HO8.out
 subst e8
 refine Kd.R_append_rows_step k39 (w0:=w1) w1.heap.size (by rfl) (.tmp 6) (.tmp 8) 25 39 (.agg #[(.int .i64 0),(.int .i64 0),(.int .i64 0),(.string ⟨#[]⟩)]) 40 rfl Try.underlying25 info39 rfl (by decide) (by omega) u6 fit [(⟨x.f0,x.f1,(⟨x.f2.f0,x.f2.f1⟩ : S37)⟩ : S39)] _ _ _ (fun _=>True) (fun _=>False) rfl rfl ?aO ?aR (fun _ _ h=>h) (fun _ h=>h.elim) ?aF HB.out (below_size HB.out) ?aL ?_
 (case aR=>exact (Kd.R_reads' HO8.out).2.2)
 (case aO=>exact Kd.R_mono HO6.out (fun _ _=>trivial))
 (case aF=>exact (fun _ _=>trivial))
 (case aL=>have h1_:=LN.out.1;have h2_:=LN.out.2;simp only [List.length_cons,List.length_nil];omega)
 intro u9 wa ho hb hg hat
 have n0_:=Aside0.mk (ho)
 have n1_:=Aside0.mk (hb)
 clear HB
 have HO9:=n0_
 have HB:=n1_
 clear n0_ n1_
 clear ho hb hg hat HO6 HO8
 refine hK.out _ _ ⟨(HB.out.cell LT.out.1).trans hf0.out,(HB.out.cell LT.out.1).trans hf1.out,(HB.out.cell LT.out.1).trans hf2.out,(HB.out.cell LT.out.1).trans hf3.out,(HB.out.cell LT.out.2).trans hg0.out⟩ (fun hHeld=>?_)
 clear hK K
 refine norm_ (a':=?_) ?_ ?_
 rotate_left
 ·show Act.put _ (some 9) _=_
  simp only [Act.put,List.setIfInBounds_toArray,List.set_cons_zero,List.set_cons_succ,i64_w,i32_w]
  rfl
 refine pure_ (i:=6) (N:=some 3) (v:=?_) (a':=?_) #[true,true,true,true,true,true,true] rfl rfl (by kernel_rfl) (fun _ _ _ h=>h) (Or.inl ⟨by rfl,?_⟩) ?_ ?_
 rotate_left;(intro w';go_simp;with_reducible rfl);rotate_left;(simp only [Act.put,List.setIfInBounds_toArray,List.set_cons_zero,List.set_cons_succ,i64_w,i32_w];rfl)
 refine done_ (by kernel_rfl) ?_
 (try clear hHeld)
 go_wp2
 go_ret
 exact ⟨u9,rfl,Kd.R_lower HO9.out (by have:=HS.out;omega),HB0.out.trans (HB.out.mono (by have:=HS.out;omega))⟩
end Go.Proofs.Ytbkpifcjgedjaaa.P

