/- Texts of AggEnds. Merged: HAggD. -/
import Derived.Test.YtapaldcdoahfeaaQAggEndsHAggC
/- agg.Rows, by hand: its walk. -/
namespace Go.Proofs.Ytapaldcdoahfeaa.P
open Go.RowKit Go.Proofs.YtapaldcdoahfeaaW.PrintWords Go.Proofs.YtapaldcdoahfeaaW.PrintLast Go.Proofs.YtapaldcdoahfeaaW.PrintMore
set_option linter.unusedVariables false
set_option linter.unusedSimpArgs false
set_option maxHeartbeats 8000000 in
set_option maxRecDepth 100000 in
theorem agg_Rows.calls (k : Nat) (A : Option Addr) (c : Nat) (T : List Int) (a b d : Int) (AL : Option Addr) (cL : Nat) (l : List (S33)) (AR : Option Addr) (cR : Nat) (rows : List (List (S40))) (r : List (S42)) (w : World)
  (hT : Kd.C (Kd.int .i64) w A T.length T) (hc : T.length≤c) (hL : Kd.C k33 w AL l.length l) (hcL : l.length≤cL) (hR : Kd.C (Kd.slice 40 k40) w AR rows.length rows) (hcR : rows.length≤cR) (h : agg_Rows.f k T a b d l rows=some r) :
  Calls Try.prog 11 #[.agg #[.slice A T.length c,.int .i64 a,.int .i64 b,.int .i64 d],.slice AL l.length cL,.slice AR rows.length cR] w fun e w'=>∃ v0_ : Value,e=.returned (v0_)∧Kd.R k42 42 w' w.heap.size (fun _=>True) v0_ r∧Below w.heap.size w w':=by
 unfold agg_Rows.f at h
 by_cases hn : l.length≤1000000∧rows.length≤1000000000
 case neg=>rw [if_neg hn] at h;exact absurd h (by simp)
 rw [if_pos hn] at h
 have hu29:=Try.underlying29
 have hu33:=Try.underlying33
 have hu42:=Try.underlying42
 have hu59:=Try.underlying59
 have hu60:=Try.underlying60
 have HT:=Aside0.mk hT
 have HL:=Aside0.mk hL
 have HR:=Aside0.mk hR
 have HC:=Aside0.mk (And.intro hc (And.intro hcL hcR))
 have HLN:=Aside0.mk hn.1
 have HRN:=Aside0.mk hn.2
 have HH:=Aside0.mk (show ∃ rest,aggAll k T rows (l.drop 0)=some rest∧r=[] ++ rest from ⟨r,by rw [List.drop_zero];exact h,rfl⟩)
 have HB:=Aside0.mk (Below.refl w.heap.size w)
 clear hT hc hL hcL hR hcR h hn
 go_enter Try.func11,Try.ntmps11
 go_wp2_with (first|((with_reducible refine gate_dst (N:=3) rfl ?_);refine box_event ?hg (N:=3) ?hd (cs:=#[.slice A T.length c,.int .i64 a,.int .i64 b,.int .i64 d]) (t:=29) ?hr ?_;(case hd=>rfl);(case hg=>rfl);(case hr=>first|(go_simp;done)|(go_simp;rfl));intro gs hg w4 hbox hb;have GEgs:=Aside0.mk ((by rw [hg];exact below_size HB.out) : w.heap.size≤gs);have n0_:=Aside0.mk (below_step HB.out hb);clear HB;have HB:=n0_;clear n0_;have BKgs:=Aside0.mk hbox;clear hb hbox hg))
 go_loopg [7,17] l.length (fun kq v7 v17 w'=>∃ (i : Nat) (out : List (S42)),v17=.int .i64 i∧Aside0 (i + kq=l.length)∧Aside0 (out.length=i)∧Aside0 (∃ rest,aggAll k T rows (l.drop i)=some rest∧r=out ++ rest)∧Aside0 (Kd.R k42 42 w' w.heap.size (fun _=>True) v7 out)∧Aside0 (w'.heap[gs]?=some (.cells #[.slice A T.length c,.int .i64 a,.int .i64 b,.int .i64 d] 29 (0,0)))∧Aside0 (Below w.heap.size w w'))
 case atStart=>exact ⟨0,[],rfl,⟨by omega⟩,⟨rfl⟩,HH,⟨Kd.R_nil _ _ _ _ _⟩,BKgs,HB⟩
 case round =>
  clear HH
  obtain ⟨i,out,rfl,HK1,HON,HA,HO,BKgs,HB⟩:=hrel
  by_cases hlt : i < l.length
  ·obtain ⟨m1,hm1⟩ : ∃ m,m + 1=gk:=⟨gk - 1,by have:=HK1.out;omega⟩
   have HM:=Aside0.mk hm1
   have HI:=Aside0.mk hlt
   clear hm1
   obtain ⟨rest,ha,hr⟩:=HA.out
   obtain ⟨cr,rest',h1,h2,h3⟩:=aggAll_step hlt ha
   have HA':=Aside0.mk (show ∃ rest,aggAll k T rows (l.drop (i + 1))=some rest∧r=(out ++ [cr]) ++ rest from ⟨rest',h2,by rw [hr,h3];simp⟩)
   clear HA hr h2 h3 ha
   obtain ⟨ad,e,hx0,hx1⟩:=at_T33 HL.out (i : Int) (by omega) (by omega)
   simp only [Int.toNat_natCast] at hx0 hx1
   obtain ⟨x,hx⟩ : ∃ x,x=rd_T33 l (i : Int):=⟨_,rfl⟩
   rw [← hx] at h1 hx0 hx1
   clear hx
   cases e
   unfold aggOne at h1
   by_cases hk : 1≤x.f0∧x.f0≤4∧0≤x.f1∧x.f1 < (T.length : Int)
   case neg=>rw [if_neg hk] at h1;exact absurd h1 (by simp)
   rw [if_pos hk] at h1
   obtain ⟨k1_,k4_,p0,p1⟩:=hk
   obtain ⟨b0,fo,fj,hb0,hw_,hix⟩:=ways_index k x.f0 k1_ k4_
   obtain ⟨fnv,hf1,hf2,hf3⟩:=hw_.fn
   have HW:=Aside0.mk hw_
   have HF1:=Aside0.mk hf1
   have HF2:=Aside0.mk hf2
   have HF3:=Aside0.mk hf3
   clear hw_ hf1 hf2 hf3 k1_ k4_
   obtain ⟨adT,eT,hT0⟩:=Kd.at_int HT.out x.f1 p0 p1
   obtain ⟨t,ht⟩ : ∃ t,t=rd T x.f1:=⟨_,rfl⟩
   rw [← ht] at hT0 h1
   clear ht
   cases eT
   obtain ⟨c0,hc0⟩ : ∃ c0 : S42,c0=aggFirst x.f0:=⟨_,rfl⟩
   rw [← hc0] at h1
   have HF:=Aside0.mk (show aggFold k x.f0 t x.f1 c0 (rows.drop 0)=some cr by rw [List.drop_zero];exact h1)
   have e0 : c0.f0=b0:=by rw [hc0,hb0];rfl
   have e1 : c0.f1.f0=0:=by rw [hc0];rfl
   have e2 : c0.f1.f1=(⟨#[]⟩ : ByteArray):=by rw [hc0];rfl
   have E0:=Aside0.mk e0
   have E1:=Aside0.mk e1
   have E2:=Aside0.mk e2
   clear h1 hc0 hb0 e0 e1 e2
   have hx0':=Aside0.mk hx0
   have hx1':=Aside0.mk hx1
   have hT0':=Aside0.mk hT0
   clear hT0
   replace hx0:=(HB.out.cell (World.block_lt_of_cell? w _ hx0)).trans hx0
   replace hx1:=(HB.out.cell (World.block_lt_of_cell? w _ hx1)).trans hx1
   have hlt' : decide ((i : Int) < (l.length : Int))=true:=decide_eq_true (by omega)
   have p2 : (0≤(i : Int))=True:=eq_true (by omega)
   have p3 : ((i : Int) < (l.length : Int))=True:=eq_true (by omega)
   have HP:=Aside0.mk (And.intro p0 p1)
   replace p0:=eq_true p0
   replace p1:=eq_true p1
   go_wp2_with (first|((with_reducible refine gate_dst (N:=9) rfl ?_);refine box_event ?hg (N:=9) ?hd (cs:=#[.int .i64 0,.int .i64 0]) (t:=33) ?hr ?_;(case hd=>rfl);(case hg=>rfl);(case hr=>first|(go_simp;done)|(go_simp;rfl));intro ga hg w4 hbox hb;have GEga:=Aside0.mk ((by rw [hg];exact below_size HB.out) : w.heap.size≤ga);have n0_:=Aside0.mk (blk_below BKgs.out hb);have n1_:=Aside0.mk (Kd.R_below HO.out hb);have n2_:=Aside0.mk (below_step HB.out hb);clear BKgs HO HB;have BKgs:=n0_;have HO:=n1_;have HB:=n2_;clear n0_ n1_ n2_;have BKga:=Aside0.mk hbox;clear hb hbox hg)|((with_reducible refine gate_ (.store 33 (.tmp 9) (.tmp 20)) rfl ?_);refine store_box (g:=ga) (vs:=#[.int .i64 x.f0,.int .i64 x.f1]) rfl rfl rfl ?ha ?hx BKga.out ?ht ?hsz ?h1 ?_;(case ha=>rfl);(case hx=>rfl);(case ht=>kernel_rfl);(case hsz=>rfl);(case h1=>(apply all_one;rfl));intro w5 hs_ hf_ hz_ hb_;have n0_:=Aside0.mk ((hf_ _ (blk_ne BKgs.out BKga.out (by decide))).trans BKgs.out);have n1_:=Aside0.mk (Kd.R_mono (Kd.R_step (Kd.R_types HO.out BKga.out (by decide)) (fun k_ ho_ _=>hf_ k_ ho_.2)) (fun _ h_=>h_.1));have n2_:=Aside0.mk (hb_ _ _ GEga.out HB.out);have n3_:=Aside0.mk (hs_);clear BKgs HO HB BKga;have BKgs:=n0_;have HO:=n1_;have HB:=n2_;have BKga:=n3_;clear n0_ n1_ n2_ n3_;clear hs_ hf_ hz_ hb_))
   clear hx0 hx1
   have hT0:=hT0'.out
   have n0_:=Aside0.mk (blk_drew BKgs.out);have n1_:=Aside0.mk (blk_drew BKga.out);have n2_:=Aside0.mk (Kd.R_drew HO.out);have n3_:=Aside0.mk (below_drew1 HB.out);clear BKgs BKga HO HB;have BKgs:=n0_;have BKga:=n1_;have HO:=n2_;have HB:=n3_;clear n0_ n1_ n2_ n3_
   refine start_ (n:=13) (S:=fun w'=>w'.cell? ⟨ga,0,none⟩=some (.int .i64 x.f0)∧w'.cell? ⟨ga,1,none⟩=some (.int .i64 x.f1)∧w'.cell? ⟨gs,0,none⟩=some (.slice (some adT) T.length c)∧w'.cell? (adT.add x.f1.toNat)=some (.int .i64 t)) (ds:=[]) #[false,false,false,false,false,false,false,false,false,false,false,false,false] (by kernel_rfl) rfl rfl ⟨((blk_cell BKga.out 0).trans rfl),((blk_cell BKga.out 1).trans rfl),((blk_cell BKgs.out 0).trans rfl),((HB.out.cell (World.block_lt_of_cell? w _ hT0)).trans hT0)⟩ (fun hHeld=>?_)
   refine pure_ (i:=1) (N:=some 22) (v:=?_) (a':=?_) #[false,true,false,false,false,false,false,false,false,false,false,false,false] rfl rfl (by kernel_rfl) (fun _ _ _ h=>h) (Or.inl ⟨by rfl,?_⟩) ?_ ?_
   rotate_left;(intro w';go_simp;with_reducible rfl);rotate_left;(simp only [Act.put,List.setIfInBounds_toArray,List.set_cons_zero,List.set_cons_succ,i64_w,i32_w];rfl)
   refine pure_ (i:=4) (N:=some 25) (v:=?_) (a':=?_) #[false,true,false,false,true,false,false,false,false,false,false,false,false] rfl rfl (by kernel_rfl) (fun _ _ _ h=>h) (Or.inl ⟨by rfl,?_⟩) ?_ ?_
   rotate_left;(intro w';go_simp;with_reducible rfl);rotate_left;(simp only [Act.put,List.setIfInBounds_toArray,List.set_cons_zero,List.set_cons_succ,i64_w,i32_w];rfl)
   refine pure_ (i:=6) (N:=some 27) (v:=?_) (a':=?_) #[false,true,false,false,true,false,true,false,false,false,false,false,false] rfl rfl (by kernel_rfl) (fun _ _ _ h=>h) (Or.inl ⟨by rfl,?_⟩) ?_ ?_
   rotate_left;(intro w';go_simp;with_reducible rfl);rotate_left;(simp only [Act.put,List.setIfInBounds_toArray,List.set_cons_zero,List.set_cons_succ,i64_w,i32_w];rfl)
   refine take_ (i:=2) (N:=some 23) (v:=?_) (a':=?_) #[false,true,true,false,true,false,true,false,false,false,false,false,false] rfl rfl (by kernel_rfl) (fun _ _ _ h=>h) (Or.inl ⟨by rfl,?_⟩) hHeld ?_ ?_
   rotate_left;(rintro w' ⟨s0,s1,s2,s3⟩;go_simp;with_reducible rfl);rotate_left;(simp only [Act.put,List.setIfInBounds_toArray,List.set_cons_zero,List.set_cons_succ,i64_w,i32_w];rfl)
   refine take_ (i:=5) (N:=some 26) (v:=?_) (a':=?_) #[false,true,true,false,true,true,true,false,false,false,false,false,false] rfl rfl (by kernel_rfl) (fun _ _ _ h=>h) (Or.inl ⟨by rfl,?_⟩) hHeld ?_ ?_
   rotate_left;(rintro w' ⟨s0,s1,s2,s3⟩;go_simp;with_reducible rfl);rotate_left;(simp only [Act.put,List.setIfInBounds_toArray,List.set_cons_zero,List.set_cons_succ,i64_w,i32_w];rfl)
   refine take_ (i:=7) (N:=some 28) (v:=?_) (a':=?_) #[false,true,true,false,true,true,true,true,false,false,false,false,false] rfl rfl (by kernel_rfl) (fun _ _ _ h=>h) (Or.inl ⟨by rfl,?_⟩) hHeld ?_ ?_
   rotate_left;(rintro w' ⟨s0,s1,s2,s3⟩;go_simp;with_reducible rfl);rotate_left;(simp only [Act.put,List.setIfInBounds_toArray,List.set_cons_zero,List.set_cons_succ,i64_w,i32_w];rfl)
   refine pure_ (i:=8) (N:=some 29) (v:=?_) (a':=?_) #[false,true,true,false,true,true,true,true,true,false,false,false,false] rfl rfl (by kernel_rfl) (fun _ _ _ h=>h) (Or.inl ⟨by rfl,?_⟩) ?_ ?_
   rotate_left;(intro w';go_simp;with_reducible rfl);rotate_left;(simp only [Act.put,List.setIfInBounds_toArray,List.set_cons_zero,List.set_cons_succ,i64_w,i32_w];rfl)
   refine take_ (i:=9) (N:=some 30) (v:=?_) (a':=?_) #[false,true,true,false,true,true,true,true,true,true,false,false,false] rfl rfl (by kernel_rfl) (fun _ _ _ h=>h) (Or.inl ⟨by rfl,?_⟩) hHeld ?_ ?_
   rotate_left;(rintro w' ⟨s0,s1,s2,s3⟩;go_simp;with_reducible rfl);rotate_left;(simp only [Act.put,List.setIfInBounds_toArray,List.set_cons_zero,List.set_cons_succ,i64_w,i32_w];rfl)
   refine join_ (σ:=Nat) 2 #[true,true,true,true,true,true,true,true,true,true,true,false,false] (fun s=>[(21,.agg waysA),(10,.pointer (some ⟨s,0,none⟩)),(24,.agg #[.bool b0,.int .i64 0,.string (⟨#[]⟩ : ByteArray),.func (.func fo) #[] #[],.func (.func fj) #[] #[]])]) (fun s w'=>Aside0 (w'.heap[s]?=some (.cells #[.bool false,.int .i64 0,.string (⟨#[]⟩ : ByteArray),.nilFunc,.nilFunc] 59 (0,0)))∧Aside0 (w.heap.size≤s)∧Aside0 (w'.heap[ga]?=some (.cells #[.int .i64 x.f0,.int .i64 x.f1] 33 (0,0)))∧Aside0 (w'.heap[gs]?=some (.cells #[.slice (some adT) T.length c,.int .i64 a,.int .i64 b,.int .i64 d] 29 (0,0)))∧Aside0 (Kd.R k42 42 w' w.heap.size (fun _=>True) u7 out)∧Aside0 (Below w.heap.size w w')) ?_ ?_
   rotate_left
   ·intro hCont
    refine two_ (i:=0) (j:=10) (Ni:=some 21) (Nj:=some 10) #[true,true,true,false,true,true,true,true,true,true,false,false,false] #[false,true,true,false,true,true,true,true,true,true,true,false,false] rfl rfl rfl rfl (by kernel_rfl) (by decide) (by decide) (fun K hK=>?_) (fun K hK=>?_)
    ·skip
     refine goes_ Try.func21 (by kernel_rfl) rfl #[] (by rfl) rfl rfl (by simp only [List.map_toArray,List.map_nil]) ?_
     with_reducible refine (ways_any _).mono ?_
     rintro e w3 ⟨rfl,hb⟩
     refine ⟨_,rfl,?_⟩
     have n0_:=Aside0.mk (blk_below BKgs.out hb);have n1_:=Aside0.mk (blk_below BKga.out hb);have n2_:=Aside0.mk (Kd.R_below HO.out hb);have n3_:=Aside0.mk (below_step HB.out hb);clear BKgs BKga HO HB;have BKgs:=n0_;have BKga:=n1_;have HO:=n2_;have HB:=n3_;clear n0_ n1_ n2_ n3_
     clear hb
     refine hK.out _ _ ⟨((blk_cell BKga.out 0).trans rfl),((blk_cell BKga.out 1).trans rfl),((blk_cell BKgs.out 0).trans rfl),((HB.out.cell (World.block_lt_of_cell? w _ hT0)).trans hT0)⟩ (fun hHeld=>?_)
     clear hK K
     refine norm_ (a':=?_) ?_ ?_
     rotate_left
     ·show Act.put _ (some 21) _=_
      simp only [Act.put,List.setIfInBounds_toArray,List.set_cons_zero,List.set_cons_succ,i64_w,i32_w]
      rfl
     refine take_ (i:=3) (N:=some 24) (v:=?_) (a':=?_) #[true,true,true,true,true,true,true,true,true,true,false,false,false] rfl rfl (by kernel_rfl) (fun _ _ _ h=>h) (Or.inl ⟨by rfl,?_⟩) hHeld ?_ ?_
     rotate_left;(rintro w' ⟨s0,s1,s2,s3⟩;go_simp;with_reducible rfl);rotate_left;(simp only [Act.put,List.setIfInBounds_toArray,List.set_cons_zero,List.set_cons_succ,i64_w,i32_w];rfl)
     refine one_ (i:=10) (N:=some 10) #[true,true,true,true,true,true,true,true,true,true,true,false,false] rfl rfl (by kernel_rfl) (by decide) (fun K hK=>?_)
     refine boxD_ (cs:=#[.bool false,.int .i64 0,.string (⟨#[]⟩ : ByteArray),.nilFunc,.nilFunc]) (t:=59) (by rfl) rfl ?_ ?_
     ·first|(go_simp;done)|(go_simp;rfl)
     intro gw hg w3 hbox hb
     have GEgw:=Aside0.mk ((by rw [hg];exact below_size HB.out) : w.heap.size≤gw)
     have n0_:=Aside0.mk (blk_below BKgs.out hb);have n1_:=Aside0.mk (blk_below BKga.out hb);have n2_:=Aside0.mk (Kd.R_below HO.out hb);have n3_:=Aside0.mk (below_step HB.out hb);clear BKgs BKga HO HB;have BKgs:=n0_;have BKga:=n1_;have HO:=n2_;have HB:=n3_;clear n0_ n1_ n2_ n3_
     have BKgw:=Aside0.mk hbox
     clear hb hbox hg
     refine hK.out _ _ ⟨((blk_cell BKga.out 0).trans rfl),((blk_cell BKga.out 1).trans rfl),((blk_cell BKgs.out 0).trans rfl),((HB.out.cell (World.block_lt_of_cell? w _ hT0)).trans hT0)⟩ (fun hHeld=>?_)
     clear hK K
     refine norm_ (a':=?_) ?_ ?_
     rotate_left
     ·show Act.put _ (some 10) _=_
      simp only [Act.put,List.setIfInBounds_toArray,List.set_cons_zero,List.set_cons_succ,i64_w,i32_w]
      rfl
     exact norm_ (by simp only [putAll,Act.put,List.setIfInBounds_toArray,List.set_cons_zero,List.set_cons_succ]) (hCont gw _ ⟨BKgw,GEgw,BKga,BKgs,HO,HB⟩)
    ·skip
     refine boxD_ (cs:=#[.bool false,.int .i64 0,.string (⟨#[]⟩ : ByteArray),.nilFunc,.nilFunc]) (t:=59) (by rfl) rfl ?_ ?_
     ·first|(go_simp;done)|(go_simp;rfl)
     intro gw hg w3 hbox hb
     have GEgw:=Aside0.mk ((by rw [hg];exact below_size HB.out) : w.heap.size≤gw)
     have n0_:=Aside0.mk (blk_below BKgs.out hb);have n1_:=Aside0.mk (blk_below BKga.out hb);have n2_:=Aside0.mk (Kd.R_below HO.out hb);have n3_:=Aside0.mk (below_step HB.out hb);clear BKgs BKga HO HB;have BKgs:=n0_;have BKga:=n1_;have HO:=n2_;have HB:=n3_;clear n0_ n1_ n2_ n3_
     have BKgw:=Aside0.mk hbox
     clear hb hbox hg
     refine hK.out _ _ ⟨((blk_cell BKga.out 0).trans rfl),((blk_cell BKga.out 1).trans rfl),((blk_cell BKgs.out 0).trans rfl),((HB.out.cell (World.block_lt_of_cell? w _ hT0)).trans hT0)⟩ (fun hHeld=>?_)
     clear hK K
     refine norm_ (a':=?_) ?_ ?_
     rotate_left
     ·show Act.put _ (some 10) _=_
      simp only [Act.put,List.setIfInBounds_toArray,List.set_cons_zero,List.set_cons_succ,i64_w,i32_w]
      rfl
     refine one_ (i:=0) (N:=some 21) #[true,true,true,false,true,true,true,true,true,true,true,false,false] rfl rfl (by kernel_rfl) (by decide) (fun K hK=>?_)
     refine goes_ Try.func21 (by kernel_rfl) rfl #[] (by rfl) rfl rfl (by simp only [List.map_toArray,List.map_nil]) ?_
     with_reducible refine (ways_any _).mono ?_
     rintro e w3 ⟨rfl,hb⟩
     refine ⟨_,rfl,?_⟩
     have n0_:=Aside0.mk (blk_below BKgs.out hb);have n1_:=Aside0.mk (blk_below BKga.out hb);have n2_:=Aside0.mk (blk_below BKgw.out hb);have n3_:=Aside0.mk (Kd.R_below HO.out hb);have n4_:=Aside0.mk (below_step HB.out hb);clear BKgs BKga BKgw HO HB;have BKgs:=n0_;have BKga:=n1_;have BKgw:=n2_;have HO:=n3_;have HB:=n4_;clear n0_ n1_ n2_ n3_ n4_
     clear hb
     refine hK.out _ _ ⟨((blk_cell BKga.out 0).trans rfl),((blk_cell BKga.out 1).trans rfl),((blk_cell BKgs.out 0).trans rfl),((HB.out.cell (World.block_lt_of_cell? w _ hT0)).trans hT0)⟩ (fun hHeld=>?_)
     clear hK K
     refine norm_ (a':=?_) ?_ ?_
     rotate_left
     ·show Act.put _ (some 21) _=_
      simp only [Act.put,List.setIfInBounds_toArray,List.set_cons_zero,List.set_cons_succ,i64_w,i32_w]
      rfl
     refine take_ (i:=3) (N:=some 24) (v:=?_) (a':=?_) #[true,true,true,true,true,true,true,true,true,true,true,false,false] rfl rfl (by kernel_rfl) (fun _ _ _ h=>h) (Or.inl ⟨by rfl,?_⟩) hHeld ?_ ?_
     rotate_left;(rintro w' ⟨s0,s1,s2,s3⟩;go_simp;with_reducible rfl);rotate_left;(simp only [Act.put,List.setIfInBounds_toArray,List.set_cons_zero,List.set_cons_succ,i64_w,i32_w];rfl)
     exact norm_ (by simp only [putAll,Act.put,List.setIfInBounds_toArray,List.set_cons_zero,List.set_cons_succ]) (hCont gw _ ⟨BKgw,GEgw,BKga,BKgs,HO,HB⟩)
   clear BKga BKgs HO HB hHeld
   rintro gw w5 ⟨BKgw,GEgw,BKga,BKgs,HO,HB⟩
   have hHeld : (fun w' : World=>w'.cell? ⟨ga,0,none⟩=some (.int .i64 x.f0)∧w'.cell? ⟨ga,1,none⟩=some (.int .i64 x.f1)∧w'.cell? ⟨gs,0,none⟩=some (.slice (some adT) T.length c)∧w'.cell? (adT.add x.f1.toNat)=some (.int .i64 t)) w5:=⟨((blk_cell BKga.out 0).trans rfl),((blk_cell BKga.out 1).trans rfl),((blk_cell BKgs.out 0).trans rfl),((HB.out.cell (World.block_lt_of_cell? w _ hT0)).trans hT0)⟩
   refine norm_ (a':=?_) ?_ ?_
   rotate_left
   ·simp only [putAll,Act.put,List.setIfInBounds_toArray,List.set_cons_zero,List.set_cons_succ]
    rfl
   refine one_ (i:=11) (N:=none) #[true,true,true,true,true,true,true,true,true,true,true,true,false] rfl rfl (by kernel_rfl) (by decide) (fun K hK=>?_)
   refine storeD_ (t:=59) (p:=.tmp 10) (x:=.tmp 24) (g:=gw) (vs:=#[.bool b0,.int .i64 0,.string (⟨#[]⟩ : ByteArray),.func (.func fo) #[] #[],.func (.func fj) #[] #[]]) (by rfl) rfl rfl rfl rfl BKgw.out (by kernel_rfl) rfl (by apply all_one;rfl) ?_
   intro w7 hs_ hf_ hz_ hb_
   have n0_:=Aside0.mk ((hf_ _ (blk_ne BKgs.out BKgw.out (by decide))).trans BKgs.out);have n1_:=Aside0.mk ((hf_ _ (blk_ne BKga.out BKgw.out (by decide))).trans BKga.out);have n2_:=Aside0.mk (Kd.R_mono (Kd.R_step (Kd.R_types HO.out BKgw.out (by decide)) (fun k_ ho_ _=>hf_ k_ ho_.2)) (fun _ h_=>h_.1));have n3_:=Aside0.mk (hb_ _ _ GEgw.out HB.out);have n4_:=Aside0.mk (hs_);clear BKgs BKga HO HB BKgw;have BKgs:=n0_;have BKga:=n1_;have HO:=n2_;have HB:=n3_;have BKgw:=n4_;clear n0_ n1_ n2_ n3_ n4_;clear hs_ hf_ hz_ hb_
   refine hK.out _ _ ⟨((blk_cell BKga.out 0).trans rfl),((blk_cell BKga.out 1).trans rfl),((blk_cell BKgs.out 0).trans rfl),((HB.out.cell (World.block_lt_of_cell? w _ hT0)).trans hT0)⟩ (fun hHeld=>?_)
   clear hK K
   refine pure_ (i:=12) (N:=some 11) (v:=?_) (a':=?_) #[true,true,true,true,true,true,true,true,true,true,true,true,true] rfl rfl (by kernel_rfl) (fun _ _ _ h=>h) (Or.inl ⟨by rfl,?_⟩) ?_ ?_
   rotate_left;(intro w';go_simp;with_reducible rfl);rotate_left;(simp only [Act.put,List.setIfInBounds_toArray,List.set_cons_zero,List.set_cons_succ,i64_w,i32_w];rfl)
   refine done_ (by kernel_rfl) ?_
   clear hHeld hix hT0
   have cgw0:=(blk_cell BKgw.out 0).trans rfl
   have cgw1:=(blk_cell BKgw.out 1).trans rfl
   have cgw2:=(blk_cell BKgw.out 2).trans rfl
   go_wp2_with (first|((with_reducible refine gate_dst (N:=12) rfl ?_);refine box_event ?hg (N:=12) ?hd (cs:=#[.bool false,.int .i64 0,.string (⟨#[]⟩ : ByteArray)]) (t:=42) ?hr ?_;(case hd=>rfl);(case hg=>rfl);(case hr=>first|(go_simp;done)|(go_simp;rfl));intro gc hg w8 hbox hb;have GEgc:=Aside0.mk ((by rw [hg];exact below_size HB.out) : w.heap.size≤gc);have n0_:=Aside0.mk (blk_below BKgs.out hb);have n1_:=Aside0.mk (blk_below BKga.out hb);have n2_:=Aside0.mk (blk_below BKgw.out hb);have n3_:=Aside0.mk ((by rw [hg];exact Kd.R_below (Kd.R_mono (Kd.R_bound HO.out) (fun k_ hk_=>hk_.2.2.1)) hb : Kd.R k42 42 w8 w.heap.size (fun k_=>k_ < gc) u7 out));have n4_:=Aside0.mk (below_step HB.out hb);clear BKgs BKga BKgw HO HB;have BKgs:=n0_;have BKga:=n1_;have BKgw:=n2_;have HO:=n3_;have HB:=n4_;clear n0_ n1_ n2_ n3_ n4_;have BKgc:=Aside0.mk hbox;clear hb hbox hg)|((with_reducible refine gate_ (.store 42 (.tmp 12) (.tmp 32)) rfl ?_);refine store_box (g:=gc) (vs:=#[.bool b0,.int .i64 0,.string (⟨#[]⟩ : ByteArray)]) rfl rfl rfl ?ha ?hx BKgc.out ?ht ?hsz ?h1 ?_;(case ha=>rfl);(case hx=>rfl);(case ht=>kernel_rfl);(case hsz=>rfl);(case h1=>(apply all_one;rfl));intro w9 hs_ hf_ hz_ hb_;have n0_:=Aside0.mk ((hf_ _ (blk_ne BKgs.out BKgc.out (by decide))).trans BKgs.out);have n1_:=Aside0.mk ((hf_ _ (blk_ne BKga.out BKgc.out (by decide))).trans BKga.out);have n2_:=Aside0.mk ((hf_ _ (blk_ne BKgw.out BKgc.out (by decide))).trans BKgw.out);have n3_:=Aside0.mk (Kd.R_step HO.out (fun k_ ho_ _=>hf_ k_ (Nat.ne_of_lt ho_)));have n4_:=Aside0.mk (hb_ _ _ GEgc.out HB.out);have n5_:=Aside0.mk (hs_);clear BKgs BKga BKgw HO HB BKgc;have BKgs:=n0_;have BKga:=n1_;have BKgw:=n2_;have HO:=n3_;have HB:=n4_;have BKgc:=n5_;clear n0_ n1_ n2_ n3_ n4_ n5_;clear hs_ hf_ hz_ hb_))
   have GCC:=Aside0.mk (show w9.heap[gc]?=some (.cells #[.bool c0.f0,.int .i64 c0.f1.f0,.string c0.f1.f1] 42 (0,0)) by rw [E0.out,E1.out,E2.out];exact BKgc.out)
   clear cgw0 cgw1 cgw2 p2 p3 p0 p1 BKgc
   have BKgc:=GCC
   clear GCC
   go_loopg [35] rows.length (fun kq v35 w'=>∃ (j : Nat) (cc : S42),v35=.int .i64 j∧Aside0 (j + kq=rows.length)∧Aside0 (aggFold k x.f0 t x.f1 cc (rows.drop j)=some cr)∧Aside0 (w'.heap[gc]?=some (.cells #[.bool cc.f0,.int .i64 cc.f1.f0,.string cc.f1.f1] 42 (0,0)))∧Aside0 (w'.heap[gw]?=some (.cells #[.bool b0,.int .i64 0,.string (⟨#[]⟩ : ByteArray),.func (.func fo) #[] #[],.func (.func fj) #[] #[]] 59 (0,0)))∧Aside0 (w'.heap[ga]?=some (.cells #[.int .i64 x.f0,.int .i64 x.f1] 33 (0,0)))∧Aside0 (w'.heap[gs]?=some (.cells #[.slice (some adT) T.length c,.int .i64 a,.int .i64 b,.int .i64 d] 29 (0,0)))∧Aside0 (Kd.R k42 42 w' w.heap.size (fun k_=>k_ < gc) u7 out)∧Aside0 (Below w.heap.size w w'))
   case atStart=>exact ⟨0,c0,rfl,⟨by omega⟩,HF,BKgc,BKgw,BKga,BKgs,HO,HB⟩
   case round =>
    clear HF BKgc BKgw BKga BKgs HO HB hlt'
    obtain ⟨j,cc,rfl,HK2,HF,BKgc,BKgw,BKga,BKgs,HO,HB⟩:=hrel
    by_cases hjt : j < rows.length
    ·obtain ⟨hcol,c1,hs,hf⟩:=aggFold_step hjt HF.out
     have HS:=Aside0.mk hs
     have HF':=Aside0.mk hf
     clear HF hs hf
     obtain ⟨ar,A0,d0,e,hr0,hl0,hi0⟩:=at_L7 HR.out (j : Int) (by omega) (by omega)
     simp only [Int.toNat_natCast] at hr0
     cases e
     obtain ⟨row,hrow⟩ : ∃ row,row=rd_L7 rows (j : Int):=⟨_,rfl⟩
     rw [← hrow] at hr0 hl0 hi0 hcol HS
     clear hrow
     have HP0:=Aside0.mk (show 0≤x.f1 from HP.out.1)
     obtain ⟨adv,e,hv0,hv1⟩:=at_T40 hi0 x.f1 HP0.out hcol
     obtain ⟨v,hv⟩ : ∃ v,v=rd_T40 row x.f1:=⟨_,rfl⟩
     rw [← hv] at hv0 hv1 HS
     clear hv
     cases e
     have HV:=Aside0.mk (And.intro hv0 hv1)
     clear hv0 hv1 hi0
     replace hr0:=(HB.out.cell (World.block_lt_of_cell? w _ hr0)).trans hr0
     have hjt' : decide ((j : Int) < (rows.length : Int))=true:=decide_eq_true (by omega)
     have p2 : (0≤(j : Int))=True:=eq_true (by omega)
     have p3 : ((j : Int) < (rows.length : Int))=True:=eq_true (by omega)
     have p4 : (0≤x.f1)=True:=eq_true HP0.out
     have p5 : (x.f1 < (row.length : Int))=True:=eq_true hcol
     have HJ:=Aside0.mk hjt
     clear hjt hcol hl0
     go_wp2
     have hv0:=HV.out.1
     have hv1:=HV.out.2
     have n0_:=Aside0.mk (blk_drew BKgs.out);have n1_:=Aside0.mk (blk_drew BKga.out);have n2_:=Aside0.mk (blk_drew BKgw.out);have n3_:=Aside0.mk (blk_drew BKgc.out);have n4_:=Aside0.mk (Kd.R_drew HO.out);have n5_:=Aside0.mk (below_drew1 HB.out);clear BKgs BKga BKgw BKgc HO HB;have BKgs:=n0_;have BKga:=n1_;have BKgw:=n2_;have BKgc:=n3_;have HO:=n4_;have HB:=n5_;clear n0_ n1_ n2_ n3_ n4_ n5_
     refine start_ (n:=14) (S:=fun w'=>w'.cell? ⟨gw,0,none⟩=some (.bool b0)∧w'.cell? ⟨gw,1,none⟩=some (.int .i64 0)∧w'.cell? ⟨gw,2,none⟩=some (.string (⟨#[]⟩ : ByteArray))∧w'.cell? ⟨gw,3,none⟩=some (.func (.func fo) #[] #[])∧w'.cell? ⟨gw,4,none⟩=some (.func (.func fj) #[] #[])∧w'.cell? ⟨gc,0,none⟩=some (.bool cc.f0)∧w'.cell? ⟨gc,1,none⟩=some (.int .i64 cc.f1.f0)∧w'.cell? ⟨gc,2,none⟩=some (.string cc.f1.f1)∧w'.cell? ⟨ga,1,none⟩=some (.int .i64 x.f1)∧w'.cell? (adv.add (x.f1.toNat * 2))=some (.int .i64 v.f0)∧w'.cell? ⟨(adv.add (x.f1.toNat * 2)).block,(adv.add (x.f1.toNat * 2)).off + 1,none⟩=some (.string v.f1)) (ds:=[13]) #[false,false,false,false,false,false,false,false,false,false,false,false,false,false] (by kernel_rfl) rfl rfl ⟨((blk_cell BKgw.out 0).trans rfl),((blk_cell BKgw.out 1).trans rfl),((blk_cell BKgw.out 2).trans rfl),((blk_cell BKgw.out 3).trans rfl),((blk_cell BKgw.out 4).trans rfl),((blk_cell BKgc.out 0).trans rfl),((blk_cell BKgc.out 1).trans rfl),((blk_cell BKgc.out 2).trans rfl),((blk_cell BKga.out 1).trans rfl),((HB.out.cell (World.block_lt_of_cell? w _ hv0)).trans hv0),((HB.out.cell (World.block_lt_of_cell? w _ hv1)).trans hv1)⟩ (fun hHeld=>?_)
     refine pure_ (i:=1) (N:=some 40) (v:=?_) (a':=?_) #[false,true,false,false,false,false,false,false,false,false,false,false,false,false] rfl rfl (by kernel_rfl) (fun _ _ _ h=>h) (Or.inl ⟨by rfl,?_⟩) ?_ ?_
     rotate_left;(intro w';go_simp;with_reducible rfl);rotate_left;(simp only [Act.put,List.setIfInBounds_toArray,List.set_cons_zero,List.set_cons_succ,i64_w,i32_w];rfl)
     refine pure_ (i:=3) (N:=some 42) (v:=?_) (a':=?_) #[false,true,false,true,false,false,false,false,false,false,false,false,false,false] rfl rfl (by kernel_rfl) (fun _ _ _ h=>h) (Or.inl ⟨by rfl,?_⟩) ?_ ?_
     rotate_left;(intro w';go_simp;with_reducible rfl);rotate_left;(simp only [Act.put,List.setIfInBounds_toArray,List.set_cons_zero,List.set_cons_succ,i64_w,i32_w];rfl)
     refine pure_ (i:=5) (N:=some 44) (v:=?_) (a':=?_) #[false,true,false,true,false,true,false,false,false,false,false,false,false,false] rfl rfl (by kernel_rfl) (fun _ _ _ h=>h) (Or.inl ⟨by rfl,?_⟩) ?_ ?_
     rotate_left;(intro w';go_simp;with_reducible rfl);rotate_left;(simp only [Act.put,List.setIfInBounds_toArray,List.set_cons_zero,List.set_cons_succ,i64_w,i32_w];rfl)
     refine pure_ (i:=6) (N:=some 45) (v:=?_) (a':=?_) #[false,true,false,true,false,true,true,false,false,false,false,false,false,false] rfl rfl (by kernel_rfl) (fun _ _ _ h=>h) (Or.inl ⟨by rfl,?_⟩) ?_ ?_
     rotate_left;(intro w';go_simp;with_reducible rfl);rotate_left;(simp only [Act.put,List.setIfInBounds_toArray,List.set_cons_zero,List.set_cons_succ,i64_w,i32_w];rfl)
     refine take_ (i:=0) (N:=some 39) (v:=?_) (a':=?_) #[true,true,false,true,false,true,true,false,false,false,false,false,false,false] rfl rfl (by kernel_rfl) (fun _ _ _ h=>h) (Or.inl ⟨by rfl,?_⟩) hHeld ?_ ?_
     rotate_left;(rintro w' ⟨s0,s1,s2,s3,s4,s5,s6,s7,s8,s9,s10⟩;go_simp;with_reducible rfl);rotate_left;(simp only [Act.put,List.setIfInBounds_toArray,List.set_cons_zero,List.set_cons_succ,i64_w,i32_w];rfl)
     refine take_ (i:=2) (N:=some 41) (v:=?_) (a':=?_) #[true,true,true,true,false,true,true,false,false,false,false,false,false,false] rfl rfl (by kernel_rfl) (fun _ _ _ h=>h) (Or.inl ⟨by rfl,?_⟩) hHeld ?_ ?_
     rotate_left;(rintro w' ⟨s0,s1,s2,s3,s4,s5,s6,s7,s8,s9,s10⟩;go_simp;with_reducible rfl);rotate_left;(simp only [Act.put,List.setIfInBounds_toArray,List.set_cons_zero,List.set_cons_succ,i64_w,i32_w];rfl)
     refine take_ (i:=4) (N:=some 43) (v:=?_) (a':=?_) #[true,true,true,true,true,true,true,false,false,false,false,false,false,false] rfl rfl (by kernel_rfl) (fun _ _ _ h=>h) (Or.inl ⟨by rfl,?_⟩) hHeld ?_ ?_
     rotate_left;(rintro w' ⟨s0,s1,s2,s3,s4,s5,s6,s7,s8,s9,s10⟩;go_simp;with_reducible rfl);rotate_left;(simp only [Act.put,List.setIfInBounds_toArray,List.set_cons_zero,List.set_cons_succ,i64_w,i32_w];rfl)
     refine take_ (i:=7) (N:=some 46) (v:=?_) (a':=?_) #[true,true,true,true,true,true,true,true,false,false,false,false,false,false] rfl rfl (by kernel_rfl) (fun _ _ _ h=>h) (Or.inl ⟨by rfl,?_⟩) hHeld ?_ ?_
     rotate_left;(rintro w' ⟨s0,s1,s2,s3,s4,s5,s6,s7,s8,s9,s10⟩;go_simp;with_reducible rfl);rotate_left;(simp only [Act.put,List.setIfInBounds_toArray,List.set_cons_zero,List.set_cons_succ,i64_w,i32_w];rfl)
     refine pure_ (i:=8) (N:=some 47) (v:=?_) (a':=?_) #[true,true,true,true,true,true,true,true,true,false,false,false,false,false] rfl rfl (by kernel_rfl) (fun _ _ _ h=>h) (Or.inl ⟨by rfl,?_⟩) ?_ ?_
     rotate_left;(intro w';go_simp;with_reducible rfl);rotate_left;(simp only [Act.put,List.setIfInBounds_toArray,List.set_cons_zero,List.set_cons_succ,i64_w,i32_w];rfl)
     refine take_ (i:=9) (N:=some 48) (v:=?_) (a':=?_) #[true,true,true,true,true,true,true,true,true,true,false,false,false,false] rfl rfl (by kernel_rfl) (fun _ _ _ h=>h) (Or.inl ⟨by rfl,?_⟩) hHeld ?_ ?_
     rotate_left;(rintro w' ⟨s0,s1,s2,s3,s4,s5,s6,s7,s8,s9,s10⟩;go_simp;with_reducible rfl);rotate_left;(simp only [Act.put,List.setIfInBounds_toArray,List.set_cons_zero,List.set_cons_succ,i64_w,i32_w];rfl)
     refine one_ (i:=10) (N:=some 49) #[true,true,true,true,true,true,true,true,true,true,true,false,false,false] rfl rfl (by kernel_rfl) (by decide) (fun K hK=>?_)
     refine goesV_ HF1.out HF2.out HF3.out #[.agg #[.int .i64 v.f0,.string v.f1]] (by rfl) rfl rfl rfl (by simp only [List.map_toArray,List.map_cons,List.map_nil];rfl) ?_
     with_reducible refine (HW.out.of v.f0 v.f1 _).mono ?_
     rintro e w3 ⟨rfl,hb⟩
     refine ⟨_,rfl,?_⟩
     have n0_:=Aside0.mk (blk_below BKgs.out hb);have n1_:=Aside0.mk (blk_below BKga.out hb);have n2_:=Aside0.mk (blk_below BKgw.out hb);have n3_:=Aside0.mk (blk_below BKgc.out hb);have n4_:=Aside0.mk (Kd.R_below HO.out hb);have n5_:=Aside0.mk (below_step HB.out hb);clear BKgs BKga BKgw BKgc HO HB;have BKgs:=n0_;have BKga:=n1_;have BKgw:=n2_;have BKgc:=n3_;have HO:=n4_;have HB:=n5_;clear n0_ n1_ n2_ n3_ n4_ n5_
     clear hb
     refine hK.out _ _ ⟨((blk_cell BKgw.out 0).trans rfl),((blk_cell BKgw.out 1).trans rfl),((blk_cell BKgw.out 2).trans rfl),((blk_cell BKgw.out 3).trans rfl),((blk_cell BKgw.out 4).trans rfl),((blk_cell BKgc.out 0).trans rfl),((blk_cell BKgc.out 1).trans rfl),((blk_cell BKgc.out 2).trans rfl),((blk_cell BKga.out 1).trans rfl),((HB.out.cell (World.block_lt_of_cell? w _ hv0)).trans hv0),((HB.out.cell (World.block_lt_of_cell? w _ hv1)).trans hv1)⟩ (fun hHeld=>?_)
     clear hK K
     refine norm_ (a':=?_) ?_ ?_
     rotate_left
     ·show Act.put _ (some 49) _=_
      simp only [Act.put,List.setIfInBounds_toArray,List.set_cons_zero,List.set_cons_succ,i64_w,i32_w]
      rfl
     refine pure_ (i:=11) (N:=some 50) (v:=?_) (a':=?_) #[true,true,true,true,true,true,true,true,true,true,true,true,false,false] rfl rfl (by kernel_rfl) (fun _ _ _ h=>h) (Or.inl ⟨by rfl,?_⟩) ?_ ?_
     rotate_left;(intro w';go_simp;with_reducible rfl);rotate_left;(simp only [Act.put,List.setIfInBounds_toArray,List.set_cons_zero,List.set_cons_succ,i64_w,i32_w];rfl)
     refine one_ (i:=12) (N:=some 51) #[true,true,true,true,true,true,true,true,true,true,true,true,true,false] rfl rfl (by kernel_rfl) (by decide) (fun K hK=>?_)
     refine goes_ Try.func22 (by kernel_rfl) rfl #[.agg #[.bool b0,.int .i64 0,.string (⟨#[]⟩ : ByteArray),.func (.func fo) #[] #[],.func (.func fj) #[] #[]],.int .i64 t,.agg #[.bool cc.f0,.int .i64 cc.f1.f0,.string cc.f1.f1],.agg #[.bool true,.int .i64 (aggOf x.f0 ⟨v.f0,v.f1⟩).f0,.string (aggOf x.f0 ⟨v.f0,v.f1⟩).f1]] (by rfl) rfl rfl (by simp only [List.map_toArray,List.map_cons,List.map_nil];rfl) ?_
     with_reducible refine (HW.out.both t cc _ _ c1 _ HS.out).mono ?_
     rintro e w3 ⟨rfl,hb⟩
     refine ⟨_,rfl,?_⟩
     have n0_:=Aside0.mk (blk_below BKgs.out hb);have n1_:=Aside0.mk (blk_below BKga.out hb);have n2_:=Aside0.mk (blk_below BKgw.out hb);have n3_:=Aside0.mk (blk_below BKgc.out hb);have n4_:=Aside0.mk (Kd.R_below HO.out hb);have n5_:=Aside0.mk (below_step HB.out hb);clear BKgs BKga BKgw BKgc HO HB;have BKgs:=n0_;have BKga:=n1_;have BKgw:=n2_;have BKgc:=n3_;have HO:=n4_;have HB:=n5_;clear n0_ n1_ n2_ n3_ n4_ n5_
     clear hb
     refine hK.out _ _ ⟨((blk_cell BKgw.out 0).trans rfl),((blk_cell BKgw.out 1).trans rfl),((blk_cell BKgw.out 2).trans rfl),((blk_cell BKgw.out 3).trans rfl),((blk_cell BKgw.out 4).trans rfl),((blk_cell BKgc.out 0).trans rfl),((blk_cell BKgc.out 1).trans rfl),((blk_cell BKgc.out 2).trans rfl),((blk_cell BKga.out 1).trans rfl),((HB.out.cell (World.block_lt_of_cell? w _ hv0)).trans hv0),((HB.out.cell (World.block_lt_of_cell? w _ hv1)).trans hv1)⟩ (fun hHeld=>?_)
     clear hK K
     refine norm_ (a':=?_) ?_ ?_
     rotate_left
     ·show Act.put _ (some 51) _=_
      simp only [Act.put,List.setIfInBounds_toArray,List.set_cons_zero,List.set_cons_succ,i64_w,i32_w]
      rfl
     refine last_ (i:=13) (N:=none) #[true,true,true,true,true,true,true,true,true,true,true,true,true,true] rfl rfl (by kernel_rfl) (by decide) (fun K hK=>?_)
     refine storeD_ (t:=42) (p:=.tmp 12) (x:=.tmp 51) (g:=gc) (vs:=#[.bool c1.f0,.int .i64 c1.f1.f0,.string c1.f1.f1]) (by rfl) rfl rfl rfl rfl BKgc.out (by kernel_rfl) rfl (by apply all_one;rfl) ?_
     intro w7 hs_ hf_ hz_ hb_
     have n0_:=Aside0.mk ((hf_ _ (blk_ne BKgs.out BKgc.out (by decide))).trans BKgs.out);have n1_:=Aside0.mk ((hf_ _ (blk_ne BKga.out BKgc.out (by decide))).trans BKga.out);have n2_:=Aside0.mk ((hf_ _ (blk_ne BKgw.out BKgc.out (by decide))).trans BKgw.out);have n3_:=Aside0.mk (Kd.R_step HO.out (fun k_ ho_ _=>hf_ k_ (Nat.ne_of_lt ho_)));have n4_:=Aside0.mk (hb_ _ _ GEgc.out HB.out);have n5_:=Aside0.mk (hs_);clear BKgs BKga BKgw HO HB BKgc;have BKgs:=n0_;have BKga:=n1_;have BKgw:=n2_;have HO:=n3_;have HB:=n4_;have BKgc:=n5_;clear n0_ n1_ n2_ n3_ n4_ n5_;clear hs_ hf_ hz_ hb_
     refine hK.out _ _ ?_
     clear hK K
     refine done_ (by kernel_rfl) ?_
     (try clear hHeld)
     clear hv0 hv1 hr0
     go_wp2
     go_roundg (gk - 1)
     case measure=>have:=HK2.out;have:=HJ.out;omega
     case rel=>exact ⟨j + 1,c1,by have:=HJ.out;have:=HRN.out;rw [w64 (by omega) (by omega)];rfl,⟨by have:=HK2.out;have:=HJ.out;omega⟩,HF',BKgc,BKgw,BKga,BKgs,HO,HB⟩
    ·have ecr : cc=cr:=by
      have hf:=HF.out
      rw [List.drop_of_length_le (by omega)] at hf
      exact Option.some.inj hf
     have GC2:=Aside0.mk (show wr.heap[gc]?=some (.cells #[.bool cr.f0,.int .i64 cr.f1.f0,.string cr.f1.f1] 42 (0,0)) by rw [← ecr];exact BKgc.out)
     have hjt' : decide ((j : Int) < (rows.length : Int))=false:=decide_eq_false (by omega)
     have cgc0:=(blk_cell GC2.out 0).trans rfl
     have cgc1:=(blk_cell GC2.out 1).trans rfl
     have cgc2:=(blk_cell GC2.out 2).trans rfl
     clear ecr HF
     go_wp2_with (first|((with_reducible refine gate_builtin (b:=.append) (xs:=#[.tmp 53,.tmp 55]) rfl ?_);at_builtin;refine Kd.R_append k42 (w0:=w) w.heap.size rfl (.tmp 53) (.tmp 55) 35 42 (.agg #[(.bool false),(.int .i64 0),(.string ⟨#[]⟩)]) 32 rfl Try.underlying35 info42 rfl (by decide) (by omega) u7 out cr [.bool cr.f0,.int .i64 cr.f1.f0,.string cr.f1.f1] (fun _=>True) (fun _=>False) rfl rfl ?aP (fun _ hk=>hk.elim) ?aF ?aO ?aB ?aS ?aL ?_;(case aP=>exact k42_mkM _ _ _ cr);(case aB=>exact HB.out);(case aF=>exact (fun _ _=>trivial));(case aO=>exact (Kd.R_mono HO.out (fun _ _=>trivial)));(case aS=>exact (below_size HB.out));(case aL=>have:=HLN.out;have:=HON.out;omega);intro v9 w9 ho hb hg hat;have n0_:=Aside0.mk (blk_grown BKgs.out hg (Kd.R_ne HO.out BKgs.out (by decide)));clear BKgs HB HO BKga BKgw BKgc;have BKgs:=n0_;have HB:=Aside0.mk hb;have HO:=Aside0.mk ho;clear n0_ ho hb hg hat))
     clear cgc0 cgc1 cgc2 hjt'
     try go_wp2
     go_roundg m1
     case measure=>have:=HM.out;omega
     case rel=>exact ⟨i + 1,out ++ [cr],by have:=HI.out;have:=HLN.out;rw [w64 (by omega) (by omega)];rfl,⟨by have:=HK1.out;have:=HM.out;omega⟩,⟨by rw [List.length_append];have:=HON.out;simp;omega⟩,HA',HO,BKgs,HB⟩
  ·have hlt' : decide ((i : Int) < (l.length : Int))=false:=decide_eq_false (by omega)
   obtain ⟨rest,ha,hr⟩:=HA.out
   rw [List.drop_of_length_le (by omega)] at ha
   obtain rfl:=Option.some.inj ha
   rw [List.append_nil] at hr
   have hO:=HO.out
   rw [← hr] at hO
   have HO2:=Aside0.mk hO
   clear hO hr ha HA HO
   go_wp2
   go_ret
   exact ⟨_,rfl,HO2.out,HB.out⟩
end Go.Proofs.Ytapaldcdoahfeaa.P

