/- Texts of IndexGrows. Merged: Px6. -/
import Derived.Test.YtfccebnoflhkcaaQIndexGrowsPx0
import Derived.Test.YtfccebnoflhkcaaQIndexGrowsPx5
namespace Go.Proofs.Ytfccebnoflhkcaa.P
open Go.RowKit Go.Proofs.YtfccebnoflhkcaaW.PrintWords Go.Proofs.YtfccebnoflhkcaaW.PrintLast Go.Proofs.YtfccebnoflhkcaaW.PrintMore
attribute [local go_sem] max2_int min2_int max_two min_two max_three min_three max_four min_four   -- for this text's walks alone
set_option linter.unusedVariables false
set_option linter.unusedSimpArgs false
mutual
def thresherref09_Sort.l0 : Nat→List (List (S44))→List (List (S44))→Int→List Int→Int→Int→Int→Option ((List (List (S44))))
 | 0,_,_,_,_,_,_,_=>none
 | k + 1,x1,x5,x6,x183000,x183001,x183002,x183003=>if x6 < (x1.length : Int) then (thresherref09_Sort.l1 k x1 x5 x6 (([] : List (List (S44)))) false 0 x183000 x183001 x183002 x183003) else (some x5)
def thresherref09_Sort.l1 : Nat→List (List (S44))→List (List (S44))→Int→List (List (S44))→Bool→Int→List Int→Int→Int→Int→Option ((List (List (S44))))
 | 0,_,_,_,_,_,_,_,_,_,_=>none
 | k + 1,x1,x5,x6,x7,x8,x9,x183000,x183001,x183002,x183003=>if x9 < (x5.length : Int) then (if x8=true then (if 0≤x9 then (if x7.length < 5864062014805 then (thresherref09_Sort.l1 k x1 x5 x6 (x7 ++ [rd_L5 x5 x9]) x8 (wrap64 (x9 + 1)) x183000 x183001 x183002 x183003) else (none)) else (none)) else (if 0≤x9 then (if 0≤x6 then (if x6 < (x1.length : Int) then ((thresherref04_Compare.f k x183000 x183001 x183002 x183003 (rd_L5 x5 x9) (rd_L5 x1 x6)).bind fun t191=>(if t191 > 0 then (if x7.length < 5864062014805 then ((some (x7 ++ [rd_L5 x1 x6] : List (List (S44)))).bind fun y197=>(if y197.length < 5864062014805 then (thresherref09_Sort.l1 k x1 x5 x6 (y197 ++ [rd_L5 x5 x9]) true (wrap64 (x9 + 1)) x183000 x183001 x183002 x183003) else (none))) else (none)) else (if x7.length < 5864062014805 then (thresherref09_Sort.l1 k x1 x5 x6 (x7 ++ [rd_L5 x5 x9]) x8 (wrap64 (x9 + 1)) x183000 x183001 x183002 x183003) else (none)))) else (none)) else (none)) else (none))) else (if x8=true then (thresherref09_Sort.l0 k x1 x7 (wrap64 (x6 + 1)) x183000 x183001 x183002 x183003) else (if 0≤x6 then (if x6 < (x1.length : Int) then (if x7.length < 5864062014805 then (thresherref09_Sort.l0 k x1 (x7 ++ [rd_L5 x1 x6]) (wrap64 (x6 + 1)) x183000 x183001 x183002 x183003) else (none)) else (none)) else (none)))
end
def thresherref09_Sort.f (k : Nat) (l0_0 : List Int) (a0_1 : Int) (a0_2 : Int) (a0_3 : Int) (l1 : List (List (S44))) : Option ((List (List (S44)))):=thresherref09_Sort.l0 k l1 (([] : List (List (S44)))) 0 l0_0 a0_1 a0_2 a0_3
theorem thresherref09_Sort.mono_l : ∀ k,(∀ y0 y1 y2 y3 y4 y5 y6,LeO (thresherref09_Sort.l0 k y0 y1 y2 y3 y4 y5 y6) (thresherref09_Sort.l0 (k + 1) y0 y1 y2 y3 y4 y5 y6))∧(∀ y0 y1 y2 y3 y4 y5 y6 y7 y8 y9,LeO (thresherref09_Sort.l1 k y0 y1 y2 y3 y4 y5 y6 y7 y8 y9) (thresherref09_Sort.l1 (k + 1) y0 y1 y2 y3 y4 y5 y6 y7 y8 y9))
 | 0=>⟨fun _ _ _ _ _ _ _ r h=>by simp [thresherref09_Sort.l0] at h,fun _ _ _ _ _ _ _ _ _ _ r h=>by simp [thresherref09_Sort.l1] at h⟩
 | k + 1=>by
  obtain ⟨ih0,ih1⟩:=thresherref09_Sort.mono_l k
  refine ⟨?_,?_⟩
  ·intro y0 y1 y2 y3 y4 y5 y6
   unfold thresherref09_Sort.l0
   repeat' first
   | (with_reducible exact ih0 _ _ _ _ _ _ _)
   | (with_reducible exact ih1 _ _ _ _ _ _ _ _ _ _)
   | (with_reducible exact thresherref04_Compare.mono _ _ _ _ _ _ _)
   | (with_reducible exact LeO.refl _)
   | (with_reducible exact LeO.none _)
   | (with_reducible refine LeO.ite ?_ ?_)
   | (with_reducible refine LeO.bind ?_ (fun _=>?_))
   | exact ih0 _ _ _ _ _ _ _
   | exact ih1 _ _ _ _ _ _ _ _ _ _
   | exact thresherref04_Compare.mono _ _ _ _ _ _ _
   | exact LeO.none _
   | refine LeO.ite ?_ ?_
   | refine LeO.bind ?_ (fun _=>?_)
  ·intro y0 y1 y2 y3 y4 y5 y6 y7 y8 y9
   unfold thresherref09_Sort.l1
   repeat' first
   | (with_reducible exact ih0 _ _ _ _ _ _ _)
   | (with_reducible exact ih1 _ _ _ _ _ _ _ _ _ _)
   | (with_reducible exact thresherref04_Compare.mono _ _ _ _ _ _ _)
   | (with_reducible exact LeO.refl _)
   | (with_reducible exact LeO.none _)
   | (with_reducible refine LeO.ite ?_ ?_)
   | (with_reducible refine LeO.bind ?_ (fun _=>?_))
   | exact ih0 _ _ _ _ _ _ _
   | exact ih1 _ _ _ _ _ _ _ _ _ _
   | exact thresherref04_Compare.mono _ _ _ _ _ _ _
   | exact LeO.none _
   | refine LeO.ite ?_ ?_
   | refine LeO.bind ?_ (fun _=>?_)
theorem thresherref09_Sort.mono : ∀ a0 a1 a2 a3 a4 k,LeO (thresherref09_Sort.f k a0 a1 a2 a3 a4) (thresherref09_Sort.f (k + 1) a0 a1 a2 a3 a4):=by
 intro a0 a1 a2 a3 a4 k
 obtain ⟨ih0,ih1⟩:=thresherref09_Sort.mono_l k
 unfold thresherref09_Sort.f
 repeat' first
   | (with_reducible exact ih0 _ _ _ _ _ _ _)
   | (with_reducible exact ih1 _ _ _ _ _ _ _ _ _ _)
   | (with_reducible exact thresherref04_Compare.mono _ _ _ _ _ _ _)
   | (with_reducible exact LeO.refl _)
   | (with_reducible exact LeO.none _)
   | (with_reducible refine LeO.ite ?_ ?_)
   | (with_reducible refine LeO.bind ?_ (fun _=>?_))
   | exact ih0 _ _ _ _ _ _ _
   | exact ih1 _ _ _ _ _ _ _ _ _ _
   | exact thresherref04_Compare.mono _ _ _ _ _ _ _
   | exact LeO.none _
   | refine LeO.ite ?_ ?_
   | refine LeO.bind ?_ (fun _=>?_)
def thresherref09_Sort.T10 : Bool × List (List Nat × List Nat):=(true,[([],[]),([0],[0]),([1],[1]),([2],[2]),([2],[2]),([2],[2]),([4,5,2],[2,4,5]),([6,2],[2,6]),([2],[2]),([2],[2]),([8,9,2],[2,8,9]),([10,2],[2,10]),([3,7,11,2,2],[2,3,7,11]),([12,2],[2,12]),([2,13],[2,13])])
def thresherref09_Sort.B10 : List Nat:=[0,1,3,7,7,7,55,119,7,7,775,1799,4095,8191,16383]
theorem thresherref09_Sort.tab10 : rtab .any (opsOf Try.f9 10)=thresherref09_Sort.T10:=by kernel_rfl
theorem thresherref09_Sort.bits10 : waitsOk thresherref09_Sort.T10.2 thresherref09_Sort.B10=true:=by kernel_rfl
set_option maxHeartbeats 8000000 in
set_option maxRecDepth 100000 in
theorem thresherref09_Sort.calls (k : Nat) (A0_0 : Option Addr) (c0_0 : Nat) (l0_0 : List Int) (a0_1 : Int) (a0_2 : Int) (a0_3 : Int) (P1_ : Nat→Prop) (A1 : Option Addr) (c1 : Nat) (l1 : List (List (S44))) (r : List (List (S44))) (w : World) (hr0_0 : Kd.C (Kd.int .i64) w A0_0 l0_0.length l0_0) (hc0_0 : l0_0.length≤c0_0) (hs1 : Kd.V (Kd.slice 44 k44) 27 w w.heap.size (fun k_=>P1_ k_) (.slice A1 l1.length c1) l1) (h : thresherref09_Sort.f k l0_0 a0_1 a0_2 a0_3 l1=some r) :
  Calls Try.prog 9 #[.agg #[.slice A0_0 l0_0.length c0_0,.int .i64 a0_1,.int .i64 a0_2,.int .i64 a0_3],.slice A1 l1.length c1] w fun e w'=>∃ v0_ : Value,e=.returned (v0_)∧Kd.N (Kd.slice 44 k44) 27 w' w.heap.size (fun k_=>(P1_ k_ ∨ w.heap.size≤k_)) v0_ r∧Below w.heap.size w w':=by
 have hu33:=Try.underlying33
 have HR0_0:=Aside0.mk hr0_0
 have HC0_0:=Aside0.mk hc0_0
 clear hr0_0 hc0_0
 have HO1:=Aside0.mk (show Kd.V (Kd.slice 44 k44) 27 w w.heap.size (fun k_=>(P1_ k_ ∨ w.heap.size≤k_)) (.slice A1 l1.length c1) l1 from Kd.V_mono hs1 (fun k_ hk=>.inl hk))
 have HB:=Aside0.mk (Below.refl w.heap.size w)
 have H : (thresherref09_Sort.l0 k l1 (([] : List (List (S44)))) 0 l0_0 a0_1 a0_2 a0_3)=some r:=h
 clear h
 obtain ⟨y183,hy183⟩ : ∃ y_ : List (List (S44)),y_=(([] : List (List (S44)))):=⟨_,rfl⟩
 replace H : (thresherref09_Sort.l0 k l1 y183 0 l0_0 a0_1 a0_2 a0_3)=some r:=by first|(rw [hy183];with_reducible exact H)|(have H2_:=(Option.bind_some _ _).symm.trans H;rw [hy183];with_reducible exact H2_)|(have H2_:=(Option.bind_some _ _).symm.trans H;with_reducible exact H2_)|with_reducible exact H|(rw [hy183];exact H)|exact H
 have Ny183:=Aside0.mk hy183
 clear hy183
 have H':=Aside0.mk H
 clear H
 go_enter Try.func9,Try.ntmps9
 go_wp2_with (first|((with_reducible refine gate_dst (N:=2) rfl ?_);refine box_event ?hg (N:=2) ?hd (cs:=#[.slice A0_0 l0_0.length c0_0,.int .i64 a0_1,.int .i64 a0_2,.int .i64 a0_3]) (t:=33) ?hr ?_;(case hd=>rfl);(case hg=>rfl);(case hr=>first|(go_simp;done)|(go_simp;rfl));intro gb182 hg w3 hbox hb;have n0_:=Aside0.mk (Kd.V_below (Kd.V_elderB (V_up HO1.out) gb182 (Nat.le_of_eq hg.symm)) hb);have n1_:=Aside0.mk (below_step (below_up HB.out) hb);have n2_:=Aside0.mk (hbox);have n3_:=Aside0.mk ((by rw [hg];exact (below_size (below_up HB.out)) : w.heap.size≤gb182));have n4_:=Aside0.mk ((by rw [hg];exact (below_size (below_up HB.out)) : w.heap.size≤gb182));clear HO1;clear HB;have HO1:=n0_;have HB:=n1_;have BK182:=n2_;have GW182:=n3_;have GE182:=n4_;clear n0_ n1_ n2_ n3_ n4_;clear hb hbox hg)|((with_reducible refine gate_dst (N:=10) rfl ?_);refine Kd.N_lit (Kd.slice 44 k44) _ 27 ?hg (N':=10) ?hd (xs:=([] : List (List (S44)))) (inner:=[]) (ok:=(fun k_=>(P1_ k_ ∨ w.heap.size≤k_)∧k_≠gb182)) (okp:=(fun k_=>(P1_ k_ ∨ w.heap.size≤k_)∧k_≠gb182)) ?hr ?hp (fun _ hk=>hk) ((show ∀ k_,w3.heap.size≤k_→(fun k_=>(P1_ k_ ∨ w.heap.size≤k_)∧k_≠gb182) k_ from fun k_ hk=>⟨(.inr (Nat.le_trans (below_size (by repeat (first|(with_reducible first|exact HB.out|apply below_alloc|apply pw_below_drewN|apply below_drew1|refine below_set ?_ GE182.out)|exact HB.out))) hk)),Kd.freshB (g:=gb182) (o:=.cells #[.slice A0_0 l0_0.length c0_0,.int .i64 a0_1,.int .i64 a0_2,.int .i64 a0_3] 33 (0,0)) (blk_up BK182.out) k_ hk⟩) _ (Nat.le_refl _)) (Below.refl _ _) (Nat.le_refl _) (by simp) ?_;(case hd=>rfl);(case hg=>rfl);(case hr=>first|(go_simp;done)|(go_simp;rfl));(case hp=>exact (Reps.none _ _));intro v184 w4 ho5 hb hg_ hnew_;clear hg_ hnew_;(first|rw [← Ny183.out] at ho5|(simp only [Int.reduceToNat] at ho5;rw [← Ny183.out] at ho5));have n0_:=Aside0.mk (Kd.V_elder' (V_up HO1.out) (Kd.N_base ho5) hb);have n1_:=Aside0.mk (Kd.N_lower ho5 (below_size (by repeat (first|(with_reducible first|exact HB.out|apply below_alloc|apply pw_below_drewN|apply below_drew1|refine below_set ?_ GE182.out)|exact HB.out))));have n2_:=Aside0.mk (blk_below (g:=gb182) (o:=.cells #[.slice A0_0 l0_0.length c0_0,.int .i64 a0_1,.int .i64 a0_2,.int .i64 a0_3] 33 (0,0)) (blk_up BK182.out) hb);have n3_:=Aside0.mk (below_step (by repeat (first|(with_reducible first|exact HB.out|apply below_alloc|apply pw_below_drewN|apply below_drew1|refine below_set ?_ GE182.out)|exact HB.out)) hb);clear HO1;clear BK182;clear HB;have HO1:=n0_;have HO185:=n1_;have BK182:=n2_;have HB:=n3_;clear n0_ n1_ n2_ n3_;clear hb ho5))
 go_loopg [5,6] k (fun kq v5 v6 w'=>∃ (x5_1 : List (List (S44))) (x6_1 : Int),v6=.int .i64 x6_1∧Aside0 (thresherref09_Sort.l0 kq l1 x5_1 x6_1 l0_0 a0_1 a0_2 a0_3=some r)∧Aside0 (kq≤k)∧Aside0 (Kd.V (Kd.slice 44 k44) 27 w' w.heap.size (fun k_=>(P1_ k_ ∨ w.heap.size≤k_)∧some k_≠(v5 : Value).ownBlock∧k_≠gb182) (.slice A1 l1.length c1) l1)∧Aside0 (Kd.N (Kd.slice 44 k44) 27 w' w.heap.size (fun k_=>(P1_ k_ ∨ w.heap.size≤k_)∧k_≠gb182) v5 x5_1)∧Aside0 (w'.heap[gb182]?=some (.cells #[(.slice A0_0 l0_0.length c0_0),.int .i64 a0_1,.int .i64 a0_2,.int .i64 a0_3] 33 (0,0)))∧Aside0 (Below w.heap.size w w'))
 case atStart=>exact ⟨(y183),(0),(by first|rfl|(simp;done)|(simp [*];done)),H',⟨Nat.le_refl _⟩,⟨by (with_reducible repeat (first|apply Kd.V_alloc|apply Kd.V_drewN|apply Kd.V_drew));exact Kd.V_mono HO1.out (fun _ hk=>⟨hk.1.1,⟨hk.2,hk.1.2⟩⟩)⟩,⟨by (with_reducible repeat (first|apply Kd.N_alloc|apply Kd.N_drewN|apply Kd.N_drew));exact HO185.out⟩,⟨by (with_reducible repeat (first|refine blk_drewN ?_ _|refine blk_drew ?_|refine blk_alloc ?_ _));exact BK182.out⟩,⟨by repeat (first|(with_reducible first|exact HB.out|apply below_alloc|apply pw_below_drewN|apply below_drew1|refine below_set ?_ GE182.out)|exact HB.out)⟩⟩
 case round =>
  clear H'
  try clear c1
  try clear p2
  obtain ⟨x5_1,x6_1,rfl,HA,HK1,HO_1,HO_5,BK182,HB⟩:=hrel
  cases gk with
  | zero=>exact absurd HA.out (by simp [thresherref09_Sort.l0])
  | succ k1 =>
   have H:=HA.out
   clear HA
   simp only [thresherref09_Sort.l0] at H
   by_cases c6 : x6_1 < (l1.length : Int)
   ·rw [if_pos c6] at H
    have c6b0 : decide (x6_1 < (l1.length : Int))=true:=decide_eq_true c6
    clear c6
    obtain ⟨y186,hy186⟩ : ∃ y_ : List (List (S44)),y_=(([] : List (List (S44)))):=⟨_,rfl⟩
    replace H : (thresherref09_Sort.l1 k1 l1 x5_1 x6_1 y186 false 0 l0_0 a0_1 a0_2 a0_3)=some r:=by first|(rw [hy186];with_reducible exact H)|(have H2_:=(Option.bind_some _ _).symm.trans H;rw [hy186];with_reducible exact H2_)|(have H2_:=(Option.bind_some _ _).symm.trans H;with_reducible exact H2_)|with_reducible exact H|(rw [hy186];exact H)|exact H
    have Ny186:=Aside0.mk hy186
    clear hy186
    have H':=Aside0.mk H
    clear H
    go_wp2_with (first|((with_reducible refine gate_dst (N:=17) rfl ?_);refine Kd.N_lit (Kd.slice 44 k44) _ 27 ?hg (N':=17) ?hd (xs:=([] : List (List (S44)))) (inner:=[]) (ok:=(fun k_=>(P1_ k_ ∨ w.heap.size≤k_)∧some k_≠(u5 : Value).ownBlock∧k_≠gb182)) (okp:=(fun k_=>(P1_ k_ ∨ w.heap.size≤k_)∧some k_≠(u5 : Value).ownBlock∧k_≠gb182)) ?hr ?hp (fun _ hk=>hk) ((show ∀ k_,wr.heap.size≤k_→(fun k_=>(P1_ k_ ∨ w.heap.size≤k_)∧some k_≠(u5 : Value).ownBlock∧k_≠gb182) k_ from fun k_ hk=>⟨(.inr (Nat.le_trans (below_size (by repeat (first|(with_reducible first|exact HB.out|apply below_alloc|apply pw_below_drewN|apply below_drew1|refine below_set ?_ GE182.out)|exact HB.out))) hk)),Kd.fresh' (Kd.N_lt (N_up HO_5.out)) k_ hk,Kd.freshB (g:=gb182) (o:=.cells #[.slice A0_0 l0_0.length c0_0,.int .i64 a0_1,.int .i64 a0_2,.int .i64 a0_3] 33 (0,0)) (blk_up BK182.out) k_ hk⟩) _ (Nat.le_refl _)) (Below.refl _ _) (Nat.le_refl _) (by simp) ?_;(case hd=>rfl);(case hg=>rfl);(case hr=>first|(go_simp;done)|(go_simp;rfl));(case hp=>exact (Reps.none _ _));intro v187 w7 ho8 hb hg_ hnew_;clear hg_ hnew_;(first|rw [← Ny186.out] at ho8|(simp only [Int.reduceToNat] at ho8;rw [← Ny186.out] at ho8));have n0_:=Aside0.mk (Kd.V_elder' (V_up HO_1.out) (Kd.N_base ho8) hb);have n1_:=Aside0.mk (Kd.N_elder' (N_up HO_5.out) (Kd.N_base ho8) hb);have n2_:=Aside0.mk (Kd.N_lower ho8 (below_size (by repeat (first|(with_reducible first|exact HB.out|apply below_alloc|apply pw_below_drewN|apply below_drew1|refine below_set ?_ GE182.out)|exact HB.out))));have n3_:=Aside0.mk (blk_below (g:=gb182) (o:=.cells #[.slice A0_0 l0_0.length c0_0,.int .i64 a0_1,.int .i64 a0_2,.int .i64 a0_3] 33 (0,0)) (blk_up BK182.out) hb);have n4_:=Aside0.mk (below_step (by repeat (first|(with_reducible first|exact HB.out|apply below_alloc|apply pw_below_drewN|apply below_drew1|refine below_set ?_ GE182.out)|exact HB.out)) hb);clear HO_1;clear HO_5;clear BK182;clear HB;have HO_1:=n0_;have HO_5:=n1_;have HO188:=n2_;have BK182:=n3_;have HB:=n4_;clear n0_ n1_ n2_ n3_ n4_;clear hb ho8))
    go_loopg [7,8,9] k1 (fun kq v7 v8 v9 w'=>∃ (x7_2 : List (List (S44))) (x8_2 : Bool) (x9_2 : Int),v8=.bool x8_2∧v9=.int .i64 x9_2∧Aside0 (thresherref09_Sort.l1 kq l1 x5_1 x6_1 x7_2 x8_2 x9_2 l0_0 a0_1 a0_2 a0_3=some r)∧Aside0 (kq≤k1)∧Aside0 (Kd.V (Kd.slice 44 k44) 27 w' w.heap.size (fun k_=>(P1_ k_ ∨ w.heap.size≤k_)∧some k_≠(u5 : Value).ownBlock∧some k_≠(v7 : Value).ownBlock∧k_≠gb182) (.slice A1 l1.length c1) l1)∧Aside0 (Kd.N (Kd.slice 44 k44) 27 w' w.heap.size (fun k_=>(P1_ k_ ∨ w.heap.size≤k_)∧some k_≠(v7 : Value).ownBlock∧k_≠gb182) u5 x5_1)∧Aside0 (Kd.N (Kd.slice 44 k44) 27 w' w.heap.size (fun k_=>(P1_ k_ ∨ w.heap.size≤k_)∧some k_≠(u5 : Value).ownBlock∧k_≠gb182) v7 x7_2)∧Aside0 (w'.heap[gb182]?=some (.cells #[(.slice A0_0 l0_0.length c0_0),.int .i64 a0_1,.int .i64 a0_2,.int .i64 a0_3] 33 (0,0)))∧Aside0 (Below w.heap.size w w'))
    case atStart=>exact ⟨(y186),(false),(0),(by first|rfl|(simp;done)|(simp [*];done)),(by first|rfl|(simp;done)|(simp [*];done)),H',⟨Nat.le_refl _⟩,⟨by (with_reducible repeat (first|apply Kd.V_alloc|apply Kd.V_drewN|apply Kd.V_drew));exact Kd.V_mono HO_1.out (fun _ hk=>⟨hk.1.1,⟨hk.1.2.1,⟨hk.2,hk.1.2.2⟩⟩⟩)⟩,⟨by (with_reducible repeat (first|apply Kd.N_alloc|apply Kd.N_drewN|apply Kd.N_drew));exact Kd.N_mono HO_5.out (fun _ hk=>⟨hk.1.1,⟨hk.2,hk.1.2⟩⟩)⟩,⟨by (with_reducible repeat (first|apply Kd.N_alloc|apply Kd.N_drewN|apply Kd.N_drew));exact HO188.out⟩,⟨by (with_reducible repeat (first|refine blk_drewN ?_ _|refine blk_drew ?_|refine blk_alloc ?_ _));exact BK182.out⟩,⟨by repeat (first|(with_reducible first|exact HB.out|apply below_alloc|apply pw_below_drewN|apply below_drew1|refine below_set ?_ GE182.out)|exact HB.out)⟩⟩
    case round =>
     clear H'
     try clear c1
     try clear p2
     try clear c6
     try clear c6b0
     try clear p2
     obtain ⟨x7_2,x8_2,x9_2,rfl,rfl,HA,HK2,HO_1,HO_5,HO_7,BK182,HB⟩:=hrel
     cases gk with
     | zero=>exact absurd HA.out (by simp [thresherref09_Sort.l1])
     | succ k2 =>
      have H:=HA.out
      clear HA
      simp only [thresherref09_Sort.l1] at H
      by_cases c9 : x9_2 < (x5_1.length : Int)
      ·rw [if_pos c9] at H
       have c9b0 : decide (x9_2 < (x5_1.length : Int))=true:=decide_eq_true c9
       clear c9
       by_cases c10 : x8_2=true
       ·subst c10
        have H1 : (if 0≤x9_2 then (if x7_2.length < 5864062014805 then (thresherref09_Sort.l1 k2 l1 x5_1 x6_1 (x7_2 ++ [rd_L5 x5_1 x9_2]) true (wrap64 (x9_2 + 1)) l0_0 a0_1 a0_2 a0_3) else (none)) else (none))=some r:=by rw [if_pos rfl] at H;exact H
        clear H
        have H:=H1
        clear H1
        by_cases c11 : 0≤x9_2
        ·rw [if_pos c11] at H
         have c11b0 : decide (0≤x9_2)=true:=decide_eq_true c11
         clear c11
         by_cases c12 : x7_2.length < 5864062014805
         ·rw [if_pos c12] at H
          have LMc12:=Aside0.mk c12
          clear c12
          obtain ⟨y193,hy193⟩ : ∃ y_ : List (List (S44)),y_=(x7_2 ++ [rd_L5 x5_1 x9_2]):=⟨_,rfl⟩
          replace H : (thresherref09_Sort.l1 k2 l1 x5_1 x6_1 y193 true (wrap64 (x9_2 + 1)) l0_0 a0_1 a0_2 a0_3)=some r:=by first|(rw [hy193];with_reducible exact H)|(have H2_:=(Option.bind_some _ _).symm.trans H;rw [hy193];with_reducible exact H2_)|(have H2_:=(Option.bind_some _ _).symm.trans H;with_reducible exact H2_)|with_reducible exact H|(rw [hy193];exact H)|exact H
          have Ny193:=Aside0.mk hy193
          clear hy193
          have H':=Aside0.mk H
          clear H
          obtain ⟨Ao13,co13,eo13⟩:=Kd.N_slice HO_5.out
          subst eo13
          try go_wp2
          have n0_:=Aside0.mk (Kd.V_drew HO_1.out)
          have n1_:=Aside0.mk (Kd.N_drew HO_5.out)
          have n2_:=Aside0.mk (Kd.N_drew HO_7.out)
          have n3_:=Aside0.mk (blk_drew BK182.out)
          have n4_:=Aside0.mk (below_drew1 HB.out)
          clear HO_1
          clear HO_5
          clear HO_7
          clear BK182
          clear HB
          have HO_1:=n0_
          have HO_5:=n1_
          have HO_7:=n2_
          have BK182:=n3_
          have HB:=n4_
          clear n0_ n1_ n2_ n3_ n4_
          refine start_ (n:=15) (S:=fun w'=>True) (ds:=[]) #[false,false,false,false,false,false,false,false,false,false,false,false,false,false,false] (by kernel_rfl) rfl rfl trivial (fun hHeld=>?_);refine with_tabW thresherref09_Sort.tab10 thresherref09_Sort.bits10 (fun HT_ HW_=>?_)
          generalize wr.drew=w14 at HO_1 HO_5 HO_7 BK182 HB hHeld ⊢
          refine pure_ (i:=0) (N:=some 24) (v:=?_) (a':=?_) #[true,false,false,false,false,false,false,false,false,false,false,false,false,false,false] rfl rfl (any_of HT_.out (by kernel_rfl)) (fun _ _ _ h=>h) (Or.inl ⟨by rfl,?_⟩) ?_ ?_
          rotate_left;(intro w';go_simp;with_reducible rfl);rotate_left;(simp only [Act.put,List.setIfInBounds_toArray,List.set_cons_zero,List.set_cons_succ,i64_w,i32_w];rfl)
          refine pure_ (i:=1) (N:=some 25) (v:=?_) (a':=?_) #[true,true,false,false,false,false,false,false,false,false,false,false,false,false,false] rfl rfl (any_of HT_.out (by kernel_rfl)) (fun _ _ _ h=>h) (Or.inl ⟨by rfl,?_⟩) ?_ ?_
          rotate_left;(intro w';go_simp;with_reducible rfl);rotate_left;(simp only [Act.put,List.setIfInBounds_toArray,List.set_cons_zero,List.set_cons_succ,i64_w,i32_w];rfl)
          refine pure_ (i:=2) (N:=some 26) (v:=?_) (a':=?_) #[true,true,true,false,false,false,false,false,false,false,false,false,false,false,false] rfl rfl (any_of HT_.out (by kernel_rfl)) (fun _ _ _ h=>h) (Or.inl ⟨by rfl,?_⟩) ?_ ?_
          rotate_left;(intro w';go_simp;with_reducible rfl);rotate_left;(simp only [Act.put,List.setIfInBounds_toArray,List.set_cons_zero,List.set_cons_succ,i64_w,i32_w];rfl)
          refine pure_ (i:=3) (N:=some 27) (v:=undef) (a':=?_) #[true,true,true,true,false,false,false,false,false,false,false,false,false,false,false] rfl rfl (any_of HT_.out (by kernel_rfl)) (fun _ _ _ h=>h) (Or.inr ⟨by rfl,rfl⟩) ?_ ?_
          rotate_left
          ·simp only [Act.put,List.setIfInBounds_toArray,List.set_cons_zero,List.set_cons_succ,i64_w,i32_w]
           rfl
          refine pure_ (i:=4) (N:=some 28) (v:=undef) (a':=?_) #[true,true,true,true,true,false,false,false,false,false,false,false,false,false,false] rfl rfl (any_of HT_.out (by kernel_rfl)) (fun _ _ _ h=>h) (Or.inr ⟨by rfl,rfl⟩) ?_ ?_
          rotate_left
          ·simp only [Act.put,List.setIfInBounds_toArray,List.set_cons_zero,List.set_cons_succ,i64_w,i32_w]
           rfl
          refine pure_ (i:=5) (N:=some 29) (v:=undef) (a':=?_) #[true,true,true,true,true,true,false,false,false,false,false,false,false,false,false] rfl rfl (any_of HT_.out (by kernel_rfl)) (fun _ _ _ h=>h) (Or.inr ⟨by rfl,rfl⟩) ?_ ?_
          rotate_left
          ·simp only [Act.put,List.setIfInBounds_toArray,List.set_cons_zero,List.set_cons_succ,i64_w,i32_w]
           rfl
          refine pure_ (i:=6) (N:=some 30) (v:=undef) (a':=?_) #[true,true,true,true,true,true,true,false,false,false,false,false,false,false,false] rfl rfl (any_of HT_.out (by kernel_rfl)) (fun _ _ _ h=>h) (Or.inr ⟨by rfl,rfl⟩) ?_ ?_
          rotate_left
          ·simp only [Act.put,List.setIfInBounds_toArray,List.set_cons_zero,List.set_cons_succ,i64_w,i32_w]
           rfl
          refine pure_ (i:=7) (N:=some 31) (v:=undef) (a':=?_) #[true,true,true,true,true,true,true,true,false,false,false,false,false,false,false] rfl rfl (any_of HT_.out (by kernel_rfl)) (fun _ _ _ h=>h) (Or.inr ⟨by rfl,rfl⟩) ?_ ?_
          rotate_left
          ·simp only [Act.put,List.setIfInBounds_toArray,List.set_cons_zero,List.set_cons_succ,i64_w,i32_w]
           rfl
          refine pure_ (i:=8) (N:=some 32) (v:=undef) (a':=?_) #[true,true,true,true,true,true,true,true,true,false,false,false,false,false,false] rfl rfl (any_of HT_.out (by kernel_rfl)) (fun _ _ _ h=>h) (Or.inr ⟨by rfl,rfl⟩) ?_ ?_
          rotate_left
          ·simp only [Act.put,List.setIfInBounds_toArray,List.set_cons_zero,List.set_cons_succ,i64_w,i32_w]
           rfl
          refine pure_ (i:=9) (N:=some 33) (v:=undef) (a':=?_) #[true,true,true,true,true,true,true,true,true,true,false,false,false,false,false] rfl rfl (any_of HT_.out (by kernel_rfl)) (fun _ _ _ h=>h) (Or.inr ⟨by rfl,rfl⟩) ?_ ?_
          rotate_left
          ·simp only [Act.put,List.setIfInBounds_toArray,List.set_cons_zero,List.set_cons_succ,i64_w,i32_w]
           rfl
          refine pure_ (i:=10) (N:=some 34) (v:=undef) (a':=?_) #[true,true,true,true,true,true,true,true,true,true,true,false,false,false,false] rfl rfl (any_of HT_.out (by kernel_rfl)) (fun _ _ _ h=>h) (Or.inr ⟨by rfl,rfl⟩) ?_ ?_
          rotate_left
          ·simp only [Act.put,List.setIfInBounds_toArray,List.set_cons_zero,List.set_cons_succ,i64_w,i32_w]
           rfl
          refine pure_ (i:=11) (N:=some 35) (v:=undef) (a':=?_) #[true,true,true,true,true,true,true,true,true,true,true,true,false,false,false] rfl rfl (any_of HT_.out (by kernel_rfl)) (fun _ _ _ h=>h) (Or.inr ⟨by rfl,rfl⟩) ?_ ?_
          rotate_left
          ·simp only [Act.put,List.setIfInBounds_toArray,List.set_cons_zero,List.set_cons_succ,i64_w,i32_w]
           rfl
          refine pure_ (i:=12) (N:=some 36) (v:=undef) (a':=?_) #[true,true,true,true,true,true,true,true,true,true,true,true,true,false,false] rfl rfl (any_of HT_.out (by kernel_rfl)) (fun _ _ _ h=>h) (Or.inr ⟨by rfl,rfl⟩) ?_ ?_
          rotate_left
          ·simp only [Act.put,List.setIfInBounds_toArray,List.set_cons_zero,List.set_cons_succ,i64_w,i32_w]
           rfl
          refine pure_ (i:=13) (N:=some 37) (v:=undef) (a':=?_) #[true,true,true,true,true,true,true,true,true,true,true,true,true,true,false] rfl rfl (any_of HT_.out (by kernel_rfl)) (fun _ _ _ h=>h) (Or.inr ⟨by rfl,rfl⟩) ?_ ?_
          rotate_left
          ·simp only [Act.put,List.setIfInBounds_toArray,List.set_cons_zero,List.set_cons_succ,i64_w,i32_w]
           rfl
          refine pure_ (i:=14) (N:=some 38) (v:=?_) (a':=?_) #[true,true,true,true,true,true,true,true,true,true,true,true,true,true,true] rfl rfl (any_of HT_.out (by kernel_rfl)) (fun _ _ _ h=>h) (Or.inl ⟨by rfl,?_⟩) ?_ ?_
          rotate_left;(intro w';go_simp;with_reducible rfl);rotate_left;(simp only [Act.put,List.setIfInBounds_toArray,List.set_cons_zero,List.set_cons_succ,i64_w,i32_w];rfl)
          refine done_ (done_of HT_.out (by kernel_rfl)) ?_
          (try clear hHeld)
          have p192 : 0≤(x9_2 : Int):=of_decide_eq_true (by first|(with_reducible assumption)|assumption)
          have q192 : x9_2 < (x5_1.length : Int):=of_decide_eq_true (by first|(with_reducible assumption)|assumption)
          obtain ⟨ad192,A192_0,c192_0,e192,hx192_0,hl192_0,hi192_0⟩:=at_L5 (Kd.N_reads' HO_5.out).2.2 x9_2 p192 q192
          cases e192
          obtain ⟨ce192,hce192,hMe192,hcc192⟩:=Kd.N_get HO_5.out [] x9_2 p192 (by first|exact q192|exact of_decide_eq_true (by first|(with_reducible assumption)|assumption)|(have e_:=(Kd.N_reads' HO_5.out).1;omega))
          obtain ⟨ua192_0,uc192_0,rfl,ul192_0,ge192_0⟩:=Kd.FK_slice_open hMe192
          have hv192_0:=hcc192 0 _ rfl
          rw [Nat.add_zero,show ((Kd.slice 44 k44)).sz=1 from rfl,Nat.mul_one] at hv192_0
          replace hv192_0:=Option.some.inj (hv192_0.symm.trans hx192_0)
          injection hv192_0 with hva_ hvn_ hvc_
          rw [hva_] at ge192_0
          rw [hvc_] at ul192_0
          have HL192_0:=Aside0.mk (show Kd.V k44 44 _ w.heap.size _ _ (rd_L5 x5_1 x9_2) from Kd.V_mk ul192_0 ge192_0)
          clear hva_ hvn_ hvc_ ge192_0 ul192_0
          clear hcc192 hce192
          have HR192_0:=Aside0.mk hi192_0
          have HC192_0:=Aside0.mk hl192_0
          clear hi192_0 hl192_0
          replace p192:=eq_true p192
          replace q192:=eq_true q192
          try go_wp2_with (first|((with_reducible refine gate_builtin (b:=.append) (xs:=#[.tmp 46,.tmp 51]) rfl ?_);at_builtin;refine Kd.N_append (Kd.slice 44 k44) (w0:=w) w.heap.size rfl (.tmp 46) (.tmp 51) 25 27 (.slice none 0 0) 24 rfl Try.underlying25 info27 rfl (by decide) (by omega) u7 x7_2 (rd_L5 x5_1 x9_2) [.slice A192_0 (rd_L5 x5_1 x9_2).length c192_0] (fun k_=>(P1_ k_ ∨ w.heap.size≤k_)∧some k_≠(.slice (some ad192) x5_1.length co13 : Value).ownBlock∧k_≠gb182) (fun k_=>((fun k_=>(P1_ k_ ∨ w.heap.size≤k_)∧some k_≠(.slice (some ad192) x5_1.length co13 : Value).ownBlock∧k_≠gb182)) k_∧some k_≠(u7 : Value).ownBlock) rfl rfl ?aP (fun _ hk=>hk) ?aF ?aO ?aB ?aS ?aL ?_;(case aP=>exact (Kd.FK_slice_mk (Kd.V_reads' (Kd.V_mono (ok':=(fun k_=>((fun k_=>(P1_ k_ ∨ w.heap.size≤k_)∧some k_≠(.slice (some ad192) x5_1.length co13 : Value).ownBlock∧k_≠gb182)) k_∧some k_≠(u7 : Value).ownBlock)) (HL192_0.out) (fun k_ hk=>⟨⟨hk.1.1,⟨hk.2,hk.1.2.2⟩⟩,hk.1.2.1⟩))).2.1 (Kd.V_F (Kd.V_mono (ok':=(fun k_=>((fun k_=>(P1_ k_ ∨ w.heap.size≤k_)∧some k_≠(.slice (some ad192) x5_1.length co13 : Value).ownBlock∧k_≠gb182)) k_∧some k_≠(u7 : Value).ownBlock)) (HL192_0.out) (fun k_ hk=>⟨⟨hk.1.1,⟨hk.2,hk.1.2.2⟩⟩,hk.1.2.1⟩)))));(case aB=>exact (by repeat (first|(with_reducible first|exact HB.out|apply below_alloc|apply pw_below_drewN|apply below_drew1|refine below_set ?_ GE182.out)|exact HB.out)));(case aF=>exact (fun k_ hk=>⟨(.inr (Nat.le_trans (below_size (by repeat (first|(with_reducible first|exact HB.out|apply below_alloc|apply pw_below_drewN|apply below_drew1|refine below_set ?_ GE182.out)|exact HB.out))) hk)),Kd.fresh' (Kd.N_lt (N_up HO_5.out)) k_ hk,Kd.freshB (g:=gb182) (o:=.cells #[.slice A0_0 l0_0.length c0_0,.int .i64 a0_1,.int .i64 a0_2,.int .i64 a0_3] 33 (0,0)) (blk_up BK182.out) k_ hk⟩));(case aO=>exact (N_up HO_7.out));(case aS=>exact (below_size (by repeat (first|(with_reducible first|exact HB.out|apply below_alloc|apply pw_below_drewN|apply below_drew1|refine below_set ?_ GE182.out)|exact HB.out))));(case aL=>have:=LMc12.out;omega);intro v194 w15 ho hb hg hat;rw [← Ny193.out] at ho;have n0_:=Aside0.mk (Kd.V_afterv (ok:=(fun k_=>(P1_ k_ ∨ w.heap.size≤k_)∧some k_≠(.slice (some ad192) x5_1.length co13 : Value).ownBlock∧k_≠gb182)) (by (with_reducible repeat (first|apply Kd.V_alloc|apply Kd.V_drewN|apply Kd.V_drew));exact Kd.V_mono HO_1.out (fun _ hk=>⟨⟨hk.1,⟨hk.2.1,hk.2.2.2⟩⟩,hk.2.2.1⟩)) hg hat);have n1_:=Aside0.mk (Kd.N_afterv (ok:=(fun k_=>(P1_ k_ ∨ w.heap.size≤k_)∧k_≠gb182)) (by (with_reducible repeat (first|apply Kd.N_alloc|apply Kd.N_drewN|apply Kd.N_drew));exact Kd.N_mono HO_5.out (fun _ hk=>⟨⟨hk.1,hk.2.2⟩,hk.2.1⟩)) hg hat);have n2_:=Aside0.mk (blk_grown (g:=gb182) (o:=.cells #[.slice A0_0 l0_0.length c0_0,.int .i64 a0_1,.int .i64 a0_2,.int .i64 a0_3] 33 (0,0)) (blk_up BK182.out) hg (Kd.N_ne HO_7.out BK182.out (by decide)));have n3_:=Aside0.mk (Kd.V_afterv (ok:=(fun k_=>(P1_ k_ ∨ w.heap.size≤k_)∧some k_≠(.slice (some ad192) x5_1.length co13 : Value).ownBlock∧k_≠gb182)) (by (with_reducible repeat (first|apply Kd.V_alloc|apply Kd.V_drewN|apply Kd.V_drew));exact Kd.V_mono HL192_0.out (fun _ hk=>⟨⟨hk.1.1,⟨hk.2,hk.1.2.2⟩⟩,hk.1.2.1⟩)) hg hat);have n4_:=Aside0.mk (hb);have n5_:=Aside0.mk (ho);clear HO_1;clear HO_5;clear BK182;clear HL192_0;clear HB;clear HO_7;have HO_1:=n0_;have HO_5:=n1_;have BK182:=n2_;have HL192_0:=n3_;have HB:=n4_;have HO195:=n5_;clear n0_ n1_ n2_ n3_ n4_ n5_;clear ho hb hg hat))
          go_roundg k2
          case measure=>have:=HK1.out;have:=HK2.out;omega
          case rel=>exact ⟨(y193),(true),(wrap64 (x9_2 + 1)),(by first|rfl|(simp;done)|(simp [*];done)),(by first|rfl|(simp;done)|(simp [*];done)),(by first|exact H'|(subst_vars;exact H')),⟨by have:=HK1.out;have:=HK2.out;omega⟩,⟨by (with_reducible repeat (first|apply Kd.V_alloc|apply Kd.V_drewN|apply Kd.V_drew));exact Kd.V_mono HO_1.out (fun _ hk=>⟨hk.1.1,⟨hk.1.2.1,⟨hk.2,hk.1.2.2⟩⟩⟩)⟩,⟨by (with_reducible repeat (first|apply Kd.N_alloc|apply Kd.N_drewN|apply Kd.N_drew));exact Kd.N_mono HO_5.out (fun _ hk=>⟨hk.1.1,⟨hk.2,hk.1.2⟩⟩)⟩,⟨by (with_reducible repeat (first|apply Kd.N_alloc|apply Kd.N_drewN|apply Kd.N_drew));exact HO195.out⟩,⟨by (with_reducible repeat (first|refine blk_drewN ?_ _|refine blk_drew ?_|refine blk_alloc ?_ _));exact BK182.out⟩,⟨by repeat (first|(with_reducible first|exact HB.out|apply below_alloc|apply pw_below_drewN|apply below_drew1|refine below_set ?_ GE182.out)|exact HB.out)⟩⟩
         ·rw [if_neg c12] at H
          exact absurd H (by simp)
        ·rw [if_neg c11] at H
         exact absurd H (by simp)
       ·replace c10:=Bool.eq_false_iff.mpr c10
        subst c10
        have H1 : (if 0≤x9_2 then (if 0≤x6_1 then (if x6_1 < (l1.length : Int) then ((thresherref04_Compare.f k2 l0_0 a0_1 a0_2 a0_3 (rd_L5 x5_1 x9_2) (rd_L5 l1 x6_1)).bind fun t191=>(if t191 > 0 then (if x7_2.length < 5864062014805 then ((some (x7_2 ++ [rd_L5 l1 x6_1] : List (List (S44)))).bind fun y197=>(if y197.length < 5864062014805 then (thresherref09_Sort.l1 k2 l1 x5_1 x6_1 (y197 ++ [rd_L5 x5_1 x9_2]) true (wrap64 (x9_2 + 1)) l0_0 a0_1 a0_2 a0_3) else (none))) else (none)) else (if x7_2.length < 5864062014805 then (thresherref09_Sort.l1 k2 l1 x5_1 x6_1 (x7_2 ++ [rd_L5 x5_1 x9_2]) false (wrap64 (x9_2 + 1)) l0_0 a0_1 a0_2 a0_3) else (none)))) else (none)) else (none)) else (none))=some r:=by rw [if_neg (show ¬ (false=true) by decide)] at H;exact H
        clear H
        have H:=H1
        clear H1
        by_cases c16 : 0≤x9_2
        ·rw [if_pos c16] at H
         have c16b0 : decide (0≤x9_2)=true:=decide_eq_true c16
         clear c16
         by_cases c17 : 0≤x6_1
         ·rw [if_pos c17] at H
          have c17b0 : decide (0≤x6_1)=true:=decide_eq_true c17
          clear c17
          by_cases c18 : x6_1 < (l1.length : Int)
          ·rw [if_pos c18] at H
           have c18b0 : decide (x6_1 < (l1.length : Int))=true:=decide_eq_true c18
           clear c18
           replace H:=Option.bind_eq_some_iff.mp H
           obtain ⟨t191,A190,H⟩:=H
           replace H : (if t191 > 0 then (if x7_2.length < 5864062014805 then ((some (x7_2 ++ [rd_L5 l1 x6_1] : List (List (S44)))).bind fun y197=>(if y197.length < 5864062014805 then (thresherref09_Sort.l1 k2 l1 x5_1 x6_1 (y197 ++ [rd_L5 x5_1 x9_2]) true (wrap64 (x9_2 + 1)) l0_0 a0_1 a0_2 a0_3) else (none))) else (none)) else (if x7_2.length < 5864062014805 then (thresherref09_Sort.l1 k2 l1 x5_1 x6_1 (x7_2 ++ [rd_L5 x5_1 x9_2]) false (wrap64 (x9_2 + 1)) l0_0 a0_1 a0_2 a0_3) else (none)))=some r:=H
           have A19:=Aside0.mk A190
           clear A190
           by_cases c20 : t191 > 0
           ·rw [if_pos c20] at H
            have c20b0 : decide (0 < t191)=true:=decide_eq_true c20
            clear c20
            by_cases c21 : x7_2.length < 5864062014805
            ·rw [if_pos c21] at H
             have LMc21:=Aside0.mk c21
             clear c21
             obtain ⟨y197,hy197⟩ : ∃ y_ : List (List (S44)),y_=(x7_2 ++ [rd_L5 l1 x6_1]):=⟨_,rfl⟩
             replace H : (if y197.length < 5864062014805 then (thresherref09_Sort.l1 k2 l1 x5_1 x6_1 (y197 ++ [rd_L5 x5_1 x9_2]) true (wrap64 (x9_2 + 1)) l0_0 a0_1 a0_2 a0_3) else (none))=some r:=by first|(rw [hy197];with_reducible exact H)|(have H2_:=(Option.bind_some _ _).symm.trans H;rw [hy197];with_reducible exact H2_)|(have H2_:=(Option.bind_some _ _).symm.trans H;with_reducible exact H2_)|with_reducible exact H|(rw [hy197];exact H)|exact H
             have Ny197:=Aside0.mk hy197
             clear hy197
             by_cases c22 : y197.length < 5864062014805
             ·rw [if_pos c22] at H
              have LMc22:=Aside0.mk c22
              clear c22
              obtain ⟨y201,hy201⟩ : ∃ y_ : List (List (S44)),y_=(y197 ++ [rd_L5 x5_1 x9_2]):=⟨_,rfl⟩
              replace H : (thresherref09_Sort.l1 k2 l1 x5_1 x6_1 y201 true (wrap64 (x9_2 + 1)) l0_0 a0_1 a0_2 a0_3)=some r:=by first|(rw [hy201];with_reducible exact H)|(have H2_:=(Option.bind_some _ _).symm.trans H;rw [hy201];with_reducible exact H2_)|(have H2_:=(Option.bind_some _ _).symm.trans H;with_reducible exact H2_)|with_reducible exact H|(rw [hy201];exact H)|exact H
              have Ny201:=Aside0.mk hy201
              clear hy201
              have H':=Aside0.mk H
              clear H
              obtain ⟨Ao23,co23,eo23⟩:=Kd.N_slice HO_5.out
              subst eo23
              try go_wp2
              have n0_:=Aside0.mk (Kd.V_drew HO_1.out)
              have n1_:=Aside0.mk (Kd.N_drew HO_5.out)
              have n2_:=Aside0.mk (Kd.N_drew HO_7.out)
              have n3_:=Aside0.mk (blk_drew BK182.out)
              have n4_:=Aside0.mk (below_drew1 HB.out)
              clear HO_1
              clear HO_5
              clear HO_7
              clear BK182
              clear HB
              have HO_1:=n0_
              have HO_5:=n1_
              have HO_7:=n2_
              have BK182:=n3_
              have HB:=n4_
              clear n0_ n1_ n2_ n3_ n4_
              have p189 : 0≤(x9_2 : Int):=of_decide_eq_true (by first|(with_reducible assumption)|assumption)
              have q189 : x9_2 < (x5_1.length : Int):=of_decide_eq_true (by first|(with_reducible assumption)|assumption)
              obtain ⟨ad189,A189_0,c189_0,e189,hx189_0,hl189_0,hi189_0⟩:=at_L5 (Kd.N_reads' HO_5.out).2.2 x9_2 p189 q189
              cases e189
              obtain ⟨ce189,hce189,hMe189,hcc189⟩:=Kd.N_get HO_5.out [] x9_2 p189 (by first|exact q189|exact of_decide_eq_true (by first|(with_reducible assumption)|assumption)|(have e_:=(Kd.N_reads' HO_5.out).1;omega))
              obtain ⟨ua189_0,uc189_0,rfl,ul189_0,ge189_0⟩:=Kd.FK_slice_open hMe189
              have hv189_0:=hcc189 0 _ rfl
              rw [Nat.add_zero,show ((Kd.slice 44 k44)).sz=1 from rfl,Nat.mul_one] at hv189_0
              replace hv189_0:=Option.some.inj (hv189_0.symm.trans hx189_0)
              injection hv189_0 with hva_ hvn_ hvc_
              rw [hva_] at ge189_0
              rw [hvc_] at ul189_0
              have HL189_0:=Aside0.mk (show Kd.V k44 44 _ w.heap.size _ _ (rd_L5 x5_1 x9_2) from Kd.V_mk ul189_0 ge189_0)
              clear hva_ hvn_ hvc_ ge189_0 ul189_0
              clear hcc189 hce189
              have HR189_0:=Aside0.mk hi189_0
              have HC189_0:=Aside0.mk hl189_0
              clear hi189_0 hl189_0
              replace p189:=eq_true p189
              replace q189:=eq_true q189
              have p190 : 0≤(x6_1 : Int):=of_decide_eq_true (by first|(with_reducible assumption)|assumption)
              have q190 : x6_1 < (l1.length : Int):=of_decide_eq_true (by first|(with_reducible assumption)|assumption)
              obtain ⟨ad190,A190_0,c190_0,e190,hx190_0,hl190_0,hi190_0⟩:=at_L5 (Kd.V_reads' HO_1.out).2.2 x6_1 p190 q190
              cases e190
              obtain ⟨ce190,hce190,hMe190,hcc190⟩:=Kd.V_get HO_1.out [] x6_1 p190 (by first|exact q190|exact of_decide_eq_true (by first|(with_reducible assumption)|assumption)|(have e_:=(Kd.V_reads' HO_1.out).1;omega))
              obtain ⟨ua190_0,uc190_0,rfl,ul190_0,ge190_0⟩:=Kd.FK_slice_open hMe190
              have hv190_0:=hcc190 0 _ rfl
              rw [Nat.add_zero,show ((Kd.slice 44 k44)).sz=1 from rfl,Nat.mul_one] at hv190_0
              replace hv190_0:=Option.some.inj (hv190_0.symm.trans hx190_0)
              injection hv190_0 with hva_ hvn_ hvc_
              rw [hva_] at ge190_0
              rw [hvc_] at ul190_0
              have HL190_0:=Aside0.mk (show Kd.V k44 44 _ w.heap.size _ _ (rd_L5 l1 x6_1) from Kd.V_mk ul190_0 ge190_0)
              clear hva_ hvn_ hvc_ ge190_0 ul190_0
              clear hcc190 hce190
              have HR190_0:=Aside0.mk hi190_0
              have HC190_0:=Aside0.mk hl190_0
              clear hi190_0 hl190_0
              replace p190:=eq_true p190
              replace q190:=eq_true q190
              refine start_ (n:=15) (S:=fun w'=>w'.cell? ⟨gb182,0,none⟩=some (.slice A0_0 l0_0.length c0_0)∧w'.cell? ⟨gb182,1,none⟩=some (.int .i64 a0_1)∧w'.cell? ⟨gb182,2,none⟩=some (.int .i64 a0_2)∧w'.cell? ⟨gb182,3,none⟩=some (.int .i64 a0_3)∧w'.cell? (ad189.add (x9_2).toNat)=some (.slice A189_0 (rd_L5 x5_1 x9_2).length c189_0)∧w'.cell? (ad190.add (x6_1).toNat)=some (.slice A190_0 (rd_L5 l1 x6_1).length c190_0)) (ds:=[]) #[false,false,false,false,false,false,false,false,false,false,false,false,false,false,false] (by kernel_rfl) rfl rfl ⟨(blk_cell BK182.out 0).trans rfl,(blk_cell BK182.out 1).trans rfl,(blk_cell BK182.out 2).trans rfl,(blk_cell BK182.out 3).trans rfl,hx189_0,hx190_0⟩ (fun hHeld=>?_);refine with_tabW thresherref09_Sort.tab10 thresherref09_Sort.bits10 (fun HT_ HW_=>?_)
              generalize wr.drew=w24 at HO_1 HO_5 HO_7 BK182 HB HL189_0 HL190_0 HR189_0 HR190_0 hx189_0 hx190_0 hHeld ⊢
              refine pure_ (i:=0) (N:=some 24) (v:=?_) (a':=?_) #[true,false,false,false,false,false,false,false,false,false,false,false,false,false,false] rfl rfl (any_of HT_.out (by kernel_rfl)) (fun _ _ _ h=>h) (Or.inl ⟨by rfl,?_⟩) ?_ ?_
              rotate_left;(intro w';go_simp;with_reducible rfl);rotate_left;(simp only [Act.put,List.setIfInBounds_toArray,List.set_cons_zero,List.set_cons_succ,i64_w,i32_w];rfl)
              refine pure_ (i:=1) (N:=some 25) (v:=?_) (a':=?_) #[true,true,false,false,false,false,false,false,false,false,false,false,false,false,false] rfl rfl (any_of HT_.out (by kernel_rfl)) (fun _ _ _ h=>h) (Or.inl ⟨by rfl,?_⟩) ?_ ?_
              rotate_left;(intro w';go_simp;with_reducible rfl);rotate_left;(simp only [Act.put,List.setIfInBounds_toArray,List.set_cons_zero,List.set_cons_succ,i64_w,i32_w];rfl)
              refine pure_ (i:=2) (N:=some 26) (v:=?_) (a':=?_) #[true,true,true,false,false,false,false,false,false,false,false,false,false,false,false] rfl rfl (any_of HT_.out (by kernel_rfl)) (fun _ _ _ h=>h) (Or.inl ⟨by rfl,?_⟩) ?_ ?_
              rotate_left;(intro w';go_simp;with_reducible rfl);rotate_left;(simp only [Act.put,List.setIfInBounds_toArray,List.set_cons_zero,List.set_cons_succ,i64_w,i32_w];rfl)
              refine pure_ (i:=4) (N:=some 28) (v:=?_) (a':=?_) #[true,true,true,false,true,false,false,false,false,false,false,false,false,false,false] rfl rfl (any_of HT_.out (by kernel_rfl)) (fun _ _ _ h=>h) (Or.inl ⟨by rfl,?_⟩) ?_ ?_
              rotate_left;(intro w';go_simp;with_reducible rfl);rotate_left;(simp only [Act.put,List.setIfInBounds_toArray,List.set_cons_zero,List.set_cons_succ,i64_w,i32_w];rfl)
              refine pure_ (i:=5) (N:=some 29) (v:=?_) (a':=?_) #[true,true,true,false,true,true,false,false,false,false,false,false,false,false,false] rfl rfl (any_of HT_.out (by kernel_rfl)) (fun _ _ _ h=>h) (Or.inl ⟨by rfl,?_⟩) ?_ ?_
              rotate_left;(intro w';go_simp;with_reducible rfl);rotate_left;(simp only [Act.put,List.setIfInBounds_toArray,List.set_cons_zero,List.set_cons_succ,i64_w,i32_w];rfl)
              refine pure_ (i:=6) (N:=some 30) (v:=?_) (a':=?_) #[true,true,true,false,true,true,true,false,false,false,false,false,false,false,false] rfl rfl (any_of HT_.out (by kernel_rfl)) (fun _ _ _ h=>h) (Or.inl ⟨by rfl,?_⟩) ?_ ?_
              rotate_left;(intro w';go_simp;with_reducible rfl);rotate_left;(simp only [Act.put,List.setIfInBounds_toArray,List.set_cons_zero,List.set_cons_succ,i64_w,i32_w];rfl)
              refine pure_ (i:=8) (N:=some 32) (v:=?_) (a':=?_) #[true,true,true,false,true,true,true,false,true,false,false,false,false,false,false] rfl rfl (any_of HT_.out (by kernel_rfl)) (fun _ _ _ h=>h) (Or.inl ⟨by rfl,?_⟩) ?_ ?_
              rotate_left;(intro w';go_simp;with_reducible rfl);rotate_left;(simp only [Act.put,List.setIfInBounds_toArray,List.set_cons_zero,List.set_cons_succ,i64_w,i32_w];rfl)
              refine pure_ (i:=9) (N:=some 33) (v:=?_) (a':=?_) #[true,true,true,false,true,true,true,false,true,true,false,false,false,false,false] rfl rfl (any_of HT_.out (by kernel_rfl)) (fun _ _ _ h=>h) (Or.inl ⟨by rfl,?_⟩) ?_ ?_
              rotate_left;(intro w';go_simp;with_reducible rfl);rotate_left;(simp only [Act.put,List.setIfInBounds_toArray,List.set_cons_zero,List.set_cons_succ,i64_w,i32_w];rfl)
              refine pure_ (i:=10) (N:=some 34) (v:=?_) (a':=?_) #[true,true,true,false,true,true,true,false,true,true,true,false,false,false,false] rfl rfl (any_of HT_.out (by kernel_rfl)) (fun _ _ _ h=>h) (Or.inl ⟨by rfl,?_⟩) ?_ ?_
              rotate_left;(intro w';go_simp;with_reducible rfl);rotate_left;(simp only [Act.put,List.setIfInBounds_toArray,List.set_cons_zero,List.set_cons_succ,i64_w,i32_w];rfl)
              refine take_ (i:=3) (N:=some 27) (v:=?_) (a':=?_) #[true,true,true,true,true,true,true,false,true,true,true,false,false,false,false] rfl rfl (take_ofW HT_.out HW_.out (by kernel_rfl)) (fun _ _ _ h=>h) (Or.inl ⟨by rfl,?_⟩) hHeld ?_ ?_
              rotate_left;(rintro w' ⟨s0,s1,s2,s3,s4,s5⟩;go_simp;with_reducible rfl);rotate_left;(simp only [Act.put,List.setIfInBounds_toArray,List.set_cons_zero,List.set_cons_succ,i64_w,i32_w];rfl)
              refine take_ (i:=7) (N:=some 31) (v:=?_) (a':=?_) #[true,true,true,true,true,true,true,true,true,true,true,false,false,false,false] rfl rfl (take_ofW HT_.out HW_.out (by kernel_rfl)) (fun _ _ _ h=>h) (Or.inl ⟨by rfl,?_⟩) hHeld ?_ ?_
              rotate_left;(rintro w' ⟨s0,s1,s2,s3,s4,s5⟩;go_simp;with_reducible rfl);rotate_left;(simp only [Act.put,List.setIfInBounds_toArray,List.set_cons_zero,List.set_cons_succ,i64_w,i32_w];rfl)
              refine take_ (i:=11) (N:=some 35) (v:=?_) (a':=?_) #[true,true,true,true,true,true,true,true,true,true,true,true,false,false,false] rfl rfl (take_ofW HT_.out HW_.out (by kernel_rfl)) (fun _ _ _ h=>h) (Or.inl ⟨by rfl,?_⟩) hHeld ?_ ?_
              rotate_left;(rintro w' ⟨s0,s1,s2,s3,s4,s5⟩;go_simp;with_reducible rfl);rotate_left;(simp only [Act.put,List.setIfInBounds_toArray,List.set_cons_zero,List.set_cons_succ,i64_w,i32_w];rfl)
              refine one_ (i:=12) (N:=some 36) #[true,true,true,true,true,true,true,true,true,true,true,true,true,false,false] rfl rfl (one_of HT_.out (by kernel_rfl)) (by decide) (fun K hK=>?_)
              refine goes_ Try.func20 (by kernel_rfl) rfl #[.agg #[.slice A0_0 l0_0.length c0_0,.int .i64 a0_1,.int .i64 a0_2,.int .i64 a0_3],.slice A189_0 (rd_L5 x5_1 x9_2).length c189_0,.slice A190_0 (rd_L5 l1 x6_1).length c190_0] (by rfl) rfl rfl (by (try simp only [List.map_toArray,List.map_cons,List.map_nil]);first|done|rfl|(simp only [List.length_drop,List.length_take];rfl)) ?_
              with_reducible refine (thresherref04_Compare.calls k2 _ _ l0_0 a0_1 a0_2 a0_3 _ _ (rd_L5 x5_1 x9_2) _ _ (rd_L5 l1 x6_1) t191 _ ?side1 ?side2 ?side3 ?side4 ?side5 ?side6 A19.out).mono ?_
              (case side1=>repeat (first|exact (Kd.C_below HR0_0.out HB.out)|(with_reducible refine Kd.C_alloc ?_ _)|(with_reducible refine Kd.C_drewN ?_ _)|(with_reducible refine Kd.C_drew ?_)))
              (case side2=>exact HC0_0.out)
              (case side3=>repeat (first|exact (by repeat (first|(with_reducible exact HR189_0.out)|(with_reducible refine Kd.C_alloc ?_ _)|(with_reducible refine Kd.C_drewN ?_ _)|(with_reducible refine Kd.C_drew ?_)|exact HR189_0.out))|(with_reducible refine Kd.C_alloc ?_ _)|(with_reducible refine Kd.C_drewN ?_ _)|(with_reducible refine Kd.C_drew ?_)))
              (case side4=>exact HC189_0.out)
              (case side5=>repeat (first|exact (by repeat (first|(with_reducible exact HR190_0.out)|(with_reducible refine Kd.C_alloc ?_ _)|(with_reducible refine Kd.C_drewN ?_ _)|(with_reducible refine Kd.C_drew ?_)|exact HR190_0.out))|(with_reducible refine Kd.C_alloc ?_ _)|(with_reducible refine Kd.C_drewN ?_ _)|(with_reducible refine Kd.C_drew ?_)))
              (case side6=>exact HC190_0.out)
              rintro e w25 ⟨rfl,hb⟩
              have HS4_:=(hb.cell (World.block_lt_of_cell? _ _ (hHeld.2.2.2.2.1))).trans (hHeld.2.2.2.2.1)
              have HS5_:=(hb.cell (World.block_lt_of_cell? _ _ (hHeld.2.2.2.2.2))).trans (hHeld.2.2.2.2.2)
              refine ⟨_,rfl,?_⟩
              have n0_:=Aside0.mk (Kd.V_below (V_up HO_1.out) hb)
              have n1_:=Aside0.mk (Kd.N_below (N_up HO_5.out) hb)
              have n2_:=Aside0.mk (Kd.N_below (N_up HO_7.out) hb)
              have n3_:=Aside0.mk (Kd.V_below (by (with_reducible repeat (first|apply Kd.V_alloc|apply Kd.V_drewN|apply Kd.V_drew));exact HL189_0.out) hb)
              have n4_:=Aside0.mk (Kd.V_below (by (with_reducible repeat (first|apply Kd.V_alloc|apply Kd.V_drewN|apply Kd.V_drew));exact HL190_0.out) hb)
              have n5_:=Aside0.mk (blk_below (g:=gb182) (o:=.cells #[.slice A0_0 l0_0.length c0_0,.int .i64 a0_1,.int .i64 a0_2,.int .i64 a0_3] 33 (0,0)) (blk_up BK182.out) hb)
              have n6_:=Aside0.mk (Kd.C_below (by repeat (first|(with_reducible exact HR189_0.out)|(with_reducible refine Kd.C_alloc ?_ _)|(with_reducible refine Kd.C_drewN ?_ _)|(with_reducible refine Kd.C_drew ?_)|exact HR189_0.out)) hb)
              have n7_:=Aside0.mk (Kd.C_below (by repeat (first|(with_reducible exact HR190_0.out)|(with_reducible refine Kd.C_alloc ?_ _)|(with_reducible refine Kd.C_drewN ?_ _)|(with_reducible refine Kd.C_drew ?_)|exact HR190_0.out)) hb)
              have n8_:=Aside0.mk (below_step (by repeat (first|(with_reducible first|exact HB.out|apply below_alloc|apply pw_below_drewN|apply below_drew1|refine below_set ?_ GE182.out)|exact HB.out)) hb)
              clear HO_1
              clear HO_5
              clear HO_7
              clear HL189_0
              clear HL190_0
              clear BK182
              clear HR189_0
              clear HR190_0
              clear HB
              have HO_1:=n0_
              have HO_5:=n1_
              have HO_7:=n2_
              have HL189_0:=n3_
              have HL190_0:=n4_
              have BK182:=n5_
              have HR189_0:=n6_
              have HR190_0:=n7_
              have HB:=n8_
              clear n0_ n1_ n2_ n3_ n4_ n5_ n6_ n7_ n8_
              (try clear hb)
              (try clear hb2)
              (try clear hk)
              (try clear hi)
              refine hK.out _ _ ⟨(blk_cell BK182.out 0).trans rfl,(blk_cell BK182.out 1).trans rfl,(blk_cell BK182.out 2).trans rfl,(blk_cell BK182.out 3).trans rfl,HS4_,HS5_⟩ (fun hHeld=>?_)
              clear hK K
              refine norm_ (a':=?_) ?_ ?_
              rotate_left
              ·show Act.put _ (some 36) _=_
               simp only [Act.put,List.setIfInBounds_toArray,List.set_cons_zero,List.set_cons_succ,i64_w,i32_w]
               rfl
              refine pure_ (i:=13) (N:=some 37) (v:=?_) (a':=?_) #[true,true,true,true,true,true,true,true,true,true,true,true,true,true,false] rfl rfl (any_of HT_.out (by kernel_rfl)) (fun _ _ _ h=>h) (Or.inl ⟨by rfl,?_⟩) ?_ ?_
              rotate_left;(intro w';go_simp;with_reducible rfl);rotate_left;(simp only [Act.put,List.setIfInBounds_toArray,List.set_cons_zero,List.set_cons_succ,i64_w,i32_w];rfl)
              refine pure_ (i:=14) (N:=some 38) (v:=?_) (a':=?_) #[true,true,true,true,true,true,true,true,true,true,true,true,true,true,true] rfl rfl (any_of HT_.out (by kernel_rfl)) (fun _ _ _ h=>h) (Or.inl ⟨by rfl,?_⟩) ?_ ?_
              rotate_left;(intro w';go_simp;with_reducible rfl);rotate_left;(simp only [Act.put,List.setIfInBounds_toArray,List.set_cons_zero,List.set_cons_succ,i64_w,i32_w];rfl)
              refine done_ (done_of HT_.out (by kernel_rfl)) ?_
              (try clear HS4_);(try clear HS5_);(try clear hHeld)
              have p196 : 0≤(x6_1 : Int):=of_decide_eq_true (by first|(with_reducible assumption)|assumption)
              have q196 : x6_1 < (l1.length : Int):=of_decide_eq_true (by first|(with_reducible assumption)|assumption)
              obtain ⟨ad196,A196_0,c196_0,e196,hx196_0,hl196_0,hi196_0⟩:=at_L5 (Kd.V_reads' HO_1.out).2.2 x6_1 p196 q196
              obtain rfl : ad190=ad196:=(by injection e196)
              obtain ⟨ce196,hce196,hMe196,hcc196⟩:=Kd.V_get HO_1.out [] x6_1 p196 (by first|exact q196|exact of_decide_eq_true (by first|(with_reducible assumption)|assumption)|(have e_:=(Kd.V_reads' HO_1.out).1;omega))
              obtain ⟨ua196_0,uc196_0,rfl,ul196_0,ge196_0⟩:=Kd.FK_slice_open hMe196
              have hv196_0:=hcc196 0 _ rfl
              rw [Nat.add_zero,show ((Kd.slice 44 k44)).sz=1 from rfl,Nat.mul_one] at hv196_0
              replace hv196_0:=Option.some.inj (hv196_0.symm.trans hx196_0)
              injection hv196_0 with hva_ hvn_ hvc_
              rw [hva_] at ge196_0
              rw [hvc_] at ul196_0
              have HL196_0:=Aside0.mk (show Kd.V k44 44 _ w.heap.size _ _ (rd_L5 l1 x6_1) from Kd.V_mk ul196_0 ge196_0)
              clear hva_ hvn_ hvc_ ge196_0 ul196_0
              clear hcc196 hce196
              have HR196_0:=Aside0.mk hi196_0
              have HC196_0:=Aside0.mk hl196_0
              clear hi196_0 hl196_0
              replace p196:=eq_true p196
              replace q196:=eq_true q196
              try go_wp2_with (first|((with_reducible refine gate_builtin (b:=.append) (xs:=#[.tmp 39,.tmp 44]) rfl ?_);at_builtin;refine Kd.N_append (Kd.slice 44 k44) (w0:=w) w.heap.size rfl (.tmp 39) (.tmp 44) 25 27 (.slice none 0 0) 24 rfl Try.underlying25 info27 rfl (by decide) (by omega) u7 x7_2 (rd_L5 l1 x6_1) [.slice A196_0 (rd_L5 l1 x6_1).length c196_0] (fun k_=>(P1_ k_ ∨ w.heap.size≤k_)∧some k_≠(.slice (some ad189) x5_1.length co23 : Value).ownBlock∧k_≠gb182) (fun k_=>((fun k_=>(P1_ k_ ∨ w.heap.size≤k_)∧some k_≠(.slice (some ad189) x5_1.length co23 : Value).ownBlock∧k_≠gb182)) k_∧some k_≠(u7 : Value).ownBlock) rfl rfl ?aP (fun _ hk=>hk) ?aF ?aO ?aB ?aS ?aL ?_;(case aP=>exact (Kd.FK_slice_mk (Kd.V_reads' (Kd.V_mono (ok':=(fun k_=>((fun k_=>(P1_ k_ ∨ w.heap.size≤k_)∧some k_≠(.slice (some ad189) x5_1.length co23 : Value).ownBlock∧k_≠gb182)) k_∧some k_≠(u7 : Value).ownBlock)) (HL196_0.out) (fun k_ hk=>⟨⟨hk.1,⟨hk.2.1,hk.2.2.2⟩⟩,hk.2.2.1⟩))).2.1 (Kd.V_F (Kd.V_mono (ok':=(fun k_=>((fun k_=>(P1_ k_ ∨ w.heap.size≤k_)∧some k_≠(.slice (some ad189) x5_1.length co23 : Value).ownBlock∧k_≠gb182)) k_∧some k_≠(u7 : Value).ownBlock)) (HL196_0.out) (fun k_ hk=>⟨⟨hk.1,⟨hk.2.1,hk.2.2.2⟩⟩,hk.2.2.1⟩)))));(case aB=>exact (by repeat (first|(with_reducible first|exact HB.out|apply below_alloc|apply pw_below_drewN|apply below_drew1|refine below_set ?_ GE182.out)|exact HB.out)));(case aF=>exact (fun k_ hk=>⟨(.inr (Nat.le_trans (below_size (by repeat (first|(with_reducible first|exact HB.out|apply below_alloc|apply pw_below_drewN|apply below_drew1|refine below_set ?_ GE182.out)|exact HB.out))) hk)),Kd.fresh' (Kd.N_lt (N_up HO_5.out)) k_ hk,Kd.freshB (g:=gb182) (o:=.cells #[.slice A0_0 l0_0.length c0_0,.int .i64 a0_1,.int .i64 a0_2,.int .i64 a0_3] 33 (0,0)) (blk_up BK182.out) k_ hk⟩));(case aO=>exact (N_up HO_7.out));(case aS=>exact (below_size (by repeat (first|(with_reducible first|exact HB.out|apply below_alloc|apply pw_below_drewN|apply below_drew1|refine below_set ?_ GE182.out)|exact HB.out))));(case aL=>have:=LMc21.out;omega);intro v198 w26 ho hb hg hat;rw [← Ny197.out] at ho;have n0_:=Aside0.mk (Kd.V_afterv (ok:=(fun k_=>(P1_ k_ ∨ w.heap.size≤k_)∧some k_≠(.slice (some ad189) x5_1.length co23 : Value).ownBlock∧k_≠gb182)) (by (with_reducible repeat (first|apply Kd.V_alloc|apply Kd.V_drewN|apply Kd.V_drew));exact Kd.V_mono HO_1.out (fun _ hk=>⟨⟨hk.1,⟨hk.2.1,hk.2.2.2⟩⟩,hk.2.2.1⟩)) hg hat);have n1_:=Aside0.mk (Kd.N_afterv (ok:=(fun k_=>(P1_ k_ ∨ w.heap.size≤k_)∧k_≠gb182)) (by (with_reducible repeat (first|apply Kd.N_alloc|apply Kd.N_drewN|apply Kd.N_drew));exact Kd.N_mono HO_5.out (fun _ hk=>⟨⟨hk.1,hk.2.2⟩,hk.2.1⟩)) hg hat);have n2_:=Aside0.mk (blk_grown (g:=gb182) (o:=.cells #[.slice A0_0 l0_0.length c0_0,.int .i64 a0_1,.int .i64 a0_2,.int .i64 a0_3] 33 (0,0)) (blk_up BK182.out) hg (Kd.N_ne HO_7.out BK182.out (by decide)));have n3_:=Aside0.mk (Kd.V_afterv (ok:=(fun k_=>(P1_ k_ ∨ w.heap.size≤k_)∧some k_≠(.slice (some ad189) x5_1.length co23 : Value).ownBlock∧k_≠gb182)) (by (with_reducible repeat (first|apply Kd.V_alloc|apply Kd.V_drewN|apply Kd.V_drew));exact Kd.V_mono HL189_0.out (fun _ hk=>⟨⟨hk.1.1,⟨hk.2,hk.1.2.2⟩⟩,hk.1.2.1⟩)) hg hat);have n4_:=Aside0.mk (Kd.V_afterv (ok:=(fun k_=>(P1_ k_ ∨ w.heap.size≤k_)∧some k_≠(.slice (some ad189) x5_1.length co23 : Value).ownBlock∧k_≠gb182)) (by (with_reducible repeat (first|apply Kd.V_alloc|apply Kd.V_drewN|apply Kd.V_drew));exact Kd.V_mono HL190_0.out (fun _ hk=>⟨⟨hk.1,⟨hk.2.1,hk.2.2.2⟩⟩,hk.2.2.1⟩)) hg hat);have n5_:=Aside0.mk (Kd.V_afterv (ok:=(fun k_=>(P1_ k_ ∨ w.heap.size≤k_)∧some k_≠(.slice (some ad189) x5_1.length co23 : Value).ownBlock∧k_≠gb182)) (by (with_reducible repeat (first|apply Kd.V_alloc|apply Kd.V_drewN|apply Kd.V_drew));exact Kd.V_mono HL196_0.out (fun _ hk=>⟨⟨hk.1,⟨hk.2.1,hk.2.2.2⟩⟩,hk.2.2.1⟩)) hg hat);have n6_:=Aside0.mk (hb);have n7_:=Aside0.mk (ho);clear HO_1;clear HO_5;clear BK182;clear HL189_0;clear HL190_0;clear HL196_0;clear HB;clear HO_7;have HO_1:=n0_;have HO_5:=n1_;have BK182:=n2_;have HL189_0:=n3_;have HL190_0:=n4_;have HL196_0:=n5_;have HB:=n6_;have HO199:=n7_;clear n0_ n1_ n2_ n3_ n4_ n5_ n6_ n7_;clear ho hb hg hat;have p200 : 0≤(x9_2 : Int):=of_decide_eq_true (by first|(with_reducible assumption)|assumption);have q200 : x9_2 < (x5_1.length : Int):=of_decide_eq_true (by first|(with_reducible assumption)|assumption);obtain ⟨ad200,A200_0,c200_0,e200,hx200_0,hl200_0,hi200_0⟩:=at_L5 (Kd.N_reads' HO_5.out).2.2 x9_2 p200 q200;obtain rfl : ad189=ad200:=(by injection e200);obtain ⟨ce200,hce200,hMe200,hcc200⟩:=Kd.N_get HO_5.out [] x9_2 p200 (by first|exact q200|exact of_decide_eq_true (by first|(with_reducible assumption)|assumption)|(have e_:=(Kd.N_reads' HO_5.out).1;omega));obtain ⟨ua200_0,uc200_0,rfl,ul200_0,ge200_0⟩:=Kd.FK_slice_open hMe200;have hv200_0:=hcc200 0 _ rfl;rw [Nat.add_zero,show ((Kd.slice 44 k44)).sz=1 from rfl,Nat.mul_one] at hv200_0;replace hv200_0:=Option.some.inj (hv200_0.symm.trans hx200_0);injection hv200_0 with hva_ hvn_ hvc_;rw [hva_] at ge200_0;rw [hvc_] at ul200_0;have HL200_0:=Aside0.mk (show Kd.V k44 44 _ w.heap.size _ _ (rd_L5 x5_1 x9_2) from Kd.V_mk ul200_0 ge200_0);clear hva_ hvn_ hvc_ ge200_0 ul200_0;clear hcc200 hce200;have HR200_0:=Aside0.mk hi200_0;have HC200_0:=Aside0.mk hl200_0;clear hi200_0 hl200_0;replace p200:=eq_true p200;replace q200:=eq_true q200)|((with_reducible refine gate_builtin (b:=.append) (xs:=#[.tmp 46,.tmp 51]) rfl ?_);at_builtin;refine Kd.N_append (Kd.slice 44 k44) (w0:=w) w.heap.size rfl (.tmp 46) (.tmp 51) 25 27 (.slice none 0 0) 24 rfl Try.underlying25 info27 rfl (by decide) (by omega) v198 y197 (rd_L5 x5_1 x9_2) [.slice A200_0 (rd_L5 x5_1 x9_2).length c200_0] (fun k_=>(P1_ k_ ∨ w.heap.size≤k_)∧some k_≠(.slice (some ad189) x5_1.length co23 : Value).ownBlock∧k_≠gb182) (fun k_=>((fun k_=>(P1_ k_ ∨ w.heap.size≤k_)∧some k_≠(.slice (some ad189) x5_1.length co23 : Value).ownBlock∧k_≠gb182)) k_∧some k_≠(v198 : Value).ownBlock) rfl rfl ?aP (fun _ hk=>hk) ?aF ?aO ?aB ?aS ?aL ?_;(case aP=>exact (Kd.FK_slice_mk (Kd.V_reads' (Kd.V_mono (ok':=(fun k_=>((fun k_=>(P1_ k_ ∨ w.heap.size≤k_)∧some k_≠(.slice (some ad189) x5_1.length co23 : Value).ownBlock∧k_≠gb182)) k_∧some k_≠(v198 : Value).ownBlock)) (HL200_0.out) (fun k_ hk=>⟨⟨hk.1.1.1,⟨hk.2,hk.1.1.2⟩⟩,hk.1.2⟩))).2.1 (Kd.V_F (Kd.V_mono (ok':=(fun k_=>((fun k_=>(P1_ k_ ∨ w.heap.size≤k_)∧some k_≠(.slice (some ad189) x5_1.length co23 : Value).ownBlock∧k_≠gb182)) k_∧some k_≠(v198 : Value).ownBlock)) (HL200_0.out) (fun k_ hk=>⟨⟨hk.1.1.1,⟨hk.2,hk.1.1.2⟩⟩,hk.1.2⟩)))));(case aB=>exact (by repeat (first|(with_reducible first|exact HB.out|apply below_alloc|apply pw_below_drewN|apply below_drew1|refine below_set ?_ GE182.out)|exact HB.out)));(case aF=>exact (fun k_ hk=>⟨(.inr (Nat.le_trans (below_size (by repeat (first|(with_reducible first|exact HB.out|apply below_alloc|apply pw_below_drewN|apply below_drew1|refine below_set ?_ GE182.out)|exact HB.out))) hk)),Kd.fresh' (Kd.N_lt (N_up HO_5.out)) k_ hk,Kd.freshB (g:=gb182) (o:=.cells #[.slice A0_0 l0_0.length c0_0,.int .i64 a0_1,.int .i64 a0_2,.int .i64 a0_3] 33 (0,0)) (blk_up BK182.out) k_ hk⟩));(case aO=>exact (N_up HO199.out));(case aS=>exact (below_size (by repeat (first|(with_reducible first|exact HB.out|apply below_alloc|apply pw_below_drewN|apply below_drew1|refine below_set ?_ GE182.out)|exact HB.out))));(case aL=>have:=LMc22.out;omega);intro v202 w27 ho hb hg hat;rw [← Ny201.out] at ho;have n0_:=Aside0.mk (Kd.V_afterv (ok:=(fun k_=>(P1_ k_ ∨ w.heap.size≤k_)∧some k_≠(.slice (some ad189) x5_1.length co23 : Value).ownBlock∧k_≠gb182)) (V_up HO_1.out) hg hat);have n1_:=Aside0.mk (Kd.N_afterv (ok:=(fun k_=>(P1_ k_ ∨ w.heap.size≤k_)∧k_≠gb182)) (N_up HO_5.out) hg hat);have n2_:=Aside0.mk (blk_grown (g:=gb182) (o:=.cells #[.slice A0_0 l0_0.length c0_0,.int .i64 a0_1,.int .i64 a0_2,.int .i64 a0_3] 33 (0,0)) (blk_up BK182.out) hg (Kd.N_ne HO199.out BK182.out (by decide)));have n3_:=Aside0.mk (Kd.V_afterv (ok:=(fun k_=>(P1_ k_ ∨ w.heap.size≤k_)∧some k_≠(.slice (some ad189) x5_1.length co23 : Value).ownBlock∧k_≠gb182)) (by (with_reducible repeat (first|apply Kd.V_alloc|apply Kd.V_drewN|apply Kd.V_drew));exact HL189_0.out) hg hat);have n4_:=Aside0.mk (Kd.V_afterv (ok:=(fun k_=>(P1_ k_ ∨ w.heap.size≤k_)∧some k_≠(.slice (some ad189) x5_1.length co23 : Value).ownBlock∧k_≠gb182)) (by (with_reducible repeat (first|apply Kd.V_alloc|apply Kd.V_drewN|apply Kd.V_drew));exact HL190_0.out) hg hat);have n5_:=Aside0.mk (Kd.V_afterv (ok:=(fun k_=>(P1_ k_ ∨ w.heap.size≤k_)∧some k_≠(.slice (some ad189) x5_1.length co23 : Value).ownBlock∧k_≠gb182)) (by (with_reducible repeat (first|apply Kd.V_alloc|apply Kd.V_drewN|apply Kd.V_drew));exact HL196_0.out) hg hat);have n6_:=Aside0.mk (Kd.V_afterv (ok:=(fun k_=>(P1_ k_ ∨ w.heap.size≤k_)∧some k_≠(.slice (some ad189) x5_1.length co23 : Value).ownBlock∧k_≠gb182)) (by (with_reducible repeat (first|apply Kd.V_alloc|apply Kd.V_drewN|apply Kd.V_drew));exact Kd.V_mono HL200_0.out (fun _ hk=>⟨⟨hk.1.1.1,⟨hk.2,hk.1.1.2⟩⟩,hk.1.2⟩)) hg hat);have n7_:=Aside0.mk (hb);have n8_:=Aside0.mk (ho);clear HO_1;clear HO_5;clear BK182;clear HL189_0;clear HL190_0;clear HL196_0;clear HL200_0;clear HB;clear HO199;have HO_1:=n0_;have HO_5:=n1_;have BK182:=n2_;have HL189_0:=n3_;have HL190_0:=n4_;have HL196_0:=n5_;have HL200_0:=n6_;have HB:=n7_;have HO203:=n8_;clear n0_ n1_ n2_ n3_ n4_ n5_ n6_ n7_ n8_;clear ho hb hg hat))
              go_roundg k2
              case measure=>have:=HK1.out;have:=HK2.out;omega
              case rel=>exact ⟨(y201),(true),(wrap64 (x9_2 + 1)),(by first|rfl|(simp;done)|(simp [*];done)),(by first|rfl|(simp;done)|(simp [*];done)),(by first|exact H'|(subst_vars;exact H')),⟨by have:=HK1.out;have:=HK2.out;omega⟩,⟨by (with_reducible repeat (first|apply Kd.V_alloc|apply Kd.V_drewN|apply Kd.V_drew));exact Kd.V_mono HO_1.out (fun _ hk=>⟨hk.1.1,⟨hk.1.2.1,⟨hk.2,hk.1.2.2⟩⟩⟩)⟩,⟨by (with_reducible repeat (first|apply Kd.N_alloc|apply Kd.N_drewN|apply Kd.N_drew));exact Kd.N_mono HO_5.out (fun _ hk=>⟨hk.1.1,⟨hk.2,hk.1.2⟩⟩)⟩,⟨by (with_reducible repeat (first|apply Kd.N_alloc|apply Kd.N_drewN|apply Kd.N_drew));exact HO203.out⟩,⟨by (with_reducible repeat (first|refine blk_drewN ?_ _|refine blk_drew ?_|refine blk_alloc ?_ _));exact BK182.out⟩,⟨by repeat (first|(with_reducible first|exact HB.out|apply below_alloc|apply pw_below_drewN|apply below_drew1|refine below_set ?_ GE182.out)|exact HB.out)⟩⟩
             ·rw [if_neg c22] at H
              exact absurd H (by simp)
            ·rw [if_neg c21] at H
             exact absurd H (by simp)
           ·rw [if_neg c20] at H
            have c20b0 : decide (0 < t191)=false:=decide_eq_false c20
            clear c20
            by_cases c28 : x7_2.length < 5864062014805
            ·rw [if_pos c28] at H
             have LMc28:=Aside0.mk c28
             clear c28
             obtain ⟨y205,hy205⟩ : ∃ y_ : List (List (S44)),y_=(x7_2 ++ [rd_L5 x5_1 x9_2]):=⟨_,rfl⟩
             replace H : (thresherref09_Sort.l1 k2 l1 x5_1 x6_1 y205 false (wrap64 (x9_2 + 1)) l0_0 a0_1 a0_2 a0_3)=some r:=by first|(rw [hy205];with_reducible exact H)|(have H2_:=(Option.bind_some _ _).symm.trans H;rw [hy205];with_reducible exact H2_)|(have H2_:=(Option.bind_some _ _).symm.trans H;with_reducible exact H2_)|with_reducible exact H|(rw [hy205];exact H)|exact H
             have Ny205:=Aside0.mk hy205
             clear hy205
             have H':=Aside0.mk H
             clear H
             obtain ⟨Ao29,co29,eo29⟩:=Kd.N_slice HO_5.out
             subst eo29
             try go_wp2
             have n0_:=Aside0.mk (Kd.V_drew HO_1.out)
             have n1_:=Aside0.mk (Kd.N_drew HO_5.out)
             have n2_:=Aside0.mk (Kd.N_drew HO_7.out)
             have n3_:=Aside0.mk (blk_drew BK182.out)
             have n4_:=Aside0.mk (below_drew1 HB.out)
             clear HO_1
             clear HO_5
             clear HO_7
             clear BK182
             clear HB
             have HO_1:=n0_
             have HO_5:=n1_
             have HO_7:=n2_
             have BK182:=n3_
             have HB:=n4_
             clear n0_ n1_ n2_ n3_ n4_
             have p189 : 0≤(x9_2 : Int):=of_decide_eq_true (by first|(with_reducible assumption)|assumption)
             have q189 : x9_2 < (x5_1.length : Int):=of_decide_eq_true (by first|(with_reducible assumption)|assumption)
             obtain ⟨ad189,A189_0,c189_0,e189,hx189_0,hl189_0,hi189_0⟩:=at_L5 (Kd.N_reads' HO_5.out).2.2 x9_2 p189 q189
             cases e189
             obtain ⟨ce189,hce189,hMe189,hcc189⟩:=Kd.N_get HO_5.out [] x9_2 p189 (by first|exact q189|exact of_decide_eq_true (by first|(with_reducible assumption)|assumption)|(have e_:=(Kd.N_reads' HO_5.out).1;omega))
             obtain ⟨ua189_0,uc189_0,rfl,ul189_0,ge189_0⟩:=Kd.FK_slice_open hMe189
             have hv189_0:=hcc189 0 _ rfl
             rw [Nat.add_zero,show ((Kd.slice 44 k44)).sz=1 from rfl,Nat.mul_one] at hv189_0
             replace hv189_0:=Option.some.inj (hv189_0.symm.trans hx189_0)
             injection hv189_0 with hva_ hvn_ hvc_
             rw [hva_] at ge189_0
             rw [hvc_] at ul189_0
             have HL189_0:=Aside0.mk (show Kd.V k44 44 _ w.heap.size _ _ (rd_L5 x5_1 x9_2) from Kd.V_mk ul189_0 ge189_0)
             clear hva_ hvn_ hvc_ ge189_0 ul189_0
             clear hcc189 hce189
             have HR189_0:=Aside0.mk hi189_0
             have HC189_0:=Aside0.mk hl189_0
             clear hi189_0 hl189_0
             replace p189:=eq_true p189
             replace q189:=eq_true q189
             have p190 : 0≤(x6_1 : Int):=of_decide_eq_true (by first|(with_reducible assumption)|assumption)
             have q190 : x6_1 < (l1.length : Int):=of_decide_eq_true (by first|(with_reducible assumption)|assumption)
             obtain ⟨ad190,A190_0,c190_0,e190,hx190_0,hl190_0,hi190_0⟩:=at_L5 (Kd.V_reads' HO_1.out).2.2 x6_1 p190 q190
             cases e190
             obtain ⟨ce190,hce190,hMe190,hcc190⟩:=Kd.V_get HO_1.out [] x6_1 p190 (by first|exact q190|exact of_decide_eq_true (by first|(with_reducible assumption)|assumption)|(have e_:=(Kd.V_reads' HO_1.out).1;omega))
             obtain ⟨ua190_0,uc190_0,rfl,ul190_0,ge190_0⟩:=Kd.FK_slice_open hMe190
             have hv190_0:=hcc190 0 _ rfl
             rw [Nat.add_zero,show ((Kd.slice 44 k44)).sz=1 from rfl,Nat.mul_one] at hv190_0
             replace hv190_0:=Option.some.inj (hv190_0.symm.trans hx190_0)
             injection hv190_0 with hva_ hvn_ hvc_
             rw [hva_] at ge190_0
             rw [hvc_] at ul190_0
             have HL190_0:=Aside0.mk (show Kd.V k44 44 _ w.heap.size _ _ (rd_L5 l1 x6_1) from Kd.V_mk ul190_0 ge190_0)
             clear hva_ hvn_ hvc_ ge190_0 ul190_0
             clear hcc190 hce190
             have HR190_0:=Aside0.mk hi190_0
             have HC190_0:=Aside0.mk hl190_0
             clear hi190_0 hl190_0
             replace p190:=eq_true p190
             replace q190:=eq_true q190
             refine start_ (n:=15) (S:=fun w'=>w'.cell? ⟨gb182,0,none⟩=some (.slice A0_0 l0_0.length c0_0)∧w'.cell? ⟨gb182,1,none⟩=some (.int .i64 a0_1)∧w'.cell? ⟨gb182,2,none⟩=some (.int .i64 a0_2)∧w'.cell? ⟨gb182,3,none⟩=some (.int .i64 a0_3)∧w'.cell? (ad189.add (x9_2).toNat)=some (.slice A189_0 (rd_L5 x5_1 x9_2).length c189_0)∧w'.cell? (ad190.add (x6_1).toNat)=some (.slice A190_0 (rd_L5 l1 x6_1).length c190_0)) (ds:=[]) #[false,false,false,false,false,false,false,false,false,false,false,false,false,false,false] (by kernel_rfl) rfl rfl ⟨(blk_cell BK182.out 0).trans rfl,(blk_cell BK182.out 1).trans rfl,(blk_cell BK182.out 2).trans rfl,(blk_cell BK182.out 3).trans rfl,hx189_0,hx190_0⟩ (fun hHeld=>?_);refine with_tabW thresherref09_Sort.tab10 thresherref09_Sort.bits10 (fun HT_ HW_=>?_)
             generalize wr.drew=w30 at HO_1 HO_5 HO_7 BK182 HB HL189_0 HL190_0 HR189_0 HR190_0 hx189_0 hx190_0 hHeld ⊢
             refine pure_ (i:=0) (N:=some 24) (v:=?_) (a':=?_) #[true,false,false,false,false,false,false,false,false,false,false,false,false,false,false] rfl rfl (any_of HT_.out (by kernel_rfl)) (fun _ _ _ h=>h) (Or.inl ⟨by rfl,?_⟩) ?_ ?_
             rotate_left;(intro w';go_simp;with_reducible rfl);rotate_left;(simp only [Act.put,List.setIfInBounds_toArray,List.set_cons_zero,List.set_cons_succ,i64_w,i32_w];rfl)
             refine pure_ (i:=1) (N:=some 25) (v:=?_) (a':=?_) #[true,true,false,false,false,false,false,false,false,false,false,false,false,false,false] rfl rfl (any_of HT_.out (by kernel_rfl)) (fun _ _ _ h=>h) (Or.inl ⟨by rfl,?_⟩) ?_ ?_
             rotate_left;(intro w';go_simp;with_reducible rfl);rotate_left;(simp only [Act.put,List.setIfInBounds_toArray,List.set_cons_zero,List.set_cons_succ,i64_w,i32_w];rfl)
             refine pure_ (i:=2) (N:=some 26) (v:=?_) (a':=?_) #[true,true,true,false,false,false,false,false,false,false,false,false,false,false,false] rfl rfl (any_of HT_.out (by kernel_rfl)) (fun _ _ _ h=>h) (Or.inl ⟨by rfl,?_⟩) ?_ ?_
             rotate_left;(intro w';go_simp;with_reducible rfl);rotate_left;(simp only [Act.put,List.setIfInBounds_toArray,List.set_cons_zero,List.set_cons_succ,i64_w,i32_w];rfl)
             refine pure_ (i:=4) (N:=some 28) (v:=?_) (a':=?_) #[true,true,true,false,true,false,false,false,false,false,false,false,false,false,false] rfl rfl (any_of HT_.out (by kernel_rfl)) (fun _ _ _ h=>h) (Or.inl ⟨by rfl,?_⟩) ?_ ?_
             rotate_left;(intro w';go_simp;with_reducible rfl);rotate_left;(simp only [Act.put,List.setIfInBounds_toArray,List.set_cons_zero,List.set_cons_succ,i64_w,i32_w];rfl)
             refine pure_ (i:=5) (N:=some 29) (v:=?_) (a':=?_) #[true,true,true,false,true,true,false,false,false,false,false,false,false,false,false] rfl rfl (any_of HT_.out (by kernel_rfl)) (fun _ _ _ h=>h) (Or.inl ⟨by rfl,?_⟩) ?_ ?_
             rotate_left;(intro w';go_simp;with_reducible rfl);rotate_left;(simp only [Act.put,List.setIfInBounds_toArray,List.set_cons_zero,List.set_cons_succ,i64_w,i32_w];rfl)
             refine pure_ (i:=6) (N:=some 30) (v:=?_) (a':=?_) #[true,true,true,false,true,true,true,false,false,false,false,false,false,false,false] rfl rfl (any_of HT_.out (by kernel_rfl)) (fun _ _ _ h=>h) (Or.inl ⟨by rfl,?_⟩) ?_ ?_
             rotate_left;(intro w';go_simp;with_reducible rfl);rotate_left;(simp only [Act.put,List.setIfInBounds_toArray,List.set_cons_zero,List.set_cons_succ,i64_w,i32_w];rfl)
             refine pure_ (i:=8) (N:=some 32) (v:=?_) (a':=?_) #[true,true,true,false,true,true,true,false,true,false,false,false,false,false,false] rfl rfl (any_of HT_.out (by kernel_rfl)) (fun _ _ _ h=>h) (Or.inl ⟨by rfl,?_⟩) ?_ ?_
             rotate_left;(intro w';go_simp;with_reducible rfl);rotate_left;(simp only [Act.put,List.setIfInBounds_toArray,List.set_cons_zero,List.set_cons_succ,i64_w,i32_w];rfl)
             refine pure_ (i:=9) (N:=some 33) (v:=?_) (a':=?_) #[true,true,true,false,true,true,true,false,true,true,false,false,false,false,false] rfl rfl (any_of HT_.out (by kernel_rfl)) (fun _ _ _ h=>h) (Or.inl ⟨by rfl,?_⟩) ?_ ?_
             rotate_left;(intro w';go_simp;with_reducible rfl);rotate_left;(simp only [Act.put,List.setIfInBounds_toArray,List.set_cons_zero,List.set_cons_succ,i64_w,i32_w];rfl)
             refine pure_ (i:=10) (N:=some 34) (v:=?_) (a':=?_) #[true,true,true,false,true,true,true,false,true,true,true,false,false,false,false] rfl rfl (any_of HT_.out (by kernel_rfl)) (fun _ _ _ h=>h) (Or.inl ⟨by rfl,?_⟩) ?_ ?_
             rotate_left;(intro w';go_simp;with_reducible rfl);rotate_left;(simp only [Act.put,List.setIfInBounds_toArray,List.set_cons_zero,List.set_cons_succ,i64_w,i32_w];rfl)
             refine take_ (i:=3) (N:=some 27) (v:=?_) (a':=?_) #[true,true,true,true,true,true,true,false,true,true,true,false,false,false,false] rfl rfl (take_ofW HT_.out HW_.out (by kernel_rfl)) (fun _ _ _ h=>h) (Or.inl ⟨by rfl,?_⟩) hHeld ?_ ?_
             rotate_left;(rintro w' ⟨s0,s1,s2,s3,s4,s5⟩;go_simp;with_reducible rfl);rotate_left;(simp only [Act.put,List.setIfInBounds_toArray,List.set_cons_zero,List.set_cons_succ,i64_w,i32_w];rfl)
             refine take_ (i:=7) (N:=some 31) (v:=?_) (a':=?_) #[true,true,true,true,true,true,true,true,true,true,true,false,false,false,false] rfl rfl (take_ofW HT_.out HW_.out (by kernel_rfl)) (fun _ _ _ h=>h) (Or.inl ⟨by rfl,?_⟩) hHeld ?_ ?_
             rotate_left;(rintro w' ⟨s0,s1,s2,s3,s4,s5⟩;go_simp;with_reducible rfl);rotate_left;(simp only [Act.put,List.setIfInBounds_toArray,List.set_cons_zero,List.set_cons_succ,i64_w,i32_w];rfl)
             refine take_ (i:=11) (N:=some 35) (v:=?_) (a':=?_) #[true,true,true,true,true,true,true,true,true,true,true,true,false,false,false] rfl rfl (take_ofW HT_.out HW_.out (by kernel_rfl)) (fun _ _ _ h=>h) (Or.inl ⟨by rfl,?_⟩) hHeld ?_ ?_
             rotate_left;(rintro w' ⟨s0,s1,s2,s3,s4,s5⟩;go_simp;with_reducible rfl);rotate_left;(simp only [Act.put,List.setIfInBounds_toArray,List.set_cons_zero,List.set_cons_succ,i64_w,i32_w];rfl)
             refine one_ (i:=12) (N:=some 36) #[true,true,true,true,true,true,true,true,true,true,true,true,true,false,false] rfl rfl (one_of HT_.out (by kernel_rfl)) (by decide) (fun K hK=>?_)
             refine goes_ Try.func20 (by kernel_rfl) rfl #[.agg #[.slice A0_0 l0_0.length c0_0,.int .i64 a0_1,.int .i64 a0_2,.int .i64 a0_3],.slice A189_0 (rd_L5 x5_1 x9_2).length c189_0,.slice A190_0 (rd_L5 l1 x6_1).length c190_0] (by rfl) rfl rfl (by (try simp only [List.map_toArray,List.map_cons,List.map_nil]);first|done|rfl|(simp only [List.length_drop,List.length_take];rfl)) ?_
             with_reducible refine (thresherref04_Compare.calls k2 _ _ l0_0 a0_1 a0_2 a0_3 _ _ (rd_L5 x5_1 x9_2) _ _ (rd_L5 l1 x6_1) t191 _ ?side1 ?side2 ?side3 ?side4 ?side5 ?side6 A19.out).mono ?_
             (case side1=>repeat (first|exact (Kd.C_below HR0_0.out HB.out)|(with_reducible refine Kd.C_alloc ?_ _)|(with_reducible refine Kd.C_drewN ?_ _)|(with_reducible refine Kd.C_drew ?_)))
             (case side2=>exact HC0_0.out)
             (case side3=>repeat (first|exact (by repeat (first|(with_reducible exact HR189_0.out)|(with_reducible refine Kd.C_alloc ?_ _)|(with_reducible refine Kd.C_drewN ?_ _)|(with_reducible refine Kd.C_drew ?_)|exact HR189_0.out))|(with_reducible refine Kd.C_alloc ?_ _)|(with_reducible refine Kd.C_drewN ?_ _)|(with_reducible refine Kd.C_drew ?_)))
             (case side4=>exact HC189_0.out)
             (case side5=>repeat (first|exact (by repeat (first|(with_reducible exact HR190_0.out)|(with_reducible refine Kd.C_alloc ?_ _)|(with_reducible refine Kd.C_drewN ?_ _)|(with_reducible refine Kd.C_drew ?_)|exact HR190_0.out))|(with_reducible refine Kd.C_alloc ?_ _)|(with_reducible refine Kd.C_drewN ?_ _)|(with_reducible refine Kd.C_drew ?_)))
             (case side6=>exact HC190_0.out)
             rintro e w31 ⟨rfl,hb⟩
             have HS4_:=(hb.cell (World.block_lt_of_cell? _ _ (hHeld.2.2.2.2.1))).trans (hHeld.2.2.2.2.1)
             have HS5_:=(hb.cell (World.block_lt_of_cell? _ _ (hHeld.2.2.2.2.2))).trans (hHeld.2.2.2.2.2)
             refine ⟨_,rfl,?_⟩
             have n0_:=Aside0.mk (Kd.V_below (V_up HO_1.out) hb)
             have n1_:=Aside0.mk (Kd.N_below (N_up HO_5.out) hb)
             have n2_:=Aside0.mk (Kd.N_below (N_up HO_7.out) hb)
             have n3_:=Aside0.mk (Kd.V_below (by (with_reducible repeat (first|apply Kd.V_alloc|apply Kd.V_drewN|apply Kd.V_drew));exact HL189_0.out) hb)
             have n4_:=Aside0.mk (Kd.V_below (by (with_reducible repeat (first|apply Kd.V_alloc|apply Kd.V_drewN|apply Kd.V_drew));exact HL190_0.out) hb)
             have n5_:=Aside0.mk (blk_below (g:=gb182) (o:=.cells #[.slice A0_0 l0_0.length c0_0,.int .i64 a0_1,.int .i64 a0_2,.int .i64 a0_3] 33 (0,0)) (blk_up BK182.out) hb)
             have n6_:=Aside0.mk (Kd.C_below (by repeat (first|(with_reducible exact HR189_0.out)|(with_reducible refine Kd.C_alloc ?_ _)|(with_reducible refine Kd.C_drewN ?_ _)|(with_reducible refine Kd.C_drew ?_)|exact HR189_0.out)) hb)
             have n7_:=Aside0.mk (Kd.C_below (by repeat (first|(with_reducible exact HR190_0.out)|(with_reducible refine Kd.C_alloc ?_ _)|(with_reducible refine Kd.C_drewN ?_ _)|(with_reducible refine Kd.C_drew ?_)|exact HR190_0.out)) hb)
             have n8_:=Aside0.mk (below_step (by repeat (first|(with_reducible first|exact HB.out|apply below_alloc|apply pw_below_drewN|apply below_drew1|refine below_set ?_ GE182.out)|exact HB.out)) hb)
             clear HO_1
             clear HO_5
             clear HO_7
             clear HL189_0
             clear HL190_0
             clear BK182
             clear HR189_0
             clear HR190_0
             clear HB
             have HO_1:=n0_
             have HO_5:=n1_
             have HO_7:=n2_
             have HL189_0:=n3_
             have HL190_0:=n4_
             have BK182:=n5_
             have HR189_0:=n6_
             have HR190_0:=n7_
             have HB:=n8_
             clear n0_ n1_ n2_ n3_ n4_ n5_ n6_ n7_ n8_
             (try clear hb)
             (try clear hb2)
             (try clear hk)
             (try clear hi)
             refine hK.out _ _ ⟨(blk_cell BK182.out 0).trans rfl,(blk_cell BK182.out 1).trans rfl,(blk_cell BK182.out 2).trans rfl,(blk_cell BK182.out 3).trans rfl,HS4_,HS5_⟩ (fun hHeld=>?_)
             clear hK K
             refine norm_ (a':=?_) ?_ ?_
             rotate_left
             ·show Act.put _ (some 36) _=_
              simp only [Act.put,List.setIfInBounds_toArray,List.set_cons_zero,List.set_cons_succ,i64_w,i32_w]
              rfl
             refine pure_ (i:=13) (N:=some 37) (v:=?_) (a':=?_) #[true,true,true,true,true,true,true,true,true,true,true,true,true,true,false] rfl rfl (any_of HT_.out (by kernel_rfl)) (fun _ _ _ h=>h) (Or.inl ⟨by rfl,?_⟩) ?_ ?_
             rotate_left;(intro w';go_simp;with_reducible rfl);rotate_left;(simp only [Act.put,List.setIfInBounds_toArray,List.set_cons_zero,List.set_cons_succ,i64_w,i32_w];rfl)
             refine pure_ (i:=14) (N:=some 38) (v:=?_) (a':=?_) #[true,true,true,true,true,true,true,true,true,true,true,true,true,true,true] rfl rfl (any_of HT_.out (by kernel_rfl)) (fun _ _ _ h=>h) (Or.inl ⟨by rfl,?_⟩) ?_ ?_
             rotate_left;(intro w';go_simp;with_reducible rfl);rotate_left;(simp only [Act.put,List.setIfInBounds_toArray,List.set_cons_zero,List.set_cons_succ,i64_w,i32_w];rfl)
             refine done_ (done_of HT_.out (by kernel_rfl)) ?_
             (try clear HS4_);(try clear HS5_);(try clear hHeld)
             have p204 : 0≤(x9_2 : Int):=of_decide_eq_true (by first|(with_reducible assumption)|assumption)
             have q204 : x9_2 < (x5_1.length : Int):=of_decide_eq_true (by first|(with_reducible assumption)|assumption)
             obtain ⟨ad204,A204_0,c204_0,e204,hx204_0,hl204_0,hi204_0⟩:=at_L5 (Kd.N_reads' HO_5.out).2.2 x9_2 p204 q204
             obtain rfl : ad189=ad204:=(by injection e204)
             obtain ⟨ce204,hce204,hMe204,hcc204⟩:=Kd.N_get HO_5.out [] x9_2 p204 (by first|exact q204|exact of_decide_eq_true (by first|(with_reducible assumption)|assumption)|(have e_:=(Kd.N_reads' HO_5.out).1;omega))
             obtain ⟨ua204_0,uc204_0,rfl,ul204_0,ge204_0⟩:=Kd.FK_slice_open hMe204
             have hv204_0:=hcc204 0 _ rfl
             rw [Nat.add_zero,show ((Kd.slice 44 k44)).sz=1 from rfl,Nat.mul_one] at hv204_0
             replace hv204_0:=Option.some.inj (hv204_0.symm.trans hx204_0)
             injection hv204_0 with hva_ hvn_ hvc_
             rw [hva_] at ge204_0
             rw [hvc_] at ul204_0
             have HL204_0:=Aside0.mk (show Kd.V k44 44 _ w.heap.size _ _ (rd_L5 x5_1 x9_2) from Kd.V_mk ul204_0 ge204_0)
             clear hva_ hvn_ hvc_ ge204_0 ul204_0
             clear hcc204 hce204
             have HR204_0:=Aside0.mk hi204_0
             have HC204_0:=Aside0.mk hl204_0
             clear hi204_0 hl204_0
             replace p204:=eq_true p204
             replace q204:=eq_true q204
             try go_wp2_with (first|((with_reducible refine gate_builtin (b:=.append) (xs:=#[.tmp 46,.tmp 51]) rfl ?_);at_builtin;refine Kd.N_append (Kd.slice 44 k44) (w0:=w) w.heap.size rfl (.tmp 46) (.tmp 51) 25 27 (.slice none 0 0) 24 rfl Try.underlying25 info27 rfl (by decide) (by omega) u7 x7_2 (rd_L5 x5_1 x9_2) [.slice A204_0 (rd_L5 x5_1 x9_2).length c204_0] (fun k_=>(P1_ k_ ∨ w.heap.size≤k_)∧some k_≠(.slice (some ad189) x5_1.length co29 : Value).ownBlock∧k_≠gb182) (fun k_=>((fun k_=>(P1_ k_ ∨ w.heap.size≤k_)∧some k_≠(.slice (some ad189) x5_1.length co29 : Value).ownBlock∧k_≠gb182)) k_∧some k_≠(u7 : Value).ownBlock) rfl rfl ?aP (fun _ hk=>hk) ?aF ?aO ?aB ?aS ?aL ?_;(case aP=>exact (Kd.FK_slice_mk (Kd.V_reads' (Kd.V_mono (ok':=(fun k_=>((fun k_=>(P1_ k_ ∨ w.heap.size≤k_)∧some k_≠(.slice (some ad189) x5_1.length co29 : Value).ownBlock∧k_≠gb182)) k_∧some k_≠(u7 : Value).ownBlock)) (HL204_0.out) (fun k_ hk=>⟨⟨hk.1.1,⟨hk.2,hk.1.2.2⟩⟩,hk.1.2.1⟩))).2.1 (Kd.V_F (Kd.V_mono (ok':=(fun k_=>((fun k_=>(P1_ k_ ∨ w.heap.size≤k_)∧some k_≠(.slice (some ad189) x5_1.length co29 : Value).ownBlock∧k_≠gb182)) k_∧some k_≠(u7 : Value).ownBlock)) (HL204_0.out) (fun k_ hk=>⟨⟨hk.1.1,⟨hk.2,hk.1.2.2⟩⟩,hk.1.2.1⟩)))));(case aB=>exact (by repeat (first|(with_reducible first|exact HB.out|apply below_alloc|apply pw_below_drewN|apply below_drew1|refine below_set ?_ GE182.out)|exact HB.out)));(case aF=>exact (fun k_ hk=>⟨(.inr (Nat.le_trans (below_size (by repeat (first|(with_reducible first|exact HB.out|apply below_alloc|apply pw_below_drewN|apply below_drew1|refine below_set ?_ GE182.out)|exact HB.out))) hk)),Kd.fresh' (Kd.N_lt (N_up HO_5.out)) k_ hk,Kd.freshB (g:=gb182) (o:=.cells #[.slice A0_0 l0_0.length c0_0,.int .i64 a0_1,.int .i64 a0_2,.int .i64 a0_3] 33 (0,0)) (blk_up BK182.out) k_ hk⟩));(case aO=>exact (N_up HO_7.out));(case aS=>exact (below_size (by repeat (first|(with_reducible first|exact HB.out|apply below_alloc|apply pw_below_drewN|apply below_drew1|refine below_set ?_ GE182.out)|exact HB.out))));(case aL=>have:=LMc28.out;omega);intro v206 w32 ho hb hg hat;rw [← Ny205.out] at ho;have n0_:=Aside0.mk (Kd.V_afterv (ok:=(fun k_=>(P1_ k_ ∨ w.heap.size≤k_)∧some k_≠(.slice (some ad189) x5_1.length co29 : Value).ownBlock∧k_≠gb182)) (by (with_reducible repeat (first|apply Kd.V_alloc|apply Kd.V_drewN|apply Kd.V_drew));exact Kd.V_mono HO_1.out (fun _ hk=>⟨⟨hk.1,⟨hk.2.1,hk.2.2.2⟩⟩,hk.2.2.1⟩)) hg hat);have n1_:=Aside0.mk (Kd.N_afterv (ok:=(fun k_=>(P1_ k_ ∨ w.heap.size≤k_)∧k_≠gb182)) (by (with_reducible repeat (first|apply Kd.N_alloc|apply Kd.N_drewN|apply Kd.N_drew));exact Kd.N_mono HO_5.out (fun _ hk=>⟨⟨hk.1,hk.2.2⟩,hk.2.1⟩)) hg hat);have n2_:=Aside0.mk (blk_grown (g:=gb182) (o:=.cells #[.slice A0_0 l0_0.length c0_0,.int .i64 a0_1,.int .i64 a0_2,.int .i64 a0_3] 33 (0,0)) (blk_up BK182.out) hg (Kd.N_ne HO_7.out BK182.out (by decide)));have n3_:=Aside0.mk (Kd.V_afterv (ok:=(fun k_=>(P1_ k_ ∨ w.heap.size≤k_)∧some k_≠(.slice (some ad189) x5_1.length co29 : Value).ownBlock∧k_≠gb182)) (by (with_reducible repeat (first|apply Kd.V_alloc|apply Kd.V_drewN|apply Kd.V_drew));exact Kd.V_mono HL189_0.out (fun _ hk=>⟨⟨hk.1.1,⟨hk.2,hk.1.2.2⟩⟩,hk.1.2.1⟩)) hg hat);have n4_:=Aside0.mk (Kd.V_afterv (ok:=(fun k_=>(P1_ k_ ∨ w.heap.size≤k_)∧some k_≠(.slice (some ad189) x5_1.length co29 : Value).ownBlock∧k_≠gb182)) (by (with_reducible repeat (first|apply Kd.V_alloc|apply Kd.V_drewN|apply Kd.V_drew));exact Kd.V_mono HL190_0.out (fun _ hk=>⟨⟨hk.1,⟨hk.2.1,hk.2.2.2⟩⟩,hk.2.2.1⟩)) hg hat);have n5_:=Aside0.mk (Kd.V_afterv (ok:=(fun k_=>(P1_ k_ ∨ w.heap.size≤k_)∧some k_≠(.slice (some ad189) x5_1.length co29 : Value).ownBlock∧k_≠gb182)) (by (with_reducible repeat (first|apply Kd.V_alloc|apply Kd.V_drewN|apply Kd.V_drew));exact Kd.V_mono HL204_0.out (fun _ hk=>⟨⟨hk.1.1,⟨hk.2,hk.1.2.2⟩⟩,hk.1.2.1⟩)) hg hat);have n6_:=Aside0.mk (hb);have n7_:=Aside0.mk (ho);clear HO_1;clear HO_5;clear BK182;clear HL189_0;clear HL190_0;clear HL204_0;clear HB;clear HO_7;have HO_1:=n0_;have HO_5:=n1_;have BK182:=n2_;have HL189_0:=n3_;have HL190_0:=n4_;have HL204_0:=n5_;have HB:=n6_;have HO207:=n7_;clear n0_ n1_ n2_ n3_ n4_ n5_ n6_ n7_;clear ho hb hg hat))
             go_roundg k2
             case measure=>have:=HK1.out;have:=HK2.out;omega
             case rel=>exact ⟨(y205),(false),(wrap64 (x9_2 + 1)),(by first|rfl|(simp;done)|(simp [*];done)),(by first|rfl|(simp;done)|(simp [*];done)),(by first|exact H'|(subst_vars;exact H')),⟨by have:=HK1.out;have:=HK2.out;omega⟩,⟨by (with_reducible repeat (first|apply Kd.V_alloc|apply Kd.V_drewN|apply Kd.V_drew));exact Kd.V_mono HO_1.out (fun _ hk=>⟨hk.1.1,⟨hk.1.2.1,⟨hk.2,hk.1.2.2⟩⟩⟩)⟩,⟨by (with_reducible repeat (first|apply Kd.N_alloc|apply Kd.N_drewN|apply Kd.N_drew));exact Kd.N_mono HO_5.out (fun _ hk=>⟨hk.1.1,⟨hk.2,hk.1.2⟩⟩)⟩,⟨by (with_reducible repeat (first|apply Kd.N_alloc|apply Kd.N_drewN|apply Kd.N_drew));exact HO207.out⟩,⟨by (with_reducible repeat (first|refine blk_drewN ?_ _|refine blk_drew ?_|refine blk_alloc ?_ _));exact BK182.out⟩,⟨by repeat (first|(with_reducible first|exact HB.out|apply below_alloc|apply pw_below_drewN|apply below_drew1|refine below_set ?_ GE182.out)|exact HB.out)⟩⟩
            ·rw [if_neg c28] at H
             exact absurd H (by simp)
          ·rw [if_neg c18] at H
           exact absurd H (by simp)
         ·rw [if_neg c17] at H
          exact absurd H (by simp)
        ·rw [if_neg c16] at H
         exact absurd H (by simp)
      ·rw [if_neg c9] at H
       have c9b0 : decide (x9_2 < (x5_1.length : Int))=false:=decide_eq_false c9
       clear c9
       by_cases c33 : x8_2=true
       ·subst c33
        have H1 : (thresherref09_Sort.l0 k2 l1 x7_2 (wrap64 (x6_1 + 1)) l0_0 a0_1 a0_2 a0_3)=some r:=by rw [if_pos rfl] at H;exact H
        clear H
        have H:=H1
        clear H1
        have H':=Aside0.mk H
        clear H
        obtain ⟨Ao34,co34,eo34⟩:=Kd.N_slice HO_5.out
        subst eo34
        go_wp2
        go_roundg k2
        case measure=>have:=HK1.out;have:=HK2.out;omega
        case rel=>exact ⟨(x7_2),(wrap64 (x6_1 + 1)),(by first|rfl|(simp;done)|(simp [*];done)),(by first|exact H'|(subst_vars;exact H')),⟨by have:=HK1.out;have:=HK2.out;omega⟩,⟨by (with_reducible repeat (first|apply Kd.V_alloc|apply Kd.V_drewN|apply Kd.V_drew));exact Kd.V_mono HO_1.out (fun _ hk=>⟨hk.1,⟨hk.2.2.1,hk.2.2.2⟩⟩)⟩,⟨by (with_reducible repeat (first|apply Kd.N_alloc|apply Kd.N_drewN|apply Kd.N_drew));exact Kd.N_mono HO_7.out (fun _ hk=>⟨hk.1,hk.2.2⟩)⟩,⟨by (with_reducible repeat (first|refine blk_drewN ?_ _|refine blk_drew ?_|refine blk_alloc ?_ _));exact BK182.out⟩,⟨by repeat (first|(with_reducible first|exact HB.out|apply below_alloc|apply pw_below_drewN|apply below_drew1|refine below_set ?_ GE182.out)|exact HB.out)⟩⟩
       ·replace c33:=Bool.eq_false_iff.mpr c33
        subst c33
        have H1 : (if 0≤x6_1 then (if x6_1 < (l1.length : Int) then (if x7_2.length < 5864062014805 then (thresherref09_Sort.l0 k2 l1 (x7_2 ++ [rd_L5 l1 x6_1]) (wrap64 (x6_1 + 1)) l0_0 a0_1 a0_2 a0_3) else (none)) else (none)) else (none))=some r:=by rw [if_neg (show ¬ (false=true) by decide)] at H;exact H
        clear H
        have H:=H1
        clear H1
        by_cases c35 : 0≤x6_1
        ·rw [if_pos c35] at H
         have c35b0 : decide (0≤x6_1)=true:=decide_eq_true c35
         clear c35
         by_cases c36 : x6_1 < (l1.length : Int)
         ·rw [if_pos c36] at H
          have c36b0 : decide (x6_1 < (l1.length : Int))=true:=decide_eq_true c36
          clear c36
          by_cases c37 : x7_2.length < 5864062014805
          ·rw [if_pos c37] at H
           have LMc37:=Aside0.mk c37
           clear c37
           obtain ⟨y209,hy209⟩ : ∃ y_ : List (List (S44)),y_=(x7_2 ++ [rd_L5 l1 x6_1]):=⟨_,rfl⟩
           replace H : (thresherref09_Sort.l0 k2 l1 y209 (wrap64 (x6_1 + 1)) l0_0 a0_1 a0_2 a0_3)=some r:=by first|(rw [hy209];with_reducible exact H)|(have H2_:=(Option.bind_some _ _).symm.trans H;rw [hy209];with_reducible exact H2_)|(have H2_:=(Option.bind_some _ _).symm.trans H;with_reducible exact H2_)|with_reducible exact H|(rw [hy209];exact H)|exact H
           have Ny209:=Aside0.mk hy209
           clear hy209
           have H':=Aside0.mk H
           clear H
           obtain ⟨Ao38,co38,eo38⟩:=Kd.N_slice HO_5.out
           subst eo38
           have p208 : 0≤(x6_1 : Int):=of_decide_eq_true (by first|(with_reducible assumption)|assumption)
           have q208 : x6_1 < (l1.length : Int):=of_decide_eq_true (by first|(with_reducible assumption)|assumption)
           obtain ⟨ad208,A208_0,c208_0,e208,hx208_0,hl208_0,hi208_0⟩:=at_L5 (Kd.V_reads' HO_1.out).2.2 x6_1 p208 q208
           cases e208
           obtain ⟨ce208,hce208,hMe208,hcc208⟩:=Kd.V_get HO_1.out [] x6_1 p208 (by first|exact q208|exact of_decide_eq_true (by first|(with_reducible assumption)|assumption)|(have e_:=(Kd.V_reads' HO_1.out).1;omega))
           obtain ⟨ua208_0,uc208_0,rfl,ul208_0,ge208_0⟩:=Kd.FK_slice_open hMe208
           have hv208_0:=hcc208 0 _ rfl
           rw [Nat.add_zero,show ((Kd.slice 44 k44)).sz=1 from rfl,Nat.mul_one] at hv208_0
           replace hv208_0:=Option.some.inj (hv208_0.symm.trans hx208_0)
           injection hv208_0 with hva_ hvn_ hvc_
           rw [hva_] at ge208_0
           rw [hvc_] at ul208_0
           have HL208_0:=Aside0.mk (show Kd.V k44 44 _ w.heap.size _ _ (rd_L5 l1 x6_1) from Kd.V_mk ul208_0 ge208_0)
           clear hva_ hvn_ hvc_ ge208_0 ul208_0
           clear hcc208 hce208
           have HR208_0:=Aside0.mk hi208_0
           have HC208_0:=Aside0.mk hl208_0
           clear hi208_0 hl208_0
           replace p208:=eq_true p208
           replace q208:=eq_true q208
           go_wp2_with (first|((with_reducible refine gate_builtin (b:=.append) (xs:=#[.tmp 55,.tmp 60]) rfl ?_);at_builtin;refine Kd.N_append (Kd.slice 44 k44) (w0:=w) w.heap.size rfl (.tmp 55) (.tmp 60) 25 27 (.slice none 0 0) 24 rfl Try.underlying25 info27 rfl (by decide) (by omega) u7 x7_2 (rd_L5 l1 x6_1) [.slice A208_0 (rd_L5 l1 x6_1).length c208_0] (fun k_=>(P1_ k_ ∨ w.heap.size≤k_)∧some k_≠(.slice Ao38 x5_1.length co38 : Value).ownBlock∧k_≠gb182) (fun k_=>((fun k_=>(P1_ k_ ∨ w.heap.size≤k_)∧some k_≠(.slice Ao38 x5_1.length co38 : Value).ownBlock∧k_≠gb182)) k_∧some k_≠(u7 : Value).ownBlock) rfl rfl ?aP (fun _ hk=>hk) ?aF ?aO ?aB ?aS ?aL ?_;(case aP=>exact (Kd.FK_slice_mk (Kd.V_reads' (Kd.V_mono (ok':=(fun k_=>((fun k_=>(P1_ k_ ∨ w.heap.size≤k_)∧some k_≠(.slice Ao38 x5_1.length co38 : Value).ownBlock∧k_≠gb182)) k_∧some k_≠(u7 : Value).ownBlock)) (HL208_0.out) (fun k_ hk=>⟨⟨hk.1,⟨hk.2.1,hk.2.2.2⟩⟩,hk.2.2.1⟩))).2.1 (Kd.V_F (Kd.V_mono (ok':=(fun k_=>((fun k_=>(P1_ k_ ∨ w.heap.size≤k_)∧some k_≠(.slice Ao38 x5_1.length co38 : Value).ownBlock∧k_≠gb182)) k_∧some k_≠(u7 : Value).ownBlock)) (HL208_0.out) (fun k_ hk=>⟨⟨hk.1,⟨hk.2.1,hk.2.2.2⟩⟩,hk.2.2.1⟩)))));(case aB=>exact (by repeat (first|(with_reducible first|exact HB.out|apply below_alloc|apply pw_below_drewN|apply below_drew1|refine below_set ?_ GE182.out)|exact HB.out)));(case aF=>exact (fun k_ hk=>⟨(.inr (Nat.le_trans (below_size (by repeat (first|(with_reducible first|exact HB.out|apply below_alloc|apply pw_below_drewN|apply below_drew1|refine below_set ?_ GE182.out)|exact HB.out))) hk)),Kd.fresh' (Kd.N_lt (N_up HO_5.out)) k_ hk,Kd.freshB (g:=gb182) (o:=.cells #[.slice A0_0 l0_0.length c0_0,.int .i64 a0_1,.int .i64 a0_2,.int .i64 a0_3] 33 (0,0)) (blk_up BK182.out) k_ hk⟩));(case aO=>exact (N_up HO_7.out));(case aS=>exact (below_size (by repeat (first|(with_reducible first|exact HB.out|apply below_alloc|apply pw_below_drewN|apply below_drew1|refine below_set ?_ GE182.out)|exact HB.out))));(case aL=>have:=LMc37.out;omega);intro v210 w39 ho hb hg hat;rw [← Ny209.out] at ho;have n0_:=Aside0.mk (Kd.V_afterv (ok:=(fun k_=>(P1_ k_ ∨ w.heap.size≤k_)∧some k_≠(.slice Ao38 x5_1.length co38 : Value).ownBlock∧k_≠gb182)) (by (with_reducible repeat (first|apply Kd.V_alloc|apply Kd.V_drewN|apply Kd.V_drew));exact Kd.V_mono HO_1.out (fun _ hk=>⟨⟨hk.1,⟨hk.2.1,hk.2.2.2⟩⟩,hk.2.2.1⟩)) hg hat);have n1_:=Aside0.mk (Kd.N_afterv (ok:=(fun k_=>(P1_ k_ ∨ w.heap.size≤k_)∧k_≠gb182)) (by (with_reducible repeat (first|apply Kd.N_alloc|apply Kd.N_drewN|apply Kd.N_drew));exact Kd.N_mono HO_5.out (fun _ hk=>⟨⟨hk.1,hk.2.2⟩,hk.2.1⟩)) hg hat);have n2_:=Aside0.mk (blk_grown (g:=gb182) (o:=.cells #[.slice A0_0 l0_0.length c0_0,.int .i64 a0_1,.int .i64 a0_2,.int .i64 a0_3] 33 (0,0)) (blk_up BK182.out) hg (Kd.N_ne HO_7.out BK182.out (by decide)));have n3_:=Aside0.mk (Kd.V_afterv (ok:=(fun k_=>(P1_ k_ ∨ w.heap.size≤k_)∧some k_≠(.slice Ao38 x5_1.length co38 : Value).ownBlock∧k_≠gb182)) (by (with_reducible repeat (first|apply Kd.V_alloc|apply Kd.V_drewN|apply Kd.V_drew));exact Kd.V_mono HL208_0.out (fun _ hk=>⟨⟨hk.1,⟨hk.2.1,hk.2.2.2⟩⟩,hk.2.2.1⟩)) hg hat);have n4_:=Aside0.mk (hb);have n5_:=Aside0.mk (ho);clear HO_1;clear HO_5;clear BK182;clear HL208_0;clear HB;clear HO_7;have HO_1:=n0_;have HO_5:=n1_;have BK182:=n2_;have HL208_0:=n3_;have HB:=n4_;have HO211:=n5_;clear n0_ n1_ n2_ n3_ n4_ n5_;clear ho hb hg hat))
           go_roundg k2
           case measure=>have:=HK1.out;have:=HK2.out;omega
           case rel=>exact ⟨(y209),(wrap64 (x6_1 + 1)),(by first|rfl|(simp;done)|(simp [*];done)),(by first|exact H'|(subst_vars;exact H')),⟨by have:=HK1.out;have:=HK2.out;omega⟩,⟨by (with_reducible repeat (first|apply Kd.V_alloc|apply Kd.V_drewN|apply Kd.V_drew));exact Kd.V_mono HO_1.out (fun _ hk=>⟨hk.1.1,⟨hk.2,hk.1.2.2⟩⟩)⟩,⟨by (with_reducible repeat (first|apply Kd.N_alloc|apply Kd.N_drewN|apply Kd.N_drew));exact Kd.N_mono HO211.out (fun _ hk=>⟨hk.1,hk.2.2⟩)⟩,⟨by (with_reducible repeat (first|refine blk_drewN ?_ _|refine blk_drew ?_|refine blk_alloc ?_ _));exact BK182.out⟩,⟨by repeat (first|(with_reducible first|exact HB.out|apply below_alloc|apply pw_below_drewN|apply below_drew1|refine below_set ?_ GE182.out)|exact HB.out)⟩⟩
          ·rw [if_neg c37] at H
           exact absurd H (by simp)
         ·rw [if_neg c36] at H
          exact absurd H (by simp)
        ·rw [if_neg c35] at H
         exact absurd H (by simp)
   ·rw [if_neg c6] at H
    have c6b0 : decide (x6_1 < (l1.length : Int))=false:=decide_eq_false c6
    clear c6
    obtain rfl:=Option.some.inj H
    go_wp2
    go_ret
    exact ⟨_,by first|rfl|(simp [errW_none,errW_some] <;> rfl)|(simp [*,errW_none,errW_some] <;> rfl),by (with_reducible repeat (first|apply Kd.N_alloc|apply Kd.N_drewN|apply Kd.N_drew));exact Kd.N_mono HO_5.out (fun _ hk=>hk.1),by repeat (first|(with_reducible first|exact HB.out|apply below_alloc|apply pw_below_drewN|apply below_drew1|refine below_set ?_ GE182.out)|exact HB.out)⟩
end Go.Proofs.Ytfccebnoflhkcaa.P

