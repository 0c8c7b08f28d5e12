/- Texts of AggEnds. Merged: Px9. -/
import Derived.Test.YtapaldcdoahfeaaQAggEndsPx0
import Derived.Test.YtapaldcdoahfeaaQAggEndsPx8
namespace Go.Proofs.Ytapaldcdoahfeaa.P
open Go.RowKit Go.Proofs.YtapaldcdoahfeaaW.PrintWords Go.Proofs.YtapaldcdoahfeaaW.PrintLast Go.Proofs.YtapaldcdoahfeaaW.PrintMore
attribute [local go_sem] max2_int min2_int max_two min_two max_three min_three max_four min_four   -- for this text's walks alone
set_option linter.unusedVariables false
set_option linter.unusedSimpArgs false
mutual
def thresherref09_Sort.l0 : Nat→List (List (S40))→List (List (S40))→Int→List Int→Int→Int→Int→Option ((List (List (S40))))
 | 0,_,_,_,_,_,_,_=>none
 | k + 1,x1,x5,x6,x207000,x207001,x207002,x207003=>if x6 < (x1.length : Int) then (thresherref09_Sort.l1 k x1 x5 x6 (([] : List (List (S40)))) false 0 x207000 x207001 x207002 x207003) else (some x5)
def thresherref09_Sort.l1 : Nat→List (List (S40))→List (List (S40))→Int→List (List (S40))→Bool→Int→List Int→Int→Int→Int→Option ((List (List (S40))))
 | 0,_,_,_,_,_,_,_,_,_,_=>none
 | k + 1,x1,x5,x6,x7,x8,x9,x207000,x207001,x207002,x207003=>if x9 < (x5.length : Int) then (if x8=true then (if 0≤x9 then (if x7.length < 5864062014805 then (thresherref09_Sort.l1 k x1 x5 x6 (x7 ++ [rd_L7 x5 x9]) x8 (wrap64 (x9 + 1)) x207000 x207001 x207002 x207003) else (none)) else (none)) else (if 0≤x9 then (if 0≤x6 then (if x6 < (x1.length : Int) then ((thresherref04_Compare.f k x207000 x207001 x207002 x207003 (rd_L7 x5 x9) (rd_L7 x1 x6)).bind fun t215=>(if t215 > 0 then (if x7.length < 5864062014805 then ((some (x7 ++ [rd_L7 x1 x6] : List (List (S40)))).bind fun y221=>(if y221.length < 5864062014805 then (thresherref09_Sort.l1 k x1 x5 x6 (y221 ++ [rd_L7 x5 x9]) true (wrap64 (x9 + 1)) x207000 x207001 x207002 x207003) else (none))) else (none)) else (if x7.length < 5864062014805 then (thresherref09_Sort.l1 k x1 x5 x6 (x7 ++ [rd_L7 x5 x9]) x8 (wrap64 (x9 + 1)) x207000 x207001 x207002 x207003) else (none)))) else (none)) else (none)) else (none))) else (if x8=true then (thresherref09_Sort.l0 k x1 x7 (wrap64 (x6 + 1)) x207000 x207001 x207002 x207003) else (if 0≤x6 then (if x6 < (x1.length : Int) then (if x7.length < 5864062014805 then (thresherref09_Sort.l0 k x1 (x7 ++ [rd_L7 x1 x6]) (wrap64 (x6 + 1)) x207000 x207001 x207002 x207003) else (none)) else (none)) else (none)))
end
def thresherref09_Sort.f (k : Nat) (l0_0 : List Int) (a0_1 : Int) (a0_2 : Int) (a0_3 : Int) (l1 : List (List (S40))) : Option ((List (List (S40)))):=thresherref09_Sort.l0 k l1 (([] : List (List (S40)))) 0 l0_0 a0_1 a0_2 a0_3
theorem thresherref09_Sort.mono_l : ∀ k,(∀ y0 y1 y2 y3 y4 y5 y6,LeO (thresherref09_Sort.l0 k y0 y1 y2 y3 y4 y5 y6) (thresherref09_Sort.l0 (k + 1) y0 y1 y2 y3 y4 y5 y6))∧(∀ y0 y1 y2 y3 y4 y5 y6 y7 y8 y9,LeO (thresherref09_Sort.l1 k y0 y1 y2 y3 y4 y5 y6 y7 y8 y9) (thresherref09_Sort.l1 (k + 1) y0 y1 y2 y3 y4 y5 y6 y7 y8 y9))
 | 0=>⟨fun _ _ _ _ _ _ _ r h=>by simp [thresherref09_Sort.l0] at h,fun _ _ _ _ _ _ _ _ _ _ r h=>by simp [thresherref09_Sort.l1] at h⟩
 | k + 1=>by
  obtain ⟨ih0,ih1⟩:=thresherref09_Sort.mono_l k
  refine ⟨?_,?_⟩
  ·intro y0 y1 y2 y3 y4 y5 y6
   unfold thresherref09_Sort.l0
   repeat' first
   | (with_reducible exact ih0 _ _ _ _ _ _ _)
   | (with_reducible exact ih1 _ _ _ _ _ _ _ _ _ _)
   | (with_reducible exact thresherref04_Compare.mono _ _ _ _ _ _ _)
   | (with_reducible exact LeO.refl _)
   | (with_reducible exact LeO.none _)
   | (with_reducible refine LeO.ite ?_ ?_)
   | (with_reducible refine LeO.bind ?_ (fun _=>?_))
   | exact ih0 _ _ _ _ _ _ _
   | exact ih1 _ _ _ _ _ _ _ _ _ _
   | exact thresherref04_Compare.mono _ _ _ _ _ _ _
   | exact LeO.none _
   | refine LeO.ite ?_ ?_
   | refine LeO.bind ?_ (fun _=>?_)
  ·intro y0 y1 y2 y3 y4 y5 y6 y7 y8 y9
   unfold thresherref09_Sort.l1
   repeat' first
   | (with_reducible exact ih0 _ _ _ _ _ _ _)
   | (with_reducible exact ih1 _ _ _ _ _ _ _ _ _ _)
   | (with_reducible exact thresherref04_Compare.mono _ _ _ _ _ _ _)
   | (with_reducible exact LeO.refl _)
   | (with_reducible exact LeO.none _)
   | (with_reducible refine LeO.ite ?_ ?_)
   | (with_reducible refine LeO.bind ?_ (fun _=>?_))
   | exact ih0 _ _ _ _ _ _ _
   | exact ih1 _ _ _ _ _ _ _ _ _ _
   | exact thresherref04_Compare.mono _ _ _ _ _ _ _
   | exact LeO.none _
   | refine LeO.ite ?_ ?_
   | refine LeO.bind ?_ (fun _=>?_)
theorem thresherref09_Sort.mono : ∀ a0 a1 a2 a3 a4 k,LeO (thresherref09_Sort.f k a0 a1 a2 a3 a4) (thresherref09_Sort.f (k + 1) a0 a1 a2 a3 a4):=by
 intro a0 a1 a2 a3 a4 k
 obtain ⟨ih0,ih1⟩:=thresherref09_Sort.mono_l k
 unfold thresherref09_Sort.f
 repeat' first
   | (with_reducible exact ih0 _ _ _ _ _ _ _)
   | (with_reducible exact ih1 _ _ _ _ _ _ _ _ _ _)
   | (with_reducible exact thresherref04_Compare.mono _ _ _ _ _ _ _)
   | (with_reducible exact LeO.refl _)
   | (with_reducible exact LeO.none _)
   | (with_reducible refine LeO.ite ?_ ?_)
   | (with_reducible refine LeO.bind ?_ (fun _=>?_))
   | exact ih0 _ _ _ _ _ _ _
   | exact ih1 _ _ _ _ _ _ _ _ _ _
   | exact thresherref04_Compare.mono _ _ _ _ _ _ _
   | exact LeO.none _
   | refine LeO.ite ?_ ?_
   | refine LeO.bind ?_ (fun _=>?_)
def thresherref09_Sort.T10 : Bool × List (List Nat × List Nat):=(true,[([],[]),([0],[0]),([1],[1]),([2],[2]),([2],[2]),([2],[2]),([4,5,2],[2,4,5]),([6,2],[2,6]),([2],[2]),([2],[2]),([8,9,2],[2,8,9]),([10,2],[2,10]),([3,7,11,2,2],[2,3,7,11]),([12,2],[2,12]),([2,13],[2,13])])
def thresherref09_Sort.B10 : List Nat:=[0,1,3,7,7,7,55,119,7,7,775,1799,4095,8191,16383]
theorem thresherref09_Sort.tab10 : rtab .any (opsOf Try.f12 10)=thresherref09_Sort.T10:=by kernel_rfl
theorem thresherref09_Sort.bits10 : waitsOk thresherref09_Sort.T10.2 thresherref09_Sort.B10=true:=by kernel_rfl
set_option maxHeartbeats 8000000 in
set_option maxRecDepth 100000 in
theorem thresherref09_Sort.calls (k : Nat) (A0_0 : Option Addr) (c0_0 : Nat) (l0_0 : List Int) (a0_1 : Int) (a0_2 : Int) (a0_3 : Int) (P1_ : Nat→Prop) (A1 : Option Addr) (c1 : Nat) (l1 : List (List (S40))) (r : List (List (S40))) (w : World) (hr0_0 : Kd.C (Kd.int .i64) w A0_0 l0_0.length l0_0) (hc0_0 : l0_0.length≤c0_0) (hs1 : Kd.V (Kd.slice 40 k40) 44 w w.heap.size (fun k_=>P1_ k_) (.slice A1 l1.length c1) l1) (h : thresherref09_Sort.f k l0_0 a0_1 a0_2 a0_3 l1=some r) :
  Calls Try.prog 12 #[.agg #[.slice A0_0 l0_0.length c0_0,.int .i64 a0_1,.int .i64 a0_2,.int .i64 a0_3],.slice A1 l1.length c1] w fun e w'=>∃ v0_ : Value,e=.returned (v0_)∧Kd.N (Kd.slice 40 k40) 44 w' w.heap.size (fun k_=>(P1_ k_ ∨ w.heap.size≤k_)) v0_ r∧Below w.heap.size w w':=by
 have hu29:=Try.underlying29
 have HR0_0:=Aside0.mk hr0_0
 have HC0_0:=Aside0.mk hc0_0
 clear hr0_0 hc0_0
 have HO1:=Aside0.mk (show Kd.V (Kd.slice 40 k40) 44 w w.heap.size (fun k_=>(P1_ k_ ∨ w.heap.size≤k_)) (.slice A1 l1.length c1) l1 from Kd.V_mono hs1 (fun k_ hk=>.inl hk))
 have HB:=Aside0.mk (Below.refl w.heap.size w)
 have H : (thresherref09_Sort.l0 k l1 (([] : List (List (S40)))) 0 l0_0 a0_1 a0_2 a0_3)=some r:=h
 clear h
 obtain ⟨y207,hy207⟩ : ∃ y_ : List (List (S40)),y_=(([] : List (List (S40)))):=⟨_,rfl⟩
 replace H : (thresherref09_Sort.l0 k l1 y207 0 l0_0 a0_1 a0_2 a0_3)=some r:=by first|(rw [hy207];with_reducible exact H)|(have H2_:=(Option.bind_some _ _).symm.trans H;rw [hy207];with_reducible exact H2_)|(have H2_:=(Option.bind_some _ _).symm.trans H;with_reducible exact H2_)|with_reducible exact H|(rw [hy207];exact H)|exact H
 have Ny207:=Aside0.mk hy207
 clear hy207
 have H':=Aside0.mk H
 clear H
 go_enter Try.func12,Try.ntmps12
 go_wp2_with (first|((with_reducible refine gate_dst (N:=2) rfl ?_);refine box_event ?hg (N:=2) ?hd (cs:=#[.slice A0_0 l0_0.length c0_0,.int .i64 a0_1,.int .i64 a0_2,.int .i64 a0_3]) (t:=29) ?hr ?_;(case hd=>rfl);(case hg=>rfl);(case hr=>first|(go_simp;done)|(go_simp;rfl));intro gb206 hg w3 hbox hb;have n0_:=Aside0.mk (Kd.V_below (Kd.V_elderB (V_up HO1.out) gb206 (Nat.le_of_eq hg.symm)) hb);have n1_:=Aside0.mk (below_step (below_up HB.out) hb);have n2_:=Aside0.mk (hbox);have n3_:=Aside0.mk ((by rw [hg];exact (below_size (below_up HB.out)) : w.heap.size≤gb206));have n4_:=Aside0.mk ((by rw [hg];exact (below_size (below_up HB.out)) : w.heap.size≤gb206));clear HO1;clear HB;have HO1:=n0_;have HB:=n1_;have BK206:=n2_;have GW206:=n3_;have GE206:=n4_;clear n0_ n1_ n2_ n3_ n4_;clear hb hbox hg)|((with_reducible refine gate_dst (N:=10) rfl ?_);refine Kd.N_lit (Kd.slice 40 k40) _ 44 ?hg (N':=10) ?hd (xs:=([] : List (List (S40)))) (inner:=[]) (ok:=(fun k_=>(P1_ k_ ∨ w.heap.size≤k_)∧k_≠gb206)) (okp:=(fun k_=>(P1_ k_ ∨ w.heap.size≤k_)∧k_≠gb206)) ?hr ?hp (fun _ hk=>hk) ((show ∀ k_,w3.heap.size≤k_→(fun k_=>(P1_ k_ ∨ w.heap.size≤k_)∧k_≠gb206) k_ from fun k_ hk=>⟨(.inr (Nat.le_trans (below_size (below_go HB.out)) hk)),Kd.freshB (blk_up BK206.out) k_ hk⟩) _ (Nat.le_refl _)) (Below.refl _ _) (Nat.le_refl _) (by simp) ?_;(case hd=>rfl);(case hg=>rfl);(case hr=>first|(go_simp;done)|(go_simp;rfl));(case hp=>exact (Reps.none _ _));intro v208 w4 ho5 hb hg_ hnew_;clear hg_ hnew_;(first|rw [← Ny207.out] at ho5|(simp only [Int.reduceToNat] at ho5;rw [← Ny207.out] at ho5));have n0_:=Aside0.mk (Kd.V_elder' (V_up HO1.out) (Kd.N_base ho5) hb);have n1_:=Aside0.mk (Kd.N_lower ho5 (below_size (below_go HB.out)));have n2_:=Aside0.mk (blk_below (blk_up BK206.out) hb);have n3_:=Aside0.mk (below_step (below_go HB.out) hb);clear HO1;clear BK206;clear HB;have HO1:=n0_;have HO209:=n1_;have BK206:=n2_;have HB:=n3_;clear n0_ n1_ n2_ n3_;clear hb ho5))
 go_loopg [5,6] k (fun kq v5 v6 w'=>∃ (x5_1 : List (List (S40))) (x6_1 : Int),v6=.int .i64 x6_1∧Aside0 (thresherref09_Sort.l0 kq l1 x5_1 x6_1 l0_0 a0_1 a0_2 a0_3=some r)∧Aside0 (kq≤k)∧Aside0 (Kd.V (Kd.slice 40 k40) 44 w' w.heap.size (fun k_=>(P1_ k_ ∨ w.heap.size≤k_)∧some k_≠(v5 : Value).ownBlock∧k_≠gb206) (.slice A1 l1.length c1) l1)∧Aside0 (Kd.N (Kd.slice 40 k40) 44 w' w.heap.size (fun k_=>(P1_ k_ ∨ w.heap.size≤k_)∧k_≠gb206) v5 x5_1)∧Aside0 (w'.heap[gb206]?=some (.cells #[(.slice A0_0 l0_0.length c0_0),.int .i64 a0_1,.int .i64 a0_2,.int .i64 a0_3] 29 (0,0)))∧Aside0 (Below w.heap.size w w'))
 case atStart=>exact ⟨(y207),(0),(by first|rfl|(simp;done)|(simp [*];done)),H',⟨Nat.le_refl _⟩,⟨by (with_reducible repeat (first|apply Kd.V_alloc|apply Kd.V_drewN|apply Kd.V_drew));exact Kd.V_mono HO1.out (fun _ hk=>⟨hk.1.1,⟨hk.2,hk.1.2⟩⟩)⟩,⟨by (with_reducible repeat (first|apply Kd.N_alloc|apply Kd.N_drewN|apply Kd.N_drew));exact HO209.out⟩,⟨by (with_reducible repeat (first|refine blk_drewN ?_ _|refine blk_drew ?_|refine blk_alloc ?_ _));exact BK206.out⟩,⟨by repeat (first|(with_reducible first|exact HB.out|apply below_alloc|apply pw_below_drewN|apply below_drew1|refine below_set ?_ GE206.out)|exact HB.out)⟩⟩
 case round =>
  clear H'
  try clear c1
  try clear p2
  obtain ⟨x5_1,x6_1,rfl,HA,HK1,HO_1,HO_5,BK206,HB⟩:=hrel
  cases gk with
  | zero=>exact absurd HA.out (by simp [thresherref09_Sort.l0])
  | succ k1 =>
   have H:=HA.out
   clear HA
   simp only [thresherref09_Sort.l0] at H
   by_cases c6 : x6_1 < (l1.length : Int)
   ·rw [if_pos c6] at H
    have c6b0 : decide (x6_1 < (l1.length : Int))=true:=decide_eq_true c6
    clear c6
    obtain ⟨y210,hy210⟩ : ∃ y_ : List (List (S40)),y_=(([] : List (List (S40)))):=⟨_,rfl⟩
    replace H : (thresherref09_Sort.l1 k1 l1 x5_1 x6_1 y210 false 0 l0_0 a0_1 a0_2 a0_3)=some r:=by first|(rw [hy210];with_reducible exact H)|(have H2_:=(Option.bind_some _ _).symm.trans H;rw [hy210];with_reducible exact H2_)|(have H2_:=(Option.bind_some _ _).symm.trans H;with_reducible exact H2_)|with_reducible exact H|(rw [hy210];exact H)|exact H
    have Ny210:=Aside0.mk hy210
    clear hy210
    have H':=Aside0.mk H
    clear H
    go_wp2_with (first|((with_reducible refine gate_dst (N:=17) rfl ?_);refine Kd.N_lit (Kd.slice 40 k40) _ 44 ?hg (N':=17) ?hd (xs:=([] : List (List (S40)))) (inner:=[]) (ok:=(fun k_=>(P1_ k_ ∨ w.heap.size≤k_)∧some k_≠(u5 : Value).ownBlock∧k_≠gb206)) (okp:=(fun k_=>(P1_ k_ ∨ w.heap.size≤k_)∧some k_≠(u5 : Value).ownBlock∧k_≠gb206)) ?hr ?hp (fun _ hk=>hk) ((show ∀ k_,wr.heap.size≤k_→(fun k_=>(P1_ k_ ∨ w.heap.size≤k_)∧some k_≠(u5 : Value).ownBlock∧k_≠gb206) k_ from fun k_ hk=>⟨(.inr (Nat.le_trans (below_size (below_go HB.out)) hk)),Kd.fresh' (Kd.N_lt (N_up HO_5.out)) k_ hk,Kd.freshB (blk_up BK206.out) k_ hk⟩) _ (Nat.le_refl _)) (Below.refl _ _) (Nat.le_refl _) (by simp) ?_;(case hd=>rfl);(case hg=>rfl);(case hr=>first|(go_simp;done)|(go_simp;rfl));(case hp=>exact (Reps.none _ _));intro v211 w7 ho8 hb hg_ hnew_;clear hg_ hnew_;(first|rw [← Ny210.out] at ho8|(simp only [Int.reduceToNat] at ho8;rw [← Ny210.out] at ho8));have n0_:=Aside0.mk (Kd.V_elder' (V_up HO_1.out) (Kd.N_base ho8) hb);have n1_:=Aside0.mk (Kd.N_elder' (N_up HO_5.out) (Kd.N_base ho8) hb);have n2_:=Aside0.mk (Kd.N_lower ho8 (below_size (below_go HB.out)));have n3_:=Aside0.mk (blk_below (blk_up BK206.out) hb);have n4_:=Aside0.mk (below_step (below_go HB.out) hb);clear HO_1;clear HO_5;clear BK206;clear HB;have HO_1:=n0_;have HO_5:=n1_;have HO212:=n2_;have BK206:=n3_;have HB:=n4_;clear n0_ n1_ n2_ n3_ n4_;clear hb ho8))
    go_loopg [7,8,9] k1 (fun kq v7 v8 v9 w'=>∃ (x7_2 : List (List (S40))) (x8_2 : Bool) (x9_2 : Int),v8=.bool x8_2∧v9=.int .i64 x9_2∧Aside0 (thresherref09_Sort.l1 kq l1 x5_1 x6_1 x7_2 x8_2 x9_2 l0_0 a0_1 a0_2 a0_3=some r)∧Aside0 (kq≤k1)∧Aside0 (Kd.V (Kd.slice 40 k40) 44 w' w.heap.size (fun k_=>(P1_ k_ ∨ w.heap.size≤k_)∧some k_≠(u5 : Value).ownBlock∧some k_≠(v7 : Value).ownBlock∧k_≠gb206) (.slice A1 l1.length c1) l1)∧Aside0 (Kd.N (Kd.slice 40 k40) 44 w' w.heap.size (fun k_=>(P1_ k_ ∨ w.heap.size≤k_)∧some k_≠(v7 : Value).ownBlock∧k_≠gb206) u5 x5_1)∧Aside0 (Kd.N (Kd.slice 40 k40) 44 w' w.heap.size (fun k_=>(P1_ k_ ∨ w.heap.size≤k_)∧some k_≠(u5 : Value).ownBlock∧k_≠gb206) v7 x7_2)∧Aside0 (w'.heap[gb206]?=some (.cells #[(.slice A0_0 l0_0.length c0_0),.int .i64 a0_1,.int .i64 a0_2,.int .i64 a0_3] 29 (0,0)))∧Aside0 (Below w.heap.size w w'))
    case atStart=>exact ⟨(y210),(false),(0),(by first|rfl|(simp;done)|(simp [*];done)),(by first|rfl|(simp;done)|(simp [*];done)),H',⟨Nat.le_refl _⟩,⟨by (with_reducible repeat (first|apply Kd.V_alloc|apply Kd.V_drewN|apply Kd.V_drew));exact Kd.V_mono HO_1.out (fun _ hk=>⟨hk.1.1,⟨hk.1.2.1,⟨hk.2,hk.1.2.2⟩⟩⟩)⟩,⟨by (with_reducible repeat (first|apply Kd.N_alloc|apply Kd.N_drewN|apply Kd.N_drew));exact Kd.N_mono HO_5.out (fun _ hk=>⟨hk.1.1,⟨hk.2,hk.1.2⟩⟩)⟩,⟨by (with_reducible repeat (first|apply Kd.N_alloc|apply Kd.N_drewN|apply Kd.N_drew));exact HO212.out⟩,⟨by (with_reducible repeat (first|refine blk_drewN ?_ _|refine blk_drew ?_|refine blk_alloc ?_ _));exact BK206.out⟩,⟨by repeat (first|(with_reducible first|exact HB.out|apply below_alloc|apply pw_below_drewN|apply below_drew1|refine below_set ?_ GE206.out)|exact HB.out)⟩⟩
    case round =>
     clear H'
     try clear c1
     try clear p2
     try clear c6
     try clear c6b0
     try clear p2
     obtain ⟨x7_2,x8_2,x9_2,rfl,rfl,HA,HK2,HO_1,HO_5,HO_7,BK206,HB⟩:=hrel
     cases gk with
     | zero=>exact absurd HA.out (by simp [thresherref09_Sort.l1])
     | succ k2 =>
      have H:=HA.out
      clear HA
      simp only [thresherref09_Sort.l1] at H
      by_cases c9 : x9_2 < (x5_1.length : Int)
      ·rw [if_pos c9] at H
       have c9b0 : decide (x9_2 < (x5_1.length : Int))=true:=decide_eq_true c9
       clear c9
       by_cases c10 : x8_2=true
       ·subst c10
        have H1 : (if 0≤x9_2 then (if x7_2.length < 5864062014805 then (thresherref09_Sort.l1 k2 l1 x5_1 x6_1 (x7_2 ++ [rd_L7 x5_1 x9_2]) true (wrap64 (x9_2 + 1)) l0_0 a0_1 a0_2 a0_3) else (none)) else (none))=some r:=by rw [if_pos rfl] at H;exact H
        clear H
        have H:=H1
        clear H1
        by_cases c11 : 0≤x9_2
        ·rw [if_pos c11] at H
         have c11b0 : decide (0≤x9_2)=true:=decide_eq_true c11
         clear c11
         by_cases c12 : x7_2.length < 5864062014805
         ·rw [if_pos c12] at H
          have LMc12:=Aside0.mk c12
          clear c12
          obtain ⟨y217,hy217⟩ : ∃ y_ : List (List (S40)),y_=(x7_2 ++ [rd_L7 x5_1 x9_2]):=⟨_,rfl⟩
          replace H : (thresherref09_Sort.l1 k2 l1 x5_1 x6_1 y217 true (wrap64 (x9_2 + 1)) l0_0 a0_1 a0_2 a0_3)=some r:=by first|(rw [hy217];with_reducible exact H)|(have H2_:=(Option.bind_some _ _).symm.trans H;rw [hy217];with_reducible exact H2_)|(have H2_:=(Option.bind_some _ _).symm.trans H;with_reducible exact H2_)|with_reducible exact H|(rw [hy217];exact H)|exact H
          have Ny217:=Aside0.mk hy217
          clear hy217
          have H':=Aside0.mk H
          clear H
          obtain ⟨Ao13,co13,eo13⟩:=Kd.N_slice HO_5.out
          subst eo13
          try go_wp2
          have n0_:=Aside0.mk (Kd.V_drew HO_1.out)
          have n1_:=Aside0.mk (Kd.N_drew HO_5.out)
          have n2_:=Aside0.mk (Kd.N_drew HO_7.out)
          have n3_:=Aside0.mk (blk_drew BK206.out)
          have n4_:=Aside0.mk (below_drew1 HB.out)
          clear HO_1
          clear HO_5
          clear HO_7
          clear BK206
          clear HB
          have HO_1:=n0_
          have HO_5:=n1_
          have HO_7:=n2_
          have BK206:=n3_
          have HB:=n4_
          clear n0_ n1_ n2_ n3_ n4_
          refine start_ (n:=15) (S:=fun w'=>True) (ds:=[]) #[false,false,false,false,false,false,false,false,false,false,false,false,false,false,false] (by kernel_rfl) rfl rfl trivial (fun hHeld=>?_);refine with_tabW thresherref09_Sort.tab10 thresherref09_Sort.bits10 (fun HT_ HW_=>?_)
          generalize wr.drew=w14 at HO_1 HO_5 HO_7 BK206 HB hHeld ⊢
          refine pure_ (i:=0) (N:=some 24) (v:=?_) (a':=?_) #[true,false,false,false,false,false,false,false,false,false,false,false,false,false,false] rfl rfl (any_of HT_.out (by kernel_rfl)) (fun _ _ _ h=>h) (Or.inl ⟨by rfl,?_⟩) ?_ ?_
          rotate_left;(intro w';go_simp;with_reducible rfl);rotate_left;(simp only [Act.put,List.setIfInBounds_toArray,List.set_cons_zero,List.set_cons_succ,i64_w,i32_w];rfl)
          refine pure_ (i:=1) (N:=some 25) (v:=?_) (a':=?_) #[true,true,false,false,false,false,false,false,false,false,false,false,false,false,false] rfl rfl (any_of HT_.out (by kernel_rfl)) (fun _ _ _ h=>h) (Or.inl ⟨by rfl,?_⟩) ?_ ?_
          rotate_left;(intro w';go_simp;with_reducible rfl);rotate_left;(simp only [Act.put,List.setIfInBounds_toArray,List.set_cons_zero,List.set_cons_succ,i64_w,i32_w];rfl)
          refine pure_ (i:=2) (N:=some 26) (v:=?_) (a':=?_) #[true,true,true,false,false,false,false,false,false,false,false,false,false,false,false] rfl rfl (any_of HT_.out (by kernel_rfl)) (fun _ _ _ h=>h) (Or.inl ⟨by rfl,?_⟩) ?_ ?_
          rotate_left;(intro w';go_simp;with_reducible rfl);rotate_left;(simp only [Act.put,List.setIfInBounds_toArray,List.set_cons_zero,List.set_cons_succ,i64_w,i32_w];rfl)
          refine pure_ (i:=3) (N:=some 27) (v:=undef) (a':=?_) #[true,true,true,true,false,false,false,false,false,false,false,false,false,false,false] rfl rfl (any_of HT_.out (by kernel_rfl)) (fun _ _ _ h=>h) (Or.inr ⟨by rfl,rfl⟩) ?_ ?_
          rotate_left
          ·simp only [Act.put,List.setIfInBounds_toArray,List.set_cons_zero,List.set_cons_succ,i64_w,i32_w]
           rfl
          refine pure_ (i:=4) (N:=some 28) (v:=undef) (a':=?_) #[true,true,true,true,true,false,false,false,false,false,false,false,false,false,false] rfl rfl (any_of HT_.out (by kernel_rfl)) (fun _ _ _ h=>h) (Or.inr ⟨by rfl,rfl⟩) ?_ ?_
          rotate_left
          ·simp only [Act.put,List.setIfInBounds_toArray,List.set_cons_zero,List.set_cons_succ,i64_w,i32_w]
           rfl
          refine pure_ (i:=5) (N:=some 29) (v:=undef) (a':=?_) #[true,true,true,true,true,true,false,false,false,false,false,false,false,false,false] rfl rfl (any_of HT_.out (by kernel_rfl)) (fun _ _ _ h=>h) (Or.inr ⟨by rfl,rfl⟩) ?_ ?_
          rotate_left
          ·simp only [Act.put,List.setIfInBounds_toArray,List.set_cons_zero,List.set_cons_succ,i64_w,i32_w]
           rfl
          refine pure_ (i:=6) (N:=some 30) (v:=undef) (a':=?_) #[true,true,true,true,true,true,true,false,false,false,false,false,false,false,false] rfl rfl (any_of HT_.out (by kernel_rfl)) (fun _ _ _ h=>h) (Or.inr ⟨by rfl,rfl⟩) ?_ ?_
          rotate_left
          ·simp only [Act.put,List.setIfInBounds_toArray,List.set_cons_zero,List.set_cons_succ,i64_w,i32_w]
           rfl
          refine pure_ (i:=7) (N:=some 31) (v:=undef) (a':=?_) #[true,true,true,true,true,true,true,true,false,false,false,false,false,false,false] rfl rfl (any_of HT_.out (by kernel_rfl)) (fun _ _ _ h=>h) (Or.inr ⟨by rfl,rfl⟩) ?_ ?_
          rotate_left
          ·simp only [Act.put,List.setIfInBounds_toArray,List.set_cons_zero,List.set_cons_succ,i64_w,i32_w]
           rfl
          refine pure_ (i:=8) (N:=some 32) (v:=undef) (a':=?_) #[true,true,true,true,true,true,true,true,true,false,false,false,false,false,false] rfl rfl (any_of HT_.out (by kernel_rfl)) (fun _ _ _ h=>h) (Or.inr ⟨by rfl,rfl⟩) ?_ ?_
          rotate_left
          ·simp only [Act.put,List.setIfInBounds_toArray,List.set_cons_zero,List.set_cons_succ,i64_w,i32_w]
           rfl
          refine pure_ (i:=9) (N:=some 33) (v:=undef) (a':=?_) #[true,true,true,true,true,true,true,true,true,true,false,false,false,false,false] rfl rfl (any_of HT_.out (by kernel_rfl)) (fun _ _ _ h=>h) (Or.inr ⟨by rfl,rfl⟩) ?_ ?_
          rotate_left
          ·simp only [Act.put,List.setIfInBounds_toArray,List.set_cons_zero,List.set_cons_succ,i64_w,i32_w]
           rfl
          refine pure_ (i:=10) (N:=some 34) (v:=undef) (a':=?_) #[true,true,true,true,true,true,true,true,true,true,true,false,false,false,false] rfl rfl (any_of HT_.out (by kernel_rfl)) (fun _ _ _ h=>h) (Or.inr ⟨by rfl,rfl⟩) ?_ ?_
          rotate_left
          ·simp only [Act.put,List.setIfInBounds_toArray,List.set_cons_zero,List.set_cons_succ,i64_w,i32_w]
           rfl
          refine pure_ (i:=11) (N:=some 35) (v:=undef) (a':=?_) #[true,true,true,true,true,true,true,true,true,true,true,true,false,false,false] rfl rfl (any_of HT_.out (by kernel_rfl)) (fun _ _ _ h=>h) (Or.inr ⟨by rfl,rfl⟩) ?_ ?_
          rotate_left
          ·simp only [Act.put,List.setIfInBounds_toArray,List.set_cons_zero,List.set_cons_succ,i64_w,i32_w]
           rfl
          refine pure_ (i:=12) (N:=some 36) (v:=undef) (a':=?_) #[true,true,true,true,true,true,true,true,true,true,true,true,true,false,false] rfl rfl (any_of HT_.out (by kernel_rfl)) (fun _ _ _ h=>h) (Or.inr ⟨by rfl,rfl⟩) ?_ ?_
          rotate_left
          ·simp only [Act.put,List.setIfInBounds_toArray,List.set_cons_zero,List.set_cons_succ,i64_w,i32_w]
           rfl
          refine pure_ (i:=13) (N:=some 37) (v:=undef) (a':=?_) #[true,true,true,true,true,true,true,true,true,true,true,true,true,true,false] rfl rfl (any_of HT_.out (by kernel_rfl)) (fun _ _ _ h=>h) (Or.inr ⟨by rfl,rfl⟩) ?_ ?_
          rotate_left
          ·simp only [Act.put,List.setIfInBounds_toArray,List.set_cons_zero,List.set_cons_succ,i64_w,i32_w]
           rfl
          refine pure_ (i:=14) (N:=some 38) (v:=?_) (a':=?_) #[true,true,true,true,true,true,true,true,true,true,true,true,true,true,true] rfl rfl (any_of HT_.out (by kernel_rfl)) (fun _ _ _ h=>h) (Or.inl ⟨by rfl,?_⟩) ?_ ?_
          rotate_left;(intro w';go_simp;with_reducible rfl);rotate_left;(simp only [Act.put,List.setIfInBounds_toArray,List.set_cons_zero,List.set_cons_succ,i64_w,i32_w];rfl)
          refine done_ (done_of HT_.out (by kernel_rfl)) ?_
          (try clear hHeld)
          have p216 : 0≤(x9_2 : Int):=of_decide_eq_true (by first|(with_reducible assumption)|assumption)
          have q216 : x9_2 < (x5_1.length : Int):=of_decide_eq_true (by first|(with_reducible assumption)|assumption)
          obtain ⟨ad216,A216_0,c216_0,e216,hx216_0,hl216_0,hi216_0⟩:=at_L7 (Kd.N_reads' HO_5.out).2.2 x9_2 p216 q216
          cases e216
          obtain ⟨ce216,hce216,hMe216,hcc216⟩:=Kd.N_get HO_5.out [] x9_2 p216 (by first|exact q216|exact of_decide_eq_true (by first|(with_reducible assumption)|assumption)|(have e_:=(Kd.N_reads' HO_5.out).1;omega))
          obtain ⟨ua216_0,uc216_0,rfl,ul216_0,ge216_0⟩:=Kd.FK_slice_open hMe216
          have hv216_0:=hcc216 0 _ rfl
          rw [Nat.add_zero,show ((Kd.slice 40 k40)).sz=1 from rfl,Nat.mul_one] at hv216_0
          replace hv216_0:=Option.some.inj (hv216_0.symm.trans hx216_0)
          injection hv216_0 with hva_ hvn_ hvc_
          rw [hva_] at ge216_0
          rw [hvc_] at ul216_0
          have HL216_0:=Aside0.mk (show Kd.V k40 40 _ w.heap.size _ _ (rd_L7 x5_1 x9_2) from Kd.V_mk ul216_0 ge216_0)
          clear hva_ hvn_ hvc_ ge216_0 ul216_0
          clear hcc216 hce216
          have HR216_0:=Aside0.mk hi216_0
          have HC216_0:=Aside0.mk hl216_0
          clear hi216_0 hl216_0
          replace p216:=eq_true p216
          replace q216:=eq_true q216
          try go_wp2_with (first|((with_reducible refine gate_builtin (b:=.append) (xs:=#[.tmp 46,.tmp 51]) rfl ?_);at_builtin;refine Kd.N_append (Kd.slice 40 k40) (w0:=w) w.heap.size rfl (.tmp 46) (.tmp 51) 25 44 (.slice none 0 0) 24 rfl Try.underlying25 info44 rfl (by decide) (by omega) u7 x7_2 (rd_L7 x5_1 x9_2) [.slice A216_0 (rd_L7 x5_1 x9_2).length c216_0] (fun k_=>(P1_ k_ ∨ w.heap.size≤k_)∧some k_≠(.slice (some ad216) x5_1.length co13 : Value).ownBlock∧k_≠gb206) (fun k_=>((fun k_=>(P1_ k_ ∨ w.heap.size≤k_)∧some k_≠(.slice (some ad216) x5_1.length co13 : Value).ownBlock∧k_≠gb206)) k_∧some k_≠(u7 : Value).ownBlock) rfl rfl ?aP (fun _ hk=>hk) ?aF ?aO ?aB ?aS ?aL ?_;(case aP=>exact (Kd.FK_slice_mk (Kd.V_reads' (Kd.V_mono (ok':=(fun k_=>((fun k_=>(P1_ k_ ∨ w.heap.size≤k_)∧some k_≠(.slice (some ad216) x5_1.length co13 : Value).ownBlock∧k_≠gb206)) k_∧some k_≠(u7 : Value).ownBlock)) (HL216_0.out) (fun k_ hk=>⟨⟨hk.1.1,⟨hk.2,hk.1.2.2⟩⟩,hk.1.2.1⟩))).2.1 (Kd.V_F (Kd.V_mono (ok':=(fun k_=>((fun k_=>(P1_ k_ ∨ w.heap.size≤k_)∧some k_≠(.slice (some ad216) x5_1.length co13 : Value).ownBlock∧k_≠gb206)) k_∧some k_≠(u7 : Value).ownBlock)) (HL216_0.out) (fun k_ hk=>⟨⟨hk.1.1,⟨hk.2,hk.1.2.2⟩⟩,hk.1.2.1⟩)))));(case aB=>exact (below_go HB.out));(case aF=>exact (fun k_ hk=>⟨(.inr (Nat.le_trans (below_size (below_go HB.out)) hk)),Kd.fresh' (Kd.N_lt (N_up HO_5.out)) k_ hk,Kd.freshB (blk_up BK206.out) k_ hk⟩));(case aO=>exact (N_up HO_7.out));(case aS=>exact (below_size (below_go HB.out)));(case aL=>have:=LMc12.out;omega);intro v218 w15 ho hb hg hat;rw [← Ny217.out] at ho;have n0_:=Aside0.mk (Kd.V_afterv (ok:=(fun k_=>(P1_ k_ ∨ w.heap.size≤k_)∧some k_≠(.slice (some ad216) x5_1.length co13 : Value).ownBlock∧k_≠gb206)) (V_upm HO_1.out (fun _ hk=>⟨⟨hk.1,⟨hk.2.1,hk.2.2.2⟩⟩,hk.2.2.1⟩)) hg hat);have n1_:=Aside0.mk (Kd.N_afterv (ok:=(fun k_=>(P1_ k_ ∨ w.heap.size≤k_)∧k_≠gb206)) (N_upm HO_5.out (fun _ hk=>⟨⟨hk.1,hk.2.2⟩,hk.2.1⟩)) hg hat);have n2_:=Aside0.mk (blk_grown (blk_up BK206.out) hg (Kd.N_ne HO_7.out BK206.out (by decide)));have n3_:=Aside0.mk (Kd.V_afterv (ok:=(fun k_=>(P1_ k_ ∨ w.heap.size≤k_)∧some k_≠(.slice (some ad216) x5_1.length co13 : Value).ownBlock∧k_≠gb206)) (V_upm HL216_0.out (fun _ hk=>⟨⟨hk.1.1,⟨hk.2,hk.1.2.2⟩⟩,hk.1.2.1⟩)) hg hat);have n4_:=Aside0.mk (hb);have n5_:=Aside0.mk (ho);clear HO_1;clear HO_5;clear BK206;clear HL216_0;clear HB;clear HO_7;have HO_1:=n0_;have HO_5:=n1_;have BK206:=n2_;have HL216_0:=n3_;have HB:=n4_;have HO219:=n5_;clear n0_ n1_ n2_ n3_ n4_ n5_;clear ho hb hg hat))
          go_roundg k2
          case measure=>have:=HK1.out;have:=HK2.out;omega
          case rel=>exact ⟨(y217),(true),(wrap64 (x9_2 + 1)),(by first|rfl|(simp;done)|(simp [*];done)),(by first|rfl|(simp;done)|(simp [*];done)),(by first|exact H'|(subst_vars;exact H')),⟨by have:=HK1.out;have:=HK2.out;omega⟩,⟨by (with_reducible repeat (first|apply Kd.V_alloc|apply Kd.V_drewN|apply Kd.V_drew));exact Kd.V_mono HO_1.out (fun _ hk=>⟨hk.1.1,⟨hk.1.2.1,⟨hk.2,hk.1.2.2⟩⟩⟩)⟩,⟨by (with_reducible repeat (first|apply Kd.N_alloc|apply Kd.N_drewN|apply Kd.N_drew));exact Kd.N_mono HO_5.out (fun _ hk=>⟨hk.1.1,⟨hk.2,hk.1.2⟩⟩)⟩,⟨by (with_reducible repeat (first|apply Kd.N_alloc|apply Kd.N_drewN|apply Kd.N_drew));exact HO219.out⟩,⟨by (with_reducible repeat (first|refine blk_drewN ?_ _|refine blk_drew ?_|refine blk_alloc ?_ _));exact BK206.out⟩,⟨by repeat (first|(with_reducible first|exact HB.out|apply below_alloc|apply pw_below_drewN|apply below_drew1|refine below_set ?_ GE206.out)|exact HB.out)⟩⟩
         ·rw [if_neg c12] at H
          exact absurd H (by simp)
        ·rw [if_neg c11] at H
         exact absurd H (by simp)
       ·replace c10:=Bool.eq_false_iff.mpr c10
        subst c10
        have H1 : (if 0≤x9_2 then (if 0≤x6_1 then (if x6_1 < (l1.length : Int) then ((thresherref04_Compare.f k2 l0_0 a0_1 a0_2 a0_3 (rd_L7 x5_1 x9_2) (rd_L7 l1 x6_1)).bind fun t215=>(if t215 > 0 then (if x7_2.length < 5864062014805 then ((some (x7_2 ++ [rd_L7 l1 x6_1] : List (List (S40)))).bind fun y221=>(if y221.length < 5864062014805 then (thresherref09_Sort.l1 k2 l1 x5_1 x6_1 (y221 ++ [rd_L7 x5_1 x9_2]) true (wrap64 (x9_2 + 1)) l0_0 a0_1 a0_2 a0_3) else (none))) else (none)) else (if x7_2.length < 5864062014805 then (thresherref09_Sort.l1 k2 l1 x5_1 x6_1 (x7_2 ++ [rd_L7 x5_1 x9_2]) false (wrap64 (x9_2 + 1)) l0_0 a0_1 a0_2 a0_3) else (none)))) else (none)) else (none)) else (none))=some r:=by rw [if_neg (show ¬ (false=true) by decide)] at H;exact H
        clear H
        have H:=H1
        clear H1
        by_cases c16 : 0≤x9_2
        ·rw [if_pos c16] at H
         have c16b0 : decide (0≤x9_2)=true:=decide_eq_true c16
         clear c16
         by_cases c17 : 0≤x6_1
         ·rw [if_pos c17] at H
          have c17b0 : decide (0≤x6_1)=true:=decide_eq_true c17
          clear c17
          by_cases c18 : x6_1 < (l1.length : Int)
          ·rw [if_pos c18] at H
           have c18b0 : decide (x6_1 < (l1.length : Int))=true:=decide_eq_true c18
           clear c18
           replace H:=Option.bind_eq_some_iff.mp H
           obtain ⟨t215,A190,H⟩:=H
           replace H : (if t215 > 0 then (if x7_2.length < 5864062014805 then ((some (x7_2 ++ [rd_L7 l1 x6_1] : List (List (S40)))).bind fun y221=>(if y221.length < 5864062014805 then (thresherref09_Sort.l1 k2 l1 x5_1 x6_1 (y221 ++ [rd_L7 x5_1 x9_2]) true (wrap64 (x9_2 + 1)) l0_0 a0_1 a0_2 a0_3) else (none))) else (none)) else (if x7_2.length < 5864062014805 then (thresherref09_Sort.l1 k2 l1 x5_1 x6_1 (x7_2 ++ [rd_L7 x5_1 x9_2]) false (wrap64 (x9_2 + 1)) l0_0 a0_1 a0_2 a0_3) else (none)))=some r:=H
           have A19:=Aside0.mk A190
           clear A190
           by_cases c20 : t215 > 0
           ·rw [if_pos c20] at H
            have c20b0 : decide (0 < t215)=true:=decide_eq_true c20
            clear c20
            by_cases c21 : x7_2.length < 5864062014805
            ·rw [if_pos c21] at H
             have LMc21:=Aside0.mk c21
             clear c21
             obtain ⟨y221,hy221⟩ : ∃ y_ : List (List (S40)),y_=(x7_2 ++ [rd_L7 l1 x6_1]):=⟨_,rfl⟩
             replace H : (if y221.length < 5864062014805 then (thresherref09_Sort.l1 k2 l1 x5_1 x6_1 (y221 ++ [rd_L7 x5_1 x9_2]) true (wrap64 (x9_2 + 1)) l0_0 a0_1 a0_2 a0_3) else (none))=some r:=by first|(rw [hy221];with_reducible exact H)|(have H2_:=(Option.bind_some _ _).symm.trans H;rw [hy221];with_reducible exact H2_)|(have H2_:=(Option.bind_some _ _).symm.trans H;with_reducible exact H2_)|with_reducible exact H|(rw [hy221];exact H)|exact H
             have Ny221:=Aside0.mk hy221
             clear hy221
             by_cases c22 : y221.length < 5864062014805
             ·rw [if_pos c22] at H
              have LMc22:=Aside0.mk c22
              clear c22
              obtain ⟨y225,hy225⟩ : ∃ y_ : List (List (S40)),y_=(y221 ++ [rd_L7 x5_1 x9_2]):=⟨_,rfl⟩
              replace H : (thresherref09_Sort.l1 k2 l1 x5_1 x6_1 y225 true (wrap64 (x9_2 + 1)) l0_0 a0_1 a0_2 a0_3)=some r:=by first|(rw [hy225];with_reducible exact H)|(have H2_:=(Option.bind_some _ _).symm.trans H;rw [hy225];with_reducible exact H2_)|(have H2_:=(Option.bind_some _ _).symm.trans H;with_reducible exact H2_)|with_reducible exact H|(rw [hy225];exact H)|exact H
              have Ny225:=Aside0.mk hy225
              clear hy225
              have H':=Aside0.mk H
              clear H
              obtain ⟨Ao23,co23,eo23⟩:=Kd.N_slice HO_5.out
              subst eo23
              try go_wp2
              have n0_:=Aside0.mk (Kd.V_drew HO_1.out)
              have n1_:=Aside0.mk (Kd.N_drew HO_5.out)
              have n2_:=Aside0.mk (Kd.N_drew HO_7.out)
              have n3_:=Aside0.mk (blk_drew BK206.out)
              have n4_:=Aside0.mk (below_drew1 HB.out)
              clear HO_1
              clear HO_5
              clear HO_7
              clear BK206
              clear HB
              have HO_1:=n0_
              have HO_5:=n1_
              have HO_7:=n2_
              have BK206:=n3_
              have HB:=n4_
              clear n0_ n1_ n2_ n3_ n4_
              have p213 : 0≤(x9_2 : Int):=of_decide_eq_true (by first|(with_reducible assumption)|assumption)
              have q213 : x9_2 < (x5_1.length : Int):=of_decide_eq_true (by first|(with_reducible assumption)|assumption)
              obtain ⟨ad213,A213_0,c213_0,e213,hx213_0,hl213_0,hi213_0⟩:=at_L7 (Kd.N_reads' HO_5.out).2.2 x9_2 p213 q213
              cases e213
              obtain ⟨ce213,hce213,hMe213,hcc213⟩:=Kd.N_get HO_5.out [] x9_2 p213 (by first|exact q213|exact of_decide_eq_true (by first|(with_reducible assumption)|assumption)|(have e_:=(Kd.N_reads' HO_5.out).1;omega))
              obtain ⟨ua213_0,uc213_0,rfl,ul213_0,ge213_0⟩:=Kd.FK_slice_open hMe213
              have hv213_0:=hcc213 0 _ rfl
              rw [Nat.add_zero,show ((Kd.slice 40 k40)).sz=1 from rfl,Nat.mul_one] at hv213_0
              replace hv213_0:=Option.some.inj (hv213_0.symm.trans hx213_0)
              injection hv213_0 with hva_ hvn_ hvc_
              rw [hva_] at ge213_0
              rw [hvc_] at ul213_0
              have HL213_0:=Aside0.mk (show Kd.V k40 40 _ w.heap.size _ _ (rd_L7 x5_1 x9_2) from Kd.V_mk ul213_0 ge213_0)
              clear hva_ hvn_ hvc_ ge213_0 ul213_0
              clear hcc213 hce213
              have HR213_0:=Aside0.mk hi213_0
              have HC213_0:=Aside0.mk hl213_0
              clear hi213_0 hl213_0
              replace p213:=eq_true p213
              replace q213:=eq_true q213
              have p214 : 0≤(x6_1 : Int):=of_decide_eq_true (by first|(with_reducible assumption)|assumption)
              have q214 : x6_1 < (l1.length : Int):=of_decide_eq_true (by first|(with_reducible assumption)|assumption)
              obtain ⟨ad214,A214_0,c214_0,e214,hx214_0,hl214_0,hi214_0⟩:=at_L7 (Kd.V_reads' HO_1.out).2.2 x6_1 p214 q214
              cases e214
              obtain ⟨ce214,hce214,hMe214,hcc214⟩:=Kd.V_get HO_1.out [] x6_1 p214 (by first|exact q214|exact of_decide_eq_true (by first|(with_reducible assumption)|assumption)|(have e_:=(Kd.V_reads' HO_1.out).1;omega))
              obtain ⟨ua214_0,uc214_0,rfl,ul214_0,ge214_0⟩:=Kd.FK_slice_open hMe214
              have hv214_0:=hcc214 0 _ rfl
              rw [Nat.add_zero,show ((Kd.slice 40 k40)).sz=1 from rfl,Nat.mul_one] at hv214_0
              replace hv214_0:=Option.some.inj (hv214_0.symm.trans hx214_0)
              injection hv214_0 with hva_ hvn_ hvc_
              rw [hva_] at ge214_0
              rw [hvc_] at ul214_0
              have HL214_0:=Aside0.mk (show Kd.V k40 40 _ w.heap.size _ _ (rd_L7 l1 x6_1) from Kd.V_mk ul214_0 ge214_0)
              clear hva_ hvn_ hvc_ ge214_0 ul214_0
              clear hcc214 hce214
              have HR214_0:=Aside0.mk hi214_0
              have HC214_0:=Aside0.mk hl214_0
              clear hi214_0 hl214_0
              replace p214:=eq_true p214
              replace q214:=eq_true q214
              refine start_ (n:=15) (S:=fun w'=>w'.cell? ⟨gb206,0,none⟩=some (.slice A0_0 l0_0.length c0_0)∧w'.cell? ⟨gb206,1,none⟩=some (.int .i64 a0_1)∧w'.cell? ⟨gb206,2,none⟩=some (.int .i64 a0_2)∧w'.cell? ⟨gb206,3,none⟩=some (.int .i64 a0_3)∧w'.cell? (ad213.add (x9_2).toNat)=some (.slice A213_0 (rd_L7 x5_1 x9_2).length c213_0)∧w'.cell? (ad214.add (x6_1).toNat)=some (.slice A214_0 (rd_L7 l1 x6_1).length c214_0)) (ds:=[]) #[false,false,false,false,false,false,false,false,false,false,false,false,false,false,false] (by kernel_rfl) rfl rfl ⟨(blk_cell BK206.out 0).trans rfl,(blk_cell BK206.out 1).trans rfl,(blk_cell BK206.out 2).trans rfl,(blk_cell BK206.out 3).trans rfl,hx213_0,hx214_0⟩ (fun hHeld=>?_);refine with_tabW thresherref09_Sort.tab10 thresherref09_Sort.bits10 (fun HT_ HW_=>?_)
              generalize wr.drew=w24 at HO_1 HO_5 HO_7 BK206 HB HL213_0 HL214_0 HR213_0 HR214_0 hx213_0 hx214_0 hHeld ⊢
              refine pure_ (i:=0) (N:=some 24) (v:=?_) (a':=?_) #[true,false,false,false,false,false,false,false,false,false,false,false,false,false,false] rfl rfl (any_of HT_.out (by kernel_rfl)) (fun _ _ _ h=>h) (Or.inl ⟨by rfl,?_⟩) ?_ ?_
              rotate_left;(intro w';go_simp;with_reducible rfl);rotate_left;(simp only [Act.put,List.setIfInBounds_toArray,List.set_cons_zero,List.set_cons_succ,i64_w,i32_w];rfl)
              refine pure_ (i:=1) (N:=some 25) (v:=?_) (a':=?_) #[true,true,false,false,false,false,false,false,false,false,false,false,false,false,false] rfl rfl (any_of HT_.out (by kernel_rfl)) (fun _ _ _ h=>h) (Or.inl ⟨by rfl,?_⟩) ?_ ?_
              rotate_left;(intro w';go_simp;with_reducible rfl);rotate_left;(simp only [Act.put,List.setIfInBounds_toArray,List.set_cons_zero,List.set_cons_succ,i64_w,i32_w];rfl)
              refine pure_ (i:=2) (N:=some 26) (v:=?_) (a':=?_) #[true,true,true,false,false,false,false,false,false,false,false,false,false,false,false] rfl rfl (any_of HT_.out (by kernel_rfl)) (fun _ _ _ h=>h) (Or.inl ⟨by rfl,?_⟩) ?_ ?_
              rotate_left;(intro w';go_simp;with_reducible rfl);rotate_left;(simp only [Act.put,List.setIfInBounds_toArray,List.set_cons_zero,List.set_cons_succ,i64_w,i32_w];rfl)
              refine pure_ (i:=4) (N:=some 28) (v:=?_) (a':=?_) #[true,true,true,false,true,false,false,false,false,false,false,false,false,false,false] rfl rfl (any_of HT_.out (by kernel_rfl)) (fun _ _ _ h=>h) (Or.inl ⟨by rfl,?_⟩) ?_ ?_
              rotate_left;(intro w';go_simp;with_reducible rfl);rotate_left;(simp only [Act.put,List.setIfInBounds_toArray,List.set_cons_zero,List.set_cons_succ,i64_w,i32_w];rfl)
              refine pure_ (i:=5) (N:=some 29) (v:=?_) (a':=?_) #[true,true,true,false,true,true,false,false,false,false,false,false,false,false,false] rfl rfl (any_of HT_.out (by kernel_rfl)) (fun _ _ _ h=>h) (Or.inl ⟨by rfl,?_⟩) ?_ ?_
              rotate_left;(intro w';go_simp;with_reducible rfl);rotate_left;(simp only [Act.put,List.setIfInBounds_toArray,List.set_cons_zero,List.set_cons_succ,i64_w,i32_w];rfl)
              refine pure_ (i:=6) (N:=some 30) (v:=?_) (a':=?_) #[true,true,true,false,true,true,true,false,false,false,false,false,false,false,false] rfl rfl (any_of HT_.out (by kernel_rfl)) (fun _ _ _ h=>h) (Or.inl ⟨by rfl,?_⟩) ?_ ?_
              rotate_left;(intro w';go_simp;with_reducible rfl);rotate_left;(simp only [Act.put,List.setIfInBounds_toArray,List.set_cons_zero,List.set_cons_succ,i64_w,i32_w];rfl)
              refine pure_ (i:=8) (N:=some 32) (v:=?_) (a':=?_) #[true,true,true,false,true,true,true,false,true,false,false,false,false,false,false] rfl rfl (any_of HT_.out (by kernel_rfl)) (fun _ _ _ h=>h) (Or.inl ⟨by rfl,?_⟩) ?_ ?_
              rotate_left;(intro w';go_simp;with_reducible rfl);rotate_left;(simp only [Act.put,List.setIfInBounds_toArray,List.set_cons_zero,List.set_cons_succ,i64_w,i32_w];rfl)
              refine pure_ (i:=9) (N:=some 33) (v:=?_) (a':=?_) #[true,true,true,false,true,true,true,false,true,true,false,false,false,false,false] rfl rfl (any_of HT_.out (by kernel_rfl)) (fun _ _ _ h=>h) (Or.inl ⟨by rfl,?_⟩) ?_ ?_
              rotate_left;(intro w';go_simp;with_reducible rfl);rotate_left;(simp only [Act.put,List.setIfInBounds_toArray,List.set_cons_zero,List.set_cons_succ,i64_w,i32_w];rfl)
              refine pure_ (i:=10) (N:=some 34) (v:=?_) (a':=?_) #[true,true,true,false,true,true,true,false,true,true,true,false,false,false,false] rfl rfl (any_of HT_.out (by kernel_rfl)) (fun _ _ _ h=>h) (Or.inl ⟨by rfl,?_⟩) ?_ ?_
              rotate_left;(intro w';go_simp;with_reducible rfl);rotate_left;(simp only [Act.put,List.setIfInBounds_toArray,List.set_cons_zero,List.set_cons_succ,i64_w,i32_w];rfl)
              refine take_ (i:=3) (N:=some 27) (v:=?_) (a':=?_) #[true,true,true,true,true,true,true,false,true,true,true,false,false,false,false] rfl rfl (take_ofW HT_.out HW_.out (by kernel_rfl)) (fun _ _ _ h=>h) (Or.inl ⟨by rfl,?_⟩) hHeld ?_ ?_
              rotate_left;(rintro w' ⟨s0,s1,s2,s3,s4,s5⟩;go_simp;with_reducible rfl);rotate_left;(simp only [Act.put,List.setIfInBounds_toArray,List.set_cons_zero,List.set_cons_succ,i64_w,i32_w];rfl)
              refine take_ (i:=7) (N:=some 31) (v:=?_) (a':=?_) #[true,true,true,true,true,true,true,true,true,true,true,false,false,false,false] rfl rfl (take_ofW HT_.out HW_.out (by kernel_rfl)) (fun _ _ _ h=>h) (Or.inl ⟨by rfl,?_⟩) hHeld ?_ ?_
              rotate_left;(rintro w' ⟨s0,s1,s2,s3,s4,s5⟩;go_simp;with_reducible rfl);rotate_left;(simp only [Act.put,List.setIfInBounds_toArray,List.set_cons_zero,List.set_cons_succ,i64_w,i32_w];rfl)
              refine take_ (i:=11) (N:=some 35) (v:=?_) (a':=?_) #[true,true,true,true,true,true,true,true,true,true,true,true,false,false,false] rfl rfl (take_ofW HT_.out HW_.out (by kernel_rfl)) (fun _ _ _ h=>h) (Or.inl ⟨by rfl,?_⟩) hHeld ?_ ?_
              rotate_left;(rintro w' ⟨s0,s1,s2,s3,s4,s5⟩;go_simp;with_reducible rfl);rotate_left;(simp only [Act.put,List.setIfInBounds_toArray,List.set_cons_zero,List.set_cons_succ,i64_w,i32_w];rfl)
              refine one_ (i:=12) (N:=some 36) #[true,true,true,true,true,true,true,true,true,true,true,true,true,false,false] rfl rfl (one_of HT_.out (by kernel_rfl)) (by decide) (fun K hK=>?_)
              refine goes_ Try.func23 (by kernel_rfl) rfl #[.agg #[.slice A0_0 l0_0.length c0_0,.int .i64 a0_1,.int .i64 a0_2,.int .i64 a0_3],.slice A213_0 (rd_L7 x5_1 x9_2).length c213_0,.slice A214_0 (rd_L7 l1 x6_1).length c214_0] (by rfl) rfl rfl (by (try simp only [List.map_toArray,List.map_cons,List.map_nil]);first|done|rfl|(simp only [List.length_drop,List.length_take];rfl)) ?_
              with_reducible refine (thresherref04_Compare.calls k2 _ _ l0_0 a0_1 a0_2 a0_3 _ _ (rd_L7 x5_1 x9_2) _ _ (rd_L7 l1 x6_1) t215 _ ?side1 ?side2 ?side3 ?side4 ?side5 ?side6 A19.out).mono ?_
              (case side1=>repeat (first|exact (Kd.C_below HR0_0.out HB.out)|(with_reducible refine Kd.C_alloc ?_ _)|(with_reducible refine Kd.C_drewN ?_ _)|(with_reducible refine Kd.C_drew ?_)))
              (case side2=>exact HC0_0.out)
              (case side3=>repeat (first|exact (by repeat (first|(with_reducible exact HR213_0.out)|(with_reducible refine Kd.C_alloc ?_ _)|(with_reducible refine Kd.C_drewN ?_ _)|(with_reducible refine Kd.C_drew ?_)|exact HR213_0.out))|(with_reducible refine Kd.C_alloc ?_ _)|(with_reducible refine Kd.C_drewN ?_ _)|(with_reducible refine Kd.C_drew ?_)))
              (case side4=>exact HC213_0.out)
              (case side5=>repeat (first|exact (by repeat (first|(with_reducible exact HR214_0.out)|(with_reducible refine Kd.C_alloc ?_ _)|(with_reducible refine Kd.C_drewN ?_ _)|(with_reducible refine Kd.C_drew ?_)|exact HR214_0.out))|(with_reducible refine Kd.C_alloc ?_ _)|(with_reducible refine Kd.C_drewN ?_ _)|(with_reducible refine Kd.C_drew ?_)))
              (case side6=>exact HC214_0.out)
              rintro e w25 ⟨rfl,hb⟩
              have HS4_:=(hb.cell (World.block_lt_of_cell? _ _ (hHeld.2.2.2.2.1))).trans (hHeld.2.2.2.2.1)
              have HS5_:=(hb.cell (World.block_lt_of_cell? _ _ (hHeld.2.2.2.2.2))).trans (hHeld.2.2.2.2.2)
              refine ⟨_,rfl,?_⟩
              have n0_:=Aside0.mk (Kd.V_below (V_up HO_1.out) hb)
              have n1_:=Aside0.mk (Kd.N_below (N_up HO_5.out) hb)
              have n2_:=Aside0.mk (Kd.N_below (N_up HO_7.out) hb)
              have n3_:=Aside0.mk (Kd.V_below (by (with_reducible repeat (first|apply Kd.V_alloc|apply Kd.V_drewN|apply Kd.V_drew));exact HL213_0.out) hb)
              have n4_:=Aside0.mk (Kd.V_below (by (with_reducible repeat (first|apply Kd.V_alloc|apply Kd.V_drewN|apply Kd.V_drew));exact HL214_0.out) hb)
              have n5_:=Aside0.mk (blk_below (blk_up BK206.out) hb)
              have n6_:=Aside0.mk (Kd.C_below (by repeat (first|(with_reducible exact HR213_0.out)|(with_reducible refine Kd.C_alloc ?_ _)|(with_reducible refine Kd.C_drewN ?_ _)|(with_reducible refine Kd.C_drew ?_)|exact HR213_0.out)) hb)
              have n7_:=Aside0.mk (Kd.C_below (by repeat (first|(with_reducible exact HR214_0.out)|(with_reducible refine Kd.C_alloc ?_ _)|(with_reducible refine Kd.C_drewN ?_ _)|(with_reducible refine Kd.C_drew ?_)|exact HR214_0.out)) hb)
              have n8_:=Aside0.mk (below_step (below_go HB.out) hb)
              clear HO_1
              clear HO_5
              clear HO_7
              clear HL213_0
              clear HL214_0
              clear BK206
              clear HR213_0
              clear HR214_0
              clear HB
              have HO_1:=n0_
              have HO_5:=n1_
              have HO_7:=n2_
              have HL213_0:=n3_
              have HL214_0:=n4_
              have BK206:=n5_
              have HR213_0:=n6_
              have HR214_0:=n7_
              have HB:=n8_
              clear n0_ n1_ n2_ n3_ n4_ n5_ n6_ n7_ n8_
              (try clear hb)
              (try clear hb2)
              (try clear hk)
              (try clear hi)
              refine hK.out _ _ ⟨(blk_cell BK206.out 0).trans rfl,(blk_cell BK206.out 1).trans rfl,(blk_cell BK206.out 2).trans rfl,(blk_cell BK206.out 3).trans rfl,HS4_,HS5_⟩ (fun hHeld=>?_)
              clear hK K
              refine norm_ (a':=?_) ?_ ?_
              rotate_left
              ·show Act.put _ (some 36) _=_
               simp only [Act.put,List.setIfInBounds_toArray,List.set_cons_zero,List.set_cons_succ,i64_w,i32_w]
               rfl
              refine pure_ (i:=13) (N:=some 37) (v:=?_) (a':=?_) #[true,true,true,true,true,true,true,true,true,true,true,true,true,true,false] rfl rfl (any_of HT_.out (by kernel_rfl)) (fun _ _ _ h=>h) (Or.inl ⟨by rfl,?_⟩) ?_ ?_
              rotate_left;(intro w';go_simp;with_reducible rfl);rotate_left;(simp only [Act.put,List.setIfInBounds_toArray,List.set_cons_zero,List.set_cons_succ,i64_w,i32_w];rfl)
              refine pure_ (i:=14) (N:=some 38) (v:=?_) (a':=?_) #[true,true,true,true,true,true,true,true,true,true,true,true,true,true,true] rfl rfl (any_of HT_.out (by kernel_rfl)) (fun _ _ _ h=>h) (Or.inl ⟨by rfl,?_⟩) ?_ ?_
              rotate_left;(intro w';go_simp;with_reducible rfl);rotate_left;(simp only [Act.put,List.setIfInBounds_toArray,List.set_cons_zero,List.set_cons_succ,i64_w,i32_w];rfl)
              refine done_ (done_of HT_.out (by kernel_rfl)) ?_
              (try clear HS4_);(try clear HS5_);(try clear hHeld)
              have p220 : 0≤(x6_1 : Int):=of_decide_eq_true (by first|(with_reducible assumption)|assumption)
              have q220 : x6_1 < (l1.length : Int):=of_decide_eq_true (by first|(with_reducible assumption)|assumption)
              obtain ⟨ad220,A220_0,c220_0,e220,hx220_0,hl220_0,hi220_0⟩:=at_L7 (Kd.V_reads' HO_1.out).2.2 x6_1 p220 q220
              obtain rfl : ad214=ad220:=(by injection e220)
              obtain ⟨ce220,hce220,hMe220,hcc220⟩:=Kd.V_get HO_1.out [] x6_1 p220 (by first|exact q220|exact of_decide_eq_true (by first|(with_reducible assumption)|assumption)|(have e_:=(Kd.V_reads' HO_1.out).1;omega))
              obtain ⟨ua220_0,uc220_0,rfl,ul220_0,ge220_0⟩:=Kd.FK_slice_open hMe220
              have hv220_0:=hcc220 0 _ rfl
              rw [Nat.add_zero,show ((Kd.slice 40 k40)).sz=1 from rfl,Nat.mul_one] at hv220_0
              replace hv220_0:=Option.some.inj (hv220_0.symm.trans hx220_0)
              injection hv220_0 with hva_ hvn_ hvc_
              rw [hva_] at ge220_0
              rw [hvc_] at ul220_0
              have HL220_0:=Aside0.mk (show Kd.V k40 40 _ w.heap.size _ _ (rd_L7 l1 x6_1) from Kd.V_mk ul220_0 ge220_0)
              clear hva_ hvn_ hvc_ ge220_0 ul220_0
              clear hcc220 hce220
              have HR220_0:=Aside0.mk hi220_0
              have HC220_0:=Aside0.mk hl220_0
              clear hi220_0 hl220_0
              replace p220:=eq_true p220
              replace q220:=eq_true q220
              try go_wp2_with (first|((with_reducible refine gate_builtin (b:=.append) (xs:=#[.tmp 39,.tmp 44]) rfl ?_);at_builtin;refine Kd.N_append (Kd.slice 40 k40) (w0:=w) w.heap.size rfl (.tmp 39) (.tmp 44) 25 44 (.slice none 0 0) 24 rfl Try.underlying25 info44 rfl (by decide) (by omega) u7 x7_2 (rd_L7 l1 x6_1) [.slice A220_0 (rd_L7 l1 x6_1).length c220_0] (fun k_=>(P1_ k_ ∨ w.heap.size≤k_)∧some k_≠(.slice (some ad213) x5_1.length co23 : Value).ownBlock∧k_≠gb206) (fun k_=>((fun k_=>(P1_ k_ ∨ w.heap.size≤k_)∧some k_≠(.slice (some ad213) x5_1.length co23 : Value).ownBlock∧k_≠gb206)) k_∧some k_≠(u7 : Value).ownBlock) rfl rfl ?aP (fun _ hk=>hk) ?aF ?aO ?aB ?aS ?aL ?_;(case aP=>exact (Kd.FK_slice_mk (Kd.V_reads' (Kd.V_mono (ok':=(fun k_=>((fun k_=>(P1_ k_ ∨ w.heap.size≤k_)∧some k_≠(.slice (some ad213) x5_1.length co23 : Value).ownBlock∧k_≠gb206)) k_∧some k_≠(u7 : Value).ownBlock)) (HL220_0.out) (fun k_ hk=>⟨⟨hk.1,⟨hk.2.1,hk.2.2.2⟩⟩,hk.2.2.1⟩))).2.1 (Kd.V_F (Kd.V_mono (ok':=(fun k_=>((fun k_=>(P1_ k_ ∨ w.heap.size≤k_)∧some k_≠(.slice (some ad213) x5_1.length co23 : Value).ownBlock∧k_≠gb206)) k_∧some k_≠(u7 : Value).ownBlock)) (HL220_0.out) (fun k_ hk=>⟨⟨hk.1,⟨hk.2.1,hk.2.2.2⟩⟩,hk.2.2.1⟩)))));(case aB=>exact (below_go HB.out));(case aF=>exact (fun k_ hk=>⟨(.inr (Nat.le_trans (below_size (below_go HB.out)) hk)),Kd.fresh' (Kd.N_lt (N_up HO_5.out)) k_ hk,Kd.freshB (blk_up BK206.out) k_ hk⟩));(case aO=>exact (N_up HO_7.out));(case aS=>exact (below_size (below_go HB.out)));(case aL=>have:=LMc21.out;omega);intro v222 w26 ho hb hg hat;rw [← Ny221.out] at ho;have n0_:=Aside0.mk (Kd.V_afterv (ok:=(fun k_=>(P1_ k_ ∨ w.heap.size≤k_)∧some k_≠(.slice (some ad213) x5_1.length co23 : Value).ownBlock∧k_≠gb206)) (V_upm HO_1.out (fun _ hk=>⟨⟨hk.1,⟨hk.2.1,hk.2.2.2⟩⟩,hk.2.2.1⟩)) hg hat);have n1_:=Aside0.mk (Kd.N_afterv (ok:=(fun k_=>(P1_ k_ ∨ w.heap.size≤k_)∧k_≠gb206)) (N_upm HO_5.out (fun _ hk=>⟨⟨hk.1,hk.2.2⟩,hk.2.1⟩)) hg hat);have n2_:=Aside0.mk (blk_grown (blk_up BK206.out) hg (Kd.N_ne HO_7.out BK206.out (by decide)));have n3_:=Aside0.mk (Kd.V_afterv (ok:=(fun k_=>(P1_ k_ ∨ w.heap.size≤k_)∧some k_≠(.slice (some ad213) x5_1.length co23 : Value).ownBlock∧k_≠gb206)) (V_upm HL213_0.out (fun _ hk=>⟨⟨hk.1.1,⟨hk.2,hk.1.2.2⟩⟩,hk.1.2.1⟩)) hg hat);have n4_:=Aside0.mk (Kd.V_afterv (ok:=(fun k_=>(P1_ k_ ∨ w.heap.size≤k_)∧some k_≠(.slice (some ad213) x5_1.length co23 : Value).ownBlock∧k_≠gb206)) (V_upm HL214_0.out (fun _ hk=>⟨⟨hk.1,⟨hk.2.1,hk.2.2.2⟩⟩,hk.2.2.1⟩)) hg hat);have n5_:=Aside0.mk (Kd.V_afterv (ok:=(fun k_=>(P1_ k_ ∨ w.heap.size≤k_)∧some k_≠(.slice (some ad213) x5_1.length co23 : Value).ownBlock∧k_≠gb206)) (V_upm HL220_0.out (fun _ hk=>⟨⟨hk.1,⟨hk.2.1,hk.2.2.2⟩⟩,hk.2.2.1⟩)) hg hat);have n6_:=Aside0.mk (hb);have n7_:=Aside0.mk (ho);clear HO_1;clear HO_5;clear BK206;clear HL213_0;clear HL214_0;clear HL220_0;clear HB;clear HO_7;have HO_1:=n0_;have HO_5:=n1_;have BK206:=n2_;have HL213_0:=n3_;have HL214_0:=n4_;have HL220_0:=n5_;have HB:=n6_;have HO223:=n7_;clear n0_ n1_ n2_ n3_ n4_ n5_ n6_ n7_;clear ho hb hg hat;have p224 : 0≤(x9_2 : Int):=of_decide_eq_true (by first|(with_reducible assumption)|assumption);have q224 : x9_2 < (x5_1.length : Int):=of_decide_eq_true (by first|(with_reducible assumption)|assumption);obtain ⟨ad224,A224_0,c224_0,e224,hx224_0,hl224_0,hi224_0⟩:=at_L7 (Kd.N_reads' HO_5.out).2.2 x9_2 p224 q224;obtain rfl : ad213=ad224:=(by injection e224);obtain ⟨ce224,hce224,hMe224,hcc224⟩:=Kd.N_get HO_5.out [] x9_2 p224 (by first|exact q224|exact of_decide_eq_true (by first|(with_reducible assumption)|assumption)|(have e_:=(Kd.N_reads' HO_5.out).1;omega));obtain ⟨ua224_0,uc224_0,rfl,ul224_0,ge224_0⟩:=Kd.FK_slice_open hMe224;have hv224_0:=hcc224 0 _ rfl;rw [Nat.add_zero,show ((Kd.slice 40 k40)).sz=1 from rfl,Nat.mul_one] at hv224_0;replace hv224_0:=Option.some.inj (hv224_0.symm.trans hx224_0);injection hv224_0 with hva_ hvn_ hvc_;rw [hva_] at ge224_0;rw [hvc_] at ul224_0;have HL224_0:=Aside0.mk (show Kd.V k40 40 _ w.heap.size _ _ (rd_L7 x5_1 x9_2) from Kd.V_mk ul224_0 ge224_0);clear hva_ hvn_ hvc_ ge224_0 ul224_0;clear hcc224 hce224;have HR224_0:=Aside0.mk hi224_0;have HC224_0:=Aside0.mk hl224_0;clear hi224_0 hl224_0;replace p224:=eq_true p224;replace q224:=eq_true q224)|((with_reducible refine gate_builtin (b:=.append) (xs:=#[.tmp 46,.tmp 51]) rfl ?_);at_builtin;refine Kd.N_append (Kd.slice 40 k40) (w0:=w) w.heap.size rfl (.tmp 46) (.tmp 51) 25 44 (.slice none 0 0) 24 rfl Try.underlying25 info44 rfl (by decide) (by omega) v222 y221 (rd_L7 x5_1 x9_2) [.slice A224_0 (rd_L7 x5_1 x9_2).length c224_0] (fun k_=>(P1_ k_ ∨ w.heap.size≤k_)∧some k_≠(.slice (some ad213) x5_1.length co23 : Value).ownBlock∧k_≠gb206) (fun k_=>((fun k_=>(P1_ k_ ∨ w.heap.size≤k_)∧some k_≠(.slice (some ad213) x5_1.length co23 : Value).ownBlock∧k_≠gb206)) k_∧some k_≠(v222 : Value).ownBlock) rfl rfl ?aP (fun _ hk=>hk) ?aF ?aO ?aB ?aS ?aL ?_;(case aP=>exact (Kd.FK_slice_mk (Kd.V_reads' (Kd.V_mono (ok':=(fun k_=>((fun k_=>(P1_ k_ ∨ w.heap.size≤k_)∧some k_≠(.slice (some ad213) x5_1.length co23 : Value).ownBlock∧k_≠gb206)) k_∧some k_≠(v222 : Value).ownBlock)) (HL224_0.out) (fun k_ hk=>⟨⟨hk.1.1.1,⟨hk.2,hk.1.1.2⟩⟩,hk.1.2⟩))).2.1 (Kd.V_F (Kd.V_mono (ok':=(fun k_=>((fun k_=>(P1_ k_ ∨ w.heap.size≤k_)∧some k_≠(.slice (some ad213) x5_1.length co23 : Value).ownBlock∧k_≠gb206)) k_∧some k_≠(v222 : Value).ownBlock)) (HL224_0.out) (fun k_ hk=>⟨⟨hk.1.1.1,⟨hk.2,hk.1.1.2⟩⟩,hk.1.2⟩)))));(case aB=>exact (below_go HB.out));(case aF=>exact (fun k_ hk=>⟨(.inr (Nat.le_trans (below_size (below_go HB.out)) hk)),Kd.fresh' (Kd.N_lt (N_up HO_5.out)) k_ hk,Kd.freshB (blk_up BK206.out) k_ hk⟩));(case aO=>exact (N_up HO223.out));(case aS=>exact (below_size (below_go HB.out)));(case aL=>have:=LMc22.out;omega);intro v226 w27 ho hb hg hat;rw [← Ny225.out] at ho;have n0_:=Aside0.mk (Kd.V_afterv (ok:=(fun k_=>(P1_ k_ ∨ w.heap.size≤k_)∧some k_≠(.slice (some ad213) x5_1.length co23 : Value).ownBlock∧k_≠gb206)) (V_up HO_1.out) hg hat);have n1_:=Aside0.mk (Kd.N_afterv (ok:=(fun k_=>(P1_ k_ ∨ w.heap.size≤k_)∧k_≠gb206)) (N_up HO_5.out) hg hat);have n2_:=Aside0.mk (blk_grown (blk_up BK206.out) hg (Kd.N_ne HO223.out BK206.out (by decide)));have n3_:=Aside0.mk (Kd.V_afterv (ok:=(fun k_=>(P1_ k_ ∨ w.heap.size≤k_)∧some k_≠(.slice (some ad213) x5_1.length co23 : Value).ownBlock∧k_≠gb206)) (by (with_reducible repeat (first|apply Kd.V_alloc|apply Kd.V_drewN|apply Kd.V_drew));exact HL213_0.out) hg hat);have n4_:=Aside0.mk (Kd.V_afterv (ok:=(fun k_=>(P1_ k_ ∨ w.heap.size≤k_)∧some k_≠(.slice (some ad213) x5_1.length co23 : Value).ownBlock∧k_≠gb206)) (by (with_reducible repeat (first|apply Kd.V_alloc|apply Kd.V_drewN|apply Kd.V_drew));exact HL214_0.out) hg hat);have n5_:=Aside0.mk (Kd.V_afterv (ok:=(fun k_=>(P1_ k_ ∨ w.heap.size≤k_)∧some k_≠(.slice (some ad213) x5_1.length co23 : Value).ownBlock∧k_≠gb206)) (by (with_reducible repeat (first|apply Kd.V_alloc|apply Kd.V_drewN|apply Kd.V_drew));exact HL220_0.out) hg hat);have n6_:=Aside0.mk (Kd.V_afterv (ok:=(fun k_=>(P1_ k_ ∨ w.heap.size≤k_)∧some k_≠(.slice (some ad213) x5_1.length co23 : Value).ownBlock∧k_≠gb206)) (V_upm HL224_0.out (fun _ hk=>⟨⟨hk.1.1.1,⟨hk.2,hk.1.1.2⟩⟩,hk.1.2⟩)) hg hat);have n7_:=Aside0.mk (hb);have n8_:=Aside0.mk (ho);clear HO_1;clear HO_5;clear BK206;clear HL213_0;clear HL214_0;clear HL220_0;clear HL224_0;clear HB;clear HO223;have HO_1:=n0_;have HO_5:=n1_;have BK206:=n2_;have HL213_0:=n3_;have HL214_0:=n4_;have HL220_0:=n5_;have HL224_0:=n6_;have HB:=n7_;have HO227:=n8_;clear n0_ n1_ n2_ n3_ n4_ n5_ n6_ n7_ n8_;clear ho hb hg hat))
              go_roundg k2
              case measure=>have:=HK1.out;have:=HK2.out;omega
              case rel=>exact ⟨(y225),(true),(wrap64 (x9_2 + 1)),(by first|rfl|(simp;done)|(simp [*];done)),(by first|rfl|(simp;done)|(simp [*];done)),(by first|exact H'|(subst_vars;exact H')),⟨by have:=HK1.out;have:=HK2.out;omega⟩,⟨by (with_reducible repeat (first|apply Kd.V_alloc|apply Kd.V_drewN|apply Kd.V_drew));exact Kd.V_mono HO_1.out (fun _ hk=>⟨hk.1.1,⟨hk.1.2.1,⟨hk.2,hk.1.2.2⟩⟩⟩)⟩,⟨by (with_reducible repeat (first|apply Kd.N_alloc|apply Kd.N_drewN|apply Kd.N_drew));exact Kd.N_mono HO_5.out (fun _ hk=>⟨hk.1.1,⟨hk.2,hk.1.2⟩⟩)⟩,⟨by (with_reducible repeat (first|apply Kd.N_alloc|apply Kd.N_drewN|apply Kd.N_drew));exact HO227.out⟩,⟨by (with_reducible repeat (first|refine blk_drewN ?_ _|refine blk_drew ?_|refine blk_alloc ?_ _));exact BK206.out⟩,⟨by repeat (first|(with_reducible first|exact HB.out|apply below_alloc|apply pw_below_drewN|apply below_drew1|refine below_set ?_ GE206.out)|exact HB.out)⟩⟩
             ·rw [if_neg c22] at H
              exact absurd H (by simp)
            ·rw [if_neg c21] at H
             exact absurd H (by simp)
           ·rw [if_neg c20] at H
            have c20b0 : decide (0 < t215)=false:=decide_eq_false c20
            clear c20
            by_cases c28 : x7_2.length < 5864062014805
            ·rw [if_pos c28] at H
             have LMc28:=Aside0.mk c28
             clear c28
             obtain ⟨y229,hy229⟩ : ∃ y_ : List (List (S40)),y_=(x7_2 ++ [rd_L7 x5_1 x9_2]):=⟨_,rfl⟩
             replace H : (thresherref09_Sort.l1 k2 l1 x5_1 x6_1 y229 false (wrap64 (x9_2 + 1)) l0_0 a0_1 a0_2 a0_3)=some r:=by first|(rw [hy229];with_reducible exact H)|(have H2_:=(Option.bind_some _ _).symm.trans H;rw [hy229];with_reducible exact H2_)|(have H2_:=(Option.bind_some _ _).symm.trans H;with_reducible exact H2_)|with_reducible exact H|(rw [hy229];exact H)|exact H
             have Ny229:=Aside0.mk hy229
             clear hy229
             have H':=Aside0.mk H
             clear H
             obtain ⟨Ao29,co29,eo29⟩:=Kd.N_slice HO_5.out
             subst eo29
             try go_wp2
             have n0_:=Aside0.mk (Kd.V_drew HO_1.out)
             have n1_:=Aside0.mk (Kd.N_drew HO_5.out)
             have n2_:=Aside0.mk (Kd.N_drew HO_7.out)
             have n3_:=Aside0.mk (blk_drew BK206.out)
             have n4_:=Aside0.mk (below_drew1 HB.out)
             clear HO_1
             clear HO_5
             clear HO_7
             clear BK206
             clear HB
             have HO_1:=n0_
             have HO_5:=n1_
             have HO_7:=n2_
             have BK206:=n3_
             have HB:=n4_
             clear n0_ n1_ n2_ n3_ n4_
             have p213 : 0≤(x9_2 : Int):=of_decide_eq_true (by first|(with_reducible assumption)|assumption)
             have q213 : x9_2 < (x5_1.length : Int):=of_decide_eq_true (by first|(with_reducible assumption)|assumption)
             obtain ⟨ad213,A213_0,c213_0,e213,hx213_0,hl213_0,hi213_0⟩:=at_L7 (Kd.N_reads' HO_5.out).2.2 x9_2 p213 q213
             cases e213
             obtain ⟨ce213,hce213,hMe213,hcc213⟩:=Kd.N_get HO_5.out [] x9_2 p213 (by first|exact q213|exact of_decide_eq_true (by first|(with_reducible assumption)|assumption)|(have e_:=(Kd.N_reads' HO_5.out).1;omega))
             obtain ⟨ua213_0,uc213_0,rfl,ul213_0,ge213_0⟩:=Kd.FK_slice_open hMe213
             have hv213_0:=hcc213 0 _ rfl
             rw [Nat.add_zero,show ((Kd.slice 40 k40)).sz=1 from rfl,Nat.mul_one] at hv213_0
             replace hv213_0:=Option.some.inj (hv213_0.symm.trans hx213_0)
             injection hv213_0 with hva_ hvn_ hvc_
             rw [hva_] at ge213_0
             rw [hvc_] at ul213_0
             have HL213_0:=Aside0.mk (show Kd.V k40 40 _ w.heap.size _ _ (rd_L7 x5_1 x9_2) from Kd.V_mk ul213_0 ge213_0)
             clear hva_ hvn_ hvc_ ge213_0 ul213_0
             clear hcc213 hce213
             have HR213_0:=Aside0.mk hi213_0
             have HC213_0:=Aside0.mk hl213_0
             clear hi213_0 hl213_0
             replace p213:=eq_true p213
             replace q213:=eq_true q213
             have p214 : 0≤(x6_1 : Int):=of_decide_eq_true (by first|(with_reducible assumption)|assumption)
             have q214 : x6_1 < (l1.length : Int):=of_decide_eq_true (by first|(with_reducible assumption)|assumption)
             obtain ⟨ad214,A214_0,c214_0,e214,hx214_0,hl214_0,hi214_0⟩:=at_L7 (Kd.V_reads' HO_1.out).2.2 x6_1 p214 q214
             cases e214
             obtain ⟨ce214,hce214,hMe214,hcc214⟩:=Kd.V_get HO_1.out [] x6_1 p214 (by first|exact q214|exact of_decide_eq_true (by first|(with_reducible assumption)|assumption)|(have e_:=(Kd.V_reads' HO_1.out).1;omega))
             obtain ⟨ua214_0,uc214_0,rfl,ul214_0,ge214_0⟩:=Kd.FK_slice_open hMe214
             have hv214_0:=hcc214 0 _ rfl
             rw [Nat.add_zero,show ((Kd.slice 40 k40)).sz=1 from rfl,Nat.mul_one] at hv214_0
             replace hv214_0:=Option.some.inj (hv214_0.symm.trans hx214_0)
             injection hv214_0 with hva_ hvn_ hvc_
             rw [hva_] at ge214_0
             rw [hvc_] at ul214_0
             have HL214_0:=Aside0.mk (show Kd.V k40 40 _ w.heap.size _ _ (rd_L7 l1 x6_1) from Kd.V_mk ul214_0 ge214_0)
             clear hva_ hvn_ hvc_ ge214_0 ul214_0
             clear hcc214 hce214
             have HR214_0:=Aside0.mk hi214_0
             have HC214_0:=Aside0.mk hl214_0
             clear hi214_0 hl214_0
             replace p214:=eq_true p214
             replace q214:=eq_true q214
             refine start_ (n:=15) (S:=fun w'=>w'.cell? ⟨gb206,0,none⟩=some (.slice A0_0 l0_0.length c0_0)∧w'.cell? ⟨gb206,1,none⟩=some (.int .i64 a0_1)∧w'.cell? ⟨gb206,2,none⟩=some (.int .i64 a0_2)∧w'.cell? ⟨gb206,3,none⟩=some (.int .i64 a0_3)∧w'.cell? (ad213.add (x9_2).toNat)=some (.slice A213_0 (rd_L7 x5_1 x9_2).length c213_0)∧w'.cell? (ad214.add (x6_1).toNat)=some (.slice A214_0 (rd_L7 l1 x6_1).length c214_0)) (ds:=[]) #[false,false,false,false,false,false,false,false,false,false,false,false,false,false,false] (by kernel_rfl) rfl rfl ⟨(blk_cell BK206.out 0).trans rfl,(blk_cell BK206.out 1).trans rfl,(blk_cell BK206.out 2).trans rfl,(blk_cell BK206.out 3).trans rfl,hx213_0,hx214_0⟩ (fun hHeld=>?_);refine with_tabW thresherref09_Sort.tab10 thresherref09_Sort.bits10 (fun HT_ HW_=>?_)
             generalize wr.drew=w30 at HO_1 HO_5 HO_7 BK206 HB HL213_0 HL214_0 HR213_0 HR214_0 hx213_0 hx214_0 hHeld ⊢
             refine pure_ (i:=0) (N:=some 24) (v:=?_) (a':=?_) #[true,false,false,false,false,false,false,false,false,false,false,false,false,false,false] rfl rfl (any_of HT_.out (by kernel_rfl)) (fun _ _ _ h=>h) (Or.inl ⟨by rfl,?_⟩) ?_ ?_
             rotate_left;(intro w';go_simp;with_reducible rfl);rotate_left;(simp only [Act.put,List.setIfInBounds_toArray,List.set_cons_zero,List.set_cons_succ,i64_w,i32_w];rfl)
             refine pure_ (i:=1) (N:=some 25) (v:=?_) (a':=?_) #[true,true,false,false,false,false,false,false,false,false,false,false,false,false,false] rfl rfl (any_of HT_.out (by kernel_rfl)) (fun _ _ _ h=>h) (Or.inl ⟨by rfl,?_⟩) ?_ ?_
             rotate_left;(intro w';go_simp;with_reducible rfl);rotate_left;(simp only [Act.put,List.setIfInBounds_toArray,List.set_cons_zero,List.set_cons_succ,i64_w,i32_w];rfl)
             refine pure_ (i:=2) (N:=some 26) (v:=?_) (a':=?_) #[true,true,true,false,false,false,false,false,false,false,false,false,false,false,false] rfl rfl (any_of HT_.out (by kernel_rfl)) (fun _ _ _ h=>h) (Or.inl ⟨by rfl,?_⟩) ?_ ?_
             rotate_left;(intro w';go_simp;with_reducible rfl);rotate_left;(simp only [Act.put,List.setIfInBounds_toArray,List.set_cons_zero,List.set_cons_succ,i64_w,i32_w];rfl)
             refine pure_ (i:=4) (N:=some 28) (v:=?_) (a':=?_) #[true,true,true,false,true,false,false,false,false,false,false,false,false,false,false] rfl rfl (any_of HT_.out (by kernel_rfl)) (fun _ _ _ h=>h) (Or.inl ⟨by rfl,?_⟩) ?_ ?_
             rotate_left;(intro w';go_simp;with_reducible rfl);rotate_left;(simp only [Act.put,List.setIfInBounds_toArray,List.set_cons_zero,List.set_cons_succ,i64_w,i32_w];rfl)
             refine pure_ (i:=5) (N:=some 29) (v:=?_) (a':=?_) #[true,true,true,false,true,true,false,false,false,false,false,false,false,false,false] rfl rfl (any_of HT_.out (by kernel_rfl)) (fun _ _ _ h=>h) (Or.inl ⟨by rfl,?_⟩) ?_ ?_
             rotate_left;(intro w';go_simp;with_reducible rfl);rotate_left;(simp only [Act.put,List.setIfInBounds_toArray,List.set_cons_zero,List.set_cons_succ,i64_w,i32_w];rfl)
             refine pure_ (i:=6) (N:=some 30) (v:=?_) (a':=?_) #[true,true,true,false,true,true,true,false,false,false,false,false,false,false,false] rfl rfl (any_of HT_.out (by kernel_rfl)) (fun _ _ _ h=>h) (Or.inl ⟨by rfl,?_⟩) ?_ ?_
             rotate_left;(intro w';go_simp;with_reducible rfl);rotate_left;(simp only [Act.put,List.setIfInBounds_toArray,List.set_cons_zero,List.set_cons_succ,i64_w,i32_w];rfl)
             refine pure_ (i:=8) (N:=some 32) (v:=?_) (a':=?_) #[true,true,true,false,true,true,true,false,true,false,false,false,false,false,false] rfl rfl (any_of HT_.out (by kernel_rfl)) (fun _ _ _ h=>h) (Or.inl ⟨by rfl,?_⟩) ?_ ?_
             rotate_left;(intro w';go_simp;with_reducible rfl);rotate_left;(simp only [Act.put,List.setIfInBounds_toArray,List.set_cons_zero,List.set_cons_succ,i64_w,i32_w];rfl)
             refine pure_ (i:=9) (N:=some 33) (v:=?_) (a':=?_) #[true,true,true,false,true,true,true,false,true,true,false,false,false,false,false] rfl rfl (any_of HT_.out (by kernel_rfl)) (fun _ _ _ h=>h) (Or.inl ⟨by rfl,?_⟩) ?_ ?_
             rotate_left;(intro w';go_simp;with_reducible rfl);rotate_left;(simp only [Act.put,List.setIfInBounds_toArray,List.set_cons_zero,List.set_cons_succ,i64_w,i32_w];rfl)
             refine pure_ (i:=10) (N:=some 34) (v:=?_) (a':=?_) #[true,true,true,false,true,true,true,false,true,true,true,false,false,false,false] rfl rfl (any_of HT_.out (by kernel_rfl)) (fun _ _ _ h=>h) (Or.inl ⟨by rfl,?_⟩) ?_ ?_
             rotate_left;(intro w';go_simp;with_reducible rfl);rotate_left;(simp only [Act.put,List.setIfInBounds_toArray,List.set_cons_zero,List.set_cons_succ,i64_w,i32_w];rfl)
             refine take_ (i:=3) (N:=some 27) (v:=?_) (a':=?_) #[true,true,true,true,true,true,true,false,true,true,true,false,false,false,false] rfl rfl (take_ofW HT_.out HW_.out (by kernel_rfl)) (fun _ _ _ h=>h) (Or.inl ⟨by rfl,?_⟩) hHeld ?_ ?_
             rotate_left;(rintro w' ⟨s0,s1,s2,s3,s4,s5⟩;go_simp;with_reducible rfl);rotate_left;(simp only [Act.put,List.setIfInBounds_toArray,List.set_cons_zero,List.set_cons_succ,i64_w,i32_w];rfl)
             refine take_ (i:=7) (N:=some 31) (v:=?_) (a':=?_) #[true,true,true,true,true,true,true,true,true,true,true,false,false,false,false] rfl rfl (take_ofW HT_.out HW_.out (by kernel_rfl)) (fun _ _ _ h=>h) (Or.inl ⟨by rfl,?_⟩) hHeld ?_ ?_
             rotate_left;(rintro w' ⟨s0,s1,s2,s3,s4,s5⟩;go_simp;with_reducible rfl);rotate_left;(simp only [Act.put,List.setIfInBounds_toArray,List.set_cons_zero,List.set_cons_succ,i64_w,i32_w];rfl)
             refine take_ (i:=11) (N:=some 35) (v:=?_) (a':=?_) #[true,true,true,true,true,true,true,true,true,true,true,true,false,false,false] rfl rfl (take_ofW HT_.out HW_.out (by kernel_rfl)) (fun _ _ _ h=>h) (Or.inl ⟨by rfl,?_⟩) hHeld ?_ ?_
             rotate_left;(rintro w' ⟨s0,s1,s2,s3,s4,s5⟩;go_simp;with_reducible rfl);rotate_left;(simp only [Act.put,List.setIfInBounds_toArray,List.set_cons_zero,List.set_cons_succ,i64_w,i32_w];rfl)
             refine one_ (i:=12) (N:=some 36) #[true,true,true,true,true,true,true,true,true,true,true,true,true,false,false] rfl rfl (one_of HT_.out (by kernel_rfl)) (by decide) (fun K hK=>?_)
             refine goes_ Try.func23 (by kernel_rfl) rfl #[.agg #[.slice A0_0 l0_0.length c0_0,.int .i64 a0_1,.int .i64 a0_2,.int .i64 a0_3],.slice A213_0 (rd_L7 x5_1 x9_2).length c213_0,.slice A214_0 (rd_L7 l1 x6_1).length c214_0] (by rfl) rfl rfl (by (try simp only [List.map_toArray,List.map_cons,List.map_nil]);first|done|rfl|(simp only [List.length_drop,List.length_take];rfl)) ?_
             with_reducible refine (thresherref04_Compare.calls k2 _ _ l0_0 a0_1 a0_2 a0_3 _ _ (rd_L7 x5_1 x9_2) _ _ (rd_L7 l1 x6_1) t215 _ ?side1 ?side2 ?side3 ?side4 ?side5 ?side6 A19.out).mono ?_
             (case side1=>repeat (first|exact (Kd.C_below HR0_0.out HB.out)|(with_reducible refine Kd.C_alloc ?_ _)|(with_reducible refine Kd.C_drewN ?_ _)|(with_reducible refine Kd.C_drew ?_)))
             (case side2=>exact HC0_0.out)
             (case side3=>repeat (first|exact (by repeat (first|(with_reducible exact HR213_0.out)|(with_reducible refine Kd.C_alloc ?_ _)|(with_reducible refine Kd.C_drewN ?_ _)|(with_reducible refine Kd.C_drew ?_)|exact HR213_0.out))|(with_reducible refine Kd.C_alloc ?_ _)|(with_reducible refine Kd.C_drewN ?_ _)|(with_reducible refine Kd.C_drew ?_)))
             (case side4=>exact HC213_0.out)
             (case side5=>repeat (first|exact (by repeat (first|(with_reducible exact HR214_0.out)|(with_reducible refine Kd.C_alloc ?_ _)|(with_reducible refine Kd.C_drewN ?_ _)|(with_reducible refine Kd.C_drew ?_)|exact HR214_0.out))|(with_reducible refine Kd.C_alloc ?_ _)|(with_reducible refine Kd.C_drewN ?_ _)|(with_reducible refine Kd.C_drew ?_)))
             (case side6=>exact HC214_0.out)
             rintro e w31 ⟨rfl,hb⟩
             have HS4_:=(hb.cell (World.block_lt_of_cell? _ _ (hHeld.2.2.2.2.1))).trans (hHeld.2.2.2.2.1)
             have HS5_:=(hb.cell (World.block_lt_of_cell? _ _ (hHeld.2.2.2.2.2))).trans (hHeld.2.2.2.2.2)
             refine ⟨_,rfl,?_⟩
             have n0_:=Aside0.mk (Kd.V_below (V_up HO_1.out) hb)
             have n1_:=Aside0.mk (Kd.N_below (N_up HO_5.out) hb)
             have n2_:=Aside0.mk (Kd.N_below (N_up HO_7.out) hb)
             have n3_:=Aside0.mk (Kd.V_below (by (with_reducible repeat (first|apply Kd.V_alloc|apply Kd.V_drewN|apply Kd.V_drew));exact HL213_0.out) hb)
             have n4_:=Aside0.mk (Kd.V_below (by (with_reducible repeat (first|apply Kd.V_alloc|apply Kd.V_drewN|apply Kd.V_drew));exact HL214_0.out) hb)
             have n5_:=Aside0.mk (blk_below (blk_up BK206.out) hb)
             have n6_:=Aside0.mk (Kd.C_below (by repeat (first|(with_reducible exact HR213_0.out)|(with_reducible refine Kd.C_alloc ?_ _)|(with_reducible refine Kd.C_drewN ?_ _)|(with_reducible refine Kd.C_drew ?_)|exact HR213_0.out)) hb)
             have n7_:=Aside0.mk (Kd.C_below (by repeat (first|(with_reducible exact HR214_0.out)|(with_reducible refine Kd.C_alloc ?_ _)|(with_reducible refine Kd.C_drewN ?_ _)|(with_reducible refine Kd.C_drew ?_)|exact HR214_0.out)) hb)
             have n8_:=Aside0.mk (below_step (below_go HB.out) hb)
             clear HO_1
             clear HO_5
             clear HO_7
             clear HL213_0
             clear HL214_0
             clear BK206
             clear HR213_0
             clear HR214_0
             clear HB
             have HO_1:=n0_
             have HO_5:=n1_
             have HO_7:=n2_
             have HL213_0:=n3_
             have HL214_0:=n4_
             have BK206:=n5_
             have HR213_0:=n6_
             have HR214_0:=n7_
             have HB:=n8_
             clear n0_ n1_ n2_ n3_ n4_ n5_ n6_ n7_ n8_
             (try clear hb)
             (try clear hb2)
             (try clear hk)
             (try clear hi)
             refine hK.out _ _ ⟨(blk_cell BK206.out 0).trans rfl,(blk_cell BK206.out 1).trans rfl,(blk_cell BK206.out 2).trans rfl,(blk_cell BK206.out 3).trans rfl,HS4_,HS5_⟩ (fun hHeld=>?_)
             clear hK K
             refine norm_ (a':=?_) ?_ ?_
             rotate_left
             ·show Act.put _ (some 36) _=_
              simp only [Act.put,List.setIfInBounds_toArray,List.set_cons_zero,List.set_cons_succ,i64_w,i32_w]
              rfl
             refine pure_ (i:=13) (N:=some 37) (v:=?_) (a':=?_) #[true,true,true,true,true,true,true,true,true,true,true,true,true,true,false] rfl rfl (any_of HT_.out (by kernel_rfl)) (fun _ _ _ h=>h) (Or.inl ⟨by rfl,?_⟩) ?_ ?_
             rotate_left;(intro w';go_simp;with_reducible rfl);rotate_left;(simp only [Act.put,List.setIfInBounds_toArray,List.set_cons_zero,List.set_cons_succ,i64_w,i32_w];rfl)
             refine pure_ (i:=14) (N:=some 38) (v:=?_) (a':=?_) #[true,true,true,true,true,true,true,true,true,true,true,true,true,true,true] rfl rfl (any_of HT_.out (by kernel_rfl)) (fun _ _ _ h=>h) (Or.inl ⟨by rfl,?_⟩) ?_ ?_
             rotate_left;(intro w';go_simp;with_reducible rfl);rotate_left;(simp only [Act.put,List.setIfInBounds_toArray,List.set_cons_zero,List.set_cons_succ,i64_w,i32_w];rfl)
             refine done_ (done_of HT_.out (by kernel_rfl)) ?_
             (try clear HS4_);(try clear HS5_);(try clear hHeld)
             have p228 : 0≤(x9_2 : Int):=of_decide_eq_true (by first|(with_reducible assumption)|assumption)
             have q228 : x9_2 < (x5_1.length : Int):=of_decide_eq_true (by first|(with_reducible assumption)|assumption)
             obtain ⟨ad228,A228_0,c228_0,e228,hx228_0,hl228_0,hi228_0⟩:=at_L7 (Kd.N_reads' HO_5.out).2.2 x9_2 p228 q228
             obtain rfl : ad213=ad228:=(by injection e228)
             obtain ⟨ce228,hce228,hMe228,hcc228⟩:=Kd.N_get HO_5.out [] x9_2 p228 (by first|exact q228|exact of_decide_eq_true (by first|(with_reducible assumption)|assumption)|(have e_:=(Kd.N_reads' HO_5.out).1;omega))
             obtain ⟨ua228_0,uc228_0,rfl,ul228_0,ge228_0⟩:=Kd.FK_slice_open hMe228
             have hv228_0:=hcc228 0 _ rfl
             rw [Nat.add_zero,show ((Kd.slice 40 k40)).sz=1 from rfl,Nat.mul_one] at hv228_0
             replace hv228_0:=Option.some.inj (hv228_0.symm.trans hx228_0)
             injection hv228_0 with hva_ hvn_ hvc_
             rw [hva_] at ge228_0
             rw [hvc_] at ul228_0
             have HL228_0:=Aside0.mk (show Kd.V k40 40 _ w.heap.size _ _ (rd_L7 x5_1 x9_2) from Kd.V_mk ul228_0 ge228_0)
             clear hva_ hvn_ hvc_ ge228_0 ul228_0
             clear hcc228 hce228
             have HR228_0:=Aside0.mk hi228_0
             have HC228_0:=Aside0.mk hl228_0
             clear hi228_0 hl228_0
             replace p228:=eq_true p228
             replace q228:=eq_true q228
             try go_wp2_with (first|((with_reducible refine gate_builtin (b:=.append) (xs:=#[.tmp 46,.tmp 51]) rfl ?_);at_builtin;refine Kd.N_append (Kd.slice 40 k40) (w0:=w) w.heap.size rfl (.tmp 46) (.tmp 51) 25 44 (.slice none 0 0) 24 rfl Try.underlying25 info44 rfl (by decide) (by omega) u7 x7_2 (rd_L7 x5_1 x9_2) [.slice A228_0 (rd_L7 x5_1 x9_2).length c228_0] (fun k_=>(P1_ k_ ∨ w.heap.size≤k_)∧some k_≠(.slice (some ad213) x5_1.length co29 : Value).ownBlock∧k_≠gb206) (fun k_=>((fun k_=>(P1_ k_ ∨ w.heap.size≤k_)∧some k_≠(.slice (some ad213) x5_1.length co29 : Value).ownBlock∧k_≠gb206)) k_∧some k_≠(u7 : Value).ownBlock) rfl rfl ?aP (fun _ hk=>hk) ?aF ?aO ?aB ?aS ?aL ?_;(case aP=>exact (Kd.FK_slice_mk (Kd.V_reads' (Kd.V_mono (ok':=(fun k_=>((fun k_=>(P1_ k_ ∨ w.heap.size≤k_)∧some k_≠(.slice (some ad213) x5_1.length co29 : Value).ownBlock∧k_≠gb206)) k_∧some k_≠(u7 : Value).ownBlock)) (HL228_0.out) (fun k_ hk=>⟨⟨hk.1.1,⟨hk.2,hk.1.2.2⟩⟩,hk.1.2.1⟩))).2.1 (Kd.V_F (Kd.V_mono (ok':=(fun k_=>((fun k_=>(P1_ k_ ∨ w.heap.size≤k_)∧some k_≠(.slice (some ad213) x5_1.length co29 : Value).ownBlock∧k_≠gb206)) k_∧some k_≠(u7 : Value).ownBlock)) (HL228_0.out) (fun k_ hk=>⟨⟨hk.1.1,⟨hk.2,hk.1.2.2⟩⟩,hk.1.2.1⟩)))));(case aB=>exact (below_go HB.out));(case aF=>exact (fun k_ hk=>⟨(.inr (Nat.le_trans (below_size (below_go HB.out)) hk)),Kd.fresh' (Kd.N_lt (N_up HO_5.out)) k_ hk,Kd.freshB (blk_up BK206.out) k_ hk⟩));(case aO=>exact (N_up HO_7.out));(case aS=>exact (below_size (below_go HB.out)));(case aL=>have:=LMc28.out;omega);intro v230 w32 ho hb hg hat;rw [← Ny229.out] at ho;have n0_:=Aside0.mk (Kd.V_afterv (ok:=(fun k_=>(P1_ k_ ∨ w.heap.size≤k_)∧some k_≠(.slice (some ad213) x5_1.length co29 : Value).ownBlock∧k_≠gb206)) (V_upm HO_1.out (fun _ hk=>⟨⟨hk.1,⟨hk.2.1,hk.2.2.2⟩⟩,hk.2.2.1⟩)) hg hat);have n1_:=Aside0.mk (Kd.N_afterv (ok:=(fun k_=>(P1_ k_ ∨ w.heap.size≤k_)∧k_≠gb206)) (N_upm HO_5.out (fun _ hk=>⟨⟨hk.1,hk.2.2⟩,hk.2.1⟩)) hg hat);have n2_:=Aside0.mk (blk_grown (blk_up BK206.out) hg (Kd.N_ne HO_7.out BK206.out (by decide)));have n3_:=Aside0.mk (Kd.V_afterv (ok:=(fun k_=>(P1_ k_ ∨ w.heap.size≤k_)∧some k_≠(.slice (some ad213) x5_1.length co29 : Value).ownBlock∧k_≠gb206)) (V_upm HL213_0.out (fun _ hk=>⟨⟨hk.1.1,⟨hk.2,hk.1.2.2⟩⟩,hk.1.2.1⟩)) hg hat);have n4_:=Aside0.mk (Kd.V_afterv (ok:=(fun k_=>(P1_ k_ ∨ w.heap.size≤k_)∧some k_≠(.slice (some ad213) x5_1.length co29 : Value).ownBlock∧k_≠gb206)) (V_upm HL214_0.out (fun _ hk=>⟨⟨hk.1,⟨hk.2.1,hk.2.2.2⟩⟩,hk.2.2.1⟩)) hg hat);have n5_:=Aside0.mk (Kd.V_afterv (ok:=(fun k_=>(P1_ k_ ∨ w.heap.size≤k_)∧some k_≠(.slice (some ad213) x5_1.length co29 : Value).ownBlock∧k_≠gb206)) (V_upm HL228_0.out (fun _ hk=>⟨⟨hk.1.1,⟨hk.2,hk.1.2.2⟩⟩,hk.1.2.1⟩)) hg hat);have n6_:=Aside0.mk (hb);have n7_:=Aside0.mk (ho);clear HO_1;clear HO_5;clear BK206;clear HL213_0;clear HL214_0;clear HL228_0;clear HB;clear HO_7;have HO_1:=n0_;have HO_5:=n1_;have BK206:=n2_;have HL213_0:=n3_;have HL214_0:=n4_;have HL228_0:=n5_;have HB:=n6_;have HO231:=n7_;clear n0_ n1_ n2_ n3_ n4_ n5_ n6_ n7_;clear ho hb hg hat))
             go_roundg k2
             case measure=>have:=HK1.out;have:=HK2.out;omega
             case rel=>exact ⟨(y229),(false),(wrap64 (x9_2 + 1)),(by first|rfl|(simp;done)|(simp [*];done)),(by first|rfl|(simp;done)|(simp [*];done)),(by first|exact H'|(subst_vars;exact H')),⟨by have:=HK1.out;have:=HK2.out;omega⟩,⟨by (with_reducible repeat (first|apply Kd.V_alloc|apply Kd.V_drewN|apply Kd.V_drew));exact Kd.V_mono HO_1.out (fun _ hk=>⟨hk.1.1,⟨hk.1.2.1,⟨hk.2,hk.1.2.2⟩⟩⟩)⟩,⟨by (with_reducible repeat (first|apply Kd.N_alloc|apply Kd.N_drewN|apply Kd.N_drew));exact Kd.N_mono HO_5.out (fun _ hk=>⟨hk.1.1,⟨hk.2,hk.1.2⟩⟩)⟩,⟨by (with_reducible repeat (first|apply Kd.N_alloc|apply Kd.N_drewN|apply Kd.N_drew));exact HO231.out⟩,⟨by (with_reducible repeat (first|refine blk_drewN ?_ _|refine blk_drew ?_|refine blk_alloc ?_ _));exact BK206.out⟩,⟨by repeat (first|(with_reducible first|exact HB.out|apply below_alloc|apply pw_below_drewN|apply below_drew1|refine below_set ?_ GE206.out)|exact HB.out)⟩⟩
            ·rw [if_neg c28] at H
             exact absurd H (by simp)
          ·rw [if_neg c18] at H
           exact absurd H (by simp)
         ·rw [if_neg c17] at H
          exact absurd H (by simp)
        ·rw [if_neg c16] at H
         exact absurd H (by simp)
      ·rw [if_neg c9] at H
       have c9b0 : decide (x9_2 < (x5_1.length : Int))=false:=decide_eq_false c9
       clear c9
       by_cases c33 : x8_2=true
       ·subst c33
        have H1 : (thresherref09_Sort.l0 k2 l1 x7_2 (wrap64 (x6_1 + 1)) l0_0 a0_1 a0_2 a0_3)=some r:=by rw [if_pos rfl] at H;exact H
        clear H
        have H:=H1
        clear H1
        have H':=Aside0.mk H
        clear H
        obtain ⟨Ao34,co34,eo34⟩:=Kd.N_slice HO_5.out
        subst eo34
        go_wp2
        go_roundg k2
        case measure=>have:=HK1.out;have:=HK2.out;omega
        case rel=>exact ⟨(x7_2),(wrap64 (x6_1 + 1)),(by first|rfl|(simp;done)|(simp [*];done)),(by first|exact H'|(subst_vars;exact H')),⟨by have:=HK1.out;have:=HK2.out;omega⟩,⟨by (with_reducible repeat (first|apply Kd.V_alloc|apply Kd.V_drewN|apply Kd.V_drew));exact Kd.V_mono HO_1.out (fun _ hk=>⟨hk.1,⟨hk.2.2.1,hk.2.2.2⟩⟩)⟩,⟨by (with_reducible repeat (first|apply Kd.N_alloc|apply Kd.N_drewN|apply Kd.N_drew));exact Kd.N_mono HO_7.out (fun _ hk=>⟨hk.1,hk.2.2⟩)⟩,⟨by (with_reducible repeat (first|refine blk_drewN ?_ _|refine blk_drew ?_|refine blk_alloc ?_ _));exact BK206.out⟩,⟨by repeat (first|(with_reducible first|exact HB.out|apply below_alloc|apply pw_below_drewN|apply below_drew1|refine below_set ?_ GE206.out)|exact HB.out)⟩⟩
       ·replace c33:=Bool.eq_false_iff.mpr c33
        subst c33
        have H1 : (if 0≤x6_1 then (if x6_1 < (l1.length : Int) then (if x7_2.length < 5864062014805 then (thresherref09_Sort.l0 k2 l1 (x7_2 ++ [rd_L7 l1 x6_1]) (wrap64 (x6_1 + 1)) l0_0 a0_1 a0_2 a0_3) else (none)) else (none)) else (none))=some r:=by rw [if_neg (show ¬ (false=true) by decide)] at H;exact H
        clear H
        have H:=H1
        clear H1
        by_cases c35 : 0≤x6_1
        ·rw [if_pos c35] at H
         have c35b0 : decide (0≤x6_1)=true:=decide_eq_true c35
         clear c35
         by_cases c36 : x6_1 < (l1.length : Int)
         ·rw [if_pos c36] at H
          have c36b0 : decide (x6_1 < (l1.length : Int))=true:=decide_eq_true c36
          clear c36
          by_cases c37 : x7_2.length < 5864062014805
          ·rw [if_pos c37] at H
           have LMc37:=Aside0.mk c37
           clear c37
           obtain ⟨y233,hy233⟩ : ∃ y_ : List (List (S40)),y_=(x7_2 ++ [rd_L7 l1 x6_1]):=⟨_,rfl⟩
           replace H : (thresherref09_Sort.l0 k2 l1 y233 (wrap64 (x6_1 + 1)) l0_0 a0_1 a0_2 a0_3)=some r:=by first|(rw [hy233];with_reducible exact H)|(have H2_:=(Option.bind_some _ _).symm.trans H;rw [hy233];with_reducible exact H2_)|(have H2_:=(Option.bind_some _ _).symm.trans H;with_reducible exact H2_)|with_reducible exact H|(rw [hy233];exact H)|exact H
           have Ny233:=Aside0.mk hy233
           clear hy233
           have H':=Aside0.mk H
           clear H
           obtain ⟨Ao38,co38,eo38⟩:=Kd.N_slice HO_5.out
           subst eo38
           have p232 : 0≤(x6_1 : Int):=of_decide_eq_true (by first|(with_reducible assumption)|assumption)
           have q232 : x6_1 < (l1.length : Int):=of_decide_eq_true (by first|(with_reducible assumption)|assumption)
           obtain ⟨ad232,A232_0,c232_0,e232,hx232_0,hl232_0,hi232_0⟩:=at_L7 (Kd.V_reads' HO_1.out).2.2 x6_1 p232 q232
           cases e232
           obtain ⟨ce232,hce232,hMe232,hcc232⟩:=Kd.V_get HO_1.out [] x6_1 p232 (by first|exact q232|exact of_decide_eq_true (by first|(with_reducible assumption)|assumption)|(have e_:=(Kd.V_reads' HO_1.out).1;omega))
           obtain ⟨ua232_0,uc232_0,rfl,ul232_0,ge232_0⟩:=Kd.FK_slice_open hMe232
           have hv232_0:=hcc232 0 _ rfl
           rw [Nat.add_zero,show ((Kd.slice 40 k40)).sz=1 from rfl,Nat.mul_one] at hv232_0
           replace hv232_0:=Option.some.inj (hv232_0.symm.trans hx232_0)
           injection hv232_0 with hva_ hvn_ hvc_
           rw [hva_] at ge232_0
           rw [hvc_] at ul232_0
           have HL232_0:=Aside0.mk (show Kd.V k40 40 _ w.heap.size _ _ (rd_L7 l1 x6_1) from Kd.V_mk ul232_0 ge232_0)
           clear hva_ hvn_ hvc_ ge232_0 ul232_0
           clear hcc232 hce232
           have HR232_0:=Aside0.mk hi232_0
           have HC232_0:=Aside0.mk hl232_0
           clear hi232_0 hl232_0
           replace p232:=eq_true p232
           replace q232:=eq_true q232
           go_wp2_with (first|((with_reducible refine gate_builtin (b:=.append) (xs:=#[.tmp 55,.tmp 60]) rfl ?_);at_builtin;refine Kd.N_append (Kd.slice 40 k40) (w0:=w) w.heap.size rfl (.tmp 55) (.tmp 60) 25 44 (.slice none 0 0) 24 rfl Try.underlying25 info44 rfl (by decide) (by omega) u7 x7_2 (rd_L7 l1 x6_1) [.slice A232_0 (rd_L7 l1 x6_1).length c232_0] (fun k_=>(P1_ k_ ∨ w.heap.size≤k_)∧some k_≠(.slice Ao38 x5_1.length co38 : Value).ownBlock∧k_≠gb206) (fun k_=>((fun k_=>(P1_ k_ ∨ w.heap.size≤k_)∧some k_≠(.slice Ao38 x5_1.length co38 : Value).ownBlock∧k_≠gb206)) k_∧some k_≠(u7 : Value).ownBlock) rfl rfl ?aP (fun _ hk=>hk) ?aF ?aO ?aB ?aS ?aL ?_;(case aP=>exact (Kd.FK_slice_mk (Kd.V_reads' (Kd.V_mono (ok':=(fun k_=>((fun k_=>(P1_ k_ ∨ w.heap.size≤k_)∧some k_≠(.slice Ao38 x5_1.length co38 : Value).ownBlock∧k_≠gb206)) k_∧some k_≠(u7 : Value).ownBlock)) (HL232_0.out) (fun k_ hk=>⟨⟨hk.1,⟨hk.2.1,hk.2.2.2⟩⟩,hk.2.2.1⟩))).2.1 (Kd.V_F (Kd.V_mono (ok':=(fun k_=>((fun k_=>(P1_ k_ ∨ w.heap.size≤k_)∧some k_≠(.slice Ao38 x5_1.length co38 : Value).ownBlock∧k_≠gb206)) k_∧some k_≠(u7 : Value).ownBlock)) (HL232_0.out) (fun k_ hk=>⟨⟨hk.1,⟨hk.2.1,hk.2.2.2⟩⟩,hk.2.2.1⟩)))));(case aB=>exact (below_go HB.out));(case aF=>exact (fun k_ hk=>⟨(.inr (Nat.le_trans (below_size (below_go HB.out)) hk)),Kd.fresh' (Kd.N_lt (N_up HO_5.out)) k_ hk,Kd.freshB (blk_up BK206.out) k_ hk⟩));(case aO=>exact (N_up HO_7.out));(case aS=>exact (below_size (below_go HB.out)));(case aL=>have:=LMc37.out;omega);intro v234 w39 ho hb hg hat;rw [← Ny233.out] at ho;have n0_:=Aside0.mk (Kd.V_afterv (ok:=(fun k_=>(P1_ k_ ∨ w.heap.size≤k_)∧some k_≠(.slice Ao38 x5_1.length co38 : Value).ownBlock∧k_≠gb206)) (V_upm HO_1.out (fun _ hk=>⟨⟨hk.1,⟨hk.2.1,hk.2.2.2⟩⟩,hk.2.2.1⟩)) hg hat);have n1_:=Aside0.mk (Kd.N_afterv (ok:=(fun k_=>(P1_ k_ ∨ w.heap.size≤k_)∧k_≠gb206)) (N_upm HO_5.out (fun _ hk=>⟨⟨hk.1,hk.2.2⟩,hk.2.1⟩)) hg hat);have n2_:=Aside0.mk (blk_grown (blk_up BK206.out) hg (Kd.N_ne HO_7.out BK206.out (by decide)));have n3_:=Aside0.mk (Kd.V_afterv (ok:=(fun k_=>(P1_ k_ ∨ w.heap.size≤k_)∧some k_≠(.slice Ao38 x5_1.length co38 : Value).ownBlock∧k_≠gb206)) (V_upm HL232_0.out (fun _ hk=>⟨⟨hk.1,⟨hk.2.1,hk.2.2.2⟩⟩,hk.2.2.1⟩)) hg hat);have n4_:=Aside0.mk (hb);have n5_:=Aside0.mk (ho);clear HO_1;clear HO_5;clear BK206;clear HL232_0;clear HB;clear HO_7;have HO_1:=n0_;have HO_5:=n1_;have BK206:=n2_;have HL232_0:=n3_;have HB:=n4_;have HO235:=n5_;clear n0_ n1_ n2_ n3_ n4_ n5_;clear ho hb hg hat))
           go_roundg k2
           case measure=>have:=HK1.out;have:=HK2.out;omega
           case rel=>exact ⟨(y233),(wrap64 (x6_1 + 1)),(by first|rfl|(simp;done)|(simp [*];done)),(by first|exact H'|(subst_vars;exact H')),⟨by have:=HK1.out;have:=HK2.out;omega⟩,⟨by (with_reducible repeat (first|apply Kd.V_alloc|apply Kd.V_drewN|apply Kd.V_drew));exact Kd.V_mono HO_1.out (fun _ hk=>⟨hk.1.1,⟨hk.2,hk.1.2.2⟩⟩)⟩,⟨by (with_reducible repeat (first|apply Kd.N_alloc|apply Kd.N_drewN|apply Kd.N_drew));exact Kd.N_mono HO235.out (fun _ hk=>⟨hk.1,hk.2.2⟩)⟩,⟨by (with_reducible repeat (first|refine blk_drewN ?_ _|refine blk_drew ?_|refine blk_alloc ?_ _));exact BK206.out⟩,⟨by repeat (first|(with_reducible first|exact HB.out|apply below_alloc|apply pw_below_drewN|apply below_drew1|refine below_set ?_ GE206.out)|exact HB.out)⟩⟩
          ·rw [if_neg c37] at H
           exact absurd H (by simp)
         ·rw [if_neg c36] at H
          exact absurd H (by simp)
        ·rw [if_neg c35] at H
         exact absurd H (by simp)
   ·rw [if_neg c6] at H
    have c6b0 : decide (x6_1 < (l1.length : Int))=false:=decide_eq_false c6
    clear c6
    obtain rfl:=Option.some.inj H
    go_wp2
    go_ret
    exact ⟨_,by first|rfl|(simp [errW_none,errW_some] <;> rfl)|(simp [*,errW_none,errW_some] <;> rfl),by (with_reducible repeat (first|apply Kd.N_alloc|apply Kd.N_drewN|apply Kd.N_drew));exact Kd.N_mono HO_5.out (fun _ hk=>hk.1),by repeat (first|(with_reducible first|exact HB.out|apply below_alloc|apply pw_below_drewN|apply below_drew1|refine below_set ?_ GE206.out)|exact HB.out)⟩
end Go.Proofs.Ytapaldcdoahfeaa.P

