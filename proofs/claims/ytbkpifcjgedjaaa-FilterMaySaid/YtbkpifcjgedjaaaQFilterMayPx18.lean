/- Texts of FilterMay. Merged: Px18. -/
import Derived.Test.YtbkpifcjgedjaaaQFilterMayPx0
import Derived.Test.YtbkpifcjgedjaaaQFilterMayPx9
namespace Go.Proofs.Ytbkpifcjgedjaaa.P
open Go.RowKit Go.Proofs.YtbkpifcjgedjaaaW.PrintWords Go.Proofs.YtbkpifcjgedjaaaW.PrintLast Go.Proofs.YtbkpifcjgedjaaaW.PrintMore
attribute [local go_sem] max2_int min2_int max_two min_two max_three min_three max_four min_four   -- for this text's walks alone
set_option linter.unusedVariables false
set_option linter.unusedSimpArgs false
mutual
def thresherref19_Keep.l0 : Nat→List (S39)→List (List (S37))→List (List (S37))→Int→List Int→Int→Int→Int→Option ((List (List (S37))))
 | 0,_,_,_,_,_,_,_,_=>none
 | k + 1,x1,x2,x7,x8,x403000,x403001,x403002,x403003=>if x8 < (x2.length : Int) then (thresherref19_Keep.l1 k x1 x2 x7 x8 true 0 x403000 x403001 x403002 x403003) else (some x7)
def thresherref19_Keep.l1 : Nat→List (S39)→List (List (S37))→List (List (S37))→Int→Bool→Int→List Int→Int→Int→Int→Option ((List (List (S37))))
 | 0,_,_,_,_,_,_,_,_,_,_=>none
 | k + 1,x1,x2,x7,x8,x9,x10,x403000,x403001,x403002,x403003=>if x10 < (x1.length : Int) then (if 0≤x10 then (if 0≤((rd_T39 x1 x10).f0) then (if ((rd_T39 x1 x10).f0) < (x403000.length : Int) then (if 0≤x8 then (if x8 < (x2.length : Int) then (if ((rd_T39 x1 x10).f0) < ((rd_L4 x2 x8).length : Int) then ((thresherref19_Holds.f k (rd x403000 ((rd_T39 x1 x10).f0)) ((rd_T39 x1 x10).f0) ((rd_T39 x1 x10).f1) ((rd_T39 x1 x10).f2.f0) ((rd_T39 x1 x10).f2.f1) ((rd_T37 (rd_L4 x2 x8) ((rd_T39 x1 x10).f0)).f0) ((rd_T37 (rd_L4 x2 x8) ((rd_T39 x1 x10).f0)).f1)).bind fun t412=>(if x9=true then (thresherref19_Keep.l1 k x1 x2 x7 x8 t412 (wrap64 (x10 + 1)) x403000 x403001 x403002 x403003) else (thresherref19_Keep.l1 k x1 x2 x7 x8 false (wrap64 (x10 + 1)) x403000 x403001 x403002 x403003))) else (none)) else (none)) else (none)) else (none)) else (none)) else (none)) else (if x9=true then (if 0≤x8 then (if x8 < (x2.length : Int) then (if x7.length < 5864062014805 then (thresherref19_Keep.l0 k x1 x2 (x7 ++ [rd_L4 x2 x8]) (wrap64 (x8 + 1)) x403000 x403001 x403002 x403003) else (none)) else (none)) else (none)) else (thresherref19_Keep.l0 k x1 x2 x7 (wrap64 (x8 + 1)) x403000 x403001 x403002 x403003))
end
def thresherref19_Keep.f (k : Nat) (l0_0 : List Int) (a0_1 : Int) (a0_2 : Int) (a0_3 : Int) (l1 : List (S39)) (l2 : List (List (S37))) : Option ((List (List (S37)))):=thresherref19_Keep.l0 k l1 l2 (([] : List (List (S37)))) 0 l0_0 a0_1 a0_2 a0_3
theorem thresherref19_Keep.mono_l : ∀ k,(∀ y0 y1 y2 y3 y4 y5 y6 y7,LeO (thresherref19_Keep.l0 k y0 y1 y2 y3 y4 y5 y6 y7) (thresherref19_Keep.l0 (k + 1) y0 y1 y2 y3 y4 y5 y6 y7))∧(∀ y0 y1 y2 y3 y4 y5 y6 y7 y8 y9,LeO (thresherref19_Keep.l1 k y0 y1 y2 y3 y4 y5 y6 y7 y8 y9) (thresherref19_Keep.l1 (k + 1) y0 y1 y2 y3 y4 y5 y6 y7 y8 y9))
 | 0=>⟨fun _ _ _ _ _ _ _ _ r h=>by simp [thresherref19_Keep.l0] at h,fun _ _ _ _ _ _ _ _ _ _ r h=>by simp [thresherref19_Keep.l1] at h⟩
 | k + 1=>by
  obtain ⟨ih0,ih1⟩:=thresherref19_Keep.mono_l k
  refine ⟨?_,?_⟩
  ·intro y0 y1 y2 y3 y4 y5 y6 y7
   unfold thresherref19_Keep.l0
   repeat' first
   | (with_reducible exact ih0 _ _ _ _ _ _ _ _)
   | (with_reducible exact ih1 _ _ _ _ _ _ _ _ _ _)
   | (with_reducible exact thresherref19_Holds.mono _ _ _ _ _ _ _ _)
   | (with_reducible exact LeO.refl _)
   | (with_reducible exact LeO.none _)
   | (with_reducible refine LeO.ite ?_ ?_)
   | (with_reducible refine LeO.bind ?_ (fun _=>?_))
   | exact ih0 _ _ _ _ _ _ _ _
   | exact ih1 _ _ _ _ _ _ _ _ _ _
   | exact thresherref19_Holds.mono _ _ _ _ _ _ _ _
   | exact LeO.none _
   | refine LeO.ite ?_ ?_
   | refine LeO.bind ?_ (fun _=>?_)
  ·intro y0 y1 y2 y3 y4 y5 y6 y7 y8 y9
   unfold thresherref19_Keep.l1
   repeat' first
   | (with_reducible exact ih0 _ _ _ _ _ _ _ _)
   | (with_reducible exact ih1 _ _ _ _ _ _ _ _ _ _)
   | (with_reducible exact thresherref19_Holds.mono _ _ _ _ _ _ _ _)
   | (with_reducible exact LeO.refl _)
   | (with_reducible exact LeO.none _)
   | (with_reducible refine LeO.ite ?_ ?_)
   | (with_reducible refine LeO.bind ?_ (fun _=>?_))
   | exact ih0 _ _ _ _ _ _ _ _
   | exact ih1 _ _ _ _ _ _ _ _ _ _
   | exact thresherref19_Holds.mono _ _ _ _ _ _ _ _
   | exact LeO.none _
   | refine LeO.ite ?_ ?_
   | refine LeO.bind ?_ (fun _=>?_)
theorem thresherref19_Keep.mono : ∀ a0 a1 a2 a3 a4 a5 k,LeO (thresherref19_Keep.f k a0 a1 a2 a3 a4 a5) (thresherref19_Keep.f (k + 1) a0 a1 a2 a3 a4 a5):=by
 intro a0 a1 a2 a3 a4 a5 k
 obtain ⟨ih0,ih1⟩:=thresherref19_Keep.mono_l k
 unfold thresherref19_Keep.f
 repeat' first
   | (with_reducible exact ih0 _ _ _ _ _ _ _ _)
   | (with_reducible exact ih1 _ _ _ _ _ _ _ _ _ _)
   | (with_reducible exact thresherref19_Holds.mono _ _ _ _ _ _ _ _)
   | (with_reducible exact LeO.refl _)
   | (with_reducible exact LeO.none _)
   | (with_reducible refine LeO.ite ?_ ?_)
   | (with_reducible refine LeO.bind ?_ (fun _=>?_))
   | exact ih0 _ _ _ _ _ _ _ _
   | exact ih1 _ _ _ _ _ _ _ _ _ _
   | exact thresherref19_Holds.mono _ _ _ _ _ _ _ _
   | exact LeO.none _
   | refine LeO.ite ?_ ?_
   | refine LeO.bind ?_ (fun _=>?_)
def thresherref19_Keep.T9 : Bool × List (List Nat × List Nat):=(true,[([],[]),([0],[0]),([],[]),([],[]),([2,3],[2,3]),([4],[4]),([5],[5]),([1,6],[1,6]),([7],[7]),([],[]),([],[]),([9,10],[9,10]),([11],[11]),([],[]),([],[]),([13,14],[13,14]),([15],[15]),([],[]),([],[]),([17,18],[17,18]),([19],[19]),([20],[20]),([16,21],[16,21]),([22],[22]),([8,12,23],[8,12,23]),([24,24,0,1,2,3,4,5,6,7,8,9,10,11,12,13,14,15,16,17,18,19,20,21,22,23,24],[24])])
def thresherref19_Keep.B9 : List Nat:=[0,1,0,0,12,28,60,127,255,0,0,1536,3584,0,0,24576,57344,0,0,393216,917504,1966080,4186112,8380416,16777215,33554431]
theorem thresherref19_Keep.tab9 : rtab .any (opsOf Try.f23 9)=thresherref19_Keep.T9:=by kernel_rfl
theorem thresherref19_Keep.bits9 : waitsOk thresherref19_Keep.T9.2 thresherref19_Keep.B9=true:=by kernel_rfl
set_option maxHeartbeats 8000000 in
set_option maxRecDepth 100000 in
theorem thresherref19_Keep.calls (k : Nat) (A0_0 : Option Addr) (c0_0 : Nat) (l0_0 : List Int) (a0_1 : Int) (a0_2 : Int) (a0_3 : Int) (A1 : Option Addr) (c1 : Nat) (l1 : List (S39)) (P2_ : Nat→Prop) (A2 : Option Addr) (c2 : Nat) (l2 : List (List (S37))) (r : List (List (S37))) (w : World) (hr0_0 : Kd.C (Kd.int .i64) w A0_0 l0_0.length l0_0) (hc0_0 : l0_0.length≤c0_0) (hr1 : Kd.C k39 w A1 l1.length l1) (hc1 : l1.length≤c1) (hs2 : Kd.V (Kd.slice 37 k37) 41 w w.heap.size (fun k_=>P2_ k_) (.slice A2 l2.length c2) l2) (h : thresherref19_Keep.f k l0_0 a0_1 a0_2 a0_3 l1 l2=some r) :
  Calls Try.prog 23 #[.agg #[.slice A0_0 l0_0.length c0_0,.int .i64 a0_1,.int .i64 a0_2,.int .i64 a0_3],.slice A1 l1.length c1,.slice A2 l2.length c2] w fun e w'=>∃ v0_ : Value,e=.returned (v0_)∧Kd.N (Kd.slice 37 k37) 41 w' w.heap.size (fun k_=>(P2_ k_ ∨ w.heap.size≤k_)) v0_ r∧Below w.heap.size w w':=by
 have hu32:=Try.underlying32
 have hu39:=Try.underlying39
 have hu37:=Try.underlying37
 have HR0_0:=Aside0.mk hr0_0
 have HC0_0:=Aside0.mk hc0_0
 clear hr0_0 hc0_0
 have HR1:=Aside0.mk hr1
 have HC1:=Aside0.mk hc1
 clear hr1 hc1
 have HO2:=Aside0.mk (show Kd.V (Kd.slice 37 k37) 41 w w.heap.size (fun k_=>(P2_ k_ ∨ w.heap.size≤k_)) (.slice A2 l2.length c2) l2 from Kd.V_mono hs2 (fun k_ hk=>.inl hk))
 have HB:=Aside0.mk (Below.refl w.heap.size w)
 have H : (thresherref19_Keep.l0 k l1 l2 (([] : List (List (S37)))) 0 l0_0 a0_1 a0_2 a0_3)=some r:=h
 clear h
 obtain ⟨y403,hy403⟩ : ∃ y_ : List (List (S37)),y_=(([] : List (List (S37)))):=⟨_,rfl⟩
 replace H : (thresherref19_Keep.l0 k l1 l2 y403 0 l0_0 a0_1 a0_2 a0_3)=some r:=by first|(rw [hy403];with_reducible exact H)|(have H2_:=(Option.bind_some _ _).symm.trans H;rw [hy403];with_reducible exact H2_)|(have H2_:=(Option.bind_some _ _).symm.trans H;with_reducible exact H2_)|with_reducible exact H|(rw [hy403];exact H)|exact H
 have Ny403:=Aside0.mk hy403
 clear hy403
 have H':=Aside0.mk H
 clear H
 go_enter Try.func23,Try.ntmps23
 go_wp2_with (first|((with_reducible refine gate_dst (N:=3) rfl ?_);refine box_event ?hg (N:=3) ?hd (cs:=#[.slice A0_0 l0_0.length c0_0,.int .i64 a0_1,.int .i64 a0_2,.int .i64 a0_3]) (t:=32) ?hr ?_;(case hd=>rfl);(case hg=>rfl);(case hr=>first|(go_simp;done)|(go_simp;rfl));intro gb402 hg w4 hbox hb;have n0_:=Aside0.mk (Kd.V_below (Kd.V_elderB (V_up HO2.out) gb402 (Nat.le_of_eq hg.symm)) hb);have n1_:=Aside0.mk (below_step (below_up HB.out) hb);have n2_:=Aside0.mk (hbox);have n3_:=Aside0.mk ((by rw [hg];exact (below_size (below_up HB.out)) : w.heap.size≤gb402));have n4_:=Aside0.mk ((by rw [hg];exact (below_size (below_up HB.out)) : w.heap.size≤gb402));clear HO2;clear HB;have HO2:=n0_;have HB:=n1_;have BK402:=n2_;have GW402:=n3_;have GE402:=n4_;clear n0_ n1_ n2_ n3_ n4_;clear hb hbox hg)|((with_reducible refine gate_dst (N:=12) rfl ?_);refine Kd.N_lit (Kd.slice 37 k37) _ 41 ?hg (N':=12) ?hd (xs:=([] : List (List (S37)))) (inner:=[]) (ok:=(fun k_=>(P2_ k_ ∨ w.heap.size≤k_)∧k_≠gb402)) (okp:=(fun k_=>(P2_ k_ ∨ w.heap.size≤k_)∧k_≠gb402)) ?hr ?hp (fun _ hk=>hk) ((show ∀ k_,w4.heap.size≤k_→(fun k_=>(P2_ k_ ∨ w.heap.size≤k_)∧k_≠gb402) k_ from fun k_ hk=>⟨(.inr (Nat.le_trans (below_size (below_go HB.out)) hk)),Kd.freshB (blk_up BK402.out) k_ hk⟩) _ (Nat.le_refl _)) (Below.refl _ _) (Nat.le_refl _) (by simp) ?_;(case hd=>rfl);(case hg=>rfl);(case hr=>first|(go_simp;done)|(go_simp;rfl));(case hp=>exact (Reps.none _ _));intro v404 w5 ho6 hb hg_ hnew_;clear hg_ hnew_;(first|rw [← Ny403.out] at ho6|(simp only [Int.reduceToNat] at ho6;rw [← Ny403.out] at ho6));have n0_:=Aside0.mk (Kd.V_elder' (V_up HO2.out) (Kd.N_base ho6) hb);have n1_:=Aside0.mk (Kd.N_lower ho6 (below_size (below_go HB.out)));have n2_:=Aside0.mk (blk_below (blk_up BK402.out) hb);have n3_:=Aside0.mk (below_step (below_go HB.out) hb);clear HO2;clear BK402;clear HB;have HO2:=n0_;have HO405:=n1_;have BK402:=n2_;have HB:=n3_;clear n0_ n1_ n2_ n3_;clear hb ho6))
 go_loopg [7,8] k (fun kq v7 v8 w'=>∃ (x7_1 : List (List (S37))) (x8_1 : Int),v8=.int .i64 x8_1∧Aside0 (thresherref19_Keep.l0 kq l1 l2 x7_1 x8_1 l0_0 a0_1 a0_2 a0_3=some r)∧Aside0 (kq≤k)∧Aside0 (Kd.V (Kd.slice 37 k37) 41 w' w.heap.size (fun k_=>(P2_ k_ ∨ w.heap.size≤k_)∧some k_≠(v7 : Value).ownBlock∧k_≠gb402) (.slice A2 l2.length c2) l2)∧Aside0 (Kd.N (Kd.slice 37 k37) 41 w' w.heap.size (fun k_=>(P2_ k_ ∨ w.heap.size≤k_)∧k_≠gb402) v7 x7_1)∧Aside0 (w'.heap[gb402]?=some (.cells #[(.slice A0_0 l0_0.length c0_0),.int .i64 a0_1,.int .i64 a0_2,.int .i64 a0_3] 32 (0,0)))∧Aside0 (Below w.heap.size w w'))
 case atStart=>exact ⟨(y403),(0),(by first|rfl|(simp;done)|(simp [*];done)),H',⟨Nat.le_refl _⟩,⟨by (with_reducible repeat (first|apply Kd.V_alloc|apply Kd.V_drewN|apply Kd.V_drew));exact Kd.V_mono HO2.out (fun _ hk=>⟨hk.1.1,⟨hk.2,hk.1.2⟩⟩)⟩,⟨by (with_reducible repeat (first|apply Kd.N_alloc|apply Kd.N_drewN|apply Kd.N_drew));exact HO405.out⟩,⟨by (with_reducible repeat (first|refine blk_drewN ?_ _|refine blk_drew ?_|refine blk_alloc ?_ _));exact BK402.out⟩,⟨by repeat (first|(with_reducible first|exact HB.out|apply below_alloc|apply pw_below_drewN|apply below_drew1|refine below_set ?_ GE402.out)|exact HB.out)⟩⟩
 case round =>
  clear H'
  try clear c1
  try clear c2
  try clear p2
  obtain ⟨x7_1,x8_1,rfl,HA,HK1,HO_2,HO_7,BK402,HB⟩:=hrel
  cases gk with
  | zero=>exact absurd HA.out (by simp [thresherref19_Keep.l0])
  | succ k1 =>
   have H:=HA.out
   clear HA
   simp only [thresherref19_Keep.l0] at H
   by_cases c7 : x8_1 < (l2.length : Int)
   ·rw [if_pos c7] at H
    have c7b0 : decide (x8_1 < (l2.length : Int))=true:=decide_eq_true c7
    clear c7
    have H':=Aside0.mk H
    clear H
    go_wp2
    go_loopg [9,10] k1 (fun kq v9 v10 w'=>∃ (x9_2 : Bool) (x10_2 : Int),v9=.bool x9_2∧v10=.int .i64 x10_2∧Aside0 (thresherref19_Keep.l1 kq l1 l2 x7_1 x8_1 x9_2 x10_2 l0_0 a0_1 a0_2 a0_3=some r)∧Aside0 (kq≤k1)∧Aside0 (Kd.V (Kd.slice 37 k37) 41 w' w.heap.size (fun k_=>(P2_ k_ ∨ w.heap.size≤k_)∧some k_≠(u7 : Value).ownBlock∧k_≠gb402) (.slice A2 l2.length c2) l2)∧Aside0 (Kd.N (Kd.slice 37 k37) 41 w' w.heap.size (fun k_=>(P2_ k_ ∨ w.heap.size≤k_)∧k_≠gb402) u7 x7_1)∧Aside0 (w'.heap[gb402]?=some (.cells #[(.slice A0_0 l0_0.length c0_0),.int .i64 a0_1,.int .i64 a0_2,.int .i64 a0_3] 32 (0,0)))∧Aside0 (Below w.heap.size w w'))
    case atStart=>exact ⟨(true),(0),(by first|rfl|(simp;done)|(simp [*];done)),(by first|rfl|(simp;done)|(simp [*];done)),H',⟨Nat.le_refl _⟩,⟨by (with_reducible repeat (first|apply Kd.V_alloc|apply Kd.V_drewN|apply Kd.V_drew));exact HO_2.out⟩,⟨by (with_reducible repeat (first|apply Kd.N_alloc|apply Kd.N_drewN|apply Kd.N_drew));exact HO_7.out⟩,⟨by (with_reducible repeat (first|refine blk_drewN ?_ _|refine blk_drew ?_|refine blk_alloc ?_ _));exact BK402.out⟩,⟨by repeat (first|(with_reducible first|exact HB.out|apply below_alloc|apply pw_below_drewN|apply below_drew1|refine below_set ?_ GE402.out)|exact HB.out)⟩⟩
    case round =>
     clear H'
     try clear c1
     try clear c2
     try clear p2
     try clear c7
     try clear c7b0
     try clear p2
     obtain ⟨x9_2,x10_2,rfl,rfl,HA,HK2,HO_2,HO_7,BK402,HB⟩:=hrel
     cases gk with
     | zero=>exact absurd HA.out (by simp [thresherref19_Keep.l1])
     | succ k2 =>
      have H:=HA.out
      clear HA
      simp only [thresherref19_Keep.l1] at H
      by_cases c8 : x10_2 < (l1.length : Int)
      ·rw [if_pos c8] at H
       have c8b0 : decide (x10_2 < (l1.length : Int))=true:=decide_eq_true c8
       clear c8
       by_cases c9 : 0≤x10_2
       ·rw [if_pos c9] at H
        have c9b0 : decide (0≤x10_2)=true:=decide_eq_true c9
        clear c9
        by_cases c10 : 0≤((rd_T39 l1 x10_2).f0)
        ·rw [if_pos c10] at H
         have c10b0 : decide (0≤((rd_T39 l1 x10_2).f0))=true:=decide_eq_true c10
         clear c10
         by_cases c11 : ((rd_T39 l1 x10_2).f0) < (l0_0.length : Int)
         ·rw [if_pos c11] at H
          have c11b0 : decide (((rd_T39 l1 x10_2).f0) < (l0_0.length : Int))=true:=decide_eq_true c11
          clear c11
          by_cases c12 : 0≤x8_1
          ·rw [if_pos c12] at H
           have c12b0 : decide (0≤x8_1)=true:=decide_eq_true c12
           clear c12
           by_cases c13 : x8_1 < (l2.length : Int)
           ·rw [if_pos c13] at H
            have c13b0 : decide (x8_1 < (l2.length : Int))=true:=decide_eq_true c13
            clear c13
            by_cases c14 : ((rd_T39 l1 x10_2).f0) < ((rd_L4 l2 x8_1).length : Int)
            ·rw [if_pos c14] at H
             have c14b0 : decide (((rd_T39 l1 x10_2).f0) < ((rd_L4 l2 x8_1).length : Int))=true:=decide_eq_true c14
             clear c14
             replace H:=Option.bind_eq_some_iff.mp H
             obtain ⟨t412,A150,H⟩:=H
             replace H : (if x9_2=true then (thresherref19_Keep.l1 k2 l1 l2 x7_1 x8_1 t412 (wrap64 (x10_2 + 1)) l0_0 a0_1 a0_2 a0_3) else (thresherref19_Keep.l1 k2 l1 l2 x7_1 x8_1 false (wrap64 (x10_2 + 1)) l0_0 a0_1 a0_2 a0_3))=some r:=H
             have A15:=Aside0.mk A150
             clear A150
             by_cases c16 : x9_2=true
             ·subst c16
              have H1 : (thresherref19_Keep.l1 k2 l1 l2 x7_1 x8_1 t412 (wrap64 (x10_2 + 1)) l0_0 a0_1 a0_2 a0_3)=some r:=by rw [if_pos rfl] at H;exact H
              clear H
              have H:=H1
              clear H1
              have H':=Aside0.mk H
              clear H
              try go_wp2
              have n0_:=Aside0.mk (Kd.V_drew HO_2.out)
              have n1_:=Aside0.mk (Kd.N_drew HO_7.out)
              have n2_:=Aside0.mk (blk_drew BK402.out)
              have n3_:=Aside0.mk (below_drew1 HB.out)
              clear HO_2
              clear HO_7
              clear BK402
              clear HB
              have HO_2:=n0_
              have HO_7:=n1_
              have BK402:=n2_
              have HB:=n3_
              clear n0_ n1_ n2_ n3_
              have p406 : 0≤(x10_2 : Int):=of_decide_eq_true (by first|(with_reducible assumption)|assumption)
              have q406 : x10_2 < (l1.length : Int):=of_decide_eq_true (by first|(with_reducible assumption)|assumption)
              obtain ⟨ad406,e406,hx406_0,hx406_1,hx406_2,hx406_3⟩:=at_T39 HR1.out x10_2 p406 q406
              have hw406_3:=hx406_3
              have hw406_2:=hx406_2
              have hw406_1:=hx406_1
              have hw406_0:=hx406_0
              cases e406
              replace hx406_0:=(HB.out.cell (World.block_lt_of_cell? w _ hx406_0)).trans hx406_0
              replace hx406_1:=(HB.out.cell (World.block_lt_of_cell? w _ hx406_1)).trans hx406_1
              replace hx406_2:=(HB.out.cell (World.block_lt_of_cell? w _ hx406_2)).trans hx406_2
              replace hx406_3:=(HB.out.cell (World.block_lt_of_cell? w _ hx406_3)).trans hx406_3
              replace p406:=eq_true p406
              replace q406:=eq_true q406
              have p407 : 0≤(((rd_T39 l1 x10_2).f0) : Int):=of_decide_eq_true (by first|(with_reducible assumption)|assumption)
              have q407 : ((rd_T39 l1 x10_2).f0) < (l0_0.length : Int):=of_decide_eq_true (by first|(with_reducible assumption)|assumption)
              obtain ⟨ad407,e407,hx407_0⟩:=Kd.at_int HR0_0.out ((rd_T39 l1 x10_2).f0) p407 q407
              have hw407_0:=hx407_0
              cases e407
              replace hx407_0:=(HB.out.cell (World.block_lt_of_cell? w _ hx407_0)).trans hx407_0
              replace p407:=eq_true p407
              replace q407:=eq_true q407
              have p408 : 0≤(x10_2 : Int):=of_decide_eq_true (by first|(with_reducible assumption)|assumption)
              have q408 : x10_2 < (l1.length : Int):=of_decide_eq_true (by first|(with_reducible assumption)|assumption)
              obtain ⟨ad408,e408,hx408_0,hx408_1,hx408_2,hx408_3⟩:=at_T39 HR1.out x10_2 p408 q408
              have hw408_3:=hx408_3
              have hw408_2:=hx408_2
              have hw408_1:=hx408_1
              have hw408_0:=hx408_0
              obtain rfl : ad406=ad408:=(by injection e408)
              replace hx408_0:=(HB.out.cell (World.block_lt_of_cell? w _ hx408_0)).trans hx408_0
              replace hx408_1:=(HB.out.cell (World.block_lt_of_cell? w _ hx408_1)).trans hx408_1
              replace hx408_2:=(HB.out.cell (World.block_lt_of_cell? w _ hx408_2)).trans hx408_2
              replace hx408_3:=(HB.out.cell (World.block_lt_of_cell? w _ hx408_3)).trans hx408_3
              replace p408:=eq_true p408
              replace q408:=eq_true q408
              have p409 : 0≤(x8_1 : Int):=of_decide_eq_true (by first|(with_reducible assumption)|assumption)
              have q409 : x8_1 < (l2.length : Int):=of_decide_eq_true (by first|(with_reducible assumption)|assumption)
              obtain ⟨ad409,A409_0,c409_0,e409,hx409_0,hl409_0,hi409_0⟩:=at_L4 (Kd.V_reads' HO_2.out).2.2 x8_1 p409 q409
              cases e409
              obtain ⟨ce409,hce409,hMe409,hcc409⟩:=Kd.V_get HO_2.out [] x8_1 p409 (by first|exact q409|exact of_decide_eq_true (by first|(with_reducible assumption)|assumption)|(have e_:=(Kd.V_reads' HO_2.out).1;omega))
              obtain ⟨ua409_0,uc409_0,rfl,ul409_0,ge409_0⟩:=Kd.FK_slice_open hMe409
              have hv409_0:=hcc409 0 _ rfl
              rw [Nat.add_zero,show ((Kd.slice 37 k37)).sz=1 from rfl,Nat.mul_one] at hv409_0
              replace hv409_0:=Option.some.inj (hv409_0.symm.trans hx409_0)
              injection hv409_0 with hva_ hvn_ hvc_
              rw [hva_] at ge409_0
              rw [hvc_] at ul409_0
              have HL409_0:=Aside0.mk (show Kd.V k37 37 _ w.heap.size _ _ (rd_L4 l2 x8_1) from Kd.V_mk ul409_0 ge409_0)
              clear hva_ hvn_ hvc_ ge409_0 ul409_0
              clear hcc409 hce409
              have HR409_0:=Aside0.mk hi409_0
              have HC409_0:=Aside0.mk hl409_0
              clear hi409_0 hl409_0
              replace p409:=eq_true p409
              replace q409:=eq_true q409
              have p410 : 0≤(x10_2 : Int):=of_decide_eq_true (by first|(with_reducible assumption)|assumption)
              have q410 : x10_2 < (l1.length : Int):=of_decide_eq_true (by first|(with_reducible assumption)|assumption)
              obtain ⟨ad410,e410,hx410_0,hx410_1,hx410_2,hx410_3⟩:=at_T39 HR1.out x10_2 p410 q410
              have hw410_3:=hx410_3
              have hw410_2:=hx410_2
              have hw410_1:=hx410_1
              have hw410_0:=hx410_0
              obtain rfl : ad406=ad410:=(by injection e410)
              replace hx410_0:=(HB.out.cell (World.block_lt_of_cell? w _ hx410_0)).trans hx410_0
              replace hx410_1:=(HB.out.cell (World.block_lt_of_cell? w _ hx410_1)).trans hx410_1
              replace hx410_2:=(HB.out.cell (World.block_lt_of_cell? w _ hx410_2)).trans hx410_2
              replace hx410_3:=(HB.out.cell (World.block_lt_of_cell? w _ hx410_3)).trans hx410_3
              replace p410:=eq_true p410
              replace q410:=eq_true q410
              have p411 : 0≤(((rd_T39 l1 x10_2).f0) : Int):=of_decide_eq_true (by first|(with_reducible assumption)|assumption)
              have q411 : ((rd_T39 l1 x10_2).f0) < ((rd_L4 l2 x8_1).length : Int):=of_decide_eq_true (by first|(with_reducible assumption)|assumption)
              obtain ⟨ad411,e411,hx411_0,hx411_1⟩:=at_T37 (by repeat (first|(with_reducible exact HR409_0.out)|(with_reducible refine Kd.C_alloc ?_ _)|(with_reducible refine Kd.C_drewN ?_ _)|(with_reducible refine Kd.C_drew ?_)|exact HR409_0.out)) ((rd_T39 l1 x10_2).f0) p411 q411
              cases e411
              replace p411:=eq_true p411
              replace q411:=eq_true q411
              refine start_ (n:=26) (S:=fun w'=>w'.cell? ⟨gb402,0,none⟩=some (.slice (some ad407) l0_0.length c0_0)∧w'.cell? ⟨gb402,1,none⟩=some (.int .i64 a0_1)∧w'.cell? ⟨gb402,2,none⟩=some (.int .i64 a0_2)∧w'.cell? ⟨gb402,3,none⟩=some (.int .i64 a0_3)∧w'.cell? (ad406.add ((x10_2).toNat * 4))=some (.int .i64 ((rd_T39 l1 x10_2).f0))∧w'.cell? ⟨(ad406.add ((x10_2).toNat * 4)).block,(ad406.add ((x10_2).toNat * 4)).off + 1,none⟩=some (.int .i64 ((rd_T39 l1 x10_2).f1))∧w'.cell? ⟨(ad406.add ((x10_2).toNat * 4)).block,(ad406.add ((x10_2).toNat * 4)).off + 2,none⟩=some (.int .i64 ((rd_T39 l1 x10_2).f2.f0))∧w'.cell? ⟨(ad406.add ((x10_2).toNat * 4)).block,(ad406.add ((x10_2).toNat * 4)).off + 3,none⟩=some (.string ((rd_T39 l1 x10_2).f2.f1))∧w'.cell? (ad407.add (((rd_T39 l1 x10_2).f0)).toNat)=some (.int .i64 (rd l0_0 ((rd_T39 l1 x10_2).f0)))∧w'.cell? (ad406.add ((x10_2).toNat * 4))=some (.int .i64 ((rd_T39 l1 x10_2).f0))∧w'.cell? ⟨(ad406.add ((x10_2).toNat * 4)).block,(ad406.add ((x10_2).toNat * 4)).off + 1,none⟩=some (.int .i64 ((rd_T39 l1 x10_2).f1))∧w'.cell? ⟨(ad406.add ((x10_2).toNat * 4)).block,(ad406.add ((x10_2).toNat * 4)).off + 2,none⟩=some (.int .i64 ((rd_T39 l1 x10_2).f2.f0))∧w'.cell? ⟨(ad406.add ((x10_2).toNat * 4)).block,(ad406.add ((x10_2).toNat * 4)).off + 3,none⟩=some (.string ((rd_T39 l1 x10_2).f2.f1))∧w'.cell? (ad409.add (x8_1).toNat)=some (.slice (some ad411) (rd_L4 l2 x8_1).length c409_0)∧w'.cell? (ad406.add ((x10_2).toNat * 4))=some (.int .i64 ((rd_T39 l1 x10_2).f0))∧w'.cell? ⟨(ad406.add ((x10_2).toNat * 4)).block,(ad406.add ((x10_2).toNat * 4)).off + 1,none⟩=some (.int .i64 ((rd_T39 l1 x10_2).f1))∧w'.cell? ⟨(ad406.add ((x10_2).toNat * 4)).block,(ad406.add ((x10_2).toNat * 4)).off + 2,none⟩=some (.int .i64 ((rd_T39 l1 x10_2).f2.f0))∧w'.cell? ⟨(ad406.add ((x10_2).toNat * 4)).block,(ad406.add ((x10_2).toNat * 4)).off + 3,none⟩=some (.string ((rd_T39 l1 x10_2).f2.f1))∧w'.cell? (ad411.add ((((rd_T39 l1 x10_2).f0)).toNat * 2))=some (.int .i64 ((rd_T37 (rd_L4 l2 x8_1) ((rd_T39 l1 x10_2).f0)).f0))∧w'.cell? ⟨(ad411.add ((((rd_T39 l1 x10_2).f0)).toNat * 2)).block,(ad411.add ((((rd_T39 l1 x10_2).f0)).toNat * 2)).off + 1,none⟩=some (.string ((rd_T37 (rd_L4 l2 x8_1) ((rd_T39 l1 x10_2).f0)).f1))) (ds:=[]) #[false,false,false,false,false,false,false,false,false,false,false,false,false,false,false,false,false,false,false,false,false,false,false,false,false,false] (by kernel_rfl) rfl rfl ⟨(blk_cell BK402.out 0).trans rfl,(blk_cell BK402.out 1).trans rfl,(blk_cell BK402.out 2).trans rfl,(blk_cell BK402.out 3).trans rfl,((HB.out.cell (World.block_lt_of_cell? w _ hw406_0)).trans hw406_0),((HB.out.cell (World.block_lt_of_cell? w _ hw406_1)).trans hw406_1),((HB.out.cell (World.block_lt_of_cell? w _ hw406_2)).trans hw406_2),((HB.out.cell (World.block_lt_of_cell? w _ hw406_3)).trans hw406_3),((HB.out.cell (World.block_lt_of_cell? w _ hw407_0)).trans hw407_0),((HB.out.cell (World.block_lt_of_cell? w _ hw408_0)).trans hw408_0),((HB.out.cell (World.block_lt_of_cell? w _ hw408_1)).trans hw408_1),((HB.out.cell (World.block_lt_of_cell? w _ hw408_2)).trans hw408_2),((HB.out.cell (World.block_lt_of_cell? w _ hw408_3)).trans hw408_3),hx409_0,((HB.out.cell (World.block_lt_of_cell? w _ hw410_0)).trans hw410_0),((HB.out.cell (World.block_lt_of_cell? w _ hw410_1)).trans hw410_1),((HB.out.cell (World.block_lt_of_cell? w _ hw410_2)).trans hw410_2),((HB.out.cell (World.block_lt_of_cell? w _ hw410_3)).trans hw410_3),hx411_0,hx411_1⟩ (fun hHeld=>?_);refine with_tabW thresherref19_Keep.tab9 thresherref19_Keep.bits9 (fun HT_ HW_=>?_)
              generalize wr.drew=w17 at HO_2 HO_7 BK402 HB HL409_0 HR409_0 hx406_0 hx406_1 hx406_2 hx406_3 hx407_0 hx408_0 hx408_1 hx408_2 hx408_3 hx409_0 hx410_0 hx410_1 hx410_2 hx410_3 hx411_0 hx411_1 hHeld ⊢
              refine pure_ (i:=0) (N:=some 25) (v:=?_) (a':=?_) #[true,false,false,false,false,false,false,false,false,false,false,false,false,false,false,false,false,false,false,false,false,false,false,false,false,false] rfl rfl (any_of HT_.out (by kernel_rfl)) (fun _ _ _ h=>h) (Or.inl ⟨by rfl,?_⟩) ?_ ?_
              rotate_left;(intro w';go_simp;with_reducible rfl);rotate_left;(simp only [Act.put,List.setIfInBounds_toArray,List.set_cons_zero,List.set_cons_succ,i64_w,i32_w];rfl)
              refine pure_ (i:=2) (N:=some 27) (v:=?_) (a':=?_) #[true,false,true,false,false,false,false,false,false,false,false,false,false,false,false,false,false,false,false,false,false,false,false,false,false,false] rfl rfl (any_of HT_.out (by kernel_rfl)) (fun _ _ _ h=>h) (Or.inl ⟨by rfl,?_⟩) ?_ ?_
              rotate_left;(intro w';go_simp;with_reducible rfl);rotate_left;(simp only [Act.put,List.setIfInBounds_toArray,List.set_cons_zero,List.set_cons_succ,i64_w,i32_w];rfl)
              refine pure_ (i:=3) (N:=some 28) (v:=?_) (a':=?_) #[true,false,true,true,false,false,false,false,false,false,false,false,false,false,false,false,false,false,false,false,false,false,false,false,false,false] rfl rfl (any_of HT_.out (by kernel_rfl)) (fun _ _ _ h=>h) (Or.inl ⟨by rfl,?_⟩) ?_ ?_
              rotate_left;(intro w';go_simp;with_reducible rfl);rotate_left;(simp only [Act.put,List.setIfInBounds_toArray,List.set_cons_zero,List.set_cons_succ,i64_w,i32_w];rfl)
              refine pure_ (i:=4) (N:=some 29) (v:=?_) (a':=?_) #[true,false,true,true,true,false,false,false,false,false,false,false,false,false,false,false,false,false,false,false,false,false,false,false,false,false] rfl rfl (any_of HT_.out (by kernel_rfl)) (fun _ _ _ h=>h) (Or.inl ⟨by rfl,?_⟩) ?_ ?_
              rotate_left;(intro w';go_simp;with_reducible rfl);rotate_left;(simp only [Act.put,List.setIfInBounds_toArray,List.set_cons_zero,List.set_cons_succ,i64_w,i32_w];rfl)
              refine pure_ (i:=5) (N:=some 30) (v:=?_) (a':=?_) #[true,false,true,true,true,true,false,false,false,false,false,false,false,false,false,false,false,false,false,false,false,false,false,false,false,false] rfl rfl (any_of HT_.out (by kernel_rfl)) (fun _ _ _ h=>h) (Or.inl ⟨by rfl,?_⟩) ?_ ?_
              rotate_left;(intro w';go_simp;with_reducible rfl);rotate_left;(simp only [Act.put,List.setIfInBounds_toArray,List.set_cons_zero,List.set_cons_succ,i64_w,i32_w];rfl)
              refine pure_ (i:=9) (N:=some 34) (v:=?_) (a':=?_) #[true,false,true,true,true,true,false,false,false,true,false,false,false,false,false,false,false,false,false,false,false,false,false,false,false,false] rfl rfl (any_of HT_.out (by kernel_rfl)) (fun _ _ _ h=>h) (Or.inl ⟨by rfl,?_⟩) ?_ ?_
              rotate_left;(intro w';go_simp;with_reducible rfl);rotate_left;(simp only [Act.put,List.setIfInBounds_toArray,List.set_cons_zero,List.set_cons_succ,i64_w,i32_w];rfl)
              refine pure_ (i:=10) (N:=some 35) (v:=?_) (a':=?_) #[true,false,true,true,true,true,false,false,false,true,true,false,false,false,false,false,false,false,false,false,false,false,false,false,false,false] rfl rfl (any_of HT_.out (by kernel_rfl)) (fun _ _ _ h=>h) (Or.inl ⟨by rfl,?_⟩) ?_ ?_
              rotate_left;(intro w';go_simp;with_reducible rfl);rotate_left;(simp only [Act.put,List.setIfInBounds_toArray,List.set_cons_zero,List.set_cons_succ,i64_w,i32_w];rfl)
              refine pure_ (i:=11) (N:=some 36) (v:=?_) (a':=?_) #[true,false,true,true,true,true,false,false,false,true,true,true,false,false,false,false,false,false,false,false,false,false,false,false,false,false] rfl rfl (any_of HT_.out (by kernel_rfl)) (fun _ _ _ h=>h) (Or.inl ⟨by rfl,?_⟩) ?_ ?_
              rotate_left;(intro w';go_simp;with_reducible rfl);rotate_left;(simp only [Act.put,List.setIfInBounds_toArray,List.set_cons_zero,List.set_cons_succ,i64_w,i32_w];rfl)
              refine pure_ (i:=13) (N:=some 38) (v:=?_) (a':=?_) #[true,false,true,true,true,true,false,false,false,true,true,true,false,true,false,false,false,false,false,false,false,false,false,false,false,false] rfl rfl (any_of HT_.out (by kernel_rfl)) (fun _ _ _ h=>h) (Or.inl ⟨by rfl,?_⟩) ?_ ?_
              rotate_left;(intro w';go_simp;with_reducible rfl);rotate_left;(simp only [Act.put,List.setIfInBounds_toArray,List.set_cons_zero,List.set_cons_succ,i64_w,i32_w];rfl)
              refine pure_ (i:=14) (N:=some 39) (v:=?_) (a':=?_) #[true,false,true,true,true,true,false,false,false,true,true,true,false,true,true,false,false,false,false,false,false,false,false,false,false,false] rfl rfl (any_of HT_.out (by kernel_rfl)) (fun _ _ _ h=>h) (Or.inl ⟨by rfl,?_⟩) ?_ ?_
              rotate_left;(intro w';go_simp;with_reducible rfl);rotate_left;(simp only [Act.put,List.setIfInBounds_toArray,List.set_cons_zero,List.set_cons_succ,i64_w,i32_w];rfl)
              refine pure_ (i:=15) (N:=some 40) (v:=?_) (a':=?_) #[true,false,true,true,true,true,false,false,false,true,true,true,false,true,true,true,false,false,false,false,false,false,false,false,false,false] rfl rfl (any_of HT_.out (by kernel_rfl)) (fun _ _ _ h=>h) (Or.inl ⟨by rfl,?_⟩) ?_ ?_
              rotate_left;(intro w';go_simp;with_reducible rfl);rotate_left;(simp only [Act.put,List.setIfInBounds_toArray,List.set_cons_zero,List.set_cons_succ,i64_w,i32_w];rfl)
              refine pure_ (i:=17) (N:=some 42) (v:=?_) (a':=?_) #[true,false,true,true,true,true,false,false,false,true,true,true,false,true,true,true,false,true,false,false,false,false,false,false,false,false] rfl rfl (any_of HT_.out (by kernel_rfl)) (fun _ _ _ h=>h) (Or.inl ⟨by rfl,?_⟩) ?_ ?_
              rotate_left;(intro w';go_simp;with_reducible rfl);rotate_left;(simp only [Act.put,List.setIfInBounds_toArray,List.set_cons_zero,List.set_cons_succ,i64_w,i32_w];rfl)
              refine pure_ (i:=18) (N:=some 43) (v:=?_) (a':=?_) #[true,false,true,true,true,true,false,false,false,true,true,true,false,true,true,true,false,true,true,false,false,false,false,false,false,false] rfl rfl (any_of HT_.out (by kernel_rfl)) (fun _ _ _ h=>h) (Or.inl ⟨by rfl,?_⟩) ?_ ?_
              rotate_left;(intro w';go_simp;with_reducible rfl);rotate_left;(simp only [Act.put,List.setIfInBounds_toArray,List.set_cons_zero,List.set_cons_succ,i64_w,i32_w];rfl)
              refine pure_ (i:=19) (N:=some 44) (v:=?_) (a':=?_) #[true,false,true,true,true,true,false,false,false,true,true,true,false,true,true,true,false,true,true,true,false,false,false,false,false,false] rfl rfl (any_of HT_.out (by kernel_rfl)) (fun _ _ _ h=>h) (Or.inl ⟨by rfl,?_⟩) ?_ ?_
              rotate_left;(intro w';go_simp;with_reducible rfl);rotate_left;(simp only [Act.put,List.setIfInBounds_toArray,List.set_cons_zero,List.set_cons_succ,i64_w,i32_w];rfl)
              refine pure_ (i:=20) (N:=some 45) (v:=?_) (a':=?_) #[true,false,true,true,true,true,false,false,false,true,true,true,false,true,true,true,false,true,true,true,true,false,false,false,false,false] rfl rfl (any_of HT_.out (by kernel_rfl)) (fun _ _ _ h=>h) (Or.inl ⟨by rfl,?_⟩) ?_ ?_
              rotate_left;(intro w';go_simp;with_reducible rfl);rotate_left;(simp only [Act.put,List.setIfInBounds_toArray,List.set_cons_zero,List.set_cons_succ,i64_w,i32_w];rfl)
              refine take_ (i:=1) (N:=some 26) (v:=?_) (a':=?_) #[true,true,true,true,true,true,false,false,false,true,true,true,false,true,true,true,false,true,true,true,true,false,false,false,false,false] rfl rfl (take_ofW HT_.out HW_.out (by kernel_rfl)) (fun _ _ _ h=>h) (Or.inl ⟨by rfl,?_⟩) hHeld ?_ ?_
              rotate_left;(rintro w' ⟨s0,s1,s2,s3,s4,s5,s6,s7,s8,s9,s10,s11,s12,s13,s14,s15,s16,s17,s18,s19⟩;go_simp;with_reducible rfl);rotate_left;(simp only [Act.put,List.setIfInBounds_toArray,List.set_cons_zero,List.set_cons_succ,i64_w,i32_w];rfl)
              refine take_ (i:=6) (N:=some 31) (v:=?_) (a':=?_) #[true,true,true,true,true,true,true,false,false,true,true,true,false,true,true,true,false,true,true,true,true,false,false,false,false,false] rfl rfl (take_ofW HT_.out HW_.out (by kernel_rfl)) (fun _ _ _ h=>h) (Or.inl ⟨by rfl,?_⟩) hHeld ?_ ?_
              rotate_left;(rintro w' ⟨s0,s1,s2,s3,s4,s5,s6,s7,s8,s9,s10,s11,s12,s13,s14,s15,s16,s17,s18,s19⟩;go_simp;with_reducible rfl);rotate_left;(simp only [Act.put,List.setIfInBounds_toArray,List.set_cons_zero,List.set_cons_succ,i64_w,i32_w];rfl)
              refine pure_ (i:=7) (N:=some 32) (v:=?_) (a':=?_) #[true,true,true,true,true,true,true,true,false,true,true,true,false,true,true,true,false,true,true,true,true,false,false,false,false,false] rfl rfl (any_of HT_.out (by kernel_rfl)) (fun _ _ _ h=>h) (Or.inl ⟨by rfl,?_⟩) ?_ ?_
              rotate_left;(intro w';go_simp;with_reducible rfl);rotate_left;(simp only [Act.put,List.setIfInBounds_toArray,List.set_cons_zero,List.set_cons_succ,i64_w,i32_w];rfl)
              refine take_ (i:=8) (N:=some 33) (v:=?_) (a':=?_) #[true,true,true,true,true,true,true,true,true,true,true,true,false,true,true,true,false,true,true,true,true,false,false,false,false,false] rfl rfl (take_ofW HT_.out HW_.out (by kernel_rfl)) (fun _ _ _ h=>h) (Or.inl ⟨by rfl,?_⟩) hHeld ?_ ?_
              rotate_left;(rintro w' ⟨s0,s1,s2,s3,s4,s5,s6,s7,s8,s9,s10,s11,s12,s13,s14,s15,s16,s17,s18,s19⟩;go_simp;with_reducible rfl);rotate_left;(simp only [Act.put,List.setIfInBounds_toArray,List.set_cons_zero,List.set_cons_succ,i64_w,i32_w];rfl)
              refine take_ (i:=12) (N:=some 37) (v:=?_) (a':=?_) #[true,true,true,true,true,true,true,true,true,true,true,true,true,true,true,true,false,true,true,true,true,false,false,false,false,false] rfl rfl (take_ofW HT_.out HW_.out (by kernel_rfl)) (fun _ _ _ h=>h) (Or.inl ⟨by rfl,?_⟩) hHeld ?_ ?_
              rotate_left;(rintro w' ⟨s0,s1,s2,s3,s4,s5,s6,s7,s8,s9,s10,s11,s12,s13,s14,s15,s16,s17,s18,s19⟩;go_simp;with_reducible rfl);rotate_left;(simp only [Act.put,List.setIfInBounds_toArray,List.set_cons_zero,List.set_cons_succ,i64_w,i32_w];rfl)
              refine take_ (i:=16) (N:=some 41) (v:=?_) (a':=?_) #[true,true,true,true,true,true,true,true,true,true,true,true,true,true,true,true,true,true,true,true,true,false,false,false,false,false] rfl rfl (take_ofW HT_.out HW_.out (by kernel_rfl)) (fun _ _ _ h=>h) (Or.inl ⟨by rfl,?_⟩) hHeld ?_ ?_
              rotate_left;(rintro w' ⟨s0,s1,s2,s3,s4,s5,s6,s7,s8,s9,s10,s11,s12,s13,s14,s15,s16,s17,s18,s19⟩;go_simp;with_reducible rfl);rotate_left;(simp only [Act.put,List.setIfInBounds_toArray,List.set_cons_zero,List.set_cons_succ,i64_w,i32_w];rfl)
              refine take_ (i:=21) (N:=some 46) (v:=?_) (a':=?_) #[true,true,true,true,true,true,true,true,true,true,true,true,true,true,true,true,true,true,true,true,true,true,false,false,false,false] rfl rfl (take_ofW HT_.out HW_.out (by kernel_rfl)) (fun _ _ _ h=>h) (Or.inl ⟨by rfl,?_⟩) hHeld ?_ ?_
              rotate_left;(rintro w' ⟨s0,s1,s2,s3,s4,s5,s6,s7,s8,s9,s10,s11,s12,s13,s14,s15,s16,s17,s18,s19⟩;go_simp;with_reducible rfl);rotate_left;(simp only [Act.put,List.setIfInBounds_toArray,List.set_cons_zero,List.set_cons_succ,i64_w,i32_w];rfl)
              refine pure_ (i:=22) (N:=some 47) (v:=?_) (a':=?_) #[true,true,true,true,true,true,true,true,true,true,true,true,true,true,true,true,true,true,true,true,true,true,true,false,false,false] rfl rfl (any_of HT_.out (by kernel_rfl)) (fun _ _ _ h=>h) (Or.inl ⟨by rfl,?_⟩) ?_ ?_
              rotate_left;(intro w';go_simp;with_reducible rfl);rotate_left;(simp only [Act.put,List.setIfInBounds_toArray,List.set_cons_zero,List.set_cons_succ,i64_w,i32_w];rfl)
              refine take_ (i:=23) (N:=some 48) (v:=?_) (a':=?_) #[true,true,true,true,true,true,true,true,true,true,true,true,true,true,true,true,true,true,true,true,true,true,true,true,false,false] rfl rfl (take_ofW HT_.out HW_.out (by kernel_rfl)) (fun _ _ _ h=>h) (Or.inl ⟨by rfl,?_⟩) hHeld ?_ ?_
              rotate_left;(rintro w' ⟨s0,s1,s2,s3,s4,s5,s6,s7,s8,s9,s10,s11,s12,s13,s14,s15,s16,s17,s18,s19⟩;go_simp;with_reducible rfl);rotate_left;(simp only [Act.put,List.setIfInBounds_toArray,List.set_cons_zero,List.set_cons_succ,i64_w,i32_w];rfl)
              refine one_ (i:=24) (N:=some 49) #[true,true,true,true,true,true,true,true,true,true,true,true,true,true,true,true,true,true,true,true,true,true,true,true,true,false] rfl rfl (one_of HT_.out (by kernel_rfl)) (by decide) (fun K hK=>?_)
              refine goes_ Try.func26 (by kernel_rfl) rfl #[.int .i64 (rd l0_0 ((rd_T39 l1 x10_2).f0)),.agg #[.int .i64 ((rd_T39 l1 x10_2).f0),.int .i64 ((rd_T39 l1 x10_2).f1),.int .i64 ((rd_T39 l1 x10_2).f2.f0),.string ((rd_T39 l1 x10_2).f2.f1)],.agg #[.int .i64 ((rd_T37 (rd_L4 l2 x8_1) ((rd_T39 l1 x10_2).f0)).f0),.string ((rd_T37 (rd_L4 l2 x8_1) ((rd_T39 l1 x10_2).f0)).f1)]] (by rfl) rfl rfl (by (try simp only [List.map_toArray,List.map_cons,List.map_nil]);first|done|rfl|(simp only [List.length_drop,List.length_take];rfl)) ?_
              with_reducible refine (thresherref19_Holds.calls k2 (rd l0_0 ((rd_T39 l1 x10_2).f0)) ((rd_T39 l1 x10_2).f0) ((rd_T39 l1 x10_2).f1) ((rd_T39 l1 x10_2).f2.f0) ((rd_T39 l1 x10_2).f2.f1) ((rd_T37 (rd_L4 l2 x8_1) ((rd_T39 l1 x10_2).f0)).f0) ((rd_T37 (rd_L4 l2 x8_1) ((rd_T39 l1 x10_2).f0)).f1) t412 _ A15.out).mono ?_
              rintro e w18 ⟨rfl,hb⟩
              have HS13_:=(hb.cell (World.block_lt_of_cell? _ _ (hHeld.2.2.2.2.2.2.2.2.2.2.2.2.2.1))).trans (hHeld.2.2.2.2.2.2.2.2.2.2.2.2.2.1)
              have HS18_:=(hb.cell (World.block_lt_of_cell? _ _ (hHeld.2.2.2.2.2.2.2.2.2.2.2.2.2.2.2.2.2.2.1))).trans (hHeld.2.2.2.2.2.2.2.2.2.2.2.2.2.2.2.2.2.2.1)
              have HS19_:=(hb.cell (World.block_lt_of_cell? _ _ (hHeld.2.2.2.2.2.2.2.2.2.2.2.2.2.2.2.2.2.2.2))).trans (hHeld.2.2.2.2.2.2.2.2.2.2.2.2.2.2.2.2.2.2.2)
              refine ⟨_,rfl,?_⟩
              have n0_:=Aside0.mk (Kd.V_below (V_up HO_2.out) hb)
              have n1_:=Aside0.mk (Kd.N_below (N_up HO_7.out) hb)
              have n2_:=Aside0.mk (Kd.V_below (by (with_reducible repeat (first|apply Kd.V_alloc|apply Kd.V_drewN|apply Kd.V_drew));exact HL409_0.out) hb)
              have n3_:=Aside0.mk (blk_below (blk_up BK402.out) hb)
              have n4_:=Aside0.mk (Kd.C_below (by repeat (first|(with_reducible exact HR409_0.out)|(with_reducible refine Kd.C_alloc ?_ _)|(with_reducible refine Kd.C_drewN ?_ _)|(with_reducible refine Kd.C_drew ?_)|exact HR409_0.out)) hb)
              have n5_:=Aside0.mk (below_step (below_go HB.out) hb)
              clear HO_2
              clear HO_7
              clear HL409_0
              clear BK402
              clear HR409_0
              clear HB
              have HO_2:=n0_
              have HO_7:=n1_
              have HL409_0:=n2_
              have BK402:=n3_
              have HR409_0:=n4_
              have HB:=n5_
              clear n0_ n1_ n2_ n3_ n4_ n5_
              (try clear hb)
              (try clear hb2)
              (try clear hk)
              (try clear hi)
              refine hK.out _ _ ⟨(blk_cell BK402.out 0).trans rfl,(blk_cell BK402.out 1).trans rfl,(blk_cell BK402.out 2).trans rfl,(blk_cell BK402.out 3).trans rfl,((HB.out.cell (World.block_lt_of_cell? w _ hw406_0)).trans hw406_0),((HB.out.cell (World.block_lt_of_cell? w _ hw406_1)).trans hw406_1),((HB.out.cell (World.block_lt_of_cell? w _ hw406_2)).trans hw406_2),((HB.out.cell (World.block_lt_of_cell? w _ hw406_3)).trans hw406_3),((HB.out.cell (World.block_lt_of_cell? w _ hw407_0)).trans hw407_0),((HB.out.cell (World.block_lt_of_cell? w _ hw408_0)).trans hw408_0),((HB.out.cell (World.block_lt_of_cell? w _ hw408_1)).trans hw408_1),((HB.out.cell (World.block_lt_of_cell? w _ hw408_2)).trans hw408_2),((HB.out.cell (World.block_lt_of_cell? w _ hw408_3)).trans hw408_3),HS13_,((HB.out.cell (World.block_lt_of_cell? w _ hw410_0)).trans hw410_0),((HB.out.cell (World.block_lt_of_cell? w _ hw410_1)).trans hw410_1),((HB.out.cell (World.block_lt_of_cell? w _ hw410_2)).trans hw410_2),((HB.out.cell (World.block_lt_of_cell? w _ hw410_3)).trans hw410_3),HS18_,HS19_⟩ (fun hHeld=>?_)
              clear hK K
              refine norm_ (a':=?_) ?_ ?_
              rotate_left
              ·show Act.put _ (some 49) _=_
               simp only [Act.put,List.setIfInBounds_toArray,List.set_cons_zero,List.set_cons_succ,i64_w,i32_w]
               rfl
              refine pure_ (i:=25) (N:=some 11) (v:=?_) (a':=?_) #[true,true,true,true,true,true,true,true,true,true,true,true,true,true,true,true,true,true,true,true,true,true,true,true,true,true] rfl rfl (any_of HT_.out (by kernel_rfl)) (fun _ _ _ h=>h) (Or.inl ⟨by rfl,?_⟩) ?_ ?_
              rotate_left;(intro w';go_simp;with_reducible rfl);rotate_left;(simp only [Act.put,List.setIfInBounds_toArray,List.set_cons_zero,List.set_cons_succ,i64_w,i32_w];rfl)
              refine done_ (done_of HT_.out (by kernel_rfl)) ?_
              (try clear HS13_);(try clear HS18_);(try clear HS19_);(try clear hHeld)
              try go_wp2
              go_roundg k2
              case measure=>have:=HK1.out;have:=HK2.out;omega
              case rel=>exact ⟨(t412),(wrap64 (x10_2 + 1)),(by first|rfl|(simp;done)|(simp [*];done)),(by first|rfl|(simp;done)|(simp [*];done)),(by first|exact H'|(subst_vars;exact H')),⟨by have:=HK1.out;have:=HK2.out;omega⟩,⟨by (with_reducible repeat (first|apply Kd.V_alloc|apply Kd.V_drewN|apply Kd.V_drew));exact HO_2.out⟩,⟨by (with_reducible repeat (first|apply Kd.N_alloc|apply Kd.N_drewN|apply Kd.N_drew));exact HO_7.out⟩,⟨by (with_reducible repeat (first|refine blk_drewN ?_ _|refine blk_drew ?_|refine blk_alloc ?_ _));exact BK402.out⟩,⟨by repeat (first|(with_reducible first|exact HB.out|apply below_alloc|apply pw_below_drewN|apply below_drew1|refine below_set ?_ GE402.out)|exact HB.out)⟩⟩
             ·replace c16:=Bool.eq_false_iff.mpr c16
              subst c16
              have H1 : (thresherref19_Keep.l1 k2 l1 l2 x7_1 x8_1 false (wrap64 (x10_2 + 1)) l0_0 a0_1 a0_2 a0_3)=some r:=by rw [if_neg (show ¬ (false=true) by decide)] at H;exact H
              clear H
              have H:=H1
              clear H1
              have H':=Aside0.mk H
              clear H
              try go_wp2
              have n0_:=Aside0.mk (Kd.V_drew HO_2.out)
              have n1_:=Aside0.mk (Kd.N_drew HO_7.out)
              have n2_:=Aside0.mk (blk_drew BK402.out)
              have n3_:=Aside0.mk (below_drew1 HB.out)
              clear HO_2
              clear HO_7
              clear BK402
              clear HB
              have HO_2:=n0_
              have HO_7:=n1_
              have BK402:=n2_
              have HB:=n3_
              clear n0_ n1_ n2_ n3_
              have p406 : 0≤(x10_2 : Int):=of_decide_eq_true (by first|(with_reducible assumption)|assumption)
              have q406 : x10_2 < (l1.length : Int):=of_decide_eq_true (by first|(with_reducible assumption)|assumption)
              obtain ⟨ad406,e406,hx406_0,hx406_1,hx406_2,hx406_3⟩:=at_T39 HR1.out x10_2 p406 q406
              have hw406_3:=hx406_3
              have hw406_2:=hx406_2
              have hw406_1:=hx406_1
              have hw406_0:=hx406_0
              cases e406
              replace hx406_0:=(HB.out.cell (World.block_lt_of_cell? w _ hx406_0)).trans hx406_0
              replace hx406_1:=(HB.out.cell (World.block_lt_of_cell? w _ hx406_1)).trans hx406_1
              replace hx406_2:=(HB.out.cell (World.block_lt_of_cell? w _ hx406_2)).trans hx406_2
              replace hx406_3:=(HB.out.cell (World.block_lt_of_cell? w _ hx406_3)).trans hx406_3
              replace p406:=eq_true p406
              replace q406:=eq_true q406
              have p407 : 0≤(((rd_T39 l1 x10_2).f0) : Int):=of_decide_eq_true (by first|(with_reducible assumption)|assumption)
              have q407 : ((rd_T39 l1 x10_2).f0) < (l0_0.length : Int):=of_decide_eq_true (by first|(with_reducible assumption)|assumption)
              obtain ⟨ad407,e407,hx407_0⟩:=Kd.at_int HR0_0.out ((rd_T39 l1 x10_2).f0) p407 q407
              have hw407_0:=hx407_0
              cases e407
              replace hx407_0:=(HB.out.cell (World.block_lt_of_cell? w _ hx407_0)).trans hx407_0
              replace p407:=eq_true p407
              replace q407:=eq_true q407
              have p408 : 0≤(x10_2 : Int):=of_decide_eq_true (by first|(with_reducible assumption)|assumption)
              have q408 : x10_2 < (l1.length : Int):=of_decide_eq_true (by first|(with_reducible assumption)|assumption)
              obtain ⟨ad408,e408,hx408_0,hx408_1,hx408_2,hx408_3⟩:=at_T39 HR1.out x10_2 p408 q408
              have hw408_3:=hx408_3
              have hw408_2:=hx408_2
              have hw408_1:=hx408_1
              have hw408_0:=hx408_0
              obtain rfl : ad406=ad408:=(by injection e408)
              replace hx408_0:=(HB.out.cell (World.block_lt_of_cell? w _ hx408_0)).trans hx408_0
              replace hx408_1:=(HB.out.cell (World.block_lt_of_cell? w _ hx408_1)).trans hx408_1
              replace hx408_2:=(HB.out.cell (World.block_lt_of_cell? w _ hx408_2)).trans hx408_2
              replace hx408_3:=(HB.out.cell (World.block_lt_of_cell? w _ hx408_3)).trans hx408_3
              replace p408:=eq_true p408
              replace q408:=eq_true q408
              have p409 : 0≤(x8_1 : Int):=of_decide_eq_true (by first|(with_reducible assumption)|assumption)
              have q409 : x8_1 < (l2.length : Int):=of_decide_eq_true (by first|(with_reducible assumption)|assumption)
              obtain ⟨ad409,A409_0,c409_0,e409,hx409_0,hl409_0,hi409_0⟩:=at_L4 (Kd.V_reads' HO_2.out).2.2 x8_1 p409 q409
              cases e409
              obtain ⟨ce409,hce409,hMe409,hcc409⟩:=Kd.V_get HO_2.out [] x8_1 p409 (by first|exact q409|exact of_decide_eq_true (by first|(with_reducible assumption)|assumption)|(have e_:=(Kd.V_reads' HO_2.out).1;omega))
              obtain ⟨ua409_0,uc409_0,rfl,ul409_0,ge409_0⟩:=Kd.FK_slice_open hMe409
              have hv409_0:=hcc409 0 _ rfl
              rw [Nat.add_zero,show ((Kd.slice 37 k37)).sz=1 from rfl,Nat.mul_one] at hv409_0
              replace hv409_0:=Option.some.inj (hv409_0.symm.trans hx409_0)
              injection hv409_0 with hva_ hvn_ hvc_
              rw [hva_] at ge409_0
              rw [hvc_] at ul409_0
              have HL409_0:=Aside0.mk (show Kd.V k37 37 _ w.heap.size _ _ (rd_L4 l2 x8_1) from Kd.V_mk ul409_0 ge409_0)
              clear hva_ hvn_ hvc_ ge409_0 ul409_0
              clear hcc409 hce409
              have HR409_0:=Aside0.mk hi409_0
              have HC409_0:=Aside0.mk hl409_0
              clear hi409_0 hl409_0
              replace p409:=eq_true p409
              replace q409:=eq_true q409
              have p410 : 0≤(x10_2 : Int):=of_decide_eq_true (by first|(with_reducible assumption)|assumption)
              have q410 : x10_2 < (l1.length : Int):=of_decide_eq_true (by first|(with_reducible assumption)|assumption)
              obtain ⟨ad410,e410,hx410_0,hx410_1,hx410_2,hx410_3⟩:=at_T39 HR1.out x10_2 p410 q410
              have hw410_3:=hx410_3
              have hw410_2:=hx410_2
              have hw410_1:=hx410_1
              have hw410_0:=hx410_0
              obtain rfl : ad406=ad410:=(by injection e410)
              replace hx410_0:=(HB.out.cell (World.block_lt_of_cell? w _ hx410_0)).trans hx410_0
              replace hx410_1:=(HB.out.cell (World.block_lt_of_cell? w _ hx410_1)).trans hx410_1
              replace hx410_2:=(HB.out.cell (World.block_lt_of_cell? w _ hx410_2)).trans hx410_2
              replace hx410_3:=(HB.out.cell (World.block_lt_of_cell? w _ hx410_3)).trans hx410_3
              replace p410:=eq_true p410
              replace q410:=eq_true q410
              have p411 : 0≤(((rd_T39 l1 x10_2).f0) : Int):=of_decide_eq_true (by first|(with_reducible assumption)|assumption)
              have q411 : ((rd_T39 l1 x10_2).f0) < ((rd_L4 l2 x8_1).length : Int):=of_decide_eq_true (by first|(with_reducible assumption)|assumption)
              obtain ⟨ad411,e411,hx411_0,hx411_1⟩:=at_T37 (by repeat (first|(with_reducible exact HR409_0.out)|(with_reducible refine Kd.C_alloc ?_ _)|(with_reducible refine Kd.C_drewN ?_ _)|(with_reducible refine Kd.C_drew ?_)|exact HR409_0.out)) ((rd_T39 l1 x10_2).f0) p411 q411
              cases e411
              replace p411:=eq_true p411
              replace q411:=eq_true q411
              refine start_ (n:=26) (S:=fun w'=>w'.cell? ⟨gb402,0,none⟩=some (.slice (some ad407) l0_0.length c0_0)∧w'.cell? ⟨gb402,1,none⟩=some (.int .i64 a0_1)∧w'.cell? ⟨gb402,2,none⟩=some (.int .i64 a0_2)∧w'.cell? ⟨gb402,3,none⟩=some (.int .i64 a0_3)∧w'.cell? (ad406.add ((x10_2).toNat * 4))=some (.int .i64 ((rd_T39 l1 x10_2).f0))∧w'.cell? ⟨(ad406.add ((x10_2).toNat * 4)).block,(ad406.add ((x10_2).toNat * 4)).off + 1,none⟩=some (.int .i64 ((rd_T39 l1 x10_2).f1))∧w'.cell? ⟨(ad406.add ((x10_2).toNat * 4)).block,(ad406.add ((x10_2).toNat * 4)).off + 2,none⟩=some (.int .i64 ((rd_T39 l1 x10_2).f2.f0))∧w'.cell? ⟨(ad406.add ((x10_2).toNat * 4)).block,(ad406.add ((x10_2).toNat * 4)).off + 3,none⟩=some (.string ((rd_T39 l1 x10_2).f2.f1))∧w'.cell? (ad407.add (((rd_T39 l1 x10_2).f0)).toNat)=some (.int .i64 (rd l0_0 ((rd_T39 l1 x10_2).f0)))∧w'.cell? (ad406.add ((x10_2).toNat * 4))=some (.int .i64 ((rd_T39 l1 x10_2).f0))∧w'.cell? ⟨(ad406.add ((x10_2).toNat * 4)).block,(ad406.add ((x10_2).toNat * 4)).off + 1,none⟩=some (.int .i64 ((rd_T39 l1 x10_2).f1))∧w'.cell? ⟨(ad406.add ((x10_2).toNat * 4)).block,(ad406.add ((x10_2).toNat * 4)).off + 2,none⟩=some (.int .i64 ((rd_T39 l1 x10_2).f2.f0))∧w'.cell? ⟨(ad406.add ((x10_2).toNat * 4)).block,(ad406.add ((x10_2).toNat * 4)).off + 3,none⟩=some (.string ((rd_T39 l1 x10_2).f2.f1))∧w'.cell? (ad409.add (x8_1).toNat)=some (.slice (some ad411) (rd_L4 l2 x8_1).length c409_0)∧w'.cell? (ad406.add ((x10_2).toNat * 4))=some (.int .i64 ((rd_T39 l1 x10_2).f0))∧w'.cell? ⟨(ad406.add ((x10_2).toNat * 4)).block,(ad406.add ((x10_2).toNat * 4)).off + 1,none⟩=some (.int .i64 ((rd_T39 l1 x10_2).f1))∧w'.cell? ⟨(ad406.add ((x10_2).toNat * 4)).block,(ad406.add ((x10_2).toNat * 4)).off + 2,none⟩=some (.int .i64 ((rd_T39 l1 x10_2).f2.f0))∧w'.cell? ⟨(ad406.add ((x10_2).toNat * 4)).block,(ad406.add ((x10_2).toNat * 4)).off + 3,none⟩=some (.string ((rd_T39 l1 x10_2).f2.f1))∧w'.cell? (ad411.add ((((rd_T39 l1 x10_2).f0)).toNat * 2))=some (.int .i64 ((rd_T37 (rd_L4 l2 x8_1) ((rd_T39 l1 x10_2).f0)).f0))∧w'.cell? ⟨(ad411.add ((((rd_T39 l1 x10_2).f0)).toNat * 2)).block,(ad411.add ((((rd_T39 l1 x10_2).f0)).toNat * 2)).off + 1,none⟩=some (.string ((rd_T37 (rd_L4 l2 x8_1) ((rd_T39 l1 x10_2).f0)).f1))) (ds:=[]) #[false,false,false,false,false,false,false,false,false,false,false,false,false,false,false,false,false,false,false,false,false,false,false,false,false,false] (by kernel_rfl) rfl rfl ⟨(blk_cell BK402.out 0).trans rfl,(blk_cell BK402.out 1).trans rfl,(blk_cell BK402.out 2).trans rfl,(blk_cell BK402.out 3).trans rfl,((HB.out.cell (World.block_lt_of_cell? w _ hw406_0)).trans hw406_0),((HB.out.cell (World.block_lt_of_cell? w _ hw406_1)).trans hw406_1),((HB.out.cell (World.block_lt_of_cell? w _ hw406_2)).trans hw406_2),((HB.out.cell (World.block_lt_of_cell? w _ hw406_3)).trans hw406_3),((HB.out.cell (World.block_lt_of_cell? w _ hw407_0)).trans hw407_0),((HB.out.cell (World.block_lt_of_cell? w _ hw408_0)).trans hw408_0),((HB.out.cell (World.block_lt_of_cell? w _ hw408_1)).trans hw408_1),((HB.out.cell (World.block_lt_of_cell? w _ hw408_2)).trans hw408_2),((HB.out.cell (World.block_lt_of_cell? w _ hw408_3)).trans hw408_3),hx409_0,((HB.out.cell (World.block_lt_of_cell? w _ hw410_0)).trans hw410_0),((HB.out.cell (World.block_lt_of_cell? w _ hw410_1)).trans hw410_1),((HB.out.cell (World.block_lt_of_cell? w _ hw410_2)).trans hw410_2),((HB.out.cell (World.block_lt_of_cell? w _ hw410_3)).trans hw410_3),hx411_0,hx411_1⟩ (fun hHeld=>?_);refine with_tabW thresherref19_Keep.tab9 thresherref19_Keep.bits9 (fun HT_ HW_=>?_)
              generalize wr.drew=w19 at HO_2 HO_7 BK402 HB HL409_0 HR409_0 hx406_0 hx406_1 hx406_2 hx406_3 hx407_0 hx408_0 hx408_1 hx408_2 hx408_3 hx409_0 hx410_0 hx410_1 hx410_2 hx410_3 hx411_0 hx411_1 hHeld ⊢
              refine pure_ (i:=0) (N:=some 25) (v:=?_) (a':=?_) #[true,false,false,false,false,false,false,false,false,false,false,false,false,false,false,false,false,false,false,false,false,false,false,false,false,false] rfl rfl (any_of HT_.out (by kernel_rfl)) (fun _ _ _ h=>h) (Or.inl ⟨by rfl,?_⟩) ?_ ?_
              rotate_left;(intro w';go_simp;with_reducible rfl);rotate_left;(simp only [Act.put,List.setIfInBounds_toArray,List.set_cons_zero,List.set_cons_succ,i64_w,i32_w];rfl)
              refine pure_ (i:=2) (N:=some 27) (v:=?_) (a':=?_) #[true,false,true,false,false,false,false,false,false,false,false,false,false,false,false,false,false,false,false,false,false,false,false,false,false,false] rfl rfl (any_of HT_.out (by kernel_rfl)) (fun _ _ _ h=>h) (Or.inl ⟨by rfl,?_⟩) ?_ ?_
              rotate_left;(intro w';go_simp;with_reducible rfl);rotate_left;(simp only [Act.put,List.setIfInBounds_toArray,List.set_cons_zero,List.set_cons_succ,i64_w,i32_w];rfl)
              refine pure_ (i:=3) (N:=some 28) (v:=?_) (a':=?_) #[true,false,true,true,false,false,false,false,false,false,false,false,false,false,false,false,false,false,false,false,false,false,false,false,false,false] rfl rfl (any_of HT_.out (by kernel_rfl)) (fun _ _ _ h=>h) (Or.inl ⟨by rfl,?_⟩) ?_ ?_
              rotate_left;(intro w';go_simp;with_reducible rfl);rotate_left;(simp only [Act.put,List.setIfInBounds_toArray,List.set_cons_zero,List.set_cons_succ,i64_w,i32_w];rfl)
              refine pure_ (i:=4) (N:=some 29) (v:=?_) (a':=?_) #[true,false,true,true,true,false,false,false,false,false,false,false,false,false,false,false,false,false,false,false,false,false,false,false,false,false] rfl rfl (any_of HT_.out (by kernel_rfl)) (fun _ _ _ h=>h) (Or.inl ⟨by rfl,?_⟩) ?_ ?_
              rotate_left;(intro w';go_simp;with_reducible rfl);rotate_left;(simp only [Act.put,List.setIfInBounds_toArray,List.set_cons_zero,List.set_cons_succ,i64_w,i32_w];rfl)
              refine pure_ (i:=5) (N:=some 30) (v:=?_) (a':=?_) #[true,false,true,true,true,true,false,false,false,false,false,false,false,false,false,false,false,false,false,false,false,false,false,false,false,false] rfl rfl (any_of HT_.out (by kernel_rfl)) (fun _ _ _ h=>h) (Or.inl ⟨by rfl,?_⟩) ?_ ?_
              rotate_left;(intro w';go_simp;with_reducible rfl);rotate_left;(simp only [Act.put,List.setIfInBounds_toArray,List.set_cons_zero,List.set_cons_succ,i64_w,i32_w];rfl)
              refine pure_ (i:=9) (N:=some 34) (v:=?_) (a':=?_) #[true,false,true,true,true,true,false,false,false,true,false,false,false,false,false,false,false,false,false,false,false,false,false,false,false,false] rfl rfl (any_of HT_.out (by kernel_rfl)) (fun _ _ _ h=>h) (Or.inl ⟨by rfl,?_⟩) ?_ ?_
              rotate_left;(intro w';go_simp;with_reducible rfl);rotate_left;(simp only [Act.put,List.setIfInBounds_toArray,List.set_cons_zero,List.set_cons_succ,i64_w,i32_w];rfl)
              refine pure_ (i:=10) (N:=some 35) (v:=?_) (a':=?_) #[true,false,true,true,true,true,false,false,false,true,true,false,false,false,false,false,false,false,false,false,false,false,false,false,false,false] rfl rfl (any_of HT_.out (by kernel_rfl)) (fun _ _ _ h=>h) (Or.inl ⟨by rfl,?_⟩) ?_ ?_
              rotate_left;(intro w';go_simp;with_reducible rfl);rotate_left;(simp only [Act.put,List.setIfInBounds_toArray,List.set_cons_zero,List.set_cons_succ,i64_w,i32_w];rfl)
              refine pure_ (i:=11) (N:=some 36) (v:=?_) (a':=?_) #[true,false,true,true,true,true,false,false,false,true,true,true,false,false,false,false,false,false,false,false,false,false,false,false,false,false] rfl rfl (any_of HT_.out (by kernel_rfl)) (fun _ _ _ h=>h) (Or.inl ⟨by rfl,?_⟩) ?_ ?_
              rotate_left;(intro w';go_simp;with_reducible rfl);rotate_left;(simp only [Act.put,List.setIfInBounds_toArray,List.set_cons_zero,List.set_cons_succ,i64_w,i32_w];rfl)
              refine pure_ (i:=13) (N:=some 38) (v:=?_) (a':=?_) #[true,false,true,true,true,true,false,false,false,true,true,true,false,true,false,false,false,false,false,false,false,false,false,false,false,false] rfl rfl (any_of HT_.out (by kernel_rfl)) (fun _ _ _ h=>h) (Or.inl ⟨by rfl,?_⟩) ?_ ?_
              rotate_left;(intro w';go_simp;with_reducible rfl);rotate_left;(simp only [Act.put,List.setIfInBounds_toArray,List.set_cons_zero,List.set_cons_succ,i64_w,i32_w];rfl)
              refine pure_ (i:=14) (N:=some 39) (v:=?_) (a':=?_) #[true,false,true,true,true,true,false,false,false,true,true,true,false,true,true,false,false,false,false,false,false,false,false,false,false,false] rfl rfl (any_of HT_.out (by kernel_rfl)) (fun _ _ _ h=>h) (Or.inl ⟨by rfl,?_⟩) ?_ ?_
              rotate_left;(intro w';go_simp;with_reducible rfl);rotate_left;(simp only [Act.put,List.setIfInBounds_toArray,List.set_cons_zero,List.set_cons_succ,i64_w,i32_w];rfl)
              refine pure_ (i:=15) (N:=some 40) (v:=?_) (a':=?_) #[true,false,true,true,true,true,false,false,false,true,true,true,false,true,true,true,false,false,false,false,false,false,false,false,false,false] rfl rfl (any_of HT_.out (by kernel_rfl)) (fun _ _ _ h=>h) (Or.inl ⟨by rfl,?_⟩) ?_ ?_
              rotate_left;(intro w';go_simp;with_reducible rfl);rotate_left;(simp only [Act.put,List.setIfInBounds_toArray,List.set_cons_zero,List.set_cons_succ,i64_w,i32_w];rfl)
              refine pure_ (i:=17) (N:=some 42) (v:=?_) (a':=?_) #[true,false,true,true,true,true,false,false,false,true,true,true,false,true,true,true,false,true,false,false,false,false,false,false,false,false] rfl rfl (any_of HT_.out (by kernel_rfl)) (fun _ _ _ h=>h) (Or.inl ⟨by rfl,?_⟩) ?_ ?_
              rotate_left;(intro w';go_simp;with_reducible rfl);rotate_left;(simp only [Act.put,List.setIfInBounds_toArray,List.set_cons_zero,List.set_cons_succ,i64_w,i32_w];rfl)
              refine pure_ (i:=18) (N:=some 43) (v:=?_) (a':=?_) #[true,false,true,true,true,true,false,false,false,true,true,true,false,true,true,true,false,true,true,false,false,false,false,false,false,false] rfl rfl (any_of HT_.out (by kernel_rfl)) (fun _ _ _ h=>h) (Or.inl ⟨by rfl,?_⟩) ?_ ?_
              rotate_left;(intro w';go_simp;with_reducible rfl);rotate_left;(simp only [Act.put,List.setIfInBounds_toArray,List.set_cons_zero,List.set_cons_succ,i64_w,i32_w];rfl)
              refine pure_ (i:=19) (N:=some 44) (v:=?_) (a':=?_) #[true,false,true,true,true,true,false,false,false,true,true,true,false,true,true,true,false,true,true,true,false,false,false,false,false,false] rfl rfl (any_of HT_.out (by kernel_rfl)) (fun _ _ _ h=>h) (Or.inl ⟨by rfl,?_⟩) ?_ ?_
              rotate_left;(intro w';go_simp;with_reducible rfl);rotate_left;(simp only [Act.put,List.setIfInBounds_toArray,List.set_cons_zero,List.set_cons_succ,i64_w,i32_w];rfl)
              refine pure_ (i:=20) (N:=some 45) (v:=?_) (a':=?_) #[true,false,true,true,true,true,false,false,false,true,true,true,false,true,true,true,false,true,true,true,true,false,false,false,false,false] rfl rfl (any_of HT_.out (by kernel_rfl)) (fun _ _ _ h=>h) (Or.inl ⟨by rfl,?_⟩) ?_ ?_
              rotate_left;(intro w';go_simp;with_reducible rfl);rotate_left;(simp only [Act.put,List.setIfInBounds_toArray,List.set_cons_zero,List.set_cons_succ,i64_w,i32_w];rfl)
              refine take_ (i:=1) (N:=some 26) (v:=?_) (a':=?_) #[true,true,true,true,true,true,false,false,false,true,true,true,false,true,true,true,false,true,true,true,true,false,false,false,false,false] rfl rfl (take_ofW HT_.out HW_.out (by kernel_rfl)) (fun _ _ _ h=>h) (Or.inl ⟨by rfl,?_⟩) hHeld ?_ ?_
              rotate_left;(rintro w' ⟨s0,s1,s2,s3,s4,s5,s6,s7,s8,s9,s10,s11,s12,s13,s14,s15,s16,s17,s18,s19⟩;go_simp;with_reducible rfl);rotate_left;(simp only [Act.put,List.setIfInBounds_toArray,List.set_cons_zero,List.set_cons_succ,i64_w,i32_w];rfl)
              refine take_ (i:=6) (N:=some 31) (v:=?_) (a':=?_) #[true,true,true,true,true,true,true,false,false,true,true,true,false,true,true,true,false,true,true,true,true,false,false,false,false,false] rfl rfl (take_ofW HT_.out HW_.out (by kernel_rfl)) (fun _ _ _ h=>h) (Or.inl ⟨by rfl,?_⟩) hHeld ?_ ?_
              rotate_left;(rintro w' ⟨s0,s1,s2,s3,s4,s5,s6,s7,s8,s9,s10,s11,s12,s13,s14,s15,s16,s17,s18,s19⟩;go_simp;with_reducible rfl);rotate_left;(simp only [Act.put,List.setIfInBounds_toArray,List.set_cons_zero,List.set_cons_succ,i64_w,i32_w];rfl)
              refine pure_ (i:=7) (N:=some 32) (v:=?_) (a':=?_) #[true,true,true,true,true,true,true,true,false,true,true,true,false,true,true,true,false,true,true,true,true,false,false,false,false,false] rfl rfl (any_of HT_.out (by kernel_rfl)) (fun _ _ _ h=>h) (Or.inl ⟨by rfl,?_⟩) ?_ ?_
              rotate_left;(intro w';go_simp;with_reducible rfl);rotate_left;(simp only [Act.put,List.setIfInBounds_toArray,List.set_cons_zero,List.set_cons_succ,i64_w,i32_w];rfl)
              refine take_ (i:=8) (N:=some 33) (v:=?_) (a':=?_) #[true,true,true,true,true,true,true,true,true,true,true,true,false,true,true,true,false,true,true,true,true,false,false,false,false,false] rfl rfl (take_ofW HT_.out HW_.out (by kernel_rfl)) (fun _ _ _ h=>h) (Or.inl ⟨by rfl,?_⟩) hHeld ?_ ?_
              rotate_left;(rintro w' ⟨s0,s1,s2,s3,s4,s5,s6,s7,s8,s9,s10,s11,s12,s13,s14,s15,s16,s17,s18,s19⟩;go_simp;with_reducible rfl);rotate_left;(simp only [Act.put,List.setIfInBounds_toArray,List.set_cons_zero,List.set_cons_succ,i64_w,i32_w];rfl)
              refine take_ (i:=12) (N:=some 37) (v:=?_) (a':=?_) #[true,true,true,true,true,true,true,true,true,true,true,true,true,true,true,true,false,true,true,true,true,false,false,false,false,false] rfl rfl (take_ofW HT_.out HW_.out (by kernel_rfl)) (fun _ _ _ h=>h) (Or.inl ⟨by rfl,?_⟩) hHeld ?_ ?_
              rotate_left;(rintro w' ⟨s0,s1,s2,s3,s4,s5,s6,s7,s8,s9,s10,s11,s12,s13,s14,s15,s16,s17,s18,s19⟩;go_simp;with_reducible rfl);rotate_left;(simp only [Act.put,List.setIfInBounds_toArray,List.set_cons_zero,List.set_cons_succ,i64_w,i32_w];rfl)
              refine take_ (i:=16) (N:=some 41) (v:=?_) (a':=?_) #[true,true,true,true,true,true,true,true,true,true,true,true,true,true,true,true,true,true,true,true,true,false,false,false,false,false] rfl rfl (take_ofW HT_.out HW_.out (by kernel_rfl)) (fun _ _ _ h=>h) (Or.inl ⟨by rfl,?_⟩) hHeld ?_ ?_
              rotate_left;(rintro w' ⟨s0,s1,s2,s3,s4,s5,s6,s7,s8,s9,s10,s11,s12,s13,s14,s15,s16,s17,s18,s19⟩;go_simp;with_reducible rfl);rotate_left;(simp only [Act.put,List.setIfInBounds_toArray,List.set_cons_zero,List.set_cons_succ,i64_w,i32_w];rfl)
              refine take_ (i:=21) (N:=some 46) (v:=?_) (a':=?_) #[true,true,true,true,true,true,true,true,true,true,true,true,true,true,true,true,true,true,true,true,true,true,false,false,false,false] rfl rfl (take_ofW HT_.out HW_.out (by kernel_rfl)) (fun _ _ _ h=>h) (Or.inl ⟨by rfl,?_⟩) hHeld ?_ ?_
              rotate_left;(rintro w' ⟨s0,s1,s2,s3,s4,s5,s6,s7,s8,s9,s10,s11,s12,s13,s14,s15,s16,s17,s18,s19⟩;go_simp;with_reducible rfl);rotate_left;(simp only [Act.put,List.setIfInBounds_toArray,List.set_cons_zero,List.set_cons_succ,i64_w,i32_w];rfl)
              refine pure_ (i:=22) (N:=some 47) (v:=?_) (a':=?_) #[true,true,true,true,true,true,true,true,true,true,true,true,true,true,true,true,true,true,true,true,true,true,true,false,false,false] rfl rfl (any_of HT_.out (by kernel_rfl)) (fun _ _ _ h=>h) (Or.inl ⟨by rfl,?_⟩) ?_ ?_
              rotate_left;(intro w';go_simp;with_reducible rfl);rotate_left;(simp only [Act.put,List.setIfInBounds_toArray,List.set_cons_zero,List.set_cons_succ,i64_w,i32_w];rfl)
              refine take_ (i:=23) (N:=some 48) (v:=?_) (a':=?_) #[true,true,true,true,true,true,true,true,true,true,true,true,true,true,true,true,true,true,true,true,true,true,true,true,false,false] rfl rfl (take_ofW HT_.out HW_.out (by kernel_rfl)) (fun _ _ _ h=>h) (Or.inl ⟨by rfl,?_⟩) hHeld ?_ ?_
              rotate_left;(rintro w' ⟨s0,s1,s2,s3,s4,s5,s6,s7,s8,s9,s10,s11,s12,s13,s14,s15,s16,s17,s18,s19⟩;go_simp;with_reducible rfl);rotate_left;(simp only [Act.put,List.setIfInBounds_toArray,List.set_cons_zero,List.set_cons_succ,i64_w,i32_w];rfl)
              refine one_ (i:=24) (N:=some 49) #[true,true,true,true,true,true,true,true,true,true,true,true,true,true,true,true,true,true,true,true,true,true,true,true,true,false] rfl rfl (one_of HT_.out (by kernel_rfl)) (by decide) (fun K hK=>?_)
              refine goes_ Try.func26 (by kernel_rfl) rfl #[.int .i64 (rd l0_0 ((rd_T39 l1 x10_2).f0)),.agg #[.int .i64 ((rd_T39 l1 x10_2).f0),.int .i64 ((rd_T39 l1 x10_2).f1),.int .i64 ((rd_T39 l1 x10_2).f2.f0),.string ((rd_T39 l1 x10_2).f2.f1)],.agg #[.int .i64 ((rd_T37 (rd_L4 l2 x8_1) ((rd_T39 l1 x10_2).f0)).f0),.string ((rd_T37 (rd_L4 l2 x8_1) ((rd_T39 l1 x10_2).f0)).f1)]] (by rfl) rfl rfl (by (try simp only [List.map_toArray,List.map_cons,List.map_nil]);first|done|rfl|(simp only [List.length_drop,List.length_take];rfl)) ?_
              with_reducible refine (thresherref19_Holds.calls k2 (rd l0_0 ((rd_T39 l1 x10_2).f0)) ((rd_T39 l1 x10_2).f0) ((rd_T39 l1 x10_2).f1) ((rd_T39 l1 x10_2).f2.f0) ((rd_T39 l1 x10_2).f2.f1) ((rd_T37 (rd_L4 l2 x8_1) ((rd_T39 l1 x10_2).f0)).f0) ((rd_T37 (rd_L4 l2 x8_1) ((rd_T39 l1 x10_2).f0)).f1) t412 _ A15.out).mono ?_
              rintro e w20 ⟨rfl,hb⟩
              have HS13_:=(hb.cell (World.block_lt_of_cell? _ _ (hHeld.2.2.2.2.2.2.2.2.2.2.2.2.2.1))).trans (hHeld.2.2.2.2.2.2.2.2.2.2.2.2.2.1)
              have HS18_:=(hb.cell (World.block_lt_of_cell? _ _ (hHeld.2.2.2.2.2.2.2.2.2.2.2.2.2.2.2.2.2.2.1))).trans (hHeld.2.2.2.2.2.2.2.2.2.2.2.2.2.2.2.2.2.2.1)
              have HS19_:=(hb.cell (World.block_lt_of_cell? _ _ (hHeld.2.2.2.2.2.2.2.2.2.2.2.2.2.2.2.2.2.2.2))).trans (hHeld.2.2.2.2.2.2.2.2.2.2.2.2.2.2.2.2.2.2.2)
              refine ⟨_,rfl,?_⟩
              have n0_:=Aside0.mk (Kd.V_below (V_up HO_2.out) hb)
              have n1_:=Aside0.mk (Kd.N_below (N_up HO_7.out) hb)
              have n2_:=Aside0.mk (Kd.V_below (by (with_reducible repeat (first|apply Kd.V_alloc|apply Kd.V_drewN|apply Kd.V_drew));exact HL409_0.out) hb)
              have n3_:=Aside0.mk (blk_below (blk_up BK402.out) hb)
              have n4_:=Aside0.mk (Kd.C_below (by repeat (first|(with_reducible exact HR409_0.out)|(with_reducible refine Kd.C_alloc ?_ _)|(with_reducible refine Kd.C_drewN ?_ _)|(with_reducible refine Kd.C_drew ?_)|exact HR409_0.out)) hb)
              have n5_:=Aside0.mk (below_step (below_go HB.out) hb)
              clear HO_2
              clear HO_7
              clear HL409_0
              clear BK402
              clear HR409_0
              clear HB
              have HO_2:=n0_
              have HO_7:=n1_
              have HL409_0:=n2_
              have BK402:=n3_
              have HR409_0:=n4_
              have HB:=n5_
              clear n0_ n1_ n2_ n3_ n4_ n5_
              (try clear hb)
              (try clear hb2)
              (try clear hk)
              (try clear hi)
              refine hK.out _ _ ⟨(blk_cell BK402.out 0).trans rfl,(blk_cell BK402.out 1).trans rfl,(blk_cell BK402.out 2).trans rfl,(blk_cell BK402.out 3).trans rfl,((HB.out.cell (World.block_lt_of_cell? w _ hw406_0)).trans hw406_0),((HB.out.cell (World.block_lt_of_cell? w _ hw406_1)).trans hw406_1),((HB.out.cell (World.block_lt_of_cell? w _ hw406_2)).trans hw406_2),((HB.out.cell (World.block_lt_of_cell? w _ hw406_3)).trans hw406_3),((HB.out.cell (World.block_lt_of_cell? w _ hw407_0)).trans hw407_0),((HB.out.cell (World.block_lt_of_cell? w _ hw408_0)).trans hw408_0),((HB.out.cell (World.block_lt_of_cell? w _ hw408_1)).trans hw408_1),((HB.out.cell (World.block_lt_of_cell? w _ hw408_2)).trans hw408_2),((HB.out.cell (World.block_lt_of_cell? w _ hw408_3)).trans hw408_3),HS13_,((HB.out.cell (World.block_lt_of_cell? w _ hw410_0)).trans hw410_0),((HB.out.cell (World.block_lt_of_cell? w _ hw410_1)).trans hw410_1),((HB.out.cell (World.block_lt_of_cell? w _ hw410_2)).trans hw410_2),((HB.out.cell (World.block_lt_of_cell? w _ hw410_3)).trans hw410_3),HS18_,HS19_⟩ (fun hHeld=>?_)
              clear hK K
              refine norm_ (a':=?_) ?_ ?_
              rotate_left
              ·show Act.put _ (some 49) _=_
               simp only [Act.put,List.setIfInBounds_toArray,List.set_cons_zero,List.set_cons_succ,i64_w,i32_w]
               rfl
              refine pure_ (i:=25) (N:=some 11) (v:=?_) (a':=?_) #[true,true,true,true,true,true,true,true,true,true,true,true,true,true,true,true,true,true,true,true,true,true,true,true,true,true] rfl rfl (any_of HT_.out (by kernel_rfl)) (fun _ _ _ h=>h) (Or.inl ⟨by rfl,?_⟩) ?_ ?_
              rotate_left;(intro w';go_simp;with_reducible rfl);rotate_left;(simp only [Act.put,List.setIfInBounds_toArray,List.set_cons_zero,List.set_cons_succ,i64_w,i32_w];rfl)
              refine done_ (done_of HT_.out (by kernel_rfl)) ?_
              (try clear HS13_);(try clear HS18_);(try clear HS19_);(try clear hHeld)
              try go_wp2
              go_roundg k2
              case measure=>have:=HK1.out;have:=HK2.out;omega
              case rel=>exact ⟨(false),(wrap64 (x10_2 + 1)),(by first|rfl|(simp;done)|(simp [*];done)),(by first|rfl|(simp;done)|(simp [*];done)),(by first|exact H'|(subst_vars;exact H')),⟨by have:=HK1.out;have:=HK2.out;omega⟩,⟨by (with_reducible repeat (first|apply Kd.V_alloc|apply Kd.V_drewN|apply Kd.V_drew));exact HO_2.out⟩,⟨by (with_reducible repeat (first|apply Kd.N_alloc|apply Kd.N_drewN|apply Kd.N_drew));exact HO_7.out⟩,⟨by (with_reducible repeat (first|refine blk_drewN ?_ _|refine blk_drew ?_|refine blk_alloc ?_ _));exact BK402.out⟩,⟨by repeat (first|(with_reducible first|exact HB.out|apply below_alloc|apply pw_below_drewN|apply below_drew1|refine below_set ?_ GE402.out)|exact HB.out)⟩⟩
            ·rw [if_neg c14] at H
             exact absurd H (by simp)
           ·rw [if_neg c13] at H
            exact absurd H (by simp)
          ·rw [if_neg c12] at H
           exact absurd H (by simp)
         ·rw [if_neg c11] at H
          exact absurd H (by simp)
        ·rw [if_neg c10] at H
         exact absurd H (by simp)
       ·rw [if_neg c9] at H
        exact absurd H (by simp)
      ·rw [if_neg c8] at H
       have c8b0 : decide (x10_2 < (l1.length : Int))=false:=decide_eq_false c8
       clear c8
       by_cases c21 : x9_2=true
       ·subst c21
        have H1 : (if 0≤x8_1 then (if x8_1 < (l2.length : Int) then (if x7_1.length < 5864062014805 then (thresherref19_Keep.l0 k2 l1 l2 (x7_1 ++ [rd_L4 l2 x8_1]) (wrap64 (x8_1 + 1)) l0_0 a0_1 a0_2 a0_3) else (none)) else (none)) else (none))=some r:=by rw [if_pos rfl] at H;exact H
        clear H
        have H:=H1
        clear H1
        by_cases c22 : 0≤x8_1
        ·rw [if_pos c22] at H
         have c22b0 : decide (0≤x8_1)=true:=decide_eq_true c22
         clear c22
         by_cases c23 : x8_1 < (l2.length : Int)
         ·rw [if_pos c23] at H
          have c23b0 : decide (x8_1 < (l2.length : Int))=true:=decide_eq_true c23
          clear c23
          by_cases c24 : x7_1.length < 5864062014805
          ·rw [if_pos c24] at H
           have LMc24:=Aside0.mk c24
           clear c24
           obtain ⟨y414,hy414⟩ : ∃ y_ : List (List (S37)),y_=(x7_1 ++ [rd_L4 l2 x8_1]):=⟨_,rfl⟩
           replace H : (thresherref19_Keep.l0 k2 l1 l2 y414 (wrap64 (x8_1 + 1)) l0_0 a0_1 a0_2 a0_3)=some r:=by first|(rw [hy414];with_reducible exact H)|(have H2_:=(Option.bind_some _ _).symm.trans H;rw [hy414];with_reducible exact H2_)|(have H2_:=(Option.bind_some _ _).symm.trans H;with_reducible exact H2_)|with_reducible exact H|(rw [hy414];exact H)|exact H
           have Ny414:=Aside0.mk hy414
           clear hy414
           have H':=Aside0.mk H
           clear H
           have p413 : 0≤(x8_1 : Int):=of_decide_eq_true (by first|(with_reducible assumption)|assumption)
           have q413 : x8_1 < (l2.length : Int):=of_decide_eq_true (by first|(with_reducible assumption)|assumption)
           obtain ⟨ad413,A413_0,c413_0,e413,hx413_0,hl413_0,hi413_0⟩:=at_L4 (Kd.V_reads' HO_2.out).2.2 x8_1 p413 q413
           cases e413
           obtain ⟨ce413,hce413,hMe413,hcc413⟩:=Kd.V_get HO_2.out [] x8_1 p413 (by first|exact q413|exact of_decide_eq_true (by first|(with_reducible assumption)|assumption)|(have e_:=(Kd.V_reads' HO_2.out).1;omega))
           obtain ⟨ua413_0,uc413_0,rfl,ul413_0,ge413_0⟩:=Kd.FK_slice_open hMe413
           have hv413_0:=hcc413 0 _ rfl
           rw [Nat.add_zero,show ((Kd.slice 37 k37)).sz=1 from rfl,Nat.mul_one] at hv413_0
           replace hv413_0:=Option.some.inj (hv413_0.symm.trans hx413_0)
           injection hv413_0 with hva_ hvn_ hvc_
           rw [hva_] at ge413_0
           rw [hvc_] at ul413_0
           have HL413_0:=Aside0.mk (show Kd.V k37 37 _ w.heap.size _ _ (rd_L4 l2 x8_1) from Kd.V_mk ul413_0 ge413_0)
           clear hva_ hvn_ hvc_ ge413_0 ul413_0
           clear hcc413 hce413
           have HR413_0:=Aside0.mk hi413_0
           have HC413_0:=Aside0.mk hl413_0
           clear hi413_0 hl413_0
           replace p413:=eq_true p413
           replace q413:=eq_true q413
           go_wp2_with (first|((with_reducible refine gate_builtin (b:=.append) (xs:=#[.tmp 55,.tmp 60]) rfl ?_);at_builtin;refine Kd.N_append (Kd.slice 37 k37) (w0:=w) w.heap.size rfl (.tmp 55) (.tmp 60) 26 41 (.slice none 0 0) 24 rfl Try.underlying26 info41 rfl (by decide) (by omega) u7 x7_1 (rd_L4 l2 x8_1) [.slice A413_0 (rd_L4 l2 x8_1).length c413_0] (fun k_=>(P2_ k_ ∨ w.heap.size≤k_)∧k_≠gb402) (fun k_=>((fun k_=>(P2_ k_ ∨ w.heap.size≤k_)∧k_≠gb402)) k_∧some k_≠(u7 : Value).ownBlock) rfl rfl ?aP (fun _ hk=>hk) ?aF ?aO ?aB ?aS ?aL ?_;(case aP=>exact (Kd.FK_slice_mk (Kd.V_reads' (Kd.V_mono (ok':=(fun k_=>((fun k_=>(P2_ k_ ∨ w.heap.size≤k_)∧k_≠gb402)) k_∧some k_≠(u7 : Value).ownBlock)) (HL413_0.out) (fun k_ hk=>⟨⟨hk.1,hk.2.2⟩,hk.2.1⟩))).2.1 (Kd.V_F (Kd.V_mono (ok':=(fun k_=>((fun k_=>(P2_ k_ ∨ w.heap.size≤k_)∧k_≠gb402)) k_∧some k_≠(u7 : Value).ownBlock)) (HL413_0.out) (fun k_ hk=>⟨⟨hk.1,hk.2.2⟩,hk.2.1⟩)))));(case aB=>exact (below_go HB.out));(case aF=>exact (fun k_ hk=>⟨(.inr (Nat.le_trans (below_size (below_go HB.out)) hk)),Kd.freshB (blk_up BK402.out) k_ hk⟩));(case aO=>exact (N_up HO_7.out));(case aS=>exact (below_size (below_go HB.out)));(case aL=>have:=LMc24.out;omega);intro v415 w25 ho hb hg hat;rw [← Ny414.out] at ho;have n0_:=Aside0.mk (Kd.V_afterv (ok:=(fun k_=>(P2_ k_ ∨ w.heap.size≤k_)∧k_≠gb402)) (V_upm HO_2.out (fun _ hk=>⟨⟨hk.1,hk.2.2⟩,hk.2.1⟩)) hg hat);have n1_:=Aside0.mk (blk_grown (blk_up BK402.out) hg (Kd.N_ne HO_7.out BK402.out (by decide)));have n2_:=Aside0.mk (Kd.V_afterv (ok:=(fun k_=>(P2_ k_ ∨ w.heap.size≤k_)∧k_≠gb402)) (V_upm HL413_0.out (fun _ hk=>⟨⟨hk.1,hk.2.2⟩,hk.2.1⟩)) hg hat);have n3_:=Aside0.mk (hb);have n4_:=Aside0.mk (ho);clear HO_2;clear BK402;clear HL413_0;clear HB;clear HO_7;have HO_2:=n0_;have BK402:=n1_;have HL413_0:=n2_;have HB:=n3_;have HO416:=n4_;clear n0_ n1_ n2_ n3_ n4_;clear ho hb hg hat))
           go_roundg k2
           case measure=>have:=HK1.out;have:=HK2.out;omega
           case rel=>exact ⟨(y414),(wrap64 (x8_1 + 1)),(by first|rfl|(simp;done)|(simp [*];done)),(by first|exact H'|(subst_vars;exact H')),⟨by have:=HK1.out;have:=HK2.out;omega⟩,⟨by (with_reducible repeat (first|apply Kd.V_alloc|apply Kd.V_drewN|apply Kd.V_drew));exact Kd.V_mono HO_2.out (fun _ hk=>⟨hk.1.1,⟨hk.2,hk.1.2⟩⟩)⟩,⟨by (with_reducible repeat (first|apply Kd.N_alloc|apply Kd.N_drewN|apply Kd.N_drew));exact HO416.out⟩,⟨by (with_reducible repeat (first|refine blk_drewN ?_ _|refine blk_drew ?_|refine blk_alloc ?_ _));exact BK402.out⟩,⟨by repeat (first|(with_reducible first|exact HB.out|apply below_alloc|apply pw_below_drewN|apply below_drew1|refine below_set ?_ GE402.out)|exact HB.out)⟩⟩
          ·rw [if_neg c24] at H
           exact absurd H (by simp)
         ·rw [if_neg c23] at H
          exact absurd H (by simp)
        ·rw [if_neg c22] at H
         exact absurd H (by simp)
       ·replace c21:=Bool.eq_false_iff.mpr c21
        subst c21
        have H1 : (thresherref19_Keep.l0 k2 l1 l2 x7_1 (wrap64 (x8_1 + 1)) l0_0 a0_1 a0_2 a0_3)=some r:=by rw [if_neg (show ¬ (false=true) by decide)] at H;exact H
        clear H
        have H:=H1
        clear H1
        have H':=Aside0.mk H
        clear H
        go_wp2
        go_roundg k2
        case measure=>have:=HK1.out;have:=HK2.out;omega
        case rel=>exact ⟨(x7_1),(wrap64 (x8_1 + 1)),(by first|rfl|(simp;done)|(simp [*];done)),(by first|exact H'|(subst_vars;exact H')),⟨by have:=HK1.out;have:=HK2.out;omega⟩,⟨by (with_reducible repeat (first|apply Kd.V_alloc|apply Kd.V_drewN|apply Kd.V_drew));exact HO_2.out⟩,⟨by (with_reducible repeat (first|apply Kd.N_alloc|apply Kd.N_drewN|apply Kd.N_drew));exact HO_7.out⟩,⟨by (with_reducible repeat (first|refine blk_drewN ?_ _|refine blk_drew ?_|refine blk_alloc ?_ _));exact BK402.out⟩,⟨by repeat (first|(with_reducible first|exact HB.out|apply below_alloc|apply pw_below_drewN|apply below_drew1|refine below_set ?_ GE402.out)|exact HB.out)⟩⟩
   ·rw [if_neg c7] at H
    have c7b0 : decide (x8_1 < (l2.length : Int))=false:=decide_eq_false c7
    clear c7
    obtain rfl:=Option.some.inj H
    go_wp2
    go_ret
    exact ⟨_,by first|rfl|(simp [errW_none,errW_some] <;> rfl)|(simp [*,errW_none,errW_some] <;> rfl),by (with_reducible repeat (first|apply Kd.N_alloc|apply Kd.N_drewN|apply Kd.N_drew));exact Kd.N_mono HO_7.out (fun _ hk=>hk.1),by repeat (first|(with_reducible first|exact HB.out|apply below_alloc|apply pw_below_drewN|apply below_drew1|refine below_set ?_ GE402.out)|exact HB.out)⟩
end Go.Proofs.Ytbkpifcjgedjaaa.P

