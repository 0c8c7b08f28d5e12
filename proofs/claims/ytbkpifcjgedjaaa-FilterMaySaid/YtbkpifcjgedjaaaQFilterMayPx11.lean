/- Texts of FilterMay. Merged: Px11. -/
import Derived.Test.YtbkpifcjgedjaaaQFilterMayPx0
import Derived.WalkMore
import Derived.Test.YtbkpifcjgedjaaaQFilterMayPx1
import Derived.Test.YtbkpifcjgedjaaaQFilterMayPx3
namespace Go.Proofs.Ytbkpifcjgedjaaa.P
open Go.RowKit Go.Proofs.YtbkpifcjgedjaaaW.PrintWords Go.Proofs.YtbkpifcjgedjaaaW.PrintLast Go.Proofs.YtbkpifcjgedjaaaW.PrintMore
attribute [local go_sem] max2_int min2_int max_two min_two max_three min_three max_four min_four   -- for this text's walks alone
set_option linter.unusedVariables false
set_option linter.unusedSimpArgs false
attribute [local go_sem high] eqA37
mutual
def filter_Keep.l0 : Nat→List (S39)→List (List (S37))→List (List (S37))→Int→Int→List Int→Int→Int→Int→Option ((List (List (S37))))
 | 0,_,_,_,_,_,_,_,_,_=>none
 | k + 1,x1,x7,x12,x13,x14,x218000,x218001,x218002,x218003=>if x14 < x13 then (if 0≤x14 then (if x14 < (x12.length : Int) then (filter_Keep.l1 k x1 x7 (rd_L4 x12 x14) x12 x13 x14 x1 (x1.length : Int) 0 x218000 x218001 x218002 x218003) else (none)) else (none)) else (some x7)
def filter_Keep.l1 : Nat→List (S39)→List (List (S37))→List (S37)→List (List (S37))→Int→Int→List (S39)→Int→Int→List Int→Int→Int→Int→Option ((List (List (S37))))
 | 0,_,_,_,_,_,_,_,_,_,_,_,_,_=>none
 | k + 1,x1,x7,x9,x12,x13,x14,x18,x19,x20,x218000,x218001,x218002,x218003=>if x20 < x19 then (if 0≤x20 then (if x20 < (x18.length : Int) then (if 0≤((rd_T39 x18 x20).f0) then (if ((rd_T39 x18 x20).f0) < (x218000.length : Int) then (if ((rd_T39 x18 x20).f0) < (x9.length : Int) then ((filter_holds.f k (rd x218000 ((rd_T39 x18 x20).f0)) ((rd_T39 x18 x20).f0) ((rd_T39 x18 x20).f1) ((rd_T39 x18 x20).f2.f0) ((rd_T39 x18 x20).f2.f1) ((rd_T37 x9 ((rd_T39 x18 x20).f0)).f0) ((rd_T37 x9 ((rd_T39 x18 x20).f0)).f1)).bind fun t226=>(if t226=true then (filter_Keep.l1 k x1 x7 x9 x12 x13 x14 x18 x19 (wrap64 (x20 + 1)) x218000 x218001 x218002 x218003) else (filter_Keep.l0 k x1 x7 x12 x13 (wrap64 (x14 + 1)) x218000 x218001 x218002 x218003))) else (none)) else (none)) else (none)) else (none)) else (none)) else (if x7.length < 5864062014805 then (filter_Keep.l0 k x1 (x7 ++ [x9]) x12 x13 (wrap64 (x14 + 1)) x218000 x218001 x218002 x218003) else (none))
end
def filter_Keep.f (k : Nat) (l0_0 : List Int) (a0_1 : Int) (a0_2 : Int) (a0_3 : Int) (l1 : List (S39)) (l2 : List (List (S37))) : Option ((List (List (S37)))):=filter_Keep.l0 k l1 ([] : List (List (S37))) l2 (l2.length : Int) 0 l0_0 a0_1 a0_2 a0_3
theorem filter_Keep.mono_l : ∀ k,(∀ y0 y1 y2 y3 y4 y5 y6 y7 y8,LeO (filter_Keep.l0 k y0 y1 y2 y3 y4 y5 y6 y7 y8) (filter_Keep.l0 (k + 1) y0 y1 y2 y3 y4 y5 y6 y7 y8))∧(∀ y0 y1 y2 y3 y4 y5 y6 y7 y8 y9 y10 y11 y12,LeO (filter_Keep.l1 k y0 y1 y2 y3 y4 y5 y6 y7 y8 y9 y10 y11 y12) (filter_Keep.l1 (k + 1) y0 y1 y2 y3 y4 y5 y6 y7 y8 y9 y10 y11 y12))
 | 0=>⟨fun _ _ _ _ _ _ _ _ _ r h=>by simp [filter_Keep.l0] at h,fun _ _ _ _ _ _ _ _ _ _ _ _ _ r h=>by simp [filter_Keep.l1] at h⟩
 | k + 1=>by
  obtain ⟨ih0,ih1⟩:=filter_Keep.mono_l k
  refine ⟨?_,?_⟩
  ·intro y0 y1 y2 y3 y4 y5 y6 y7 y8
   unfold filter_Keep.l0
   repeat' first
   | (with_reducible exact ih0 _ _ _ _ _ _ _ _ _)
   | (with_reducible exact ih1 _ _ _ _ _ _ _ _ _ _ _ _ _)
   | (with_reducible exact filter_holds.mono _ _ _ _ _ _ _ _)
   | (with_reducible exact LeO.refl _)
   | (with_reducible exact LeO.none _)
   | (with_reducible refine LeO.ite ?_ ?_)
   | (with_reducible refine LeO.bind ?_ (fun _=>?_))
   | exact ih0 _ _ _ _ _ _ _ _ _
   | exact ih1 _ _ _ _ _ _ _ _ _ _ _ _ _
   | exact filter_holds.mono _ _ _ _ _ _ _ _
   | exact LeO.none _
   | refine LeO.ite ?_ ?_
   | refine LeO.bind ?_ (fun _=>?_)
  ·intro y0 y1 y2 y3 y4 y5 y6 y7 y8 y9 y10 y11 y12
   unfold filter_Keep.l1
   repeat' first
   | (with_reducible exact ih0 _ _ _ _ _ _ _ _ _)
   | (with_reducible exact ih1 _ _ _ _ _ _ _ _ _ _ _ _ _)
   | (with_reducible exact filter_holds.mono _ _ _ _ _ _ _ _)
   | (with_reducible exact LeO.refl _)
   | (with_reducible exact LeO.none _)
   | (with_reducible refine LeO.ite ?_ ?_)
   | (with_reducible refine LeO.bind ?_ (fun _=>?_))
   | exact ih0 _ _ _ _ _ _ _ _ _
   | exact ih1 _ _ _ _ _ _ _ _ _ _ _ _ _
   | exact filter_holds.mono _ _ _ _ _ _ _ _
   | exact LeO.none _
   | refine LeO.ite ?_ ?_
   | refine LeO.bind ?_ (fun _=>?_)
theorem filter_Keep.mono : ∀ a0 a1 a2 a3 a4 a5 k,LeO (filter_Keep.f k a0 a1 a2 a3 a4 a5) (filter_Keep.f (k + 1) a0 a1 a2 a3 a4 a5):=by
 intro a0 a1 a2 a3 a4 a5 k
 obtain ⟨ih0,ih1⟩:=filter_Keep.mono_l k
 unfold filter_Keep.f
 repeat' first
   | (with_reducible exact ih0 _ _ _ _ _ _ _ _ _)
   | (with_reducible exact ih1 _ _ _ _ _ _ _ _ _ _ _ _ _)
   | (with_reducible exact filter_holds.mono _ _ _ _ _ _ _ _)
   | (with_reducible exact LeO.refl _)
   | (with_reducible exact LeO.none _)
   | (with_reducible refine LeO.ite ?_ ?_)
   | (with_reducible refine LeO.bind ?_ (fun _=>?_))
   | exact ih0 _ _ _ _ _ _ _ _ _
   | exact ih1 _ _ _ _ _ _ _ _ _ _ _ _ _
   | exact filter_holds.mono _ _ _ _ _ _ _ _
   | exact LeO.none _
   | refine LeO.ite ?_ ?_
   | refine LeO.bind ?_ (fun _=>?_)
def filter_Keep.T8 : Bool × List (List Nat × List Nat):=(true,[([],[]),([0],[0]),([],[]),([2],[2]),([1,3],[1,3]),([4],[4]),([],[]),([],[]),([],[]),([8],[8]),([7,9],[7,9]),([10],[10]),([5,6,11],[5,6,11]),([12],[12])])
def filter_Keep.B8 : List Nat:=[0,1,0,4,15,31,0,0,0,256,896,1920,4095,8191]
theorem filter_Keep.tab8 : rtab .any (opsOf Try.f15 8)=filter_Keep.T8:=by kernel_rfl
theorem filter_Keep.bits8 : waitsOk filter_Keep.T8.2 filter_Keep.B8=true:=by kernel_rfl
set_option maxHeartbeats 8000000 in
set_option maxRecDepth 100000 in
theorem filter_Keep.calls (k : Nat) (A0_0 : Option Addr) (c0_0 : Nat) (l0_0 : List Int) (a0_1 : Int) (a0_2 : Int) (a0_3 : Int) (A1 : Option Addr) (c1 : Nat) (l1 : List (S39)) (P2_ : Nat→Prop) (A2 : Option Addr) (c2 : Nat) (l2 : List (List (S37))) (r : List (List (S37))) (w : World) (hr0_0 : Kd.C (Kd.int .i64) w A0_0 l0_0.length l0_0) (hc0_0 : l0_0.length≤c0_0) (hr1 : Kd.C k39 w A1 l1.length l1) (hc1 : l1.length≤c1) (hs2 : Kd.V (Kd.slice 37 k37) 41 w w.heap.size (fun k_=>P2_ k_) (.slice A2 l2.length c2) l2) (h : filter_Keep.f k l0_0 a0_1 a0_2 a0_3 l1 l2=some r) :
  Calls Try.prog 15 #[.agg #[.slice A0_0 l0_0.length c0_0,.int .i64 a0_1,.int .i64 a0_2,.int .i64 a0_3],.slice A1 l1.length c1,.slice A2 l2.length c2] w fun e w'=>∃ v0_ : Value,e=.returned (v0_)∧Kd.N (Kd.slice 37 k37) 41 w' w.heap.size (fun k_=>(P2_ k_ ∨ w.heap.size≤k_)) v0_ r∧Below w.heap.size w w':=by
 have hu32:=Try.underlying32
 have hu39:=Try.underlying39
 have hu37:=Try.underlying37
 have HR0_0:=Aside0.mk hr0_0
 have HC0_0:=Aside0.mk hc0_0
 clear hr0_0 hc0_0
 have HR1:=Aside0.mk hr1
 have HC1:=Aside0.mk hc1
 clear hr1 hc1
 have HO2:=Aside0.mk (show Kd.V (Kd.slice 37 k37) 41 w w.heap.size (fun k_=>(P2_ k_ ∨ w.heap.size≤k_)) (.slice A2 l2.length c2) l2 from Kd.V_mono hs2 (fun k_ hk=>.inl hk))
 have HB:=Aside0.mk (Below.refl w.heap.size w)
 have H : (filter_Keep.l0 k l1 ([] : List (List (S37))) l2 (l2.length : Int) 0 l0_0 a0_1 a0_2 a0_3)=some r:=h
 clear h
 have H':=Aside0.mk H
 clear H
 go_enter Try.func15,Try.ntmps15
 go_wp2_with (first|((with_reducible refine gate_dst (N:=3) rfl ?_);refine box_event ?hg (N:=3) ?hd (cs:=#[.slice A0_0 l0_0.length c0_0,.int .i64 a0_1,.int .i64 a0_2,.int .i64 a0_3]) (t:=32) ?hr ?_;(case hd=>rfl);(case hg=>rfl);(case hr=>first|(go_simp;done)|(go_simp;rfl));intro gb217 hg w4 hbox hb;have n0_:=Aside0.mk (Kd.V_below (Kd.V_elderB (V_up HO2.out) gb217 (Nat.le_of_eq hg.symm)) hb);have n1_:=Aside0.mk (below_step (below_up HB.out) hb);have n2_:=Aside0.mk (hbox);have n3_:=Aside0.mk ((by rw [hg];exact (below_size (below_up HB.out)) : w.heap.size≤gb217));have n4_:=Aside0.mk ((by rw [hg];exact (below_size (below_up HB.out)) : w.heap.size≤gb217));clear HO2;clear HB;have HO2:=n0_;have HB:=n1_;have BK217:=n2_;have GW217:=n3_;have GE217:=n4_;clear n0_ n1_ n2_ n3_ n4_;clear hb hbox hg))
 apply wp_scope_straight
 go_wp2
 apply wp_label
 go_wp2
 go_loopg [7,14] k (fun kq v7 v14 w'=>∃ (x7_1 : List (List (S37))) (x14_1 : Int),v14=.int .i64 x14_1∧Aside0 (filter_Keep.l0 kq l1 x7_1 l2 (l2.length : Int) x14_1 l0_0 a0_1 a0_2 a0_3=some r)∧Aside0 (kq≤k)∧Aside0 (Kd.N (Kd.slice 37 k37) 41 w' w.heap.size (fun k_=>(P2_ k_ ∨ w.heap.size≤k_)∧k_≠gb217) v7 x7_1)∧Aside0 (Kd.V (Kd.slice 37 k37) 41 w' w.heap.size (fun k_=>(P2_ k_ ∨ w.heap.size≤k_)∧some k_≠(v7 : Value).ownBlock∧k_≠gb217) (.slice A2 l2.length c2) l2)∧Aside0 (w'.heap[gb217]?=some (.cells #[(.slice A0_0 l0_0.length c0_0),.int .i64 a0_1,.int .i64 a0_2,.int .i64 a0_3] 32 (0,0)))∧Aside0 (Below w.heap.size w w'))
 case atStart=>exact ⟨(([] : List (List (S37)))),(0),(by first|rfl|(simp;done)|(simp [*];done)),H',⟨Nat.le_refl _⟩,⟨by first|exact Kd.S_nil _ _ _ _ _|exact Kd.N_nil _ _ _ _ _|exact Kd.V_nil _ _ _ _ _|exact Kd.Q_nil _ _ _ _ _|exact Kd.R_nil _ _ _ _ _⟩,⟨by (with_reducible repeat (first|apply Kd.V_alloc|apply Kd.V_drewN|apply Kd.V_drew));exact Kd.V_mono HO2.out (fun _ hk=>⟨hk.1,⟨(by simp [Value.ownBlock]),hk.2⟩⟩)⟩,⟨by (with_reducible repeat (first|refine blk_drewN ?_ _|refine blk_drew ?_|refine blk_alloc ?_ _));exact BK217.out⟩,⟨by repeat (first|(with_reducible first|exact HB.out|apply below_alloc|apply pw_below_drewN|apply below_drew1|refine below_set ?_ GE217.out)|exact HB.out)⟩⟩
 case round =>
  clear H'
  try clear c1
  try clear c2
  try clear p2
  obtain ⟨x7_1,x14_1,rfl,HA,HK1,HO_7,HO_12,BK217,HB⟩:=hrel
  cases gk with
  | zero=>exact absurd HA.out (by simp [filter_Keep.l0])
  | succ k1 =>
   have H:=HA.out
   clear HA
   simp only [filter_Keep.l0] at H
   by_cases c5 : x14_1 < (l2.length : Int)
   ·rw [if_pos c5] at H
    have c5b0 : decide (x14_1 < (l2.length : Int))=true:=decide_eq_true c5
    clear c5
    by_cases c6 : 0≤x14_1
    ·rw [if_pos c6] at H
     have c6b0 : decide (0≤x14_1)=true:=decide_eq_true c6
     clear c6
     by_cases c7 : x14_1 < (l2.length : Int)
     ·rw [if_pos c7] at H
      have c7b0 : decide (x14_1 < (l2.length : Int))=true:=decide_eq_true c7
      clear c7
      have H':=Aside0.mk H
      clear H
      have p218 : 0≤(x14_1 : Int):=of_decide_eq_true (by first|(with_reducible assumption)|assumption)
      have q218 : x14_1 < (l2.length : Int):=of_decide_eq_true (by first|(with_reducible assumption)|assumption)
      obtain ⟨ad218,A218_0,c218_0,e218,hx218_0,hl218_0,hi218_0⟩:=at_L4 (Kd.V_reads' HO_12.out).2.2 x14_1 p218 q218
      cases e218
      obtain ⟨ce218,hce218,hMe218,hcc218⟩:=Kd.V_get HO_12.out [] x14_1 p218 (by first|exact q218|exact of_decide_eq_true (by first|(with_reducible assumption)|assumption)|(have e_:=(Kd.V_reads' HO_12.out).1;omega))
      obtain ⟨ua218_0,uc218_0,rfl,ul218_0,ge218_0⟩:=Kd.FK_slice_open hMe218
      have hv218_0:=hcc218 0 _ rfl
      rw [Nat.add_zero,show ((Kd.slice 37 k37)).sz=1 from rfl,Nat.mul_one] at hv218_0
      replace hv218_0:=Option.some.inj (hv218_0.symm.trans hx218_0)
      injection hv218_0 with hva_ hvn_ hvc_
      rw [hva_] at ge218_0
      rw [hvc_] at ul218_0
      have HL218_0:=Aside0.mk (show Kd.V k37 37 _ w.heap.size _ _ (rd_L4 l2 x14_1) from Kd.V_mk ul218_0 ge218_0)
      clear hva_ hvn_ hvc_ ge218_0 ul218_0
      clear hcc218 hce218
      have HR218_0:=Aside0.mk hi218_0
      have HC218_0:=Aside0.mk hl218_0
      clear hi218_0 hl218_0
      replace p218:=eq_true p218
      replace q218:=eq_true q218
      go_wp2
      go_loopg [20] k1 (fun kq v20 w'=>∃ (x20_2 : Int),v20=.int .i64 x20_2∧Aside0 (filter_Keep.l1 kq l1 x7_1 (rd_L4 l2 x14_1) l2 (l2.length : Int) x14_1 l1 (l1.length : Int) x20_2 l0_0 a0_1 a0_2 a0_3=some r)∧Aside0 (kq≤k1)∧Aside0 (Kd.N (Kd.slice 37 k37) 41 w' w.heap.size (fun k_=>(P2_ k_ ∨ w.heap.size≤k_)∧k_≠gb217) u7 x7_1)∧Aside0 (Kd.V k37 37 w' w.heap.size (fun k_=>(P2_ k_ ∨ w.heap.size≤k_)∧some k_≠(u7 : Value).ownBlock∧k_≠gb217) (.slice A218_0 (rd_L4 l2 x14_1).length c218_0) (rd_L4 l2 x14_1))∧Aside0 (Kd.V (Kd.slice 37 k37) 41 w' w.heap.size (fun k_=>(P2_ k_ ∨ w.heap.size≤k_)∧some k_≠(u7 : Value).ownBlock∧k_≠gb217) (.slice (some ad218) l2.length c2) l2)∧Aside0 (w'.heap[gb217]?=some (.cells #[(.slice A0_0 l0_0.length c0_0),.int .i64 a0_1,.int .i64 a0_2,.int .i64 a0_3] 32 (0,0)))∧Aside0 (Below w.heap.size w w'))
      case atStart=>exact ⟨(0),(by first|rfl|(simp;done)|(simp [*];done)),H',⟨Nat.le_refl _⟩,⟨by (with_reducible repeat (first|apply Kd.N_alloc|apply Kd.N_drewN|apply Kd.N_drew));exact HO_7.out⟩,⟨by (with_reducible repeat (first|apply Kd.V_alloc|apply Kd.V_drewN|apply Kd.V_drew));exact HL218_0.out⟩,⟨by (with_reducible repeat (first|apply Kd.V_alloc|apply Kd.V_drewN|apply Kd.V_drew));exact HO_12.out⟩,⟨by (with_reducible repeat (first|refine blk_drewN ?_ _|refine blk_drew ?_|refine blk_alloc ?_ _));exact BK217.out⟩,⟨by repeat (first|(with_reducible first|exact HB.out|apply below_alloc|apply pw_below_drewN|apply below_drew1|refine below_set ?_ GE217.out)|exact HB.out)⟩⟩
      case round =>
       clear H'
       try clear c1
       try clear c2
       try clear p2
       try clear q2
       try clear hx2
       try clear c5
       try clear c5b0
       try clear c6
       try clear c6b0
       try clear c7
       try clear c7b0
       try clear hx218_0
       try clear p2
       try clear p218
       try clear q218
       obtain ⟨x20_2,rfl,HA,HK2,HO_7,HO_9,HO_12,BK217,HB⟩:=hrel
       cases gk with
       | zero=>exact absurd HA.out (by simp [filter_Keep.l1])
       | succ k2 =>
        have H:=HA.out
        clear HA
        simp only [filter_Keep.l1] at H
        by_cases c8 : x20_2 < (l1.length : Int)
        ·rw [if_pos c8] at H
         have c8b0 : decide (x20_2 < (l1.length : Int))=true:=decide_eq_true c8
         clear c8
         by_cases c9 : 0≤x20_2
         ·rw [if_pos c9] at H
          have c9b0 : decide (0≤x20_2)=true:=decide_eq_true c9
          clear c9
          by_cases c10 : x20_2 < (l1.length : Int)
          ·rw [if_pos c10] at H
           have c10b0 : decide (x20_2 < (l1.length : Int))=true:=decide_eq_true c10
           clear c10
           by_cases c11 : 0≤((rd_T39 l1 x20_2).f0)
           ·rw [if_pos c11] at H
            have c11b0 : decide (0≤((rd_T39 l1 x20_2).f0))=true:=decide_eq_true c11
            clear c11
            by_cases c12 : ((rd_T39 l1 x20_2).f0) < (l0_0.length : Int)
            ·rw [if_pos c12] at H
             have c12b0 : decide (((rd_T39 l1 x20_2).f0) < (l0_0.length : Int))=true:=decide_eq_true c12
             clear c12
             by_cases c13 : ((rd_T39 l1 x20_2).f0) < ((rd_L4 l2 x14_1).length : Int)
             ·rw [if_pos c13] at H
              have c13b0 : decide (((rd_T39 l1 x20_2).f0) < ((rd_L4 l2 x14_1).length : Int))=true:=decide_eq_true c13
              clear c13
              replace H:=Option.bind_eq_some_iff.mp H
              obtain ⟨t226,A140,H⟩:=H
              replace H : (if t226=true then (filter_Keep.l1 k2 l1 x7_1 (rd_L4 l2 x14_1) l2 (l2.length : Int) x14_1 l1 (l1.length : Int) (wrap64 (x20_2 + 1)) l0_0 a0_1 a0_2 a0_3) else (filter_Keep.l0 k2 l1 x7_1 l2 (l2.length : Int) (wrap64 (x14_1 + 1)) l0_0 a0_1 a0_2 a0_3))=some r:=H
              have A14:=Aside0.mk A140
              clear A140
              by_cases c15 : t226=true
              ·subst c15
               have H1 : (filter_Keep.l1 k2 l1 x7_1 (rd_L4 l2 x14_1) l2 (l2.length : Int) x14_1 l1 (l1.length : Int) (wrap64 (x20_2 + 1)) l0_0 a0_1 a0_2 a0_3)=some r:=by rw [if_pos rfl] at H;exact H
               clear H
               have H:=H1
               clear H1
               have H':=Aside0.mk H
               clear H
               have p222 : 0≤(x20_2 : Int):=of_decide_eq_true (by first|(with_reducible assumption)|assumption)
               have q222 : x20_2 < (l1.length : Int):=of_decide_eq_true (by first|(with_reducible assumption)|assumption)
               obtain ⟨ad222,e222,hx222_0,hx222_1,hx222_2,hx222_3⟩:=at_T39 HR1.out x20_2 p222 q222
               cases e222
               replace hx222_0:=(HB.out.cell (World.block_lt_of_cell? w _ hx222_0)).trans hx222_0
               replace hx222_1:=(HB.out.cell (World.block_lt_of_cell? w _ hx222_1)).trans hx222_1
               replace hx222_2:=(HB.out.cell (World.block_lt_of_cell? w _ hx222_2)).trans hx222_2
               replace hx222_3:=(HB.out.cell (World.block_lt_of_cell? w _ hx222_3)).trans hx222_3
               replace p222:=eq_true p222
               replace q222:=eq_true q222
               try go_wp2_with (first|((with_reducible refine gate_dst (N:=11) rfl ?_);refine box_event ?hg (N:=11) ?hd (cs:=#[.int .i64 0,.int .i64 0,.int .i64 0,.string (⟨#[]⟩ : ByteArray)]) (t:=39) ?hr ?_;(case hd=>rfl);(case hg=>rfl);(case hr=>first|(go_simp;done)|(go_simp;rfl));intro gb223 hg w16 hbox hb;have n0_:=Aside0.mk (Kd.N_below (Kd.N_elderB (N_up HO_7.out) gb223 (Nat.le_of_eq hg.symm)) hb);have n1_:=Aside0.mk (Kd.V_below (Kd.V_elderB (V_up HO_9.out) gb223 (Nat.le_of_eq hg.symm)) hb);have n2_:=Aside0.mk (Kd.V_below (Kd.V_elderB (V_up HO_12.out) gb223 (Nat.le_of_eq hg.symm)) hb);have n3_:=Aside0.mk (blk_below (blk_up BK217.out) hb);have n4_:=Aside0.mk (below_step (below_go HB.out) hb);have n5_:=Aside0.mk (hbox);have n6_:=Aside0.mk ((by rw [hg];exact (below_size (below_go HB.out)) : w.heap.size≤gb223));have n7_:=Aside0.mk ((by rw [hg];exact (below_size (below_go HB.out)) : w.heap.size≤gb223));have n8_:=Aside0.mk ((by rw [hg];exact Nat.ne_of_lt (blk_lt (blk_up BK217.out)) : gb217≠gb223));have n9_:=Aside0.mk ((by rw [hg];exact Nat.ne_of_gt (blk_lt (blk_up BK217.out)) : gb223≠gb217));clear HO_7;clear HO_9;clear HO_12;clear BK217;clear HB;have HO_7:=n0_;have HO_9:=n1_;have HO_12:=n2_;have BK217:=n3_;have HB:=n4_;have BK223:=n5_;have GW223:=n6_;have GE223:=n7_;have NB217_223:=n8_;have NB223_217:=n9_;clear n0_ n1_ n2_ n3_ n4_ n5_ n6_ n7_ n8_ n9_;clear hb hbox hg;have hnb17:=NB223_217.out;have hnc17:=NB217_223.out;have hcz18_0 : w16.cell? ⟨gb223,0,none⟩=some (.int .i64 0):=(blk_cell BK223.out 0).trans rfl;have hcz18_1 : w16.cell? ⟨gb223,1,none⟩=some (.int .i64 0):=(blk_cell BK223.out 1).trans rfl;have hcz18_2 : w16.cell? ⟨gb223,2,none⟩=some (.int .i64 0):=(blk_cell BK223.out 2).trans rfl;have hcz18_3 : w16.cell? ⟨gb223,3,none⟩=some (.string (⟨#[]⟩ : ByteArray)):=(blk_cell BK223.out 3).trans rfl;have hfz18_0:=blk_frozen BK223.out 0;have hfz18_1:=blk_frozen BK223.out 1;have hfz18_2:=blk_frozen BK223.out 2;have hfz18_3:=blk_frozen BK223.out 3))
               have n0_ : Aside0 (Kd.N (Kd.slice 37 k37) 41 ((((w16.setCell ⟨gb223,0,none⟩ (.int .i64 ((rd_T39 l1 x20_2).f0))).setCell ⟨gb223,1,none⟩ (.int .i64 ((rd_T39 l1 x20_2).f1))).setCell ⟨gb223,2,none⟩ (.int .i64 ((rd_T39 l1 x20_2).f2.f0))).setCell ⟨gb223,3,none⟩ (.string ((rd_T39 l1 x20_2).f2.f1))) w.heap.size (fun k_=>(P2_ k_ ∨ w.heap.size≤k_)∧k_≠gb217∧k_≠gb223) u7 x7_1):=⟨by (with_reducible repeat (first|apply Kd.N_alloc|apply Kd.N_drewN|apply Kd.N_drew));exact Kd.N_mono (Kd.N_far (p:=⟨gb223,3,none⟩) (Kd.N_far (p:=⟨gb223,2,none⟩) (Kd.N_far (p:=⟨gb223,1,none⟩) (Kd.N_far (p:=⟨gb223,0,none⟩) (Kd.N_mono HO_7.out (fun k_ hk=>(⟨hk,hk.2⟩ : _∧k_≠gb223))) (fun _ hk=>hk.2) (.int .i64 ((rd_T39 l1 x20_2).f0))) (fun _ hk=>hk.2) (.int .i64 ((rd_T39 l1 x20_2).f1))) (fun _ hk=>hk.2) (.int .i64 ((rd_T39 l1 x20_2).f2.f0))) (fun _ hk=>hk.2) (.string ((rd_T39 l1 x20_2).f2.f1))) (fun _ hk=>⟨hk.1.1.1,⟨hk.1.1.2,hk.1.2⟩⟩)⟩
               have n1_ : Aside0 (Kd.V k37 37 ((((w16.setCell ⟨gb223,0,none⟩ (.int .i64 ((rd_T39 l1 x20_2).f0))).setCell ⟨gb223,1,none⟩ (.int .i64 ((rd_T39 l1 x20_2).f1))).setCell ⟨gb223,2,none⟩ (.int .i64 ((rd_T39 l1 x20_2).f2.f0))).setCell ⟨gb223,3,none⟩ (.string ((rd_T39 l1 x20_2).f2.f1))) w.heap.size (fun k_=>(P2_ k_ ∨ w.heap.size≤k_)∧some k_≠(u7 : Value).ownBlock∧k_≠gb217∧k_≠gb223) (.slice A218_0 (rd_L4 l2 x14_1).length c218_0) (rd_L4 l2 x14_1)):=⟨by (with_reducible repeat (first|apply Kd.V_alloc|apply Kd.V_drewN|apply Kd.V_drew));exact Kd.V_mono (Kd.V_far (p:=⟨gb223,3,none⟩) (Kd.V_far (p:=⟨gb223,2,none⟩) (Kd.V_far (p:=⟨gb223,1,none⟩) (Kd.V_far (p:=⟨gb223,0,none⟩) (Kd.V_mono HO_9.out (fun k_ hk=>(⟨hk,hk.2⟩ : _∧k_≠gb223))) (fun _ hk=>hk.2) (.int .i64 ((rd_T39 l1 x20_2).f0))) (fun _ hk=>hk.2) (.int .i64 ((rd_T39 l1 x20_2).f1))) (fun _ hk=>hk.2) (.int .i64 ((rd_T39 l1 x20_2).f2.f0))) (fun _ hk=>hk.2) (.string ((rd_T39 l1 x20_2).f2.f1))) (fun _ hk=>⟨hk.1.1.1,⟨hk.1.1.2.1,⟨hk.1.1.2.2,hk.1.2⟩⟩⟩)⟩
               have n2_ : Aside0 (Kd.V (Kd.slice 37 k37) 41 ((((w16.setCell ⟨gb223,0,none⟩ (.int .i64 ((rd_T39 l1 x20_2).f0))).setCell ⟨gb223,1,none⟩ (.int .i64 ((rd_T39 l1 x20_2).f1))).setCell ⟨gb223,2,none⟩ (.int .i64 ((rd_T39 l1 x20_2).f2.f0))).setCell ⟨gb223,3,none⟩ (.string ((rd_T39 l1 x20_2).f2.f1))) w.heap.size (fun k_=>(P2_ k_ ∨ w.heap.size≤k_)∧some k_≠(u7 : Value).ownBlock∧k_≠gb217∧k_≠gb223) (.slice (some ad218) l2.length c2) l2):=⟨by (with_reducible repeat (first|apply Kd.V_alloc|apply Kd.V_drewN|apply Kd.V_drew));exact Kd.V_mono (Kd.V_far (p:=⟨gb223,3,none⟩) (Kd.V_far (p:=⟨gb223,2,none⟩) (Kd.V_far (p:=⟨gb223,1,none⟩) (Kd.V_far (p:=⟨gb223,0,none⟩) (Kd.V_mono HO_12.out (fun k_ hk=>(⟨hk,hk.2⟩ : _∧k_≠gb223))) (fun _ hk=>hk.2) (.int .i64 ((rd_T39 l1 x20_2).f0))) (fun _ hk=>hk.2) (.int .i64 ((rd_T39 l1 x20_2).f1))) (fun _ hk=>hk.2) (.int .i64 ((rd_T39 l1 x20_2).f2.f0))) (fun _ hk=>hk.2) (.string ((rd_T39 l1 x20_2).f2.f1))) (fun _ hk=>⟨hk.1.1.1,⟨hk.1.1.2.1,⟨hk.1.1.2.2,hk.1.2⟩⟩⟩)⟩
               have n3_ : Aside0 (((((w16.setCell ⟨gb223,0,none⟩ (.int .i64 ((rd_T39 l1 x20_2).f0))).setCell ⟨gb223,1,none⟩ (.int .i64 ((rd_T39 l1 x20_2).f1))).setCell ⟨gb223,2,none⟩ (.int .i64 ((rd_T39 l1 x20_2).f2.f0))).setCell ⟨gb223,3,none⟩ (.string ((rd_T39 l1 x20_2).f2.f1))).heap[gb217]?=some (.cells #[.slice A0_0 l0_0.length c0_0,.int .i64 a0_1,.int .i64 a0_2,.int .i64 a0_3] 32 (0,0))):=⟨by (with_reducible repeat (first|refine blk_drewN ?_ _|refine blk_drew ?_|refine blk_alloc ?_ _));refine blk_far ?_ NB217_223.out _;(with_reducible repeat (first|refine blk_drewN ?_ _|refine blk_drew ?_|refine blk_alloc ?_ _));refine blk_far ?_ NB217_223.out _;(with_reducible repeat (first|refine blk_drewN ?_ _|refine blk_drew ?_|refine blk_alloc ?_ _));refine blk_far ?_ NB217_223.out _;(with_reducible repeat (first|refine blk_drewN ?_ _|refine blk_drew ?_|refine blk_alloc ?_ _));refine blk_far ?_ NB217_223.out _;(with_reducible repeat (first|refine blk_drewN ?_ _|refine blk_drew ?_|refine blk_alloc ?_ _));exact BK217.out⟩
               have n4_ : Aside0 (((((w16.setCell ⟨gb223,0,none⟩ (.int .i64 ((rd_T39 l1 x20_2).f0))).setCell ⟨gb223,1,none⟩ (.int .i64 ((rd_T39 l1 x20_2).f1))).setCell ⟨gb223,2,none⟩ (.int .i64 ((rd_T39 l1 x20_2).f2.f0))).setCell ⟨gb223,3,none⟩ (.string ((rd_T39 l1 x20_2).f2.f1))).heap[gb223]?=some (.cells #[.int .i64 ((rd_T39 l1 x20_2).f0),.int .i64 ((rd_T39 l1 x20_2).f1),.int .i64 ((rd_T39 l1 x20_2).f2.f0),.string ((rd_T39 l1 x20_2).f2.f1)] 39 (0,0))):=⟨by (with_reducible repeat (first|refine blk_drewN ?_ _|refine blk_drew ?_|refine blk_alloc ?_ _));refine blk_put (cs:=#[.int .i64 ((rd_T39 l1 x20_2).f0),.int .i64 ((rd_T39 l1 x20_2).f1),.int .i64 ((rd_T39 l1 x20_2).f2.f0),.string (⟨#[]⟩ : ByteArray)]) ?_ 3 _ rfl;(with_reducible repeat (first|refine blk_drewN ?_ _|refine blk_drew ?_|refine blk_alloc ?_ _));refine blk_put (cs:=#[.int .i64 ((rd_T39 l1 x20_2).f0),.int .i64 ((rd_T39 l1 x20_2).f1),.int .i64 0,.string (⟨#[]⟩ : ByteArray)]) ?_ 2 _ rfl;(with_reducible repeat (first|refine blk_drewN ?_ _|refine blk_drew ?_|refine blk_alloc ?_ _));refine blk_put (cs:=#[.int .i64 ((rd_T39 l1 x20_2).f0),.int .i64 0,.int .i64 0,.string (⟨#[]⟩ : ByteArray)]) ?_ 1 _ rfl;(with_reducible repeat (first|refine blk_drewN ?_ _|refine blk_drew ?_|refine blk_alloc ?_ _));refine blk_put (cs:=#[.int .i64 0,.int .i64 0,.int .i64 0,.string (⟨#[]⟩ : ByteArray)]) ?_ 0 _ rfl;(with_reducible repeat (first|refine blk_drewN ?_ _|refine blk_drew ?_|refine blk_alloc ?_ _));exact BK223.out⟩
               have n5_ : Aside0 (Below w.heap.size w ((((w16.setCell ⟨gb223,0,none⟩ (.int .i64 ((rd_T39 l1 x20_2).f0))).setCell ⟨gb223,1,none⟩ (.int .i64 ((rd_T39 l1 x20_2).f1))).setCell ⟨gb223,2,none⟩ (.int .i64 ((rd_T39 l1 x20_2).f2.f0))).setCell ⟨gb223,3,none⟩ (.string ((rd_T39 l1 x20_2).f2.f1)))):=⟨by repeat (first|(with_reducible first|exact HB.out|apply below_alloc|apply pw_below_drewN|apply below_drew1|refine below_set ?_ GE217.out|refine below_set ?_ GE223.out)|exact HB.out)⟩
               (try clear HO_7)
               (try clear HO_9)
               (try clear HO_12)
               (try clear BK217)
               (try clear BK223)
               (try clear HB)
               generalize ((((w16.setCell ⟨gb223,0,none⟩ (.int .i64 ((rd_T39 l1 x20_2).f0))).setCell ⟨gb223,1,none⟩ (.int .i64 ((rd_T39 l1 x20_2).f1))).setCell ⟨gb223,2,none⟩ (.int .i64 ((rd_T39 l1 x20_2).f2.f0))).setCell ⟨gb223,3,none⟩ (.string ((rd_T39 l1 x20_2).f2.f1)))=w19 at n0_ n1_ n2_ n3_ n4_ n5_ ⊢
               have HO_7:=n0_
               have HO_9:=n1_
               have HO_12:=n2_
               have BK217:=n3_
               have BK223:=n4_
               have HB:=n5_
               clear n0_ n1_ n2_ n3_ n4_ n5_
               have n0_:=Aside0.mk (Kd.N_drew HO_7.out)
               have n1_:=Aside0.mk (Kd.V_drew HO_9.out)
               have n2_:=Aside0.mk (Kd.V_drew HO_12.out)
               have n3_:=Aside0.mk (blk_drew BK217.out)
               have n4_:=Aside0.mk (blk_drew BK223.out)
               have n5_:=Aside0.mk (below_drew1 HB.out)
               clear HO_7
               clear HO_9
               clear HO_12
               clear BK217
               clear BK223
               clear HB
               have HO_7:=n0_
               have HO_9:=n1_
               have HO_12:=n2_
               have BK217:=n3_
               have BK223:=n4_
               have HB:=n5_
               clear n0_ n1_ n2_ n3_ n4_ n5_
               have p224 : 0≤(((rd_T39 l1 x20_2).f0) : Int):=of_decide_eq_true (by first|(with_reducible assumption)|assumption)
               have q224 : ((rd_T39 l1 x20_2).f0) < (l0_0.length : Int):=of_decide_eq_true (by first|(with_reducible assumption)|assumption)
               obtain ⟨ad224,e224,hx224_0⟩:=Kd.at_int HR0_0.out ((rd_T39 l1 x20_2).f0) p224 q224
               have hw224_0:=hx224_0
               cases e224
               replace hx224_0:=(HB.out.cell (World.block_lt_of_cell? w _ hx224_0)).trans hx224_0
               replace p224:=eq_true p224
               replace q224:=eq_true q224
               have p225 : 0≤(((rd_T39 l1 x20_2).f0) : Int):=of_decide_eq_true (by first|(with_reducible assumption)|assumption)
               have q225 : ((rd_T39 l1 x20_2).f0) < ((rd_L4 l2 x14_1).length : Int):=of_decide_eq_true (by first|(with_reducible assumption)|assumption)
               obtain ⟨ad225,e225,hx225_0,hx225_1⟩:=at_T37 (Kd.V_reads' HO_9.out).2.2 ((rd_T39 l1 x20_2).f0) p225 q225
               cases e225
               replace p225:=eq_true p225
               replace q225:=eq_true q225
               refine start_ (n:=14) (S:=fun w'=>w'.cell? ⟨gb217,0,none⟩=some (.slice (some ad224) l0_0.length c0_0)∧w'.cell? ⟨gb217,1,none⟩=some (.int .i64 a0_1)∧w'.cell? ⟨gb217,2,none⟩=some (.int .i64 a0_2)∧w'.cell? ⟨gb217,3,none⟩=some (.int .i64 a0_3)∧w'.cell? ⟨gb223,0,none⟩=some (.int .i64 ((rd_T39 l1 x20_2).f0))∧w'.cell? ⟨gb223,1,none⟩=some (.int .i64 ((rd_T39 l1 x20_2).f1))∧w'.cell? ⟨gb223,2,none⟩=some (.int .i64 ((rd_T39 l1 x20_2).f2.f0))∧w'.cell? ⟨gb223,3,none⟩=some (.string ((rd_T39 l1 x20_2).f2.f1))∧w'.cell? (ad224.add (((rd_T39 l1 x20_2).f0)).toNat)=some (.int .i64 (rd l0_0 ((rd_T39 l1 x20_2).f0)))∧w'.cell? (ad225.add ((((rd_T39 l1 x20_2).f0)).toNat * 2))=some (.int .i64 ((rd_T37 (rd_L4 l2 x14_1) ((rd_T39 l1 x20_2).f0)).f0))∧w'.cell? ⟨(ad225.add ((((rd_T39 l1 x20_2).f0)).toNat * 2)).block,(ad225.add ((((rd_T39 l1 x20_2).f0)).toNat * 2)).off + 1,none⟩=some (.string ((rd_T37 (rd_L4 l2 x14_1) ((rd_T39 l1 x20_2).f0)).f1))) (ds:=[]) #[false,false,false,false,false,false,false,false,false,false,false,false,false,false] (by kernel_rfl) rfl rfl ⟨(blk_cell BK217.out 0).trans rfl,(blk_cell BK217.out 1).trans rfl,(blk_cell BK217.out 2).trans rfl,(blk_cell BK217.out 3).trans rfl,(blk_cell BK223.out 0).trans rfl,(blk_cell BK223.out 1).trans rfl,(blk_cell BK223.out 2).trans rfl,(blk_cell BK223.out 3).trans rfl,((HB.out.cell (World.block_lt_of_cell? w _ hw224_0)).trans hw224_0),hx225_0,hx225_1⟩ (fun hHeld=>?_);refine with_tabW filter_Keep.tab8 filter_Keep.bits8 (fun HT_ HW_=>?_)
               generalize w19.drew=w20 at HO_7 HO_9 HO_12 BK217 BK223 HB hx224_0 hx225_0 hx225_1 hHeld ⊢
               refine pure_ (i:=0) (N:=some 24) (v:=?_) (a':=?_) #[true,false,false,false,false,false,false,false,false,false,false,false,false,false] rfl rfl (any_of HT_.out (by kernel_rfl)) (fun _ _ _ h=>h) (Or.inl ⟨by rfl,?_⟩) ?_ ?_
               rotate_left;(intro w';go_simp;with_reducible rfl);rotate_left;(simp only [Act.put,List.setIfInBounds_toArray,List.set_cons_zero,List.set_cons_succ,i64_w,i32_w];rfl)
               refine pure_ (i:=2) (N:=some 26) (v:=?_) (a':=?_) #[true,false,true,false,false,false,false,false,false,false,false,false,false,false] rfl rfl (any_of HT_.out (by kernel_rfl)) (fun _ _ _ h=>h) (Or.inl ⟨by rfl,?_⟩) ?_ ?_
               rotate_left;(intro w';go_simp;with_reducible rfl);rotate_left;(simp only [Act.put,List.setIfInBounds_toArray,List.set_cons_zero,List.set_cons_succ,i64_w,i32_w];rfl)
               refine pure_ (i:=7) (N:=some 31) (v:=?_) (a':=?_) #[true,false,true,false,false,false,false,true,false,false,false,false,false,false] rfl rfl (any_of HT_.out (by kernel_rfl)) (fun _ _ _ h=>h) (Or.inl ⟨by rfl,?_⟩) ?_ ?_
               rotate_left;(intro w';go_simp;with_reducible rfl);rotate_left;(simp only [Act.put,List.setIfInBounds_toArray,List.set_cons_zero,List.set_cons_succ,i64_w,i32_w];rfl)
               refine pure_ (i:=8) (N:=some 32) (v:=?_) (a':=?_) #[true,false,true,false,false,false,false,true,true,false,false,false,false,false] rfl rfl (any_of HT_.out (by kernel_rfl)) (fun _ _ _ h=>h) (Or.inl ⟨by rfl,?_⟩) ?_ ?_
               rotate_left;(intro w';go_simp;with_reducible rfl);rotate_left;(simp only [Act.put,List.setIfInBounds_toArray,List.set_cons_zero,List.set_cons_succ,i64_w,i32_w];rfl)
               refine take_ (i:=1) (N:=some 25) (v:=?_) (a':=?_) #[true,true,true,false,false,false,false,true,true,false,false,false,false,false] rfl rfl (take_ofW HT_.out HW_.out (by kernel_rfl)) (fun _ _ _ h=>h) (Or.inl ⟨by rfl,?_⟩) hHeld ?_ ?_
               rotate_left;(rintro w' ⟨s0,s1,s2,s3,s4,s5,s6,s7,s8,s9,s10⟩;go_simp;with_reducible rfl);rotate_left;(simp only [Act.put,List.setIfInBounds_toArray,List.set_cons_zero,List.set_cons_succ,i64_w,i32_w];rfl)
               refine take_ (i:=3) (N:=some 27) (v:=?_) (a':=?_) #[true,true,true,true,false,false,false,true,true,false,false,false,false,false] rfl rfl (take_ofW HT_.out HW_.out (by kernel_rfl)) (fun _ _ _ h=>h) (Or.inl ⟨by rfl,?_⟩) hHeld ?_ ?_
               rotate_left;(rintro w' ⟨s0,s1,s2,s3,s4,s5,s6,s7,s8,s9,s10⟩;go_simp;with_reducible rfl);rotate_left;(simp only [Act.put,List.setIfInBounds_toArray,List.set_cons_zero,List.set_cons_succ,i64_w,i32_w];rfl)
               refine pure_ (i:=4) (N:=some 28) (v:=?_) (a':=?_) #[true,true,true,true,true,false,false,true,true,false,false,false,false,false] rfl rfl (any_of HT_.out (by kernel_rfl)) (fun _ _ _ h=>h) (Or.inl ⟨by rfl,?_⟩) ?_ ?_
               rotate_left;(intro w';go_simp;with_reducible rfl);rotate_left;(simp only [Act.put,List.setIfInBounds_toArray,List.set_cons_zero,List.set_cons_succ,i64_w,i32_w];rfl)
               refine take_ (i:=5) (N:=some 29) (v:=?_) (a':=?_) #[true,true,true,true,true,true,false,true,true,false,false,false,false,false] rfl rfl (take_ofW HT_.out HW_.out (by kernel_rfl)) (fun _ _ _ h=>h) (Or.inl ⟨by rfl,?_⟩) hHeld ?_ ?_
               rotate_left;(rintro w' ⟨s0,s1,s2,s3,s4,s5,s6,s7,s8,s9,s10⟩;go_simp;with_reducible rfl);rotate_left;(simp only [Act.put,List.setIfInBounds_toArray,List.set_cons_zero,List.set_cons_succ,i64_w,i32_w];rfl)
               refine take_ (i:=6) (N:=some 30) (v:=?_) (a':=?_) #[true,true,true,true,true,true,true,true,true,false,false,false,false,false] rfl rfl (take_ofW HT_.out HW_.out (by kernel_rfl)) (fun _ _ _ h=>h) (Or.inl ⟨by rfl,?_⟩) hHeld ?_ ?_
               rotate_left;(rintro w' ⟨s0,s1,s2,s3,s4,s5,s6,s7,s8,s9,s10⟩;go_simp;with_reducible rfl);rotate_left;(simp only [Act.put,List.setIfInBounds_toArray,List.set_cons_zero,List.set_cons_succ,i64_w,i32_w];rfl)
               refine take_ (i:=9) (N:=some 33) (v:=?_) (a':=?_) #[true,true,true,true,true,true,true,true,true,true,false,false,false,false] rfl rfl (take_ofW HT_.out HW_.out (by kernel_rfl)) (fun _ _ _ h=>h) (Or.inl ⟨by rfl,?_⟩) hHeld ?_ ?_
               rotate_left;(rintro w' ⟨s0,s1,s2,s3,s4,s5,s6,s7,s8,s9,s10⟩;go_simp;with_reducible rfl);rotate_left;(simp only [Act.put,List.setIfInBounds_toArray,List.set_cons_zero,List.set_cons_succ,i64_w,i32_w];rfl)
               refine pure_ (i:=10) (N:=some 34) (v:=?_) (a':=?_) #[true,true,true,true,true,true,true,true,true,true,true,false,false,false] rfl rfl (any_of HT_.out (by kernel_rfl)) (fun _ _ _ h=>h) (Or.inl ⟨by rfl,?_⟩) ?_ ?_
               rotate_left;(intro w';go_simp;with_reducible rfl);rotate_left;(simp only [Act.put,List.setIfInBounds_toArray,List.set_cons_zero,List.set_cons_succ,i64_w,i32_w];rfl)
               refine take_ (i:=11) (N:=some 35) (v:=?_) (a':=?_) #[true,true,true,true,true,true,true,true,true,true,true,true,false,false] rfl rfl (take_ofW HT_.out HW_.out (by kernel_rfl)) (fun _ _ _ h=>h) (Or.inl ⟨by rfl,?_⟩) hHeld ?_ ?_
               rotate_left;(rintro w' ⟨s0,s1,s2,s3,s4,s5,s6,s7,s8,s9,s10⟩;go_simp;with_reducible rfl);rotate_left;(simp only [Act.put,List.setIfInBounds_toArray,List.set_cons_zero,List.set_cons_succ,i64_w,i32_w];rfl)
               refine one_ (i:=12) (N:=some 36) #[true,true,true,true,true,true,true,true,true,true,true,true,true,false] rfl rfl (one_of HT_.out (by kernel_rfl)) (by decide) (fun K hK=>?_)
               refine goes_ Try.func25 (by kernel_rfl) rfl #[.int .i64 (rd l0_0 ((rd_T39 l1 x20_2).f0)),.agg #[.int .i64 ((rd_T39 l1 x20_2).f0),.int .i64 ((rd_T39 l1 x20_2).f1),.int .i64 ((rd_T39 l1 x20_2).f2.f0),.string ((rd_T39 l1 x20_2).f2.f1)],.agg #[.int .i64 ((rd_T37 (rd_L4 l2 x14_1) ((rd_T39 l1 x20_2).f0)).f0),.string ((rd_T37 (rd_L4 l2 x14_1) ((rd_T39 l1 x20_2).f0)).f1)]] (by rfl) rfl rfl (by (try simp only [List.map_toArray,List.map_cons,List.map_nil]);first|done|rfl|(simp only [List.length_drop,List.length_take];rfl)) ?_
               with_reducible refine (filter_holds.calls k2 (rd l0_0 ((rd_T39 l1 x20_2).f0)) ((rd_T39 l1 x20_2).f0) ((rd_T39 l1 x20_2).f1) ((rd_T39 l1 x20_2).f2.f0) ((rd_T39 l1 x20_2).f2.f1) ((rd_T37 (rd_L4 l2 x14_1) ((rd_T39 l1 x20_2).f0)).f0) ((rd_T37 (rd_L4 l2 x14_1) ((rd_T39 l1 x20_2).f0)).f1) true _ A14.out).mono ?_
               rintro e w21 ⟨rfl,hb⟩
               have HS9_:=(hb.cell (World.block_lt_of_cell? _ _ (hHeld.2.2.2.2.2.2.2.2.2.1))).trans (hHeld.2.2.2.2.2.2.2.2.2.1)
               have HS10_:=(hb.cell (World.block_lt_of_cell? _ _ (hHeld.2.2.2.2.2.2.2.2.2.2))).trans (hHeld.2.2.2.2.2.2.2.2.2.2)
               refine ⟨_,rfl,?_⟩
               have n0_:=Aside0.mk (Kd.N_below (N_up HO_7.out) hb)
               have n1_:=Aside0.mk (Kd.V_below (V_up HO_9.out) hb)
               have n2_:=Aside0.mk (Kd.V_below (V_up HO_12.out) hb)
               have n3_:=Aside0.mk (blk_below (blk_up BK217.out) hb)
               have n4_:=Aside0.mk (blk_below (blk_up BK223.out) hb)
               have n5_:=Aside0.mk (below_step (below_go HB.out) hb)
               clear HO_7
               clear HO_9
               clear HO_12
               clear BK217
               clear BK223
               clear HB
               have HO_7:=n0_
               have HO_9:=n1_
               have HO_12:=n2_
               have BK217:=n3_
               have BK223:=n4_
               have HB:=n5_
               clear n0_ n1_ n2_ n3_ n4_ n5_
               (try clear hb)
               (try clear hb2)
               (try clear hk)
               (try clear hi)
               refine hK.out _ _ ⟨(blk_cell BK217.out 0).trans rfl,(blk_cell BK217.out 1).trans rfl,(blk_cell BK217.out 2).trans rfl,(blk_cell BK217.out 3).trans rfl,(blk_cell BK223.out 0).trans rfl,(blk_cell BK223.out 1).trans rfl,(blk_cell BK223.out 2).trans rfl,(blk_cell BK223.out 3).trans rfl,((HB.out.cell (World.block_lt_of_cell? w _ hw224_0)).trans hw224_0),HS9_,HS10_⟩ (fun hHeld=>?_)
               clear hK K
               refine norm_ (a':=?_) ?_ ?_
               rotate_left
               ·show Act.put _ (some 36) _=_
                simp only [Act.put,List.setIfInBounds_toArray,List.set_cons_zero,List.set_cons_succ,i64_w,i32_w]
                rfl
               refine pure_ (i:=13) (N:=some 37) (v:=?_) (a':=?_) #[true,true,true,true,true,true,true,true,true,true,true,true,true,true] rfl rfl (any_of HT_.out (by kernel_rfl)) (fun _ _ _ h=>h) (Or.inl ⟨by rfl,?_⟩) ?_ ?_
               rotate_left;(intro w';go_simp;with_reducible rfl);rotate_left;(simp only [Act.put,List.setIfInBounds_toArray,List.set_cons_zero,List.set_cons_succ,i64_w,i32_w];rfl)
               refine done_ (done_of HT_.out (by kernel_rfl)) ?_
               (try clear HS9_);(try clear HS10_);(try clear hHeld)
               try go_wp2
               go_roundg k2
               case measure=>have:=HK1.out;have:=HK2.out;omega
               case rel=>exact ⟨(wrap64 (x20_2 + 1)),(by first|rfl|(simp;done)|(simp [*];done)),(by first|exact H'|(subst_vars;exact H')),⟨by have:=HK1.out;have:=HK2.out;omega⟩,⟨by (with_reducible repeat (first|apply Kd.N_alloc|apply Kd.N_drewN|apply Kd.N_drew));exact Kd.N_mono HO_7.out (fun _ hk=>⟨hk.1,hk.2.1⟩)⟩,⟨by (with_reducible repeat (first|apply Kd.V_alloc|apply Kd.V_drewN|apply Kd.V_drew));exact Kd.V_mono HO_9.out (fun _ hk=>⟨hk.1,⟨hk.2.1,hk.2.2.1⟩⟩)⟩,⟨by (with_reducible repeat (first|apply Kd.V_alloc|apply Kd.V_drewN|apply Kd.V_drew));exact Kd.V_mono HO_12.out (fun _ hk=>⟨hk.1,⟨hk.2.1,hk.2.2.1⟩⟩)⟩,⟨by (with_reducible repeat (first|refine blk_drewN ?_ _|refine blk_drew ?_|refine blk_alloc ?_ _));exact BK217.out⟩,⟨by repeat (first|(with_reducible first|exact HB.out|apply below_alloc|apply pw_below_drewN|apply below_drew1|refine below_set ?_ GE217.out|refine below_set ?_ GE223.out)|exact HB.out)⟩⟩
              ·replace c15:=Bool.eq_false_iff.mpr c15
               subst c15
               have H1 : (filter_Keep.l0 k2 l1 x7_1 l2 (l2.length : Int) (wrap64 (x14_1 + 1)) l0_0 a0_1 a0_2 a0_3)=some r:=by rw [if_neg (show ¬ (false=true) by decide)] at H;exact H
               clear H
               have H:=H1
               clear H1
               have H':=Aside0.mk H
               clear H
               have p222 : 0≤(x20_2 : Int):=of_decide_eq_true (by first|(with_reducible assumption)|assumption)
               have q222 : x20_2 < (l1.length : Int):=of_decide_eq_true (by first|(with_reducible assumption)|assumption)
               obtain ⟨ad222,e222,hx222_0,hx222_1,hx222_2,hx222_3⟩:=at_T39 HR1.out x20_2 p222 q222
               cases e222
               replace hx222_0:=(HB.out.cell (World.block_lt_of_cell? w _ hx222_0)).trans hx222_0
               replace hx222_1:=(HB.out.cell (World.block_lt_of_cell? w _ hx222_1)).trans hx222_1
               replace hx222_2:=(HB.out.cell (World.block_lt_of_cell? w _ hx222_2)).trans hx222_2
               replace hx222_3:=(HB.out.cell (World.block_lt_of_cell? w _ hx222_3)).trans hx222_3
               replace p222:=eq_true p222
               replace q222:=eq_true q222
               try go_wp2_with (first|((with_reducible refine gate_dst (N:=11) rfl ?_);refine box_event ?hg (N:=11) ?hd (cs:=#[.int .i64 0,.int .i64 0,.int .i64 0,.string (⟨#[]⟩ : ByteArray)]) (t:=39) ?hr ?_;(case hd=>rfl);(case hg=>rfl);(case hr=>first|(go_simp;done)|(go_simp;rfl));intro gb223 hg w22 hbox hb;have n0_:=Aside0.mk (Kd.N_below (Kd.N_elderB (N_up HO_7.out) gb223 (Nat.le_of_eq hg.symm)) hb);have n1_:=Aside0.mk (Kd.V_below (Kd.V_elderB (V_up HO_9.out) gb223 (Nat.le_of_eq hg.symm)) hb);have n2_:=Aside0.mk (Kd.V_below (Kd.V_elderB (V_up HO_12.out) gb223 (Nat.le_of_eq hg.symm)) hb);have n3_:=Aside0.mk (blk_below (blk_up BK217.out) hb);have n4_:=Aside0.mk (below_step (below_go HB.out) hb);have n5_:=Aside0.mk (hbox);have n6_:=Aside0.mk ((by rw [hg];exact (below_size (below_go HB.out)) : w.heap.size≤gb223));have n7_:=Aside0.mk ((by rw [hg];exact (below_size (below_go HB.out)) : w.heap.size≤gb223));have n8_:=Aside0.mk ((by rw [hg];exact Nat.ne_of_lt (blk_lt (blk_up BK217.out)) : gb217≠gb223));have n9_:=Aside0.mk ((by rw [hg];exact Nat.ne_of_gt (blk_lt (blk_up BK217.out)) : gb223≠gb217));clear HO_7;clear HO_9;clear HO_12;clear BK217;clear HB;have HO_7:=n0_;have HO_9:=n1_;have HO_12:=n2_;have BK217:=n3_;have HB:=n4_;have BK223:=n5_;have GW223:=n6_;have GE223:=n7_;have NB217_223:=n8_;have NB223_217:=n9_;clear n0_ n1_ n2_ n3_ n4_ n5_ n6_ n7_ n8_ n9_;clear hb hbox hg;have hnb23:=NB223_217.out;have hnc23:=NB217_223.out;have hcz24_0 : w22.cell? ⟨gb223,0,none⟩=some (.int .i64 0):=(blk_cell BK223.out 0).trans rfl;have hcz24_1 : w22.cell? ⟨gb223,1,none⟩=some (.int .i64 0):=(blk_cell BK223.out 1).trans rfl;have hcz24_2 : w22.cell? ⟨gb223,2,none⟩=some (.int .i64 0):=(blk_cell BK223.out 2).trans rfl;have hcz24_3 : w22.cell? ⟨gb223,3,none⟩=some (.string (⟨#[]⟩ : ByteArray)):=(blk_cell BK223.out 3).trans rfl;have hfz24_0:=blk_frozen BK223.out 0;have hfz24_1:=blk_frozen BK223.out 1;have hfz24_2:=blk_frozen BK223.out 2;have hfz24_3:=blk_frozen BK223.out 3))
               have n0_ : Aside0 (Kd.N (Kd.slice 37 k37) 41 ((((w22.setCell ⟨gb223,0,none⟩ (.int .i64 ((rd_T39 l1 x20_2).f0))).setCell ⟨gb223,1,none⟩ (.int .i64 ((rd_T39 l1 x20_2).f1))).setCell ⟨gb223,2,none⟩ (.int .i64 ((rd_T39 l1 x20_2).f2.f0))).setCell ⟨gb223,3,none⟩ (.string ((rd_T39 l1 x20_2).f2.f1))) w.heap.size (fun k_=>(P2_ k_ ∨ w.heap.size≤k_)∧k_≠gb217∧k_≠gb223) u7 x7_1):=⟨by (with_reducible repeat (first|apply Kd.N_alloc|apply Kd.N_drewN|apply Kd.N_drew));exact Kd.N_mono (Kd.N_far (p:=⟨gb223,3,none⟩) (Kd.N_far (p:=⟨gb223,2,none⟩) (Kd.N_far (p:=⟨gb223,1,none⟩) (Kd.N_far (p:=⟨gb223,0,none⟩) (Kd.N_mono HO_7.out (fun k_ hk=>(⟨hk,hk.2⟩ : _∧k_≠gb223))) (fun _ hk=>hk.2) (.int .i64 ((rd_T39 l1 x20_2).f0))) (fun _ hk=>hk.2) (.int .i64 ((rd_T39 l1 x20_2).f1))) (fun _ hk=>hk.2) (.int .i64 ((rd_T39 l1 x20_2).f2.f0))) (fun _ hk=>hk.2) (.string ((rd_T39 l1 x20_2).f2.f1))) (fun _ hk=>⟨hk.1.1.1,⟨hk.1.1.2,hk.1.2⟩⟩)⟩
               have n1_ : Aside0 (Kd.V k37 37 ((((w22.setCell ⟨gb223,0,none⟩ (.int .i64 ((rd_T39 l1 x20_2).f0))).setCell ⟨gb223,1,none⟩ (.int .i64 ((rd_T39 l1 x20_2).f1))).setCell ⟨gb223,2,none⟩ (.int .i64 ((rd_T39 l1 x20_2).f2.f0))).setCell ⟨gb223,3,none⟩ (.string ((rd_T39 l1 x20_2).f2.f1))) w.heap.size (fun k_=>(P2_ k_ ∨ w.heap.size≤k_)∧some k_≠(u7 : Value).ownBlock∧k_≠gb217∧k_≠gb223) (.slice A218_0 (rd_L4 l2 x14_1).length c218_0) (rd_L4 l2 x14_1)):=⟨by (with_reducible repeat (first|apply Kd.V_alloc|apply Kd.V_drewN|apply Kd.V_drew));exact Kd.V_mono (Kd.V_far (p:=⟨gb223,3,none⟩) (Kd.V_far (p:=⟨gb223,2,none⟩) (Kd.V_far (p:=⟨gb223,1,none⟩) (Kd.V_far (p:=⟨gb223,0,none⟩) (Kd.V_mono HO_9.out (fun k_ hk=>(⟨hk,hk.2⟩ : _∧k_≠gb223))) (fun _ hk=>hk.2) (.int .i64 ((rd_T39 l1 x20_2).f0))) (fun _ hk=>hk.2) (.int .i64 ((rd_T39 l1 x20_2).f1))) (fun _ hk=>hk.2) (.int .i64 ((rd_T39 l1 x20_2).f2.f0))) (fun _ hk=>hk.2) (.string ((rd_T39 l1 x20_2).f2.f1))) (fun _ hk=>⟨hk.1.1.1,⟨hk.1.1.2.1,⟨hk.1.1.2.2,hk.1.2⟩⟩⟩)⟩
               have n2_ : Aside0 (Kd.V (Kd.slice 37 k37) 41 ((((w22.setCell ⟨gb223,0,none⟩ (.int .i64 ((rd_T39 l1 x20_2).f0))).setCell ⟨gb223,1,none⟩ (.int .i64 ((rd_T39 l1 x20_2).f1))).setCell ⟨gb223,2,none⟩ (.int .i64 ((rd_T39 l1 x20_2).f2.f0))).setCell ⟨gb223,3,none⟩ (.string ((rd_T39 l1 x20_2).f2.f1))) w.heap.size (fun k_=>(P2_ k_ ∨ w.heap.size≤k_)∧some k_≠(u7 : Value).ownBlock∧k_≠gb217∧k_≠gb223) (.slice (some ad218) l2.length c2) l2):=⟨by (with_reducible repeat (first|apply Kd.V_alloc|apply Kd.V_drewN|apply Kd.V_drew));exact Kd.V_mono (Kd.V_far (p:=⟨gb223,3,none⟩) (Kd.V_far (p:=⟨gb223,2,none⟩) (Kd.V_far (p:=⟨gb223,1,none⟩) (Kd.V_far (p:=⟨gb223,0,none⟩) (Kd.V_mono HO_12.out (fun k_ hk=>(⟨hk,hk.2⟩ : _∧k_≠gb223))) (fun _ hk=>hk.2) (.int .i64 ((rd_T39 l1 x20_2).f0))) (fun _ hk=>hk.2) (.int .i64 ((rd_T39 l1 x20_2).f1))) (fun _ hk=>hk.2) (.int .i64 ((rd_T39 l1 x20_2).f2.f0))) (fun _ hk=>hk.2) (.string ((rd_T39 l1 x20_2).f2.f1))) (fun _ hk=>⟨hk.1.1.1,⟨hk.1.1.2.1,⟨hk.1.1.2.2,hk.1.2⟩⟩⟩)⟩
               have n3_ : Aside0 (((((w22.setCell ⟨gb223,0,none⟩ (.int .i64 ((rd_T39 l1 x20_2).f0))).setCell ⟨gb223,1,none⟩ (.int .i64 ((rd_T39 l1 x20_2).f1))).setCell ⟨gb223,2,none⟩ (.int .i64 ((rd_T39 l1 x20_2).f2.f0))).setCell ⟨gb223,3,none⟩ (.string ((rd_T39 l1 x20_2).f2.f1))).heap[gb217]?=some (.cells #[.slice A0_0 l0_0.length c0_0,.int .i64 a0_1,.int .i64 a0_2,.int .i64 a0_3] 32 (0,0))):=⟨by (with_reducible repeat (first|refine blk_drewN ?_ _|refine blk_drew ?_|refine blk_alloc ?_ _));refine blk_far ?_ NB217_223.out _;(with_reducible repeat (first|refine blk_drewN ?_ _|refine blk_drew ?_|refine blk_alloc ?_ _));refine blk_far ?_ NB217_223.out _;(with_reducible repeat (first|refine blk_drewN ?_ _|refine blk_drew ?_|refine blk_alloc ?_ _));refine blk_far ?_ NB217_223.out _;(with_reducible repeat (first|refine blk_drewN ?_ _|refine blk_drew ?_|refine blk_alloc ?_ _));refine blk_far ?_ NB217_223.out _;(with_reducible repeat (first|refine blk_drewN ?_ _|refine blk_drew ?_|refine blk_alloc ?_ _));exact BK217.out⟩
               have n4_ : Aside0 (((((w22.setCell ⟨gb223,0,none⟩ (.int .i64 ((rd_T39 l1 x20_2).f0))).setCell ⟨gb223,1,none⟩ (.int .i64 ((rd_T39 l1 x20_2).f1))).setCell ⟨gb223,2,none⟩ (.int .i64 ((rd_T39 l1 x20_2).f2.f0))).setCell ⟨gb223,3,none⟩ (.string ((rd_T39 l1 x20_2).f2.f1))).heap[gb223]?=some (.cells #[.int .i64 ((rd_T39 l1 x20_2).f0),.int .i64 ((rd_T39 l1 x20_2).f1),.int .i64 ((rd_T39 l1 x20_2).f2.f0),.string ((rd_T39 l1 x20_2).f2.f1)] 39 (0,0))):=⟨by (with_reducible repeat (first|refine blk_drewN ?_ _|refine blk_drew ?_|refine blk_alloc ?_ _));refine blk_put (cs:=#[.int .i64 ((rd_T39 l1 x20_2).f0),.int .i64 ((rd_T39 l1 x20_2).f1),.int .i64 ((rd_T39 l1 x20_2).f2.f0),.string (⟨#[]⟩ : ByteArray)]) ?_ 3 _ rfl;(with_reducible repeat (first|refine blk_drewN ?_ _|refine blk_drew ?_|refine blk_alloc ?_ _));refine blk_put (cs:=#[.int .i64 ((rd_T39 l1 x20_2).f0),.int .i64 ((rd_T39 l1 x20_2).f1),.int .i64 0,.string (⟨#[]⟩ : ByteArray)]) ?_ 2 _ rfl;(with_reducible repeat (first|refine blk_drewN ?_ _|refine blk_drew ?_|refine blk_alloc ?_ _));refine blk_put (cs:=#[.int .i64 ((rd_T39 l1 x20_2).f0),.int .i64 0,.int .i64 0,.string (⟨#[]⟩ : ByteArray)]) ?_ 1 _ rfl;(with_reducible repeat (first|refine blk_drewN ?_ _|refine blk_drew ?_|refine blk_alloc ?_ _));refine blk_put (cs:=#[.int .i64 0,.int .i64 0,.int .i64 0,.string (⟨#[]⟩ : ByteArray)]) ?_ 0 _ rfl;(with_reducible repeat (first|refine blk_drewN ?_ _|refine blk_drew ?_|refine blk_alloc ?_ _));exact BK223.out⟩
               have n5_ : Aside0 (Below w.heap.size w ((((w22.setCell ⟨gb223,0,none⟩ (.int .i64 ((rd_T39 l1 x20_2).f0))).setCell ⟨gb223,1,none⟩ (.int .i64 ((rd_T39 l1 x20_2).f1))).setCell ⟨gb223,2,none⟩ (.int .i64 ((rd_T39 l1 x20_2).f2.f0))).setCell ⟨gb223,3,none⟩ (.string ((rd_T39 l1 x20_2).f2.f1)))):=⟨by repeat (first|(with_reducible first|exact HB.out|apply below_alloc|apply pw_below_drewN|apply below_drew1|refine below_set ?_ GE217.out|refine below_set ?_ GE223.out)|exact HB.out)⟩
               (try clear HO_7)
               (try clear HO_9)
               (try clear HO_12)
               (try clear BK217)
               (try clear BK223)
               (try clear HB)
               generalize ((((w22.setCell ⟨gb223,0,none⟩ (.int .i64 ((rd_T39 l1 x20_2).f0))).setCell ⟨gb223,1,none⟩ (.int .i64 ((rd_T39 l1 x20_2).f1))).setCell ⟨gb223,2,none⟩ (.int .i64 ((rd_T39 l1 x20_2).f2.f0))).setCell ⟨gb223,3,none⟩ (.string ((rd_T39 l1 x20_2).f2.f1)))=w25 at n0_ n1_ n2_ n3_ n4_ n5_ ⊢
               have HO_7:=n0_
               have HO_9:=n1_
               have HO_12:=n2_
               have BK217:=n3_
               have BK223:=n4_
               have HB:=n5_
               clear n0_ n1_ n2_ n3_ n4_ n5_
               have n0_:=Aside0.mk (Kd.N_drew HO_7.out)
               have n1_:=Aside0.mk (Kd.V_drew HO_9.out)
               have n2_:=Aside0.mk (Kd.V_drew HO_12.out)
               have n3_:=Aside0.mk (blk_drew BK217.out)
               have n4_:=Aside0.mk (blk_drew BK223.out)
               have n5_:=Aside0.mk (below_drew1 HB.out)
               clear HO_7
               clear HO_9
               clear HO_12
               clear BK217
               clear BK223
               clear HB
               have HO_7:=n0_
               have HO_9:=n1_
               have HO_12:=n2_
               have BK217:=n3_
               have BK223:=n4_
               have HB:=n5_
               clear n0_ n1_ n2_ n3_ n4_ n5_
               have p224 : 0≤(((rd_T39 l1 x20_2).f0) : Int):=of_decide_eq_true (by first|(with_reducible assumption)|assumption)
               have q224 : ((rd_T39 l1 x20_2).f0) < (l0_0.length : Int):=of_decide_eq_true (by first|(with_reducible assumption)|assumption)
               obtain ⟨ad224,e224,hx224_0⟩:=Kd.at_int HR0_0.out ((rd_T39 l1 x20_2).f0) p224 q224
               have hw224_0:=hx224_0
               cases e224
               replace hx224_0:=(HB.out.cell (World.block_lt_of_cell? w _ hx224_0)).trans hx224_0
               replace p224:=eq_true p224
               replace q224:=eq_true q224
               have p225 : 0≤(((rd_T39 l1 x20_2).f0) : Int):=of_decide_eq_true (by first|(with_reducible assumption)|assumption)
               have q225 : ((rd_T39 l1 x20_2).f0) < ((rd_L4 l2 x14_1).length : Int):=of_decide_eq_true (by first|(with_reducible assumption)|assumption)
               obtain ⟨ad225,e225,hx225_0,hx225_1⟩:=at_T37 (Kd.V_reads' HO_9.out).2.2 ((rd_T39 l1 x20_2).f0) p225 q225
               cases e225
               replace p225:=eq_true p225
               replace q225:=eq_true q225
               refine start_ (n:=14) (S:=fun w'=>w'.cell? ⟨gb217,0,none⟩=some (.slice (some ad224) l0_0.length c0_0)∧w'.cell? ⟨gb217,1,none⟩=some (.int .i64 a0_1)∧w'.cell? ⟨gb217,2,none⟩=some (.int .i64 a0_2)∧w'.cell? ⟨gb217,3,none⟩=some (.int .i64 a0_3)∧w'.cell? ⟨gb223,0,none⟩=some (.int .i64 ((rd_T39 l1 x20_2).f0))∧w'.cell? ⟨gb223,1,none⟩=some (.int .i64 ((rd_T39 l1 x20_2).f1))∧w'.cell? ⟨gb223,2,none⟩=some (.int .i64 ((rd_T39 l1 x20_2).f2.f0))∧w'.cell? ⟨gb223,3,none⟩=some (.string ((rd_T39 l1 x20_2).f2.f1))∧w'.cell? (ad224.add (((rd_T39 l1 x20_2).f0)).toNat)=some (.int .i64 (rd l0_0 ((rd_T39 l1 x20_2).f0)))∧w'.cell? (ad225.add ((((rd_T39 l1 x20_2).f0)).toNat * 2))=some (.int .i64 ((rd_T37 (rd_L4 l2 x14_1) ((rd_T39 l1 x20_2).f0)).f0))∧w'.cell? ⟨(ad225.add ((((rd_T39 l1 x20_2).f0)).toNat * 2)).block,(ad225.add ((((rd_T39 l1 x20_2).f0)).toNat * 2)).off + 1,none⟩=some (.string ((rd_T37 (rd_L4 l2 x14_1) ((rd_T39 l1 x20_2).f0)).f1))) (ds:=[]) #[false,false,false,false,false,false,false,false,false,false,false,false,false,false] (by kernel_rfl) rfl rfl ⟨(blk_cell BK217.out 0).trans rfl,(blk_cell BK217.out 1).trans rfl,(blk_cell BK217.out 2).trans rfl,(blk_cell BK217.out 3).trans rfl,(blk_cell BK223.out 0).trans rfl,(blk_cell BK223.out 1).trans rfl,(blk_cell BK223.out 2).trans rfl,(blk_cell BK223.out 3).trans rfl,((HB.out.cell (World.block_lt_of_cell? w _ hw224_0)).trans hw224_0),hx225_0,hx225_1⟩ (fun hHeld=>?_);refine with_tabW filter_Keep.tab8 filter_Keep.bits8 (fun HT_ HW_=>?_)
               generalize w25.drew=w26 at HO_7 HO_9 HO_12 BK217 BK223 HB hx224_0 hx225_0 hx225_1 hHeld ⊢
               refine pure_ (i:=0) (N:=some 24) (v:=?_) (a':=?_) #[true,false,false,false,false,false,false,false,false,false,false,false,false,false] rfl rfl (any_of HT_.out (by kernel_rfl)) (fun _ _ _ h=>h) (Or.inl ⟨by rfl,?_⟩) ?_ ?_
               rotate_left;(intro w';go_simp;with_reducible rfl);rotate_left;(simp only [Act.put,List.setIfInBounds_toArray,List.set_cons_zero,List.set_cons_succ,i64_w,i32_w];rfl)
               refine pure_ (i:=2) (N:=some 26) (v:=?_) (a':=?_) #[true,false,true,false,false,false,false,false,false,false,false,false,false,false] rfl rfl (any_of HT_.out (by kernel_rfl)) (fun _ _ _ h=>h) (Or.inl ⟨by rfl,?_⟩) ?_ ?_
               rotate_left;(intro w';go_simp;with_reducible rfl);rotate_left;(simp only [Act.put,List.setIfInBounds_toArray,List.set_cons_zero,List.set_cons_succ,i64_w,i32_w];rfl)
               refine pure_ (i:=7) (N:=some 31) (v:=?_) (a':=?_) #[true,false,true,false,false,false,false,true,false,false,false,false,false,false] rfl rfl (any_of HT_.out (by kernel_rfl)) (fun _ _ _ h=>h) (Or.inl ⟨by rfl,?_⟩) ?_ ?_
               rotate_left;(intro w';go_simp;with_reducible rfl);rotate_left;(simp only [Act.put,List.setIfInBounds_toArray,List.set_cons_zero,List.set_cons_succ,i64_w,i32_w];rfl)
               refine pure_ (i:=8) (N:=some 32) (v:=?_) (a':=?_) #[true,false,true,false,false,false,false,true,true,false,false,false,false,false] rfl rfl (any_of HT_.out (by kernel_rfl)) (fun _ _ _ h=>h) (Or.inl ⟨by rfl,?_⟩) ?_ ?_
               rotate_left;(intro w';go_simp;with_reducible rfl);rotate_left;(simp only [Act.put,List.setIfInBounds_toArray,List.set_cons_zero,List.set_cons_succ,i64_w,i32_w];rfl)
               refine take_ (i:=1) (N:=some 25) (v:=?_) (a':=?_) #[true,true,true,false,false,false,false,true,true,false,false,false,false,false] rfl rfl (take_ofW HT_.out HW_.out (by kernel_rfl)) (fun _ _ _ h=>h) (Or.inl ⟨by rfl,?_⟩) hHeld ?_ ?_
               rotate_left;(rintro w' ⟨s0,s1,s2,s3,s4,s5,s6,s7,s8,s9,s10⟩;go_simp;with_reducible rfl);rotate_left;(simp only [Act.put,List.setIfInBounds_toArray,List.set_cons_zero,List.set_cons_succ,i64_w,i32_w];rfl)
               refine take_ (i:=3) (N:=some 27) (v:=?_) (a':=?_) #[true,true,true,true,false,false,false,true,true,false,false,false,false,false] rfl rfl (take_ofW HT_.out HW_.out (by kernel_rfl)) (fun _ _ _ h=>h) (Or.inl ⟨by rfl,?_⟩) hHeld ?_ ?_
               rotate_left;(rintro w' ⟨s0,s1,s2,s3,s4,s5,s6,s7,s8,s9,s10⟩;go_simp;with_reducible rfl);rotate_left;(simp only [Act.put,List.setIfInBounds_toArray,List.set_cons_zero,List.set_cons_succ,i64_w,i32_w];rfl)
               refine pure_ (i:=4) (N:=some 28) (v:=?_) (a':=?_) #[true,true,true,true,true,false,false,true,true,false,false,false,false,false] rfl rfl (any_of HT_.out (by kernel_rfl)) (fun _ _ _ h=>h) (Or.inl ⟨by rfl,?_⟩) ?_ ?_
               rotate_left;(intro w';go_simp;with_reducible rfl);rotate_left;(simp only [Act.put,List.setIfInBounds_toArray,List.set_cons_zero,List.set_cons_succ,i64_w,i32_w];rfl)
               refine take_ (i:=5) (N:=some 29) (v:=?_) (a':=?_) #[true,true,true,true,true,true,false,true,true,false,false,false,false,false] rfl rfl (take_ofW HT_.out HW_.out (by kernel_rfl)) (fun _ _ _ h=>h) (Or.inl ⟨by rfl,?_⟩) hHeld ?_ ?_
               rotate_left;(rintro w' ⟨s0,s1,s2,s3,s4,s5,s6,s7,s8,s9,s10⟩;go_simp;with_reducible rfl);rotate_left;(simp only [Act.put,List.setIfInBounds_toArray,List.set_cons_zero,List.set_cons_succ,i64_w,i32_w];rfl)
               refine take_ (i:=6) (N:=some 30) (v:=?_) (a':=?_) #[true,true,true,true,true,true,true,true,true,false,false,false,false,false] rfl rfl (take_ofW HT_.out HW_.out (by kernel_rfl)) (fun _ _ _ h=>h) (Or.inl ⟨by rfl,?_⟩) hHeld ?_ ?_
               rotate_left;(rintro w' ⟨s0,s1,s2,s3,s4,s5,s6,s7,s8,s9,s10⟩;go_simp;with_reducible rfl);rotate_left;(simp only [Act.put,List.setIfInBounds_toArray,List.set_cons_zero,List.set_cons_succ,i64_w,i32_w];rfl)
               refine take_ (i:=9) (N:=some 33) (v:=?_) (a':=?_) #[true,true,true,true,true,true,true,true,true,true,false,false,false,false] rfl rfl (take_ofW HT_.out HW_.out (by kernel_rfl)) (fun _ _ _ h=>h) (Or.inl ⟨by rfl,?_⟩) hHeld ?_ ?_
               rotate_left;(rintro w' ⟨s0,s1,s2,s3,s4,s5,s6,s7,s8,s9,s10⟩;go_simp;with_reducible rfl);rotate_left;(simp only [Act.put,List.setIfInBounds_toArray,List.set_cons_zero,List.set_cons_succ,i64_w,i32_w];rfl)
               refine pure_ (i:=10) (N:=some 34) (v:=?_) (a':=?_) #[true,true,true,true,true,true,true,true,true,true,true,false,false,false] rfl rfl (any_of HT_.out (by kernel_rfl)) (fun _ _ _ h=>h) (Or.inl ⟨by rfl,?_⟩) ?_ ?_
               rotate_left;(intro w';go_simp;with_reducible rfl);rotate_left;(simp only [Act.put,List.setIfInBounds_toArray,List.set_cons_zero,List.set_cons_succ,i64_w,i32_w];rfl)
               refine take_ (i:=11) (N:=some 35) (v:=?_) (a':=?_) #[true,true,true,true,true,true,true,true,true,true,true,true,false,false] rfl rfl (take_ofW HT_.out HW_.out (by kernel_rfl)) (fun _ _ _ h=>h) (Or.inl ⟨by rfl,?_⟩) hHeld ?_ ?_
               rotate_left;(rintro w' ⟨s0,s1,s2,s3,s4,s5,s6,s7,s8,s9,s10⟩;go_simp;with_reducible rfl);rotate_left;(simp only [Act.put,List.setIfInBounds_toArray,List.set_cons_zero,List.set_cons_succ,i64_w,i32_w];rfl)
               refine one_ (i:=12) (N:=some 36) #[true,true,true,true,true,true,true,true,true,true,true,true,true,false] rfl rfl (one_of HT_.out (by kernel_rfl)) (by decide) (fun K hK=>?_)
               refine goes_ Try.func25 (by kernel_rfl) rfl #[.int .i64 (rd l0_0 ((rd_T39 l1 x20_2).f0)),.agg #[.int .i64 ((rd_T39 l1 x20_2).f0),.int .i64 ((rd_T39 l1 x20_2).f1),.int .i64 ((rd_T39 l1 x20_2).f2.f0),.string ((rd_T39 l1 x20_2).f2.f1)],.agg #[.int .i64 ((rd_T37 (rd_L4 l2 x14_1) ((rd_T39 l1 x20_2).f0)).f0),.string ((rd_T37 (rd_L4 l2 x14_1) ((rd_T39 l1 x20_2).f0)).f1)]] (by rfl) rfl rfl (by (try simp only [List.map_toArray,List.map_cons,List.map_nil]);first|done|rfl|(simp only [List.length_drop,List.length_take];rfl)) ?_
               with_reducible refine (filter_holds.calls k2 (rd l0_0 ((rd_T39 l1 x20_2).f0)) ((rd_T39 l1 x20_2).f0) ((rd_T39 l1 x20_2).f1) ((rd_T39 l1 x20_2).f2.f0) ((rd_T39 l1 x20_2).f2.f1) ((rd_T37 (rd_L4 l2 x14_1) ((rd_T39 l1 x20_2).f0)).f0) ((rd_T37 (rd_L4 l2 x14_1) ((rd_T39 l1 x20_2).f0)).f1) false _ A14.out).mono ?_
               rintro e w27 ⟨rfl,hb⟩
               have HS9_:=(hb.cell (World.block_lt_of_cell? _ _ (hHeld.2.2.2.2.2.2.2.2.2.1))).trans (hHeld.2.2.2.2.2.2.2.2.2.1)
               have HS10_:=(hb.cell (World.block_lt_of_cell? _ _ (hHeld.2.2.2.2.2.2.2.2.2.2))).trans (hHeld.2.2.2.2.2.2.2.2.2.2)
               refine ⟨_,rfl,?_⟩
               have n0_:=Aside0.mk (Kd.N_below (N_up HO_7.out) hb)
               have n1_:=Aside0.mk (Kd.V_below (V_up HO_9.out) hb)
               have n2_:=Aside0.mk (Kd.V_below (V_up HO_12.out) hb)
               have n3_:=Aside0.mk (blk_below (blk_up BK217.out) hb)
               have n4_:=Aside0.mk (blk_below (blk_up BK223.out) hb)
               have n5_:=Aside0.mk (below_step (below_go HB.out) hb)
               clear HO_7
               clear HO_9
               clear HO_12
               clear BK217
               clear BK223
               clear HB
               have HO_7:=n0_
               have HO_9:=n1_
               have HO_12:=n2_
               have BK217:=n3_
               have BK223:=n4_
               have HB:=n5_
               clear n0_ n1_ n2_ n3_ n4_ n5_
               (try clear hb)
               (try clear hb2)
               (try clear hk)
               (try clear hi)
               refine hK.out _ _ ⟨(blk_cell BK217.out 0).trans rfl,(blk_cell BK217.out 1).trans rfl,(blk_cell BK217.out 2).trans rfl,(blk_cell BK217.out 3).trans rfl,(blk_cell BK223.out 0).trans rfl,(blk_cell BK223.out 1).trans rfl,(blk_cell BK223.out 2).trans rfl,(blk_cell BK223.out 3).trans rfl,((HB.out.cell (World.block_lt_of_cell? w _ hw224_0)).trans hw224_0),HS9_,HS10_⟩ (fun hHeld=>?_)
               clear hK K
               refine norm_ (a':=?_) ?_ ?_
               rotate_left
               ·show Act.put _ (some 36) _=_
                simp only [Act.put,List.setIfInBounds_toArray,List.set_cons_zero,List.set_cons_succ,i64_w,i32_w]
                rfl
               refine pure_ (i:=13) (N:=some 37) (v:=?_) (a':=?_) #[true,true,true,true,true,true,true,true,true,true,true,true,true,true] rfl rfl (any_of HT_.out (by kernel_rfl)) (fun _ _ _ h=>h) (Or.inl ⟨by rfl,?_⟩) ?_ ?_
               rotate_left;(intro w';go_simp;with_reducible rfl);rotate_left;(simp only [Act.put,List.setIfInBounds_toArray,List.set_cons_zero,List.set_cons_succ,i64_w,i32_w];rfl)
               refine done_ (done_of HT_.out (by kernel_rfl)) ?_
               (try clear HS9_);(try clear HS10_);(try clear hHeld)
               try go_wp2
               go_roundg k2
               case measure=>have:=HK1.out;have:=HK2.out;omega
               case rel=>exact ⟨(x7_1),(wrap64 (x14_1 + 1)),(by first|rfl|(simp;done)|(simp [*];done)),(by first|exact H'|(subst_vars;exact H')),⟨by have:=HK1.out;have:=HK2.out;omega⟩,⟨by (with_reducible repeat (first|apply Kd.N_alloc|apply Kd.N_drewN|apply Kd.N_drew));exact Kd.N_mono HO_7.out (fun _ hk=>⟨hk.1,hk.2.1⟩)⟩,⟨by (with_reducible repeat (first|apply Kd.V_alloc|apply Kd.V_drewN|apply Kd.V_drew));exact Kd.V_mono HO_12.out (fun _ hk=>⟨hk.1,⟨hk.2.1,hk.2.2.1⟩⟩)⟩,⟨by (with_reducible repeat (first|refine blk_drewN ?_ _|refine blk_drew ?_|refine blk_alloc ?_ _));exact BK217.out⟩,⟨by repeat (first|(with_reducible first|exact HB.out|apply below_alloc|apply pw_below_drewN|apply below_drew1|refine below_set ?_ GE217.out|refine below_set ?_ GE223.out)|exact HB.out)⟩⟩
             ·rw [if_neg c13] at H
              exact absurd H (by simp)
            ·rw [if_neg c12] at H
             exact absurd H (by simp)
           ·rw [if_neg c11] at H
            exact absurd H (by simp)
          ·rw [if_neg c10] at H
           exact absurd H (by simp)
         ·rw [if_neg c9] at H
          exact absurd H (by simp)
        ·rw [if_neg c8] at H
         have c8b0 : decide (x20_2 < (l1.length : Int))=false:=decide_eq_false c8
         clear c8
         by_cases c28 : x7_1.length < 5864062014805
         ·rw [if_pos c28] at H
          have LMc28:=Aside0.mk c28
          clear c28
          obtain ⟨y219,hy219⟩ : ∃ y_ : List (List (S37)),y_=(x7_1 ++ [(rd_L4 l2 x14_1)]):=⟨_,rfl⟩
          replace H : (filter_Keep.l0 k2 l1 y219 l2 (l2.length : Int) (wrap64 (x14_1 + 1)) l0_0 a0_1 a0_2 a0_3)=some r:=by first|(rw [hy219];with_reducible exact H)|(have H2_:=(Option.bind_some _ _).symm.trans H;rw [hy219];with_reducible exact H2_)|(have H2_:=(Option.bind_some _ _).symm.trans H;with_reducible exact H2_)|with_reducible exact H|(rw [hy219];exact H)|exact H
          have Ny219:=Aside0.mk hy219
          clear hy219
          have H':=Aside0.mk H
          clear H
          go_wp2_with (first|((with_reducible refine gate_builtin (b:=.append) (xs:=#[.tmp 39,.tmp 41]) rfl ?_);at_builtin;refine Kd.N_append (Kd.slice 37 k37) (w0:=w) w.heap.size rfl (.tmp 39) (.tmp 41) 26 41 (.slice none 0 0) 24 rfl Try.underlying26 info41 rfl (by decide) (by omega) u7 x7_1 (rd_L4 l2 x14_1) [.slice A218_0 (rd_L4 l2 x14_1).length c218_0] (fun k_=>(P2_ k_ ∨ w.heap.size≤k_)∧k_≠gb217) (fun k_=>((fun k_=>(P2_ k_ ∨ w.heap.size≤k_)∧k_≠gb217)) k_∧some k_≠(u7 : Value).ownBlock) rfl rfl ?aP (fun _ hk=>hk) ?aF ?aO ?aB ?aS ?aL ?_;(case aP=>exact (Kd.FK_slice_mk (Kd.V_reads' (Kd.V_mono (ok':=(fun k_=>((fun k_=>(P2_ k_ ∨ w.heap.size≤k_)∧k_≠gb217)) k_∧some k_≠(u7 : Value).ownBlock)) (HO_9.out) (fun k_ hk=>⟨⟨hk.1,hk.2.2⟩,hk.2.1⟩))).2.1 (Kd.V_F (Kd.V_mono (ok':=(fun k_=>((fun k_=>(P2_ k_ ∨ w.heap.size≤k_)∧k_≠gb217)) k_∧some k_≠(u7 : Value).ownBlock)) (HO_9.out) (fun k_ hk=>⟨⟨hk.1,hk.2.2⟩,hk.2.1⟩)))));(case aB=>exact (below_go HB.out));(case aF=>exact (fun k_ hk=>⟨(.inr (Nat.le_trans (below_size (below_go HB.out)) hk)),Kd.freshB (blk_up BK217.out) k_ hk⟩));(case aO=>exact (N_up HO_7.out));(case aS=>exact (below_size (below_go HB.out)));(case aL=>have:=LMc28.out;omega);intro v220 w29 ho hb hg hat;rw [← Ny219.out] at ho;have n0_:=Aside0.mk (Kd.V_afterv (ok:=(fun k_=>(P2_ k_ ∨ w.heap.size≤k_)∧k_≠gb217)) (V_upm HO_9.out (fun _ hk=>⟨⟨hk.1,hk.2.2⟩,hk.2.1⟩)) hg hat);have n1_:=Aside0.mk (Kd.V_afterv (ok:=(fun k_=>(P2_ k_ ∨ w.heap.size≤k_)∧k_≠gb217)) (V_upm HO_12.out (fun _ hk=>⟨⟨hk.1,hk.2.2⟩,hk.2.1⟩)) hg hat);have n2_:=Aside0.mk (blk_grown (blk_up BK217.out) hg (Kd.N_ne HO_7.out BK217.out (by decide)));have n3_:=Aside0.mk (hb);have n4_:=Aside0.mk (ho);clear HO_9;clear HO_12;clear BK217;clear HB;clear HO_7;have HO_9:=n0_;have HO_12:=n1_;have BK217:=n2_;have HB:=n3_;have HO221:=n4_;clear n0_ n1_ n2_ n3_ n4_;clear ho hb hg hat))
          go_roundg k2
          case measure=>have:=HK1.out;have:=HK2.out;omega
          case rel=>exact ⟨(y219),(wrap64 (x14_1 + 1)),(by first|rfl|(simp;done)|(simp [*];done)),(by first|exact H'|(subst_vars;exact H')),⟨by have:=HK1.out;have:=HK2.out;omega⟩,⟨by (with_reducible repeat (first|apply Kd.N_alloc|apply Kd.N_drewN|apply Kd.N_drew));exact HO221.out⟩,⟨by (with_reducible repeat (first|apply Kd.V_alloc|apply Kd.V_drewN|apply Kd.V_drew));exact Kd.V_mono HO_12.out (fun _ hk=>⟨hk.1.1,⟨hk.2,hk.1.2⟩⟩)⟩,⟨by (with_reducible repeat (first|refine blk_drewN ?_ _|refine blk_drew ?_|refine blk_alloc ?_ _));exact BK217.out⟩,⟨by repeat (first|(with_reducible first|exact HB.out|apply below_alloc|apply pw_below_drewN|apply below_drew1|refine below_set ?_ GE217.out)|exact HB.out)⟩⟩
         ·rw [if_neg c28] at H
          exact absurd H (by simp)
     ·rw [if_neg c7] at H
      exact absurd H (by simp)
    ·rw [if_neg c6] at H
     exact absurd H (by simp)
   ·rw [if_neg c5] at H
    have c5b0 : decide (x14_1 < (l2.length : Int))=false:=decide_eq_false c5
    clear c5
    obtain rfl:=Option.some.inj H
    go_wp2
    go_ret
    exact ⟨_,by first|rfl|(simp [errW_none,errW_some] <;> rfl)|(simp [*,errW_none,errW_some] <;> rfl),by (with_reducible repeat (first|apply Kd.N_alloc|apply Kd.N_drewN|apply Kd.N_drew));exact Kd.N_mono HO_7.out (fun _ hk=>hk.1),by repeat (first|(with_reducible first|exact HB.out|apply below_alloc|apply pw_below_drewN|apply below_drew1|refine below_set ?_ GE217.out)|exact HB.out)⟩
def thresherref04_One.l0 : Nat→List (S37)→List (S37)→Int→Option (Bool)
 | 0,_,_,_=>none
 | k + 1,x0,x1,x5=>if x5 < (x0.length : Int) then (if 0≤x5 then (if x5 < (x1.length : Int) then (if (!(((rd_T37 x0 x5).f0) == ((rd_T37 x1 x5).f0)) || (!((((rd_T37 x0 x5).f1).toList) == (((rd_T37 x1 x5).f1).toList))))=true then (some false) else (thresherref04_One.l0 k x0 x1 (wrap64 (x5 + 1)))) else (none)) else (none)) else (some true)
def thresherref04_One.f (k : Nat) (l0 : List (S37)) (l1 : List (S37)) : Option (Bool):=if (l0.length : Int)=(l1.length : Int) then (thresherref04_One.l0 k l0 l1 0) else (some false)
theorem thresherref04_One.mono_l : ∀ k,(∀ y0 y1 y2,LeO (thresherref04_One.l0 k y0 y1 y2) (thresherref04_One.l0 (k + 1) y0 y1 y2))
 | 0=>fun _ _ _ r h=>by simp [thresherref04_One.l0] at h
 | k + 1=>by
  have ih0:=thresherref04_One.mono_l k
  ·intro y0 y1 y2
   unfold thresherref04_One.l0
   repeat' first
   | (with_reducible exact ih0 _ _ _)
   | (with_reducible exact LeO.refl _)
   | (with_reducible exact LeO.none _)
   | (with_reducible refine LeO.ite ?_ ?_)
   | (with_reducible refine LeO.bind ?_ (fun _=>?_))
   | exact ih0 _ _ _
   | exact LeO.none _
   | refine LeO.ite ?_ ?_
   | refine LeO.bind ?_ (fun _=>?_)
theorem thresherref04_One.mono : ∀ a0 a1 k,LeO (thresherref04_One.f k a0 a1) (thresherref04_One.f (k + 1) a0 a1):=by
 intro a0 a1 k
 have ih0:=thresherref04_One.mono_l k
 unfold thresherref04_One.f
 repeat' first
   | (with_reducible exact ih0 _ _ _)
   | (with_reducible exact LeO.refl _)
   | (with_reducible exact LeO.none _)
   | (with_reducible refine LeO.ite ?_ ?_)
   | (with_reducible refine LeO.bind ?_ (fun _=>?_))
   | exact ih0 _ _ _
   | exact LeO.none _
   | refine LeO.ite ?_ ?_
   | refine LeO.bind ?_ (fun _=>?_)
set_option maxHeartbeats 8000000 in
set_option maxRecDepth 100000 in
theorem thresherref04_One.calls (k : Nat) (A0 : Option Addr) (c0 : Nat) (l0 : List (S37)) (A1 : Option Addr) (c1 : Nat) (l1 : List (S37)) (r : Bool) (w : World) (hr0 : Kd.C k37 w A0 l0.length l0) (hc0 : l0.length≤c0) (hr1 : Kd.C k37 w A1 l1.length l1) (hc1 : l1.length≤c1) (h : thresherref04_One.f k l0 l1=some r) :
  Calls Try.prog 16 #[.slice A0 l0.length c0,.slice A1 l1.length c1] w fun e w'=>e=.returned (.bool r)∧Drawn0 w w':=by
 have hu37:=Try.underlying37
 have HR0:=Aside0.mk hr0
 have HC0:=Aside0.mk hc0
 clear hr0 hc0
 have HR1:=Aside0.mk hr1
 have HC1:=Aside0.mk hc1
 clear hr1 hc1
 have H : (if (l0.length : Int)=(l1.length : Int) then (thresherref04_One.l0 k l0 l1 0) else (some false))=some r:=h
 clear h
 by_cases c3 : (l0.length : Int)=(l1.length : Int)
 ·rw [if_pos c3] at H
  have c3b0 : ((l0.length : Int) == (l1.length : Int))=true:=beq_iff_eq.mpr c3
  have c3b1 : ((l0.length : Int) != (l1.length : Int))=false:=bne_eq_false_iff_eq.mpr c3
  have c3b2 : (l0.length == l1.length)=true:=by first|simpa using c3|(simp at c3 ⊢;omega)
  clear c3
  have H':=Aside0.mk H
  clear H
  go_enter Try.func16,Try.ntmps16
  go_wp2
  repeat (go_quiet (fail);try go_wp2)
  go_loopg [5] k (fun kq v5 w'=>∃ (x5_1 : Int),v5=.int .i64 x5_1∧Aside0 (thresherref04_One.l0 kq l0 l1 x5_1=some r)∧Aside0 (kq≤k)∧Drawn0 w w')
  case atStart=>exact ⟨(0),(by first|rfl|(simp;done)|(simp [*];done)),H',⟨Nat.le_refl _⟩,by repeat (first|exact Drawn0.refl _|apply Drawn0.step)⟩
  case round =>
   clear H'
   try clear c1
   try clear p2
   try clear c3
   try clear c3b0
   try clear c3b1
   try clear c3b2
   obtain ⟨x5_1,rfl,HA,HK1,⟨m1,rfl⟩⟩:=hrel
   cases gk with
   | zero=>exact absurd HA.out (by simp [thresherref04_One.l0])
   | succ k1 =>
    have H:=HA.out
    clear HA
    simp only [thresherref04_One.l0] at H
    by_cases c4 : x5_1 < (l0.length : Int)
    ·rw [if_pos c4] at H
     have c4b0 : decide (x5_1 < (l0.length : Int))=true:=decide_eq_true c4
     clear c4
     by_cases c5 : 0≤x5_1
     ·rw [if_pos c5] at H
      have c5b0 : decide (0≤x5_1)=true:=decide_eq_true c5
      clear c5
      by_cases c6 : x5_1 < (l1.length : Int)
      ·rw [if_pos c6] at H
       have c6b0 : decide (x5_1 < (l1.length : Int))=true:=decide_eq_true c6
       clear c6
       by_cases c7 : (!(((rd_T37 l0 x5_1).f0) == ((rd_T37 l1 x5_1).f0)) || (!((((rd_T37 l0 x5_1).f1).toList) == (((rd_T37 l1 x5_1).f1).toList))))=true
       ·rw [if_pos c7] at H
        have c7b0 : (!(((rd_T37 l0 x5_1).f0) == ((rd_T37 l1 x5_1).f0)) || (!((((rd_T37 l0 x5_1).f1).toList) == (((rd_T37 l1 x5_1).f1).toList))))=true:=c7
        clear c7
        obtain rfl:=Option.some.inj H
        have p227 : 0≤(x5_1 : Int):=of_decide_eq_true (by first|(with_reducible assumption)|assumption)
        have q227 : x5_1 < (l0.length : Int):=of_decide_eq_true (by first|(with_reducible assumption)|assumption)
        obtain ⟨ad227,e227,hx227_0,hx227_1⟩:=at_T37 HR0.out x5_1 p227 q227
        cases e227
        replace p227:=eq_true p227
        replace q227:=eq_true q227
        have p228 : 0≤(x5_1 : Int):=of_decide_eq_true (by first|(with_reducible assumption)|assumption)
        have q228 : x5_1 < (l1.length : Int):=of_decide_eq_true (by first|(with_reducible assumption)|assumption)
        obtain ⟨ad228,e228,hx228_0,hx228_1⟩:=at_T37 HR1.out x5_1 p228 q228
        cases e228
        replace p228:=eq_true p228
        replace q228:=eq_true q228
        go_wp2
        repeat (go_quiet (fail);try go_wp2)
        go_ret
        exact ⟨by first|rfl|(simp;done)|(simp [*];done),by repeat (first|exact Drawn0.refl _|apply Drawn0.step)⟩
       ·rw [if_neg c7] at H
        have c7b0 : (!(((rd_T37 l0 x5_1).f0) == ((rd_T37 l1 x5_1).f0)) || (!((((rd_T37 l0 x5_1).f1).toList) == (((rd_T37 l1 x5_1).f1).toList))))=false:=by simpa using c7
        clear c7
        have H':=Aside0.mk H
        clear H
        have p227 : 0≤(x5_1 : Int):=of_decide_eq_true (by first|(with_reducible assumption)|assumption)
        have q227 : x5_1 < (l0.length : Int):=of_decide_eq_true (by first|(with_reducible assumption)|assumption)
        obtain ⟨ad227,e227,hx227_0,hx227_1⟩:=at_T37 HR0.out x5_1 p227 q227
        cases e227
        replace p227:=eq_true p227
        replace q227:=eq_true q227
        have p228 : 0≤(x5_1 : Int):=of_decide_eq_true (by first|(with_reducible assumption)|assumption)
        have q228 : x5_1 < (l1.length : Int):=of_decide_eq_true (by first|(with_reducible assumption)|assumption)
        obtain ⟨ad228,e228,hx228_0,hx228_1⟩:=at_T37 HR1.out x5_1 p228 q228
        cases e228
        replace p228:=eq_true p228
        replace q228:=eq_true q228
        go_wp2
        repeat (go_quiet (fail);try go_wp2)
        go_roundg k1
        case measure=>have:=HK1.out;omega
        case rel=>exact ⟨(wrap64 (x5_1 + 1)),(by first|rfl|(simp;done)|(simp [*];done)),(by first|exact H'|(subst_vars;exact H')),⟨by have:=HK1.out;omega⟩,by repeat (first|exact Drawn0.refl _|apply Drawn0.step)⟩
      ·rw [if_neg c6] at H
       exact absurd H (by simp)
     ·rw [if_neg c5] at H
      exact absurd H (by simp)
    ·rw [if_neg c4] at H
     have c4b0 : decide (x5_1 < (l0.length : Int))=false:=decide_eq_false c4
     clear c4
     obtain rfl:=Option.some.inj H
     go_wp2
     repeat (go_quiet (fail);try go_wp2)
     go_ret
     exact ⟨by first|rfl|(simp;done)|(simp [*];done),by repeat (first|exact Drawn0.refl _|apply Drawn0.step)⟩
 ·rw [if_neg c3] at H
  have c3b0 : ((l0.length : Int) == (l1.length : Int))=false:=beq_eq_false_iff_ne.mpr c3
  have c3b1 : ((l0.length : Int) != (l1.length : Int))=true:=bne_iff_ne.mpr c3
  have c3b2 : (l0.length == l1.length)=false:=by first|simpa using c3|(simp at c3 ⊢;omega)
  obtain rfl:=Option.some.inj H
  go_enter Try.func16,Try.ntmps16
  go_wp2
  repeat (go_quiet (fail);try go_wp2)
  go_ret
  exact ⟨by first|rfl|(simp;done)|(simp [*];done),by repeat (first|exact Drawn0.refl _|apply Drawn0.step)⟩
end Go.Proofs.Ytbkpifcjgedjaaa.P

