/- Texts of MergeFirst. Merged: Px13. -/
import Derived.Test.YtfiandejapgkoaaQMergeFirstPx0
import Derived.Test.YtfiandejapgkoaaQMergeFirstPx11
import Derived.Test.YtfiandejapgkoaaQMergeFirstPx12
import Derived.Test.YtfiandejapgkoaaMMergeFirst1
namespace Go.Proofs.Ytfiandejapgkoaa.P
open Go.RowKit Go.Proofs.YtfiandejapgkoaaW.PrintWords Go.Proofs.YtfiandejapgkoaaW.PrintLast Go.Proofs.YtfiandejapgkoaaW.PrintMore
attribute [local go_sem] max2_int min2_int max_two min_two max_three min_three max_four min_four   -- for this text's walks alone
set_option linter.unusedVariables false
set_option linter.unusedSimpArgs false
def fold_Rows.l0 : Nat→List (List (S31))→List (List (S31))→Int→Int→List Int→Int→Int→Int→Option ((List (List (S31))))
 | 0,_,_,_,_,_,_,_,_=>none
 | k + 1,x5,x14,x15,x16,x328000,x328001,x328002,x328003=>if x16 < x15 then (if 0≤x16 then (if x16 < (x14.length : Int) then (if (wrap64 ((x5.length : Int) - 1)) ≥ 0 then (if 0≤(wrap64 ((x5.length : Int) - 1)) then (if (wrap64 ((x5.length : Int) - 1)) < (x5.length : Int) then ((schema_Compare.f k x328000 x328001 x328002 x328003 (rd_L3 x5 (wrap64 ((x5.length : Int) - 1))) (rd_L3 x14 x16)).bind fun t333=>(if t333=0 then ((fold_One.f k x328000 x328001 x328002 x328003 (rd_L3 x5 (wrap64 ((x5.length : Int) - 1))) (rd_L3 x14 x16)).bind fun t335=>(fold_Rows.l0 k (x5.set ((wrap64 ((x5.length : Int) - 1)) : Int).toNat t335) x14 x15 (wrap64 (x16 + 1)) x328000 x328001 x328002 x328003)) else (if x5.length < 5864062014805 then (fold_Rows.l0 k (x5 ++ [rd_L3 x14 x16]) x14 x15 (wrap64 (x16 + 1)) x328000 x328001 x328002 x328003) else (none)))) else (none)) else (none)) else (if x5.length < 5864062014805 then (fold_Rows.l0 k (x5 ++ [rd_L3 x14 x16]) x14 x15 (wrap64 (x16 + 1)) x328000 x328001 x328002 x328003) else (none))) else (none)) else (none)) else (some x5)
def fold_Rows.f (k : Nat) (l0_0 : List Int) (a0_1 : Int) (a0_2 : Int) (a0_3 : Int) (l1 : List (List (S31))) : Option ((List (List (S31)))):=if a0_2=1 then ((api_Row.f l1).bind fun t328=>(some t328)) else (fold_Rows.l0 k ([] : List (List (S31))) l1 (l1.length : Int) 0 l0_0 a0_1 a0_2 a0_3)
theorem fold_Rows.mono_l : ∀ k,(∀ y0 y1 y2 y3 y4 y5 y6 y7,LeO (fold_Rows.l0 k y0 y1 y2 y3 y4 y5 y6 y7) (fold_Rows.l0 (k + 1) y0 y1 y2 y3 y4 y5 y6 y7))
 | 0=>fun _ _ _ _ _ _ _ _ r h=>by simp [fold_Rows.l0] at h
 | k + 1=>by
  have ih0:=fold_Rows.mono_l k
  ·intro y0 y1 y2 y3 y4 y5 y6 y7
   unfold fold_Rows.l0
   repeat' first
   | (with_reducible exact ih0 _ _ _ _ _ _ _ _)
   | (with_reducible exact fold_One.mono _ _ _ _ _ _ _)
   | (with_reducible exact schema_Compare.mono _ _ _ _ _ _ _)
   | (with_reducible exact LeO.refl _)
   | (with_reducible exact LeO.none _)
   | (with_reducible refine LeO.ite ?_ ?_)
   | (with_reducible refine LeO.bind ?_ (fun _=>?_))
   | exact ih0 _ _ _ _ _ _ _ _
   | exact fold_One.mono _ _ _ _ _ _ _
   | exact schema_Compare.mono _ _ _ _ _ _ _
   | exact LeO.none _
   | refine LeO.ite ?_ ?_
   | refine LeO.bind ?_ (fun _=>?_)
theorem fold_Rows.mono : ∀ a0 a1 a2 a3 a4 k,LeO (fold_Rows.f k a0 a1 a2 a3 a4) (fold_Rows.f (k + 1) a0 a1 a2 a3 a4):=by
 intro a0 a1 a2 a3 a4 k
 have ih0:=fold_Rows.mono_l k
 unfold fold_Rows.f
 repeat' first
   | (with_reducible exact ih0 _ _ _ _ _ _ _ _)
   | (with_reducible exact fold_One.mono _ _ _ _ _ _ _)
   | (with_reducible exact schema_Compare.mono _ _ _ _ _ _ _)
   | (with_reducible exact LeO.refl _)
   | (with_reducible exact LeO.none _)
   | (with_reducible refine LeO.ite ?_ ?_)
   | (with_reducible refine LeO.bind ?_ (fun _=>?_))
   | exact ih0 _ _ _ _ _ _ _ _
   | exact fold_One.mono _ _ _ _ _ _ _
   | exact schema_Compare.mono _ _ _ _ _ _ _
   | exact LeO.none _
   | refine LeO.ite ?_ ?_
   | refine LeO.bind ?_ (fun _=>?_)
def fold_Rows.T8 : Bool × List (List Nat × List Nat):=(true,[([],[]),([0],[0]),([1],[1]),([2],[2]),([2],[2]),([2],[2]),([4,5,2],[2,4,5]),([6,2],[2,6]),([2],[2]),([3,7,8,2,2],[2,3,7,8]),([9,2],[2,9]),([2,10],[2,10])])
def fold_Rows.B8 : List Nat:=[0,1,3,7,7,7,55,119,7,511,1023,2047]
theorem fold_Rows.tab8 : rtab .any (opsOf Try.f25 8)=fold_Rows.T8:=by kernel_rfl
theorem fold_Rows.bits8 : waitsOk fold_Rows.T8.2 fold_Rows.B8=true:=by kernel_rfl
def fold_Rows.T9 : Bool × List (List Nat × List Nat):=(true,[([],[]),([],[]),([],[]),([],[]),([],[]),([3,4],[3,4]),([5],[5]),([],[]),([2,6,7],[2,6,7]),([0,1,0,1,2,3,4,5,6,7,8],[0,1]),([9,8,8,0,1,2,3,4,5,6,7,8],[8,9])])
def fold_Rows.B9 : List Nat:=[0,0,0,0,0,24,56,0,252,511,1023]
theorem fold_Rows.tab9 : rtab .any (opsOf Try.f25 9)=fold_Rows.T9:=by kernel_rfl
theorem fold_Rows.bits9 : waitsOk fold_Rows.T9.2 fold_Rows.B9=true:=by kernel_rfl
set_option maxHeartbeats 8000000 in
set_option maxRecDepth 100000 in
theorem fold_Rows.calls (k : Nat) (A0_0 : Option Addr) (c0_0 : Nat) (l0_0 : List Int) (a0_1 : Int) (a0_2 : Int) (a0_3 : Int) (P1_ : Nat→Prop) (A1 : Option Addr) (c1 : Nat) (l1 : List (List (S31))) (r : List (List (S31))) (w : World) (hr0_0 : Kd.C (Kd.int .i64) w A0_0 l0_0.length l0_0) (hc0_0 : l0_0.length≤c0_0) (hs1 : Kd.V (Kd.slice 31 k31) 33 w w.heap.size (fun k_=>P1_ k_) (.slice A1 l1.length c1) l1) (h : fold_Rows.f k l0_0 a0_1 a0_2 a0_3 l1=some r) :
  Calls Try.prog 25 #[.agg #[.slice A0_0 l0_0.length c0_0,.int .i64 a0_1,.int .i64 a0_2,.int .i64 a0_3],.slice A1 l1.length c1] w fun e w'=>∃ v0_ : Value,e=.returned (v0_)∧Kd.N (Kd.slice 31 k31) 33 w' w.heap.size (fun k_=>(P1_ k_ ∨ w.heap.size≤k_)) v0_ r∧Below w.heap.size w w':=by
 have hu26:=Try.underlying26
 have HR0_0:=Aside0.mk hr0_0
 have HC0_0:=Aside0.mk hc0_0
 clear hr0_0 hc0_0
 have HO1:=Aside0.mk (show Kd.V (Kd.slice 31 k31) 33 w w.heap.size (fun k_=>(P1_ k_ ∨ w.heap.size≤k_)) (.slice A1 l1.length c1) l1 from Kd.V_mono hs1 (fun k_ hk=>.inl hk))
 have HB:=Aside0.mk (Below.refl w.heap.size w)
 have H : (if a0_2=1 then ((api_Row.f l1).bind fun t328=>(some t328)) else (fold_Rows.l0 k ([] : List (List (S31))) l1 (l1.length : Int) 0 l0_0 a0_1 a0_2 a0_3))=some r:=h
 clear h
 by_cases c3 : a0_2=1
 ·rw [if_pos c3] at H
  have c3b0 : (a0_2 == 1)=true:=beq_iff_eq.mpr c3
  have c3b1 : (a0_2 != 1)=false:=bne_eq_false_iff_eq.mpr c3
  clear c3
  replace H:=Option.bind_eq_some_iff.mp H
  obtain ⟨t328,A40,H⟩:=H
  replace H : (some t328)=some r:=H
  have A4:=Aside0.mk A40
  clear A40
  obtain rfl:=Option.some.inj H
  go_enter Try.func25,Try.ntmps25
  go_wp2_with (first|((with_reducible refine gate_dst (N:=2) rfl ?_);refine box_event ?hg (N:=2) ?hd (cs:=#[.slice A0_0 l0_0.length c0_0,.int .i64 a0_1,.int .i64 a0_2,.int .i64 a0_3]) (t:=26) ?hr ?_;(case hd=>rfl);(case hg=>rfl);(case hr=>first|(go_simp;done)|(go_simp;rfl));intro gb327 hg w5 hbox hb;have n0_:=Aside0.mk (Kd.V_below (Kd.V_elderB (V_up HO1.out) gb327 (Nat.le_of_eq hg.symm)) hb);have n1_:=Aside0.mk (below_step (below_up HB.out) hb);have n2_:=Aside0.mk (hbox);have n3_:=Aside0.mk ((by rw [hg];exact (below_size (below_up HB.out)) : w.heap.size≤gb327));have n4_:=Aside0.mk ((by rw [hg];exact (below_size (below_up HB.out)) : w.heap.size≤gb327));clear HO1;clear HB;have HO1:=n0_;have HB:=n1_;have BK327:=n2_;have GW327:=n3_;have GE327:=n4_;clear n0_ n1_ n2_ n3_ n4_;clear hb hbox hg;have hcz6_0 : w5.cell? ⟨gb327,0,none⟩=some (.slice A0_0 l0_0.length c0_0):=(blk_cell BK327.out 0).trans rfl;have hcz6_1 : w5.cell? ⟨gb327,1,none⟩=some (.int .i64 a0_1):=(blk_cell BK327.out 1).trans rfl;have hcz6_2 : w5.cell? ⟨gb327,2,none⟩=some (.int .i64 a0_2):=(blk_cell BK327.out 2).trans rfl;have hcz6_3 : w5.cell? ⟨gb327,3,none⟩=some (.int .i64 a0_3):=(blk_cell BK327.out 3).trans rfl;have hfz6_0:=blk_frozen BK327.out 0;have hfz6_1:=blk_frozen BK327.out 1;have hfz6_2:=blk_frozen BK327.out 2;have hfz6_3:=blk_frozen BK327.out 3)|((with_reducible refine gate_callee (f:=31) rfl ?_);refine goesL_ (some 13) rfl rfl Try.func31 (by kernel_rfl) rfl #[.slice A1 l1.length c1] rfl (by (try simp only [List.map_toArray,List.map_cons,List.map_nil]);first|done|rfl|(simp only [List.length_drop,List.length_take];rfl)) ?_;(with_reducible refine (api_Row.calls (fun k_=>((P1_ k_ ∨ w.heap.size≤k_)∧k_≠gb327)) _ _ l1 t328 _ ?side1 A4.out).mono ?_);(case side1=>exact HO1.out);rintro e w7 ⟨v329,rfl,ho0,hb⟩;refine ⟨_,rfl,?_⟩;have n0_:=Aside0.mk (Kd.V_elder' (V_up HO1.out) (by first|exact Kd.N_base ho0|exact Kd.S_base ho0) hb);have n1_:=Aside0.mk (Kd.N_lower (Kd.N_mono (ok':=fun k_=>(P1_ k_ ∨ w.heap.size≤k_)∧k_≠gb327) ho0 (fun k_ hk_=>⟨Or.elim hk_ (fun hs_=>hs_.1) (fun hn_=>(.inr (Nat.le_trans (below_size (below_go HB.out)) hn_))),Or.elim hk_ (fun hs_=>hs_.2) (fun hn_=>(Kd.freshB (blk_up BK327.out) k_ hn_))⟩)) (below_size (below_go HB.out)));have n2_:=Aside0.mk (blk_below (blk_up BK327.out) hb);have n3_:=Aside0.mk (below_step (below_go HB.out) hb);clear HO1;clear BK327;clear HB;have HO1:=n0_;have HO330:=n1_;have BK327:=n2_;have HB:=n3_;clear n0_ n1_ n2_ n3_;(try clear hb);(try clear hb2);(try clear hk);(try clear hi);(try clear ho0)))
  go_ret
  exact ⟨_,by first|rfl|(simp [errW_none,errW_some] <;> rfl)|(simp [*,errW_none,errW_some] <;> rfl),by (with_reducible repeat (first|apply Kd.N_alloc|apply Kd.N_drewN|apply Kd.N_drew));exact Kd.N_mono HO330.out (fun _ hk=>hk.1),by repeat (first|(with_reducible first|exact HB.out|apply below_alloc|apply pw_below_drewN|apply below_drew1|refine below_set ?_ GE327.out)|exact HB.out)⟩
 ·rw [if_neg c3] at H
  have c3b0 : (a0_2 == 1)=false:=beq_eq_false_iff_ne.mpr c3
  have c3b1 : (a0_2 != 1)=true:=bne_iff_ne.mpr c3
  have H':=Aside0.mk H
  clear H
  go_enter Try.func25,Try.ntmps25
  go_wp2_with (first|((with_reducible refine gate_dst (N:=2) rfl ?_);refine box_event ?hg (N:=2) ?hd (cs:=#[.slice A0_0 l0_0.length c0_0,.int .i64 a0_1,.int .i64 a0_2,.int .i64 a0_3]) (t:=26) ?hr ?_;(case hd=>rfl);(case hg=>rfl);(case hr=>first|(go_simp;done)|(go_simp;rfl));intro gb327 hg w8 hbox hb;have n0_:=Aside0.mk (Kd.V_below (Kd.V_elderB (V_up HO1.out) gb327 (Nat.le_of_eq hg.symm)) hb);have n1_:=Aside0.mk (below_step (below_up HB.out) hb);have n2_:=Aside0.mk (hbox);have n3_:=Aside0.mk ((by rw [hg];exact (below_size (below_up HB.out)) : w.heap.size≤gb327));have n4_:=Aside0.mk ((by rw [hg];exact (below_size (below_up HB.out)) : w.heap.size≤gb327));clear HO1;clear HB;have HO1:=n0_;have HB:=n1_;have BK327:=n2_;have GW327:=n3_;have GE327:=n4_;clear n0_ n1_ n2_ n3_ n4_;clear hb hbox hg;have hcz9_0 : w8.cell? ⟨gb327,0,none⟩=some (.slice A0_0 l0_0.length c0_0):=(blk_cell BK327.out 0).trans rfl;have hcz9_1 : w8.cell? ⟨gb327,1,none⟩=some (.int .i64 a0_1):=(blk_cell BK327.out 1).trans rfl;have hcz9_2 : w8.cell? ⟨gb327,2,none⟩=some (.int .i64 a0_2):=(blk_cell BK327.out 2).trans rfl;have hcz9_3 : w8.cell? ⟨gb327,3,none⟩=some (.int .i64 a0_3):=(blk_cell BK327.out 3).trans rfl;have hfz9_0:=blk_frozen BK327.out 0;have hfz9_1:=blk_frozen BK327.out 1;have hfz9_2:=blk_frozen BK327.out 2;have hfz9_3:=blk_frozen BK327.out 3))
  go_loopg [5,16] k (fun kq v5 v16 w'=>∃ (x5_1 : List (List (S31))) (x14_1 : List (List (S31))) (x16_1 : Int),v16=.int .i64 x16_1∧Aside0 (fold_Rows.l0 kq x5_1 x14_1 (l1.length : Int) x16_1 l0_0 a0_1 a0_2 a0_3=some r)∧Aside0 (kq≤k)∧Aside0 (Kd.N (Kd.slice 31 k31) 33 w' w.heap.size (fun k_=>(P1_ k_ ∨ w.heap.size≤k_)∧k_≠gb327) v5 x5_1)∧Aside0 (Kd.V (Kd.slice 31 k31) 33 w' w.heap.size (fun k_=>(P1_ k_ ∨ w.heap.size≤k_)∧some k_≠(v5 : Value).ownBlock∧k_≠gb327) (.slice A1 l1.length c1) x14_1)∧Aside0 (w'.heap[gb327]?=some (.cells #[(.slice A0_0 l0_0.length c0_0),.int .i64 a0_1,.int .i64 a0_2,.int .i64 a0_3] 26 (0,0)))∧Aside0 (Below w.heap.size w w'))
  case atStart=>exact ⟨(([] : List (List (S31)))),(l1),(0),(by first|rfl|(simp;done)|(simp [*];done)),H',⟨Nat.le_refl _⟩,⟨by first|exact Kd.S_nil _ _ _ _ _|exact Kd.N_nil _ _ _ _ _|exact Kd.V_nil _ _ _ _ _|exact Kd.Q_nil _ _ _ _ _|exact Kd.R_nil _ _ _ _ _⟩,⟨by (with_reducible repeat (first|apply Kd.V_alloc|apply Kd.V_drewN|apply Kd.V_drew));exact Kd.V_mono HO1.out (fun _ hk=>⟨hk.1,⟨(by simp [Value.ownBlock]),hk.2⟩⟩)⟩,⟨by (with_reducible repeat (first|refine blk_drewN ?_ _|refine blk_drew ?_|refine blk_alloc ?_ _));exact BK327.out⟩,⟨by repeat (first|(with_reducible first|exact HB.out|apply below_alloc|apply pw_below_drewN|apply below_drew1|refine below_set ?_ GE327.out)|exact HB.out)⟩⟩
  case round =>
   clear H'
   try clear c1
   try clear c2
   try clear p2
   try clear c3
   try clear c3b0
   try clear c3b1
   try clear hcz6_0
   try clear hcz6_1
   try clear hcz6_2
   try clear hcz6_3
   try clear hcz9_0
   try clear hcz9_1
   try clear hcz9_2
   try clear hcz9_3
   try clear hfz6_0
   try clear hfz6_1
   try clear hfz6_2
   try clear hfz6_3
   try clear hfz9_0
   try clear hfz9_1
   try clear hfz9_2
   try clear hfz9_3
   obtain ⟨x5_1,x14_1,x16_1,rfl,HA,HK1,HO_5,HO_14,BK327,HB⟩:=hrel
   have hl14_1:=(Kd.V_reads' HO_14.out).1
   rw [hl14_1] at HO_14
   (try simp only [hl14_1])
   (try simp only [hl14_1] at BK327)
   (try simp only [hl14_1] at HO_5)
   cases gk with
   | zero=>exact absurd HA.out (by simp [fold_Rows.l0])
   | succ k1 =>
    have H:=HA.out
    clear HA
    simp only [fold_Rows.l0] at H
    by_cases c10 : x16_1 < (l1.length : Int)
    ·rw [if_pos c10] at H
     have c10b0 : decide (x16_1 < (l1.length : Int))=true:=decide_eq_true c10
     clear c10
     by_cases c11 : 0≤x16_1
     ·rw [if_pos c11] at H
      have c11b0 : decide (0≤x16_1)=true:=decide_eq_true c11
      clear c11
      by_cases c12 : x16_1 < (x14_1.length : Int)
      ·rw [if_pos c12] at H
       have c12b0 : decide (x16_1 < (x14_1.length : Int))=true:=decide_eq_true c12
       clear c12
       by_cases c13 : (wrap64 ((x5_1.length : Int) - 1)) ≥ 0
       ·rw [if_pos c13] at H
        have c13b0 : decide (0≤(wrap64 ((x5_1.length : Int) - 1)))=true:=decide_eq_true c13
        clear c13
        obtain ⟨ji14,hji14⟩ : ∃ j_ : Int,(wrap64 ((x5_1.length : Int) - 1))=j_:=⟨_,rfl⟩
        replace H : (if 0≤(ji14) then (if (ji14) < (x5_1.length : Int) then ((schema_Compare.f k1 l0_0 a0_1 a0_2 a0_3 (rd_L3 x5_1 (ji14)) (rd_L3 x14_1 x16_1)).bind fun t333=>(if t333=0 then ((fold_One.f k1 l0_0 a0_1 a0_2 a0_3 (rd_L3 x5_1 (ji14)) (rd_L3 x14_1 x16_1)).bind fun t335=>(fold_Rows.l0 k1 (x5_1.set ((ji14) : Int).toNat t335) x14_1 (l1.length : Int) (wrap64 (x16_1 + 1)) l0_0 a0_1 a0_2 a0_3)) else (if x5_1.length < 5864062014805 then (fold_Rows.l0 k1 (x5_1 ++ [rd_L3 x14_1 x16_1]) x14_1 (l1.length : Int) (wrap64 (x16_1 + 1)) l0_0 a0_1 a0_2 a0_3) else (none)))) else (none)) else (none))=some r:=by first|(rw [hji14] at H;exact H)|(simp only [hji14] at H ⊢;exact H)
        (try rw [hji14] at c13b0)
        have hji14w : (IntKind.i64.wrap ((x5_1.length : Int) - 1))=ji14:=(i64_w _).trans hji14
        by_cases c15 : 0≤(ji14)
        ·rw [if_pos c15] at H
         have c15b0 : decide (0≤(ji14))=true:=decide_eq_true c15
         clear c15
         by_cases c16 : (ji14) < (x5_1.length : Int)
         ·rw [if_pos c16] at H
          have c16b0 : decide ((ji14) < (x5_1.length : Int))=true:=decide_eq_true c16
          clear c16
          replace H:=Option.bind_eq_some_iff.mp H
          obtain ⟨t333,A170,H⟩:=H
          replace H : (if t333=0 then ((fold_One.f k1 l0_0 a0_1 a0_2 a0_3 (rd_L3 x5_1 (ji14)) (rd_L3 x14_1 x16_1)).bind fun t335=>(fold_Rows.l0 k1 (x5_1.set ((ji14) : Int).toNat t335) x14_1 (l1.length : Int) (wrap64 (x16_1 + 1)) l0_0 a0_1 a0_2 a0_3)) else (if x5_1.length < 5864062014805 then (fold_Rows.l0 k1 (x5_1 ++ [rd_L3 x14_1 x16_1]) x14_1 (l1.length : Int) (wrap64 (x16_1 + 1)) l0_0 a0_1 a0_2 a0_3) else (none)))=some r:=H
          have A17:=Aside0.mk A170
          clear A170
          by_cases c18 : t333=0
          ·rw [if_pos c18] at H
           have c18b0 : (t333 == 0)=true:=beq_iff_eq.mpr c18
           have c18b1 : (t333 != 0)=false:=bne_eq_false_iff_eq.mpr c18
           clear c18
           replace H:=Option.bind_eq_some_iff.mp H
           obtain ⟨t335,A190,H⟩:=H
           replace H : (fold_Rows.l0 k1 (x5_1.set ((ji14) : Int).toNat t335) x14_1 (l1.length : Int) (wrap64 (x16_1 + 1)) l0_0 a0_1 a0_2 a0_3)=some r:=H
           have A19:=Aside0.mk A190
           clear A190
           obtain ⟨y338,hy338⟩ : ∃ y_ : List (List (S31)),y_=(x5_1.set ((ji14) : Int).toNat t335):=⟨_,rfl⟩
           replace H : (fold_Rows.l0 k1 y338 x14_1 (l1.length : Int) (wrap64 (x16_1 + 1)) l0_0 a0_1 a0_2 a0_3)=some r:=by first|(rw [hy338];with_reducible exact H)|(have H2_:=(Option.bind_some _ _).symm.trans H;rw [hy338];with_reducible exact H2_)|(have H2_:=(Option.bind_some _ _).symm.trans H;with_reducible exact H2_)|with_reducible exact H|(rw [hy338];exact H)|exact H
           have Ny338:=Aside0.mk hy338
           clear hy338
           have H':=Aside0.mk H
           clear H
           have p331 : 0≤(x16_1 : Int):=of_decide_eq_true (by first|(with_reducible assumption)|assumption)
           have q331 : x16_1 < (x14_1.length : Int):=of_decide_eq_true (by first|(with_reducible assumption)|assumption)
           obtain ⟨ad331,A331_0,c331_0,e331,hx331_0,hl331_0,hi331_0⟩:=at_L3 (Kd.V_reads' HO_14.out).2.2 x16_1 p331 q331
           cases e331
           obtain ⟨ce331,hce331,hMe331,hcc331⟩:=Kd.V_get HO_14.out [] x16_1 p331 (by first|exact q331|exact of_decide_eq_true (by first|(with_reducible assumption)|assumption)|(have e_:=(Kd.V_reads' HO_14.out).1;omega))
           obtain ⟨ua331_0,uc331_0,rfl,ul331_0,ge331_0⟩:=Kd.FK_slice_open hMe331
           have hv331_0:=hcc331 0 _ rfl
           rw [Nat.add_zero,show ((Kd.slice 31 k31)).sz=1 from rfl,Nat.mul_one] at hv331_0
           replace hv331_0:=Option.some.inj (hv331_0.symm.trans hx331_0)
           injection hv331_0 with hva_ hvn_ hvc_
           rw [hva_] at ge331_0
           rw [hvc_] at ul331_0
           have HL331_0:=Aside0.mk (show Kd.V k31 31 _ w.heap.size _ _ (rd_L3 x14_1 x16_1) from Kd.V_mk ul331_0 ge331_0)
           clear hva_ hvn_ hvc_ ge331_0 ul331_0
           clear hcc331 hce331
           have HR331_0:=Aside0.mk hi331_0
           have HC331_0:=Aside0.mk hl331_0
           clear hi331_0 hl331_0
           replace p331:=eq_true p331
           replace q331:=eq_true q331
           obtain ⟨Ao21,co21,eo21⟩:=Kd.N_slice HO_5.out
           subst eo21
           try go_wp2
           have n0_:=Aside0.mk (Kd.N_drew HO_5.out)
           have n1_:=Aside0.mk (Kd.V_drew HO_14.out)
           have n2_:=Aside0.mk (Kd.V_drew HL331_0.out)
           have n3_:=Aside0.mk (blk_drew BK327.out)
           have n4_:=Aside0.mk (Kd.C_drew HR331_0.out)
           have n5_:=Aside0.mk (below_drew1 HB.out)
           clear HO_5
           clear HO_14
           clear HL331_0
           clear BK327
           clear HR331_0
           clear HB
           have HO_5:=n0_
           have HO_14:=n1_
           have HL331_0:=n2_
           have BK327:=n3_
           have HR331_0:=n4_
           have HB:=n5_
           clear n0_ n1_ n2_ n3_ n4_ n5_
           have p332 : 0≤((ji14) : Int):=of_decide_eq_true (by first|(with_reducible assumption)|assumption)
           have q332 : (ji14) < (x5_1.length : Int):=of_decide_eq_true (by first|(with_reducible assumption)|assumption)
           obtain ⟨ad332,A332_0,c332_0,e332,hx332_0,hl332_0,hi332_0⟩:=at_L3 (Kd.N_reads' HO_5.out).2.2 (ji14) p332 q332
           cases e332
           obtain ⟨ce332,hce332,hMe332,hcc332⟩:=Kd.N_get HO_5.out [] (ji14) p332 (by first|exact q332|exact of_decide_eq_true (by first|(with_reducible assumption)|assumption)|(have e_:=(Kd.N_reads' HO_5.out).1;omega))
           obtain ⟨ua332_0,uc332_0,rfl,ul332_0,ge332_0⟩:=Kd.FK_slice_open hMe332
           have hv332_0:=hcc332 0 _ rfl
           rw [Nat.add_zero,show ((Kd.slice 31 k31)).sz=1 from rfl,Nat.mul_one] at hv332_0
           replace hv332_0:=Option.some.inj (hv332_0.symm.trans hx332_0)
           injection hv332_0 with hva_ hvn_ hvc_
           rw [hva_] at ge332_0
           rw [hvc_] at ul332_0
           have HL332_0:=Aside0.mk (show Kd.V k31 31 _ w.heap.size _ _ (rd_L3 x5_1 (ji14)) from Kd.V_mk ul332_0 ge332_0)
           clear hva_ hvn_ hvc_ ge332_0 ul332_0
           clear hcc332 hce332
           have HR332_0:=Aside0.mk hi332_0
           have HC332_0:=Aside0.mk hl332_0
           clear hi332_0 hl332_0
           replace p332:=eq_true p332
           replace q332:=eq_true q332
           refine start_ (n:=12) (S:=fun w'=>w'.cell? ⟨gb327,0,none⟩=some (.slice A0_0 l0_0.length c0_0)∧w'.cell? ⟨gb327,1,none⟩=some (.int .i64 a0_1)∧w'.cell? ⟨gb327,2,none⟩=some (.int .i64 a0_2)∧w'.cell? ⟨gb327,3,none⟩=some (.int .i64 a0_3)∧w'.cell? (ad332.add ((ji14)).toNat)=some (.slice A332_0 (rd_L3 x5_1 (ji14)).length c332_0)) (ds:=[]) #[false,false,false,false,false,false,false,false,false,false,false,false] (by kernel_rfl) rfl rfl ⟨(blk_cell BK327.out 0).trans rfl,(blk_cell BK327.out 1).trans rfl,(blk_cell BK327.out 2).trans rfl,(blk_cell BK327.out 3).trans rfl,hx332_0⟩ (fun hHeld=>?_);refine with_tabW fold_Rows.tab8 fold_Rows.bits8 (fun HT_ HW_=>?_)
           generalize wr.drew=w22 at HO_5 HO_14 HL331_0 BK327 HR331_0 HB HL332_0 HR332_0 hx332_0 hHeld ⊢
           refine pure_ (i:=0) (N:=some 23) (v:=?_) (a':=?_) #[true,false,false,false,false,false,false,false,false,false,false,false] rfl rfl (any_of HT_.out (by kernel_rfl)) (fun _ _ _ h=>h) (Or.inl ⟨by rfl,?_⟩) ?_ ?_
           rotate_left;(intro w';go_simp;with_reducible rfl);rotate_left;(simp only [Act.put,List.setIfInBounds_toArray,List.set_cons_zero,List.set_cons_succ,i64_w,i32_w];rfl)
           refine pure_ (i:=1) (N:=some 24) (v:=?_) (a':=?_) #[true,true,false,false,false,false,false,false,false,false,false,false] rfl rfl (any_of HT_.out (by kernel_rfl)) (fun _ _ _ h=>h) (Or.inl ⟨by rfl,?_⟩) ?_ ?_
           rotate_left;(intro w';go_simp;with_reducible rfl);rotate_left;(simp only [Act.put,List.setIfInBounds_toArray,List.set_cons_zero,List.set_cons_succ,i64_w,i32_w];rfl)
           refine pure_ (i:=2) (N:=some 25) (v:=?_) (a':=?_) #[true,true,true,false,false,false,false,false,false,false,false,false] rfl rfl (any_of HT_.out (by kernel_rfl)) (fun _ _ _ h=>h) (Or.inl ⟨by rfl,?_⟩) ?_ ?_
           rotate_left;(intro w';go_simp;with_reducible rfl);rotate_left;(simp only [Act.put,List.setIfInBounds_toArray,List.set_cons_zero,List.set_cons_succ,i64_w,i32_w];rfl)
           refine pure_ (i:=4) (N:=some 27) (v:=?_) (a':=?_) #[true,true,true,false,true,false,false,false,false,false,false,false] rfl rfl (any_of HT_.out (by kernel_rfl)) (fun _ _ _ h=>h) (Or.inl ⟨by rfl,?_⟩) ?_ ?_
           rotate_left;(intro w';go_simp;with_reducible rfl);rotate_left;(simp only [Act.put,List.setIfInBounds_toArray,List.set_cons_zero,List.set_cons_succ,i64_w,i32_w];rfl)
           refine pure_ (i:=5) (N:=some 28) (v:=?_) (a':=?_) #[true,true,true,false,true,true,false,false,false,false,false,false] rfl rfl (any_of HT_.out (by kernel_rfl)) (fun _ _ _ h=>h) (Or.inl ⟨by rfl,?_⟩) ?_ ?_
           rotate_left;(intro w';go_simp;with_reducible rfl);rotate_left;(simp only [Act.put,List.setIfInBounds_toArray,List.set_cons_zero,List.set_cons_succ,i64_w,i32_w];rfl)
           refine pure_ (i:=6) (N:=some 29) (v:=?_) (a':=?_) #[true,true,true,false,true,true,true,false,false,false,false,false] rfl rfl (any_of HT_.out (by kernel_rfl)) (fun _ _ _ h=>h) (Or.inl ⟨by rfl,?_⟩) ?_ ?_
           rotate_left;(intro w';go_simp;with_reducible rfl);rotate_left;(simp only [Act.put,List.setIfInBounds_toArray,List.set_cons_zero,List.set_cons_succ,i64_w,i32_w];rfl)
           refine pure_ (i:=8) (N:=some 31) (v:=?_) (a':=?_) #[true,true,true,false,true,true,true,false,true,false,false,false] rfl rfl (any_of HT_.out (by kernel_rfl)) (fun _ _ _ h=>h) (Or.inl ⟨by rfl,?_⟩) ?_ ?_
           rotate_left;(intro w';go_simp;with_reducible rfl);rotate_left;(simp only [Act.put,List.setIfInBounds_toArray,List.set_cons_zero,List.set_cons_succ,i64_w,i32_w];rfl)
           refine take_ (i:=3) (N:=some 26) (v:=?_) (a':=?_) #[true,true,true,true,true,true,true,false,true,false,false,false] rfl rfl (take_ofW HT_.out HW_.out (by kernel_rfl)) (fun _ _ _ h=>h) (Or.inl ⟨by rfl,?_⟩) hHeld ?_ ?_
           rotate_left;(rintro w' ⟨s0,s1,s2,s3,s4⟩;go_simp;with_reducible rfl);rotate_left;(simp only [Act.put,List.setIfInBounds_toArray,List.set_cons_zero,List.set_cons_succ,i64_w,i32_w];rfl)
           refine take_ (i:=7) (N:=some 30) (v:=?_) (a':=?_) #[true,true,true,true,true,true,true,true,true,false,false,false] rfl rfl (take_ofW HT_.out HW_.out (by kernel_rfl)) (fun _ _ _ h=>h) (Or.inl ⟨by rfl,?_⟩) hHeld ?_ ?_
           rotate_left;(rintro w' ⟨s0,s1,s2,s3,s4⟩;go_simp;with_reducible rfl);rotate_left;(simp only [Act.put,List.setIfInBounds_toArray,List.set_cons_zero,List.set_cons_succ,i64_w,i32_w];rfl)
           refine one_ (i:=9) (N:=some 32) #[true,true,true,true,true,true,true,true,true,true,false,false] rfl rfl (one_of HT_.out (by kernel_rfl)) (by decide) (fun K hK=>?_)
           refine goes_ Try.func32 (by kernel_rfl) rfl #[.agg #[.slice A0_0 l0_0.length c0_0,.int .i64 a0_1,.int .i64 a0_2,.int .i64 a0_3],.slice A332_0 (rd_L3 x5_1 (ji14)).length c332_0,.slice A331_0 (rd_L3 x14_1 x16_1).length c331_0] (by rfl) rfl rfl (by (try simp only [List.map_toArray,List.map_cons,List.map_nil]);first|done|(simp only [hji14];rfl)|rfl|(simp only [List.length_drop,List.length_take];rfl)) ?_
           with_reducible refine (schema_Compare.calls k1 _ _ l0_0 a0_1 a0_2 a0_3 _ _ (rd_L3 x5_1 (ji14)) _ _ (rd_L3 x14_1 x16_1) t333 _ ?side1 ?side2 ?side3 ?side4 ?side5 ?side6 A17.out).mono ?_
           (case side1=>repeat (first|exact (Kd.C_below HR0_0.out HB.out)|(with_reducible refine Kd.C_alloc ?_ _)|(with_reducible refine Kd.C_drewN ?_ _)|(with_reducible refine Kd.C_drew ?_)))
           (case side2=>exact HC0_0.out)
           (case side3=>repeat (first|exact (by repeat (first|(with_reducible exact HR332_0.out)|(with_reducible refine Kd.C_alloc ?_ _)|(with_reducible refine Kd.C_drewN ?_ _)|(with_reducible refine Kd.C_drew ?_)|exact HR332_0.out))|(with_reducible refine Kd.C_alloc ?_ _)|(with_reducible refine Kd.C_drewN ?_ _)|(with_reducible refine Kd.C_drew ?_)))
           (case side4=>exact HC332_0.out)
           (case side5=>repeat (first|exact (by repeat (first|(with_reducible exact HR331_0.out)|(with_reducible refine Kd.C_alloc ?_ _)|(with_reducible refine Kd.C_drewN ?_ _)|(with_reducible refine Kd.C_drew ?_)|exact HR331_0.out))|(with_reducible refine Kd.C_alloc ?_ _)|(with_reducible refine Kd.C_drewN ?_ _)|(with_reducible refine Kd.C_drew ?_)))
           (case side6=>exact HC331_0.out)
           rintro e w23 ⟨rfl,hb⟩
           have HS4_:=(hb.cell (World.block_lt_of_cell? _ _ (hHeld.2.2.2.2))).trans (hHeld.2.2.2.2)
           refine ⟨_,rfl,?_⟩
           have n0_:=Aside0.mk (Kd.N_below (N_up HO_5.out) hb)
           have n1_:=Aside0.mk (Kd.V_below (V_up HO_14.out) hb)
           have n2_:=Aside0.mk (Kd.V_below (by (with_reducible repeat (first|apply Kd.V_alloc|apply Kd.V_drewN|apply Kd.V_drew));exact HL331_0.out) hb)
           have n3_:=Aside0.mk (Kd.V_below (by (with_reducible repeat (first|apply Kd.V_alloc|apply Kd.V_drewN|apply Kd.V_drew));exact HL332_0.out) hb)
           have n4_:=Aside0.mk (blk_below (blk_up BK327.out) hb)
           have n5_:=Aside0.mk (Kd.C_below (by repeat (first|(with_reducible exact HR331_0.out)|(with_reducible refine Kd.C_alloc ?_ _)|(with_reducible refine Kd.C_drewN ?_ _)|(with_reducible refine Kd.C_drew ?_)|exact HR331_0.out)) hb)
           have n6_:=Aside0.mk (Kd.C_below (by repeat (first|(with_reducible exact HR332_0.out)|(with_reducible refine Kd.C_alloc ?_ _)|(with_reducible refine Kd.C_drewN ?_ _)|(with_reducible refine Kd.C_drew ?_)|exact HR332_0.out)) hb)
           have n7_:=Aside0.mk (below_step (below_go HB.out) hb)
           clear HO_5
           clear HO_14
           clear HL331_0
           clear HL332_0
           clear BK327
           clear HR331_0
           clear HR332_0
           clear HB
           have HO_5:=n0_
           have HO_14:=n1_
           have HL331_0:=n2_
           have HL332_0:=n3_
           have BK327:=n4_
           have HR331_0:=n5_
           have HR332_0:=n6_
           have HB:=n7_
           clear n0_ n1_ n2_ n3_ n4_ n5_ n6_ n7_
           (try clear hb)
           (try clear hb2)
           (try clear hk)
           (try clear hi)
           refine hK.out _ _ ⟨(blk_cell BK327.out 0).trans rfl,(blk_cell BK327.out 1).trans rfl,(blk_cell BK327.out 2).trans rfl,(blk_cell BK327.out 3).trans rfl,HS4_⟩ (fun hHeld=>?_)
           clear hK K
           refine norm_ (a':=?_) ?_ ?_
           rotate_left
           ·show Act.put _ (some 32) _=_
            simp only [Act.put,List.setIfInBounds_toArray,List.set_cons_zero,List.set_cons_succ,i64_w,i32_w]
            rfl
           refine pure_ (i:=10) (N:=some 33) (v:=?_) (a':=?_) #[true,true,true,true,true,true,true,true,true,true,true,false] rfl rfl (any_of HT_.out (by kernel_rfl)) (fun _ _ _ h=>h) (Or.inl ⟨by rfl,?_⟩) ?_ ?_
           rotate_left;(intro w';go_simp;with_reducible rfl);rotate_left;(simp only [Act.put,List.setIfInBounds_toArray,List.set_cons_zero,List.set_cons_succ,i64_w,i32_w];rfl)
           refine pure_ (i:=11) (N:=some 34) (v:=?_) (a':=?_) #[true,true,true,true,true,true,true,true,true,true,true,true] rfl rfl (any_of HT_.out (by kernel_rfl)) (fun _ _ _ h=>h) (Or.inl ⟨by rfl,?_⟩) ?_ ?_
           rotate_left;(intro w';go_simp;with_reducible rfl);rotate_left;(simp only [Act.put,List.setIfInBounds_toArray,List.set_cons_zero,List.set_cons_succ,i64_w,i32_w];rfl)
           refine done_ (done_of HT_.out (by kernel_rfl)) ?_
           (try clear HS4_);(try clear hHeld)
           try go_wp2
           have n0_:=Aside0.mk (Kd.N_drew HO_5.out)
           have n1_:=Aside0.mk (Kd.V_drew HO_14.out)
           have n2_:=Aside0.mk (Kd.V_drew HL331_0.out)
           have n3_:=Aside0.mk (Kd.V_drew HL332_0.out)
           have n4_:=Aside0.mk (blk_drew BK327.out)
           have n5_:=Aside0.mk (Kd.C_drew HR331_0.out)
           have n6_:=Aside0.mk (Kd.C_drew HR332_0.out)
           have n7_:=Aside0.mk (below_drew1 HB.out)
           clear HO_5
           clear HO_14
           clear HL331_0
           clear HL332_0
           clear BK327
           clear HR331_0
           clear HR332_0
           clear HB
           have HO_5:=n0_
           have HO_14:=n1_
           have HL331_0:=n2_
           have HL332_0:=n3_
           have BK327:=n4_
           have HR331_0:=n5_
           have HR332_0:=n6_
           have HB:=n7_
           clear n0_ n1_ n2_ n3_ n4_ n5_ n6_ n7_
           have p334 : 0≤((ji14) : Int):=of_decide_eq_true (by first|(with_reducible assumption)|assumption)
           have q334 : (ji14) < (x5_1.length : Int):=of_decide_eq_true (by first|(with_reducible assumption)|assumption)
           obtain ⟨ad334,A334_0,c334_0,e334,hx334_0,hl334_0,hi334_0⟩:=at_L3 (Kd.N_reads' HO_5.out).2.2 (ji14) p334 q334
           obtain rfl : ad332=ad334:=(by injection e334)
           obtain ⟨ce334,hce334,hMe334,hcc334⟩:=Kd.N_get HO_5.out [] (ji14) p334 (by first|exact q334|exact of_decide_eq_true (by first|(with_reducible assumption)|assumption)|(have e_:=(Kd.N_reads' HO_5.out).1;omega))
           obtain ⟨ua334_0,uc334_0,rfl,ul334_0,ge334_0⟩:=Kd.FK_slice_open hMe334
           have hv334_0:=hcc334 0 _ rfl
           rw [Nat.add_zero,show ((Kd.slice 31 k31)).sz=1 from rfl,Nat.mul_one] at hv334_0
           replace hv334_0:=Option.some.inj (hv334_0.symm.trans hx334_0)
           injection hv334_0 with hva_ hvn_ hvc_
           rw [hva_] at ge334_0
           rw [hvc_] at ul334_0
           have HL334_0:=Aside0.mk (show Kd.V k31 31 _ w.heap.size _ _ (rd_L3 x5_1 (ji14)) from Kd.V_mk ul334_0 ge334_0)
           clear hva_ hvn_ hvc_ ge334_0 ul334_0
           clear hcc334 hce334
           have HR334_0:=Aside0.mk hi334_0
           have HC334_0:=Aside0.mk hl334_0
           clear hi334_0 hl334_0
           replace p334:=eq_true p334
           replace q334:=eq_true q334
           refine start_ (n:=11) (S:=fun w'=>w'.cell? ⟨gb327,0,none⟩=some (.slice A0_0 l0_0.length c0_0)∧w'.cell? ⟨gb327,1,none⟩=some (.int .i64 a0_1)∧w'.cell? ⟨gb327,2,none⟩=some (.int .i64 a0_2)∧w'.cell? ⟨gb327,3,none⟩=some (.int .i64 a0_3)∧w'.cell? (ad332.add ((ji14)).toNat)=some (.slice A334_0 (rd_L3 x5_1 (ji14)).length c334_0)) (ds:=[10]) #[false,false,false,false,false,false,false,false,false,false,false] (by kernel_rfl) rfl rfl ⟨(blk_cell BK327.out 0).trans rfl,(blk_cell BK327.out 1).trans rfl,(blk_cell BK327.out 2).trans rfl,(blk_cell BK327.out 3).trans rfl,hx334_0⟩ (fun hHeld=>?_);refine with_tabW fold_Rows.tab9 fold_Rows.bits9 (fun HT_ HW_=>?_)
           generalize w23.drew=w24 at HO_5 HO_14 HL331_0 HL332_0 BK327 HR331_0 HR332_0 HB HL334_0 HR334_0 hx334_0 hHeld ⊢
           refine pure_ (i:=0) (N:=some 35) (v:=?_) (a':=?_) #[true,false,false,false,false,false,false,false,false,false,false] rfl rfl (any_of HT_.out (by kernel_rfl)) (fun _ _ _ h=>h) (Or.inl ⟨by rfl,?_⟩) ?_ ?_
           rotate_left;(intro w';go_simp;with_reducible rfl);rotate_left;(simp only [Act.put,List.setIfInBounds_toArray,List.set_cons_zero,List.set_cons_succ,i64_w,i32_w];rfl)
           refine pure_ (i:=1) (N:=some 36) (v:=?_) (a':=?_) #[true,true,false,false,false,false,false,false,false,false,false] rfl rfl (any_of HT_.out (by kernel_rfl)) (fun _ _ _ h=>h) (Or.inl ⟨by rfl,?_⟩) ?_ ?_
           rotate_left;(intro w';go_simp;with_reducible rfl);rotate_left;(simp only [Act.put,List.setIfInBounds_toArray,List.set_cons_zero,List.set_cons_succ,i64_w,i32_w];rfl)
           refine pure_ (i:=3) (N:=some 38) (v:=?_) (a':=?_) #[true,true,false,true,false,false,false,false,false,false,false] rfl rfl (any_of HT_.out (by kernel_rfl)) (fun _ _ _ h=>h) (Or.inl ⟨by rfl,?_⟩) ?_ ?_
           rotate_left;(intro w';go_simp;with_reducible rfl);rotate_left;(simp only [Act.put,List.setIfInBounds_toArray,List.set_cons_zero,List.set_cons_succ,i64_w,i32_w];rfl)
           refine pure_ (i:=4) (N:=some 39) (v:=?_) (a':=?_) #[true,true,false,true,true,false,false,false,false,false,false] rfl rfl (any_of HT_.out (by kernel_rfl)) (fun _ _ _ h=>h) (Or.inl ⟨by rfl,?_⟩) ?_ ?_
           rotate_left;(intro w';go_simp;with_reducible rfl);rotate_left;(simp only [Act.put,List.setIfInBounds_toArray,List.set_cons_zero,List.set_cons_succ,i64_w,i32_w];rfl)
           refine pure_ (i:=5) (N:=some 40) (v:=?_) (a':=?_) #[true,true,false,true,true,true,false,false,false,false,false] rfl rfl (any_of HT_.out (by kernel_rfl)) (fun _ _ _ h=>h) (Or.inl ⟨by rfl,?_⟩) ?_ ?_
           rotate_left;(intro w';go_simp;with_reducible rfl);rotate_left;(simp only [Act.put,List.setIfInBounds_toArray,List.set_cons_zero,List.set_cons_succ,i64_w,i32_w];rfl)
           refine pure_ (i:=7) (N:=some 42) (v:=?_) (a':=?_) #[true,true,false,true,true,true,false,true,false,false,false] rfl rfl (any_of HT_.out (by kernel_rfl)) (fun _ _ _ h=>h) (Or.inl ⟨by rfl,?_⟩) ?_ ?_
           rotate_left;(intro w';go_simp;with_reducible rfl);rotate_left;(simp only [Act.put,List.setIfInBounds_toArray,List.set_cons_zero,List.set_cons_succ,i64_w,i32_w];rfl)
           refine take_ (i:=2) (N:=some 37) (v:=?_) (a':=?_) #[true,true,true,true,true,true,false,true,false,false,false] rfl rfl (take_ofW HT_.out HW_.out (by kernel_rfl)) (fun _ _ _ h=>h) (Or.inl ⟨by rfl,?_⟩) hHeld ?_ ?_
           rotate_left;(rintro w' ⟨s0,s1,s2,s3,s4⟩;go_simp;with_reducible rfl);rotate_left;(simp only [Act.put,List.setIfInBounds_toArray,List.set_cons_zero,List.set_cons_succ,i64_w,i32_w];rfl)
           refine take_ (i:=6) (N:=some 41) (v:=?_) (a':=?_) #[true,true,true,true,true,true,true,true,false,false,false] rfl rfl (take_ofW HT_.out HW_.out (by kernel_rfl)) (fun _ _ _ h=>h) (Or.inl ⟨by rfl,?_⟩) hHeld ?_ ?_
           rotate_left;(rintro w' ⟨s0,s1,s2,s3,s4⟩;go_simp;with_reducible rfl);rotate_left;(simp only [Act.put,List.setIfInBounds_toArray,List.set_cons_zero,List.set_cons_succ,i64_w,i32_w];rfl)
           refine one_ (i:=8) (N:=some 43) #[true,true,true,true,true,true,true,true,true,false,false] rfl rfl (one_of HT_.out (by kernel_rfl)) (by decide) (fun K hK=>?_)
           refine goes_ Try.func33 (by kernel_rfl) rfl #[.agg #[.slice A0_0 l0_0.length c0_0,.int .i64 a0_1,.int .i64 a0_2,.int .i64 a0_3],.slice A334_0 (rd_L3 x5_1 (ji14)).length c334_0,.slice A331_0 (rd_L3 x14_1 x16_1).length c331_0] (by rfl) rfl rfl (by (try simp only [List.map_toArray,List.map_cons,List.map_nil]);first|done|(simp only [hji14];rfl)|rfl|(simp only [List.length_drop,List.length_take];rfl)) ?_
           with_reducible refine (fold_One.calls k1 _ _ l0_0 a0_1 a0_2 a0_3 _ _ (rd_L3 x5_1 (ji14)) _ _ (rd_L3 x14_1 x16_1) t335 _ ?side1 ?side2 ?side3 ?side4 ?side5 ?side6 A19.out).mono ?_
           (case side1=>repeat (first|exact (Kd.C_below HR0_0.out HB.out)|(with_reducible refine Kd.C_alloc ?_ _)|(with_reducible refine Kd.C_drewN ?_ _)|(with_reducible refine Kd.C_drew ?_)))
           (case side2=>exact HC0_0.out)
           (case side3=>repeat (first|exact (by repeat (first|(with_reducible exact HR334_0.out)|(with_reducible refine Kd.C_alloc ?_ _)|(with_reducible refine Kd.C_drewN ?_ _)|(with_reducible refine Kd.C_drew ?_)|exact HR334_0.out))|(with_reducible refine Kd.C_alloc ?_ _)|(with_reducible refine Kd.C_drewN ?_ _)|(with_reducible refine Kd.C_drew ?_)))
           (case side4=>exact HC334_0.out)
           (case side5=>repeat (first|exact (by repeat (first|(with_reducible exact HR331_0.out)|(with_reducible refine Kd.C_alloc ?_ _)|(with_reducible refine Kd.C_drewN ?_ _)|(with_reducible refine Kd.C_drew ?_)|exact HR331_0.out))|(with_reducible refine Kd.C_alloc ?_ _)|(with_reducible refine Kd.C_drewN ?_ _)|(with_reducible refine Kd.C_drew ?_)))
           (case side6=>exact HC331_0.out)
           rintro e w25 ⟨v336,rfl,ho0,hb⟩
           obtain ⟨Ao_v336,co_v336,rfl⟩:=Kd.R_slice ho0
           have HS4_:=(hb.cell (World.block_lt_of_cell? _ _ (hHeld.2.2.2.2))).trans (hHeld.2.2.2.2)
           refine ⟨_,rfl,?_⟩
           have n0_:=Aside0.mk (Kd.N_elder' (N_up HO_5.out) (Kd.R_base ho0) hb)
           have n1_:=Aside0.mk (Kd.V_elder' (V_up HO_14.out) (Kd.R_base ho0) hb)
           have n2_:=Aside0.mk (Kd.V_elder' (by (with_reducible repeat (first|apply Kd.V_alloc|apply Kd.V_drewN|apply Kd.V_drew));exact HL331_0.out) (Kd.R_base ho0) hb)
           have n3_:=Aside0.mk (Kd.V_elder' (by (with_reducible repeat (first|apply Kd.V_alloc|apply Kd.V_drewN|apply Kd.V_drew));exact HL332_0.out) (Kd.R_base ho0) hb)
           have n4_:=Aside0.mk (Kd.V_elder' (by (with_reducible repeat (first|apply Kd.V_alloc|apply Kd.V_drewN|apply Kd.V_drew));exact HL334_0.out) (Kd.R_base ho0) hb)
           have n5_:=Aside0.mk (Kd.R_lower (Kd.R_newM (M:=fun k_=>(w.heap.size≤k_)) ho0 (below_size (below_go HB.out)) (fun k_ h_=>h_)) (below_size (below_go HB.out)))
           have n6_:=Aside0.mk (blk_below (blk_up BK327.out) hb)
           have n7_:=Aside0.mk (Kd.C_below (by repeat (first|(with_reducible exact HR331_0.out)|(with_reducible refine Kd.C_alloc ?_ _)|(with_reducible refine Kd.C_drewN ?_ _)|(with_reducible refine Kd.C_drew ?_)|exact HR331_0.out)) hb)
           have n8_:=Aside0.mk (Kd.C_below (by repeat (first|(with_reducible exact HR332_0.out)|(with_reducible refine Kd.C_alloc ?_ _)|(with_reducible refine Kd.C_drewN ?_ _)|(with_reducible refine Kd.C_drew ?_)|exact HR332_0.out)) hb)
           have n9_:=Aside0.mk (Kd.C_below (by repeat (first|(with_reducible exact HR334_0.out)|(with_reducible refine Kd.C_alloc ?_ _)|(with_reducible refine Kd.C_drewN ?_ _)|(with_reducible refine Kd.C_drew ?_)|exact HR334_0.out)) hb)
           have n10_:=Aside0.mk (below_step (below_go HB.out) hb)
           clear HO_5
           clear HO_14
           clear HL331_0
           clear HL332_0
           clear HL334_0
           clear BK327
           clear HR331_0
           clear HR332_0
           clear HR334_0
           clear HB
           have HO_5:=n0_
           have HO_14:=n1_
           have HL331_0:=n2_
           have HL332_0:=n3_
           have HL334_0:=n4_
           have HO337:=n5_
           have BK327:=n6_
           have HR331_0:=n7_
           have HR332_0:=n8_
           have HR334_0:=n9_
           have HB:=n10_
           clear n0_ n1_ n2_ n3_ n4_ n5_ n6_ n7_ n8_ n9_ n10_
           (try clear hb)
           (try clear hb2)
           (try clear hk)
           (try clear hi)
           (try clear ho0)
           have p20 : 0≤((ji14) : Int):=of_decide_eq_true (by first|(with_reducible assumption)|assumption)
           have q20 : ((ji14) : Int) < ((x5_1.length : Int) : Int):=of_decide_eq_true (by first|(with_reducible assumption)|assumption)
           obtain ⟨go20,co20,eo20,gb20,gl20,cl20,HG20⟩:=Kd.N_form HO_5.out (by omega)
           (first|cases eo20|(injection eo20 with ea_ en_ ec_;(first|subst ea_|(injection ea_ with ea_;subst ea_));subst ec_;clear en_))
           have GB20:=Aside0.mk gb20
           have GG20:=Aside0.mk HG20
           clear gb20 gl20 HG20
           (first|simp only [add_plain] at hx332_0|skip)
           (first|simp only [add_plain] at hx334_0|skip)
           obtain ⟨ce20,hcl20,hM20,hcc20,hfr20⟩:=Kd.N_elem HO_5.out [] ((ji14) : Int) p20 q20
           obtain ⟨ua20_0,uc20_0,rfl,ul20_0,ge20_0⟩:=Kd.FK_slice_open hM20
           have hx20_0:=hcc20 0 _ rfl
           have hf20_0:=hfr20 0
           (try simp only [show ((Kd.slice 31 k31)).sz=1 from rfl,Nat.mul_one,Nat.add_zero] at hx20_0)
           (try simp only [show ((Kd.slice 31 k31)).sz=1 from rfl,Nat.mul_one,Nat.add_zero] at hf20_0)
           clear hcl20 hcc20 hfr20 hM20
           replace p20:=eq_true p20
           replace q20:=eq_true q20
           have HX26:=Aside0.mk (show Kd.N (Kd.slice 31 k31) 33 _ w.heap.size (fun k_=>(P1_ k_ ∨ w.heap.size≤k_)∧some k_≠((.slice Ao_v336 t335.length co_v336) : Value).ownBlock∧k_≠gb327) (.slice (some ⟨go20,0,none⟩) x5_1.length co21) x5_1 from (Kd.N_mono (HO_5.out) (fun k_ hk=>⟨hk.1.1,⟨hk.2,hk.1.2⟩⟩)))
           replace HX26:=Aside0.mk (show Kd.N (Kd.slice 31 k31) 33 _ w.heap.size (fun k_=>(P1_ k_ ∨ w.heap.size≤k_)∧k_≠gb327) (.slice (some ⟨go20,0,none⟩) x5_1.length co21) x5_1 from Kd.N_mono HX26.out (fun k_ hk=>⟨hk.1,hk.2.2⟩))
           obtain ⟨ce26,hcl26,hM26,hcc26,hfr26⟩:=Kd.N_elem HX26.out [] ((ji14) : Int) (of_decide_eq_true (by first|(with_reducible assumption)|assumption)) (by have h_ : ((ji14) : Int) < ((x5_1.length : Int) : Int):=of_decide_eq_true (by first|(with_reducible assumption)|assumption);first|exact h_|(have e_:=(Kd.N_reads' HO_5.out).1;omega)|simpa using h_)
           obtain ⟨ua26_0,uc26_0,rfl,ul26_0,ge26_0⟩:=Kd.FK_slice_open hM26
           have HP26:=(Kd.N_seg HX26.out ((ji14) : Int) (of_decide_eq_true (by first|(with_reducible assumption)|assumption)) (by have h_ : ((ji14) : Int) < ((x5_1.length : Int) : Int):=of_decide_eq_true (by first|(with_reducible assumption)|assumption);first|exact h_|(have e_:=(Kd.N_reads' HO_5.out).1;omega)|simpa using h_) (seg:=[(.slice Ao_v336 t335.length co_v336)]) (j:=0) hcl26 hcc26 (show 1≤1 from by decide) (x':=t335) (Kd.FK_slice_mk (Kd.R_reads' (Kd.R_mono (ok':=(fun k_=>((fun k_=>(P1_ k_ ∨ w.heap.size≤k_)∧k_≠gb327)) k_∧k_≠go20)) (Kd.R_types (Kd.R_apart' (HO337.out) (Kd.N_typed HO_5.out) (by decide)) BK327.out (by decide)) (fun k_ hk=>⟨⟨(.inr (hk.1.1.1)),hk.2⟩,fun e_=>(hk.1.2) (by rw [e_];rfl)⟩))).2.1 (Kd.R_F (Kd.R_mono (ok':=(fun k_=>((fun k_=>(P1_ k_ ∨ w.heap.size≤k_)∧k_≠gb327)) k_∧k_≠go20)) (Kd.R_types (Kd.R_apart' (HO337.out) (Kd.N_typed HO_5.out) (by decide)) BK327.out (by decide)) (fun k_ hk=>⟨⟨(.inr (hk.1.1.1)),hk.2⟩,fun e_=>(hk.1.2) (by rw [e_];rfl)⟩)))) (fun _ hk=>hk)).1
           (try simp only [show ((Kd.slice 31 k31)).sz=1 from rfl,Nat.mul_one,Nat.add_zero] at HP26)
           rw [← Ny338.out] at HP26
           have HQ26:=Aside0.mk HP26
           clear hcl26 hcc26 hfr26 hM26 HP26
           refine hK.out _ _ ⟨(blk_cell BK327.out 0).trans rfl,(blk_cell BK327.out 1).trans rfl,(blk_cell BK327.out 2).trans rfl,(blk_cell BK327.out 3).trans rfl,HS4_⟩ (fun hHeld=>?_)
           clear hK K
           refine norm_ (a':=?_) ?_ ?_
           rotate_left
           ·show Act.put _ (some 43) _=_
            simp only [Act.put,List.setIfInBounds_toArray,List.set_cons_zero,List.set_cons_succ,i64_w,i32_w]
            rfl
           refine pure_ (i:=9) (N:=some 44) (v:=?_) (a':=?_) #[true,true,true,true,true,true,true,true,true,true,false] rfl rfl (any_of HT_.out (by kernel_rfl)) (fun _ _ _ h=>h) (Or.inl ⟨by rfl,?_⟩) ?_ ?_
           rotate_left;(intro w';go_simp;with_reducible rfl);rotate_left;(simp only [Act.put,List.setIfInBounds_toArray,List.set_cons_zero,List.set_cons_succ,i64_w,i32_w];rfl)
           refine last_ (i:=10) (N:=none) #[true,true,true,true,true,true,true,true,true,true,true] rfl rfl (one_of HT_.out (by kernel_rfl)) (by decide) (fun K hK=>?_)
           refine skip_ (w1:=?_) (by rfl) rfl ?_ ?_
           rotate_left
           ·go_simp
            rfl
           refine hK.out _ _ ?_
           clear hK K
           refine done_ (done_of HT_.out (by kernel_rfl)) ?_
           (try clear HS4_);(try clear hHeld)
           try go_wp2
           (try simp only [← hl14_1])
           go_roundg k1
           case measure=>have:=HK1.out;omega
           case rel=>exact ⟨(y338),(x14_1),(wrap64 (x16_1 + 1)),(by first|rfl|(simp;done)|(simp [*];done)),(by first|exact H'|(subst_vars;exact H')),⟨by have:=HK1.out;omega⟩,⟨by (try simp only [hl14_1]);(with_reducible repeat (first|apply Kd.N_alloc|apply Kd.N_drewN|apply Kd.N_drew));exact HQ26.out⟩,⟨by (try simp only [hl14_1]);(with_reducible repeat (first|apply Kd.V_alloc|apply Kd.V_drewN|apply Kd.V_drew));exact Kd.V_mono (Kd.V_far (p:=⟨go20,((ji14) : Int).toNat,none⟩) (Kd.V_mono HO_14.out (fun k_ hk=>(⟨hk,fun e_=>hk.1.2.1 (by rw [e_];rfl)⟩ : _∧k_≠go20))) (fun _ hk=>hk.2) ((.slice Ao_v336 t335.length co_v336))) (fun _ hk=>⟨hk.1.1.1,⟨hk.1.1.2.1,hk.1.1.2.2⟩⟩)⟩,⟨by (try simp only [hl14_1]);(with_reducible repeat (first|refine blk_drewN ?_ _|refine blk_drew ?_|refine blk_alloc ?_ _));refine blk_far ?_ (by have h_:=Kd.N_away HO_5.out (fun _ hk=>hk.1.2);intro e_;exact h_ (by rw [e_];rfl)) _;(with_reducible repeat (first|refine blk_drewN ?_ _|refine blk_drew ?_|refine blk_alloc ?_ _));exact BK327.out⟩,⟨by repeat (first|(with_reducible first|exact HB.out|apply below_alloc|apply pw_below_drewN|apply below_drew1|refine below_set ?_ GB20.out|refine below_set ?_ GE327.out)|exact HB.out)⟩⟩
          ·rw [if_neg c18] at H
           have c18b0 : (t333 == 0)=false:=beq_eq_false_iff_ne.mpr c18
           have c18b1 : (t333 != 0)=true:=bne_iff_ne.mpr c18
           by_cases c27 : x5_1.length < 5864062014805
           ·rw [if_pos c27] at H
            have LMc27:=Aside0.mk c27
            clear c27
            obtain ⟨y339,hy339⟩ : ∃ y_ : List (List (S31)),y_=(x5_1 ++ [rd_L3 x14_1 x16_1]):=⟨_,rfl⟩
            replace H : (fold_Rows.l0 k1 y339 x14_1 (l1.length : Int) (wrap64 (x16_1 + 1)) l0_0 a0_1 a0_2 a0_3)=some r:=by first|(rw [hy339];with_reducible exact H)|(have H2_:=(Option.bind_some _ _).symm.trans H;rw [hy339];with_reducible exact H2_)|(have H2_:=(Option.bind_some _ _).symm.trans H;with_reducible exact H2_)|with_reducible exact H|(rw [hy339];exact H)|exact H
            have Ny339:=Aside0.mk hy339
            clear hy339
            have H':=Aside0.mk H
            clear H
            have p331 : 0≤(x16_1 : Int):=of_decide_eq_true (by first|(with_reducible assumption)|assumption)
            have q331 : x16_1 < (x14_1.length : Int):=of_decide_eq_true (by first|(with_reducible assumption)|assumption)
            obtain ⟨ad331,A331_0,c331_0,e331,hx331_0,hl331_0,hi331_0⟩:=at_L3 (Kd.V_reads' HO_14.out).2.2 x16_1 p331 q331
            cases e331
            obtain ⟨ce331,hce331,hMe331,hcc331⟩:=Kd.V_get HO_14.out [] x16_1 p331 (by first|exact q331|exact of_decide_eq_true (by first|(with_reducible assumption)|assumption)|(have e_:=(Kd.V_reads' HO_14.out).1;omega))
            obtain ⟨ua331_0,uc331_0,rfl,ul331_0,ge331_0⟩:=Kd.FK_slice_open hMe331
            have hv331_0:=hcc331 0 _ rfl
            rw [Nat.add_zero,show ((Kd.slice 31 k31)).sz=1 from rfl,Nat.mul_one] at hv331_0
            replace hv331_0:=Option.some.inj (hv331_0.symm.trans hx331_0)
            injection hv331_0 with hva_ hvn_ hvc_
            rw [hva_] at ge331_0
            rw [hvc_] at ul331_0
            have HL331_0:=Aside0.mk (show Kd.V k31 31 _ w.heap.size _ _ (rd_L3 x14_1 x16_1) from Kd.V_mk ul331_0 ge331_0)
            clear hva_ hvn_ hvc_ ge331_0 ul331_0
            clear hcc331 hce331
            have HR331_0:=Aside0.mk hi331_0
            have HC331_0:=Aside0.mk hl331_0
            clear hi331_0 hl331_0
            replace p331:=eq_true p331
            replace q331:=eq_true q331
            obtain ⟨Ao28,co28,eo28⟩:=Kd.N_slice HO_5.out
            subst eo28
            try go_wp2
            have n0_:=Aside0.mk (Kd.N_drew HO_5.out)
            have n1_:=Aside0.mk (Kd.V_drew HO_14.out)
            have n2_:=Aside0.mk (Kd.V_drew HL331_0.out)
            have n3_:=Aside0.mk (blk_drew BK327.out)
            have n4_:=Aside0.mk (Kd.C_drew HR331_0.out)
            have n5_:=Aside0.mk (below_drew1 HB.out)
            clear HO_5
            clear HO_14
            clear HL331_0
            clear BK327
            clear HR331_0
            clear HB
            have HO_5:=n0_
            have HO_14:=n1_
            have HL331_0:=n2_
            have BK327:=n3_
            have HR331_0:=n4_
            have HB:=n5_
            clear n0_ n1_ n2_ n3_ n4_ n5_
            have p332 : 0≤((ji14) : Int):=of_decide_eq_true (by first|(with_reducible assumption)|assumption)
            have q332 : (ji14) < (x5_1.length : Int):=of_decide_eq_true (by first|(with_reducible assumption)|assumption)
            obtain ⟨ad332,A332_0,c332_0,e332,hx332_0,hl332_0,hi332_0⟩:=at_L3 (Kd.N_reads' HO_5.out).2.2 (ji14) p332 q332
            cases e332
            obtain ⟨ce332,hce332,hMe332,hcc332⟩:=Kd.N_get HO_5.out [] (ji14) p332 (by first|exact q332|exact of_decide_eq_true (by first|(with_reducible assumption)|assumption)|(have e_:=(Kd.N_reads' HO_5.out).1;omega))
            obtain ⟨ua332_0,uc332_0,rfl,ul332_0,ge332_0⟩:=Kd.FK_slice_open hMe332
            have hv332_0:=hcc332 0 _ rfl
            rw [Nat.add_zero,show ((Kd.slice 31 k31)).sz=1 from rfl,Nat.mul_one] at hv332_0
            replace hv332_0:=Option.some.inj (hv332_0.symm.trans hx332_0)
            injection hv332_0 with hva_ hvn_ hvc_
            rw [hva_] at ge332_0
            rw [hvc_] at ul332_0
            have HL332_0:=Aside0.mk (show Kd.V k31 31 _ w.heap.size _ _ (rd_L3 x5_1 (ji14)) from Kd.V_mk ul332_0 ge332_0)
            clear hva_ hvn_ hvc_ ge332_0 ul332_0
            clear hcc332 hce332
            have HR332_0:=Aside0.mk hi332_0
            have HC332_0:=Aside0.mk hl332_0
            clear hi332_0 hl332_0
            replace p332:=eq_true p332
            replace q332:=eq_true q332
            refine start_ (n:=12) (S:=fun w'=>w'.cell? ⟨gb327,0,none⟩=some (.slice A0_0 l0_0.length c0_0)∧w'.cell? ⟨gb327,1,none⟩=some (.int .i64 a0_1)∧w'.cell? ⟨gb327,2,none⟩=some (.int .i64 a0_2)∧w'.cell? ⟨gb327,3,none⟩=some (.int .i64 a0_3)∧w'.cell? (ad332.add ((ji14)).toNat)=some (.slice A332_0 (rd_L3 x5_1 (ji14)).length c332_0)) (ds:=[]) #[false,false,false,false,false,false,false,false,false,false,false,false] (by kernel_rfl) rfl rfl ⟨(blk_cell BK327.out 0).trans rfl,(blk_cell BK327.out 1).trans rfl,(blk_cell BK327.out 2).trans rfl,(blk_cell BK327.out 3).trans rfl,hx332_0⟩ (fun hHeld=>?_);refine with_tabW fold_Rows.tab8 fold_Rows.bits8 (fun HT_ HW_=>?_)
            generalize wr.drew=w29 at HO_5 HO_14 HL331_0 BK327 HR331_0 HB HL332_0 HR332_0 hx332_0 hHeld ⊢
            refine pure_ (i:=0) (N:=some 23) (v:=?_) (a':=?_) #[true,false,false,false,false,false,false,false,false,false,false,false] rfl rfl (any_of HT_.out (by kernel_rfl)) (fun _ _ _ h=>h) (Or.inl ⟨by rfl,?_⟩) ?_ ?_
            rotate_left;(intro w';go_simp;with_reducible rfl);rotate_left;(simp only [Act.put,List.setIfInBounds_toArray,List.set_cons_zero,List.set_cons_succ,i64_w,i32_w];rfl)
            refine pure_ (i:=1) (N:=some 24) (v:=?_) (a':=?_) #[true,true,false,false,false,false,false,false,false,false,false,false] rfl rfl (any_of HT_.out (by kernel_rfl)) (fun _ _ _ h=>h) (Or.inl ⟨by rfl,?_⟩) ?_ ?_
            rotate_left;(intro w';go_simp;with_reducible rfl);rotate_left;(simp only [Act.put,List.setIfInBounds_toArray,List.set_cons_zero,List.set_cons_succ,i64_w,i32_w];rfl)
            refine pure_ (i:=2) (N:=some 25) (v:=?_) (a':=?_) #[true,true,true,false,false,false,false,false,false,false,false,false] rfl rfl (any_of HT_.out (by kernel_rfl)) (fun _ _ _ h=>h) (Or.inl ⟨by rfl,?_⟩) ?_ ?_
            rotate_left;(intro w';go_simp;with_reducible rfl);rotate_left;(simp only [Act.put,List.setIfInBounds_toArray,List.set_cons_zero,List.set_cons_succ,i64_w,i32_w];rfl)
            refine pure_ (i:=4) (N:=some 27) (v:=?_) (a':=?_) #[true,true,true,false,true,false,false,false,false,false,false,false] rfl rfl (any_of HT_.out (by kernel_rfl)) (fun _ _ _ h=>h) (Or.inl ⟨by rfl,?_⟩) ?_ ?_
            rotate_left;(intro w';go_simp;with_reducible rfl);rotate_left;(simp only [Act.put,List.setIfInBounds_toArray,List.set_cons_zero,List.set_cons_succ,i64_w,i32_w];rfl)
            refine pure_ (i:=5) (N:=some 28) (v:=?_) (a':=?_) #[true,true,true,false,true,true,false,false,false,false,false,false] rfl rfl (any_of HT_.out (by kernel_rfl)) (fun _ _ _ h=>h) (Or.inl ⟨by rfl,?_⟩) ?_ ?_
            rotate_left;(intro w';go_simp;with_reducible rfl);rotate_left;(simp only [Act.put,List.setIfInBounds_toArray,List.set_cons_zero,List.set_cons_succ,i64_w,i32_w];rfl)
            refine pure_ (i:=6) (N:=some 29) (v:=?_) (a':=?_) #[true,true,true,false,true,true,true,false,false,false,false,false] rfl rfl (any_of HT_.out (by kernel_rfl)) (fun _ _ _ h=>h) (Or.inl ⟨by rfl,?_⟩) ?_ ?_
            rotate_left;(intro w';go_simp;with_reducible rfl);rotate_left;(simp only [Act.put,List.setIfInBounds_toArray,List.set_cons_zero,List.set_cons_succ,i64_w,i32_w];rfl)
            refine pure_ (i:=8) (N:=some 31) (v:=?_) (a':=?_) #[true,true,true,false,true,true,true,false,true,false,false,false] rfl rfl (any_of HT_.out (by kernel_rfl)) (fun _ _ _ h=>h) (Or.inl ⟨by rfl,?_⟩) ?_ ?_
            rotate_left;(intro w';go_simp;with_reducible rfl);rotate_left;(simp only [Act.put,List.setIfInBounds_toArray,List.set_cons_zero,List.set_cons_succ,i64_w,i32_w];rfl)
            refine take_ (i:=3) (N:=some 26) (v:=?_) (a':=?_) #[true,true,true,true,true,true,true,false,true,false,false,false] rfl rfl (take_ofW HT_.out HW_.out (by kernel_rfl)) (fun _ _ _ h=>h) (Or.inl ⟨by rfl,?_⟩) hHeld ?_ ?_
            rotate_left;(rintro w' ⟨s0,s1,s2,s3,s4⟩;go_simp;with_reducible rfl);rotate_left;(simp only [Act.put,List.setIfInBounds_toArray,List.set_cons_zero,List.set_cons_succ,i64_w,i32_w];rfl)
            refine take_ (i:=7) (N:=some 30) (v:=?_) (a':=?_) #[true,true,true,true,true,true,true,true,true,false,false,false] rfl rfl (take_ofW HT_.out HW_.out (by kernel_rfl)) (fun _ _ _ h=>h) (Or.inl ⟨by rfl,?_⟩) hHeld ?_ ?_
            rotate_left;(rintro w' ⟨s0,s1,s2,s3,s4⟩;go_simp;with_reducible rfl);rotate_left;(simp only [Act.put,List.setIfInBounds_toArray,List.set_cons_zero,List.set_cons_succ,i64_w,i32_w];rfl)
            refine one_ (i:=9) (N:=some 32) #[true,true,true,true,true,true,true,true,true,true,false,false] rfl rfl (one_of HT_.out (by kernel_rfl)) (by decide) (fun K hK=>?_)
            refine goes_ Try.func32 (by kernel_rfl) rfl #[.agg #[.slice A0_0 l0_0.length c0_0,.int .i64 a0_1,.int .i64 a0_2,.int .i64 a0_3],.slice A332_0 (rd_L3 x5_1 (ji14)).length c332_0,.slice A331_0 (rd_L3 x14_1 x16_1).length c331_0] (by rfl) rfl rfl (by (try simp only [List.map_toArray,List.map_cons,List.map_nil]);first|done|(simp only [hji14];rfl)|rfl|(simp only [List.length_drop,List.length_take];rfl)) ?_
            with_reducible refine (schema_Compare.calls k1 _ _ l0_0 a0_1 a0_2 a0_3 _ _ (rd_L3 x5_1 (ji14)) _ _ (rd_L3 x14_1 x16_1) t333 _ ?side1 ?side2 ?side3 ?side4 ?side5 ?side6 A17.out).mono ?_
            (case side1=>repeat (first|exact (Kd.C_below HR0_0.out HB.out)|(with_reducible refine Kd.C_alloc ?_ _)|(with_reducible refine Kd.C_drewN ?_ _)|(with_reducible refine Kd.C_drew ?_)))
            (case side2=>exact HC0_0.out)
            (case side3=>repeat (first|exact (by repeat (first|(with_reducible exact HR332_0.out)|(with_reducible refine Kd.C_alloc ?_ _)|(with_reducible refine Kd.C_drewN ?_ _)|(with_reducible refine Kd.C_drew ?_)|exact HR332_0.out))|(with_reducible refine Kd.C_alloc ?_ _)|(with_reducible refine Kd.C_drewN ?_ _)|(with_reducible refine Kd.C_drew ?_)))
            (case side4=>exact HC332_0.out)
            (case side5=>repeat (first|exact (by repeat (first|(with_reducible exact HR331_0.out)|(with_reducible refine Kd.C_alloc ?_ _)|(with_reducible refine Kd.C_drewN ?_ _)|(with_reducible refine Kd.C_drew ?_)|exact HR331_0.out))|(with_reducible refine Kd.C_alloc ?_ _)|(with_reducible refine Kd.C_drewN ?_ _)|(with_reducible refine Kd.C_drew ?_)))
            (case side6=>exact HC331_0.out)
            rintro e w30 ⟨rfl,hb⟩
            have HS4_:=(hb.cell (World.block_lt_of_cell? _ _ (hHeld.2.2.2.2))).trans (hHeld.2.2.2.2)
            refine ⟨_,rfl,?_⟩
            have n0_:=Aside0.mk (Kd.N_below (N_up HO_5.out) hb)
            have n1_:=Aside0.mk (Kd.V_below (V_up HO_14.out) hb)
            have n2_:=Aside0.mk (Kd.V_below (by (with_reducible repeat (first|apply Kd.V_alloc|apply Kd.V_drewN|apply Kd.V_drew));exact HL331_0.out) hb)
            have n3_:=Aside0.mk (Kd.V_below (by (with_reducible repeat (first|apply Kd.V_alloc|apply Kd.V_drewN|apply Kd.V_drew));exact HL332_0.out) hb)
            have n4_:=Aside0.mk (blk_below (blk_up BK327.out) hb)
            have n5_:=Aside0.mk (Kd.C_below (by repeat (first|(with_reducible exact HR331_0.out)|(with_reducible refine Kd.C_alloc ?_ _)|(with_reducible refine Kd.C_drewN ?_ _)|(with_reducible refine Kd.C_drew ?_)|exact HR331_0.out)) hb)
            have n6_:=Aside0.mk (Kd.C_below (by repeat (first|(with_reducible exact HR332_0.out)|(with_reducible refine Kd.C_alloc ?_ _)|(with_reducible refine Kd.C_drewN ?_ _)|(with_reducible refine Kd.C_drew ?_)|exact HR332_0.out)) hb)
            have n7_:=Aside0.mk (below_step (below_go HB.out) hb)
            clear HO_5
            clear HO_14
            clear HL331_0
            clear HL332_0
            clear BK327
            clear HR331_0
            clear HR332_0
            clear HB
            have HO_5:=n0_
            have HO_14:=n1_
            have HL331_0:=n2_
            have HL332_0:=n3_
            have BK327:=n4_
            have HR331_0:=n5_
            have HR332_0:=n6_
            have HB:=n7_
            clear n0_ n1_ n2_ n3_ n4_ n5_ n6_ n7_
            (try clear hb)
            (try clear hb2)
            (try clear hk)
            (try clear hi)
            refine hK.out _ _ ⟨(blk_cell BK327.out 0).trans rfl,(blk_cell BK327.out 1).trans rfl,(blk_cell BK327.out 2).trans rfl,(blk_cell BK327.out 3).trans rfl,HS4_⟩ (fun hHeld=>?_)
            clear hK K
            refine norm_ (a':=?_) ?_ ?_
            rotate_left
            ·show Act.put _ (some 32) _=_
             simp only [Act.put,List.setIfInBounds_toArray,List.set_cons_zero,List.set_cons_succ,i64_w,i32_w]
             rfl
            refine pure_ (i:=10) (N:=some 33) (v:=?_) (a':=?_) #[true,true,true,true,true,true,true,true,true,true,true,false] rfl rfl (any_of HT_.out (by kernel_rfl)) (fun _ _ _ h=>h) (Or.inl ⟨by rfl,?_⟩) ?_ ?_
            rotate_left;(intro w';go_simp;with_reducible rfl);rotate_left;(simp only [Act.put,List.setIfInBounds_toArray,List.set_cons_zero,List.set_cons_succ,i64_w,i32_w];rfl)
            refine pure_ (i:=11) (N:=some 34) (v:=?_) (a':=?_) #[true,true,true,true,true,true,true,true,true,true,true,true] rfl rfl (any_of HT_.out (by kernel_rfl)) (fun _ _ _ h=>h) (Or.inl ⟨by rfl,?_⟩) ?_ ?_
            rotate_left;(intro w';go_simp;with_reducible rfl);rotate_left;(simp only [Act.put,List.setIfInBounds_toArray,List.set_cons_zero,List.set_cons_succ,i64_w,i32_w];rfl)
            refine done_ (done_of HT_.out (by kernel_rfl)) ?_
            (try clear HS4_);(try clear hHeld)
            try go_wp2_with (first|((with_reducible refine gate_builtin (b:=.append) (xs:=#[.tmp 45,.tmp 47]) rfl ?_);at_builtin;refine Kd.N_append (Kd.slice 31 k31) (w0:=w) w.heap.size rfl (.tmp 45) (.tmp 47) 28 33 (.slice none 0 0) 24 rfl Try.underlying28 info33 rfl (by decide) (by omega) (.slice (some ad332) x5_1.length co28) x5_1 (rd_L3 x14_1 x16_1) [.slice A331_0 (rd_L3 x14_1 x16_1).length c331_0] (fun k_=>(P1_ k_ ∨ w.heap.size≤k_)∧k_≠gb327) (fun k_=>((fun k_=>(P1_ k_ ∨ w.heap.size≤k_)∧k_≠gb327)) k_∧some k_≠(.slice (some ad332) x5_1.length co28 : Value).ownBlock) rfl rfl ?aP (fun _ hk=>hk) ?aF ?aO ?aB ?aS ?aL ?_;(case aP=>exact (Kd.FK_slice_mk (Kd.V_reads' (Kd.V_mono (ok':=(fun k_=>((fun k_=>(P1_ k_ ∨ w.heap.size≤k_)∧k_≠gb327)) k_∧some k_≠(.slice (some ad332) x5_1.length co28 : Value).ownBlock)) (HL331_0.out) (fun k_ hk=>⟨⟨hk.1,hk.2.2⟩,hk.2.1⟩))).2.1 (Kd.V_F (Kd.V_mono (ok':=(fun k_=>((fun k_=>(P1_ k_ ∨ w.heap.size≤k_)∧k_≠gb327)) k_∧some k_≠(.slice (some ad332) x5_1.length co28 : Value).ownBlock)) (HL331_0.out) (fun k_ hk=>⟨⟨hk.1,hk.2.2⟩,hk.2.1⟩)))));(case aB=>exact (below_go HB.out));(case aF=>exact (fun k_ hk=>⟨(.inr (Nat.le_trans (below_size (below_go HB.out)) hk)),Kd.freshB (blk_up BK327.out) k_ hk⟩));(case aO=>exact (N_up HO_5.out));(case aS=>exact (below_size (below_go HB.out)));(case aL=>have:=LMc27.out;omega);intro v340 w31 ho hb hg hat;rw [← Ny339.out] at ho;have n0_:=Aside0.mk (Kd.V_afterv (ok:=(fun k_=>(P1_ k_ ∨ w.heap.size≤k_)∧k_≠gb327)) (V_upm HO_14.out (fun _ hk=>⟨⟨hk.1,hk.2.2⟩,hk.2.1⟩)) hg hat);have n1_:=Aside0.mk (blk_grown (blk_up BK327.out) hg (Kd.N_ne HO_5.out BK327.out (by decide)));have n2_:=Aside0.mk (Kd.V_afterv (ok:=(fun k_=>(P1_ k_ ∨ w.heap.size≤k_)∧k_≠gb327)) (V_upm HL331_0.out (fun _ hk=>⟨⟨hk.1,hk.2.2⟩,hk.2.1⟩)) hg hat);have n3_:=Aside0.mk (Kd.V_afterv (ok:=(fun k_=>(P1_ k_ ∨ w.heap.size≤k_)∧k_≠gb327)) (by (with_reducible repeat (first|apply Kd.V_alloc|apply Kd.V_drewN|apply Kd.V_drew));exact HL332_0.out) hg hat);have n4_:=Aside0.mk (hb);have n5_:=Aside0.mk (ho);clear HO_14;clear BK327;clear HL331_0;clear HL332_0;clear HB;clear HO_5;have HO_14:=n0_;have BK327:=n1_;have HL331_0:=n2_;have HL332_0:=n3_;have HB:=n4_;have HO341:=n5_;clear n0_ n1_ n2_ n3_ n4_ n5_;clear ho hb hg hat))
            (try simp only [← hl14_1])
            go_roundg k1
            case measure=>have:=HK1.out;omega
            case rel=>exact ⟨(y339),(x14_1),(wrap64 (x16_1 + 1)),(by first|rfl|(simp;done)|(simp [*];done)),(by first|exact H'|(subst_vars;exact H')),⟨by have:=HK1.out;omega⟩,⟨by (try simp only [hl14_1]);(with_reducible repeat (first|apply Kd.N_alloc|apply Kd.N_drewN|apply Kd.N_drew));exact HO341.out⟩,⟨by (try simp only [hl14_1]);(with_reducible repeat (first|apply Kd.V_alloc|apply Kd.V_drewN|apply Kd.V_drew));exact Kd.V_mono HO_14.out (fun _ hk=>⟨hk.1.1,⟨hk.2,hk.1.2⟩⟩)⟩,⟨by (try simp only [hl14_1]);(with_reducible repeat (first|refine blk_drewN ?_ _|refine blk_drew ?_|refine blk_alloc ?_ _));exact BK327.out⟩,⟨by repeat (first|(with_reducible first|exact HB.out|apply below_alloc|apply pw_below_drewN|apply below_drew1|refine below_set ?_ GE327.out)|exact HB.out)⟩⟩
           ·rw [if_neg c27] at H
            exact absurd H (by simp)
         ·rw [if_neg c16] at H
          exact absurd H (by simp)
        ·rw [if_neg c15] at H
         exact absurd H (by simp)
       ·rw [if_neg c13] at H
        have c13b0 : decide (0≤(wrap64 ((x5_1.length : Int) - 1)))=false:=decide_eq_false c13
        clear c13
        by_cases c32 : x5_1.length < 5864062014805
        ·rw [if_pos c32] at H
         have LMc32:=Aside0.mk c32
         clear c32
         obtain ⟨y342,hy342⟩ : ∃ y_ : List (List (S31)),y_=(x5_1 ++ [rd_L3 x14_1 x16_1]):=⟨_,rfl⟩
         replace H : (fold_Rows.l0 k1 y342 x14_1 (l1.length : Int) (wrap64 (x16_1 + 1)) l0_0 a0_1 a0_2 a0_3)=some r:=by first|(rw [hy342];with_reducible exact H)|(have H2_:=(Option.bind_some _ _).symm.trans H;rw [hy342];with_reducible exact H2_)|(have H2_:=(Option.bind_some _ _).symm.trans H;with_reducible exact H2_)|with_reducible exact H|(rw [hy342];exact H)|exact H
         have Ny342:=Aside0.mk hy342
         clear hy342
         have H':=Aside0.mk H
         clear H
         have p331 : 0≤(x16_1 : Int):=of_decide_eq_true (by first|(with_reducible assumption)|assumption)
         have q331 : x16_1 < (x14_1.length : Int):=of_decide_eq_true (by first|(with_reducible assumption)|assumption)
         obtain ⟨ad331,A331_0,c331_0,e331,hx331_0,hl331_0,hi331_0⟩:=at_L3 (Kd.V_reads' HO_14.out).2.2 x16_1 p331 q331
         cases e331
         obtain ⟨ce331,hce331,hMe331,hcc331⟩:=Kd.V_get HO_14.out [] x16_1 p331 (by first|exact q331|exact of_decide_eq_true (by first|(with_reducible assumption)|assumption)|(have e_:=(Kd.V_reads' HO_14.out).1;omega))
         obtain ⟨ua331_0,uc331_0,rfl,ul331_0,ge331_0⟩:=Kd.FK_slice_open hMe331
         have hv331_0:=hcc331 0 _ rfl
         rw [Nat.add_zero,show ((Kd.slice 31 k31)).sz=1 from rfl,Nat.mul_one] at hv331_0
         replace hv331_0:=Option.some.inj (hv331_0.symm.trans hx331_0)
         injection hv331_0 with hva_ hvn_ hvc_
         rw [hva_] at ge331_0
         rw [hvc_] at ul331_0
         have HL331_0:=Aside0.mk (show Kd.V k31 31 _ w.heap.size _ _ (rd_L3 x14_1 x16_1) from Kd.V_mk ul331_0 ge331_0)
         clear hva_ hvn_ hvc_ ge331_0 ul331_0
         clear hcc331 hce331
         have HR331_0:=Aside0.mk hi331_0
         have HC331_0:=Aside0.mk hl331_0
         clear hi331_0 hl331_0
         replace p331:=eq_true p331
         replace q331:=eq_true q331
         obtain ⟨Ao33,co33,eo33⟩:=Kd.N_slice HO_5.out
         subst eo33
         try go_wp2
         have n0_:=Aside0.mk (Kd.N_drew HO_5.out)
         have n1_:=Aside0.mk (Kd.V_drew HO_14.out)
         have n2_:=Aside0.mk (Kd.V_drew HL331_0.out)
         have n3_:=Aside0.mk (blk_drew BK327.out)
         have n4_:=Aside0.mk (Kd.C_drew HR331_0.out)
         have n5_:=Aside0.mk (below_drew1 HB.out)
         clear HO_5
         clear HO_14
         clear HL331_0
         clear BK327
         clear HR331_0
         clear HB
         have HO_5:=n0_
         have HO_14:=n1_
         have HL331_0:=n2_
         have BK327:=n3_
         have HR331_0:=n4_
         have HB:=n5_
         clear n0_ n1_ n2_ n3_ n4_ n5_
         refine start_ (n:=12) (S:=fun w'=>True) (ds:=[]) #[false,false,false,false,false,false,false,false,false,false,false,false] (by kernel_rfl) rfl rfl trivial (fun hHeld=>?_);refine with_tabW fold_Rows.tab8 fold_Rows.bits8 (fun HT_ HW_=>?_)
         generalize wr.drew=w34 at HO_5 HO_14 HL331_0 BK327 HR331_0 HB hHeld ⊢
         refine pure_ (i:=0) (N:=some 23) (v:=?_) (a':=?_) #[true,false,false,false,false,false,false,false,false,false,false,false] rfl rfl (any_of HT_.out (by kernel_rfl)) (fun _ _ _ h=>h) (Or.inl ⟨by rfl,?_⟩) ?_ ?_
         rotate_left;(intro w';go_simp;with_reducible rfl);rotate_left;(simp only [Act.put,List.setIfInBounds_toArray,List.set_cons_zero,List.set_cons_succ,i64_w,i32_w];rfl)
         refine pure_ (i:=1) (N:=some 24) (v:=?_) (a':=?_) #[true,true,false,false,false,false,false,false,false,false,false,false] rfl rfl (any_of HT_.out (by kernel_rfl)) (fun _ _ _ h=>h) (Or.inl ⟨by rfl,?_⟩) ?_ ?_
         rotate_left;(intro w';go_simp;with_reducible rfl);rotate_left;(simp only [Act.put,List.setIfInBounds_toArray,List.set_cons_zero,List.set_cons_succ,i64_w,i32_w];rfl)
         refine pure_ (i:=2) (N:=some 25) (v:=?_) (a':=?_) #[true,true,true,false,false,false,false,false,false,false,false,false] rfl rfl (any_of HT_.out (by kernel_rfl)) (fun _ _ _ h=>h) (Or.inl ⟨by rfl,?_⟩) ?_ ?_
         rotate_left;(intro w';go_simp;with_reducible rfl);rotate_left;(simp only [Act.put,List.setIfInBounds_toArray,List.set_cons_zero,List.set_cons_succ,i64_w,i32_w];rfl)
         refine pure_ (i:=3) (N:=some 26) (v:=undef) (a':=?_) #[true,true,true,true,false,false,false,false,false,false,false,false] rfl rfl (any_of HT_.out (by kernel_rfl)) (fun _ _ _ h=>h) (Or.inr ⟨by rfl,rfl⟩) ?_ ?_
         rotate_left
         ·simp only [Act.put,List.setIfInBounds_toArray,List.set_cons_zero,List.set_cons_succ,i64_w,i32_w]
          rfl
         refine pure_ (i:=4) (N:=some 27) (v:=undef) (a':=?_) #[true,true,true,true,true,false,false,false,false,false,false,false] rfl rfl (any_of HT_.out (by kernel_rfl)) (fun _ _ _ h=>h) (Or.inr ⟨by rfl,rfl⟩) ?_ ?_
         rotate_left
         ·simp only [Act.put,List.setIfInBounds_toArray,List.set_cons_zero,List.set_cons_succ,i64_w,i32_w]
          rfl
         refine pure_ (i:=5) (N:=some 28) (v:=undef) (a':=?_) #[true,true,true,true,true,true,false,false,false,false,false,false] rfl rfl (any_of HT_.out (by kernel_rfl)) (fun _ _ _ h=>h) (Or.inr ⟨by rfl,rfl⟩) ?_ ?_
         rotate_left
         ·simp only [Act.put,List.setIfInBounds_toArray,List.set_cons_zero,List.set_cons_succ,i64_w,i32_w]
          rfl
         refine pure_ (i:=6) (N:=some 29) (v:=undef) (a':=?_) #[true,true,true,true,true,true,true,false,false,false,false,false] rfl rfl (any_of HT_.out (by kernel_rfl)) (fun _ _ _ h=>h) (Or.inr ⟨by rfl,rfl⟩) ?_ ?_
         rotate_left
         ·simp only [Act.put,List.setIfInBounds_toArray,List.set_cons_zero,List.set_cons_succ,i64_w,i32_w]
          rfl
         refine pure_ (i:=7) (N:=some 30) (v:=undef) (a':=?_) #[true,true,true,true,true,true,true,true,false,false,false,false] rfl rfl (any_of HT_.out (by kernel_rfl)) (fun _ _ _ h=>h) (Or.inr ⟨by rfl,rfl⟩) ?_ ?_
         rotate_left
         ·simp only [Act.put,List.setIfInBounds_toArray,List.set_cons_zero,List.set_cons_succ,i64_w,i32_w]
          rfl
         refine pure_ (i:=8) (N:=some 31) (v:=undef) (a':=?_) #[true,true,true,true,true,true,true,true,true,false,false,false] rfl rfl (any_of HT_.out (by kernel_rfl)) (fun _ _ _ h=>h) (Or.inr ⟨by rfl,rfl⟩) ?_ ?_
         rotate_left
         ·simp only [Act.put,List.setIfInBounds_toArray,List.set_cons_zero,List.set_cons_succ,i64_w,i32_w]
          rfl
         refine pure_ (i:=9) (N:=some 32) (v:=undef) (a':=?_) #[true,true,true,true,true,true,true,true,true,true,false,false] rfl rfl (any_of HT_.out (by kernel_rfl)) (fun _ _ _ h=>h) (Or.inr ⟨by rfl,rfl⟩) ?_ ?_
         rotate_left
         ·simp only [Act.put,List.setIfInBounds_toArray,List.set_cons_zero,List.set_cons_succ,i64_w,i32_w]
          rfl
         refine pure_ (i:=10) (N:=some 33) (v:=undef) (a':=?_) #[true,true,true,true,true,true,true,true,true,true,true,false] rfl rfl (any_of HT_.out (by kernel_rfl)) (fun _ _ _ h=>h) (Or.inr ⟨by rfl,rfl⟩) ?_ ?_
         rotate_left
         ·simp only [Act.put,List.setIfInBounds_toArray,List.set_cons_zero,List.set_cons_succ,i64_w,i32_w]
          rfl
         refine pure_ (i:=11) (N:=some 34) (v:=?_) (a':=?_) #[true,true,true,true,true,true,true,true,true,true,true,true] rfl rfl (any_of HT_.out (by kernel_rfl)) (fun _ _ _ h=>h) (Or.inl ⟨by rfl,?_⟩) ?_ ?_
         rotate_left;(intro w';go_simp;with_reducible rfl);rotate_left;(simp only [Act.put,List.setIfInBounds_toArray,List.set_cons_zero,List.set_cons_succ,i64_w,i32_w];rfl)
         refine done_ (done_of HT_.out (by kernel_rfl)) ?_
         (try clear hHeld)
         try go_wp2_with (first|((with_reducible refine gate_builtin (b:=.append) (xs:=#[.tmp 45,.tmp 47]) rfl ?_);at_builtin;refine Kd.N_append (Kd.slice 31 k31) (w0:=w) w.heap.size rfl (.tmp 45) (.tmp 47) 28 33 (.slice none 0 0) 24 rfl Try.underlying28 info33 rfl (by decide) (by omega) (.slice Ao33 x5_1.length co33) x5_1 (rd_L3 x14_1 x16_1) [.slice A331_0 (rd_L3 x14_1 x16_1).length c331_0] (fun k_=>(P1_ k_ ∨ w.heap.size≤k_)∧k_≠gb327) (fun k_=>((fun k_=>(P1_ k_ ∨ w.heap.size≤k_)∧k_≠gb327)) k_∧some k_≠(.slice Ao33 x5_1.length co33 : Value).ownBlock) rfl rfl ?aP (fun _ hk=>hk) ?aF ?aO ?aB ?aS ?aL ?_;(case aP=>exact (Kd.FK_slice_mk (Kd.V_reads' (Kd.V_mono (ok':=(fun k_=>((fun k_=>(P1_ k_ ∨ w.heap.size≤k_)∧k_≠gb327)) k_∧some k_≠(.slice Ao33 x5_1.length co33 : Value).ownBlock)) (HL331_0.out) (fun k_ hk=>⟨⟨hk.1,hk.2.2⟩,hk.2.1⟩))).2.1 (Kd.V_F (Kd.V_mono (ok':=(fun k_=>((fun k_=>(P1_ k_ ∨ w.heap.size≤k_)∧k_≠gb327)) k_∧some k_≠(.slice Ao33 x5_1.length co33 : Value).ownBlock)) (HL331_0.out) (fun k_ hk=>⟨⟨hk.1,hk.2.2⟩,hk.2.1⟩)))));(case aB=>exact (below_go HB.out));(case aF=>exact (fun k_ hk=>⟨(.inr (Nat.le_trans (below_size (below_go HB.out)) hk)),Kd.freshB (blk_up BK327.out) k_ hk⟩));(case aO=>exact (N_up HO_5.out));(case aS=>exact (below_size (below_go HB.out)));(case aL=>have:=LMc32.out;omega);intro v343 w35 ho hb hg hat;rw [← Ny342.out] at ho;have n0_:=Aside0.mk (Kd.V_afterv (ok:=(fun k_=>(P1_ k_ ∨ w.heap.size≤k_)∧k_≠gb327)) (V_upm HO_14.out (fun _ hk=>⟨⟨hk.1,hk.2.2⟩,hk.2.1⟩)) hg hat);have n1_:=Aside0.mk (blk_grown (blk_up BK327.out) hg (Kd.N_ne HO_5.out BK327.out (by decide)));have n2_:=Aside0.mk (Kd.V_afterv (ok:=(fun k_=>(P1_ k_ ∨ w.heap.size≤k_)∧k_≠gb327)) (V_upm HL331_0.out (fun _ hk=>⟨⟨hk.1,hk.2.2⟩,hk.2.1⟩)) hg hat);have n3_:=Aside0.mk (hb);have n4_:=Aside0.mk (ho);clear HO_14;clear BK327;clear HL331_0;clear HB;clear HO_5;have HO_14:=n0_;have BK327:=n1_;have HL331_0:=n2_;have HB:=n3_;have HO344:=n4_;clear n0_ n1_ n2_ n3_ n4_;clear ho hb hg hat))
         (try simp only [← hl14_1])
         go_roundg k1
         case measure=>have:=HK1.out;omega
         case rel=>exact ⟨(y342),(x14_1),(wrap64 (x16_1 + 1)),(by first|rfl|(simp;done)|(simp [*];done)),(by first|exact H'|(subst_vars;exact H')),⟨by have:=HK1.out;omega⟩,⟨by (try simp only [hl14_1]);(with_reducible repeat (first|apply Kd.N_alloc|apply Kd.N_drewN|apply Kd.N_drew));exact HO344.out⟩,⟨by (try simp only [hl14_1]);(with_reducible repeat (first|apply Kd.V_alloc|apply Kd.V_drewN|apply Kd.V_drew));exact Kd.V_mono HO_14.out (fun _ hk=>⟨hk.1.1,⟨hk.2,hk.1.2⟩⟩)⟩,⟨by (try simp only [hl14_1]);(with_reducible repeat (first|refine blk_drewN ?_ _|refine blk_drew ?_|refine blk_alloc ?_ _));exact BK327.out⟩,⟨by repeat (first|(with_reducible first|exact HB.out|apply below_alloc|apply pw_below_drewN|apply below_drew1|refine below_set ?_ GE327.out)|exact HB.out)⟩⟩
        ·rw [if_neg c32] at H
         exact absurd H (by simp)
      ·rw [if_neg c12] at H
       exact absurd H (by simp)
     ·rw [if_neg c11] at H
      exact absurd H (by simp)
    ·rw [if_neg c10] at H
     have c10b0 : decide (x16_1 < (l1.length : Int))=false:=decide_eq_false c10
     (try have c10b9 : decide (x16_1 < (x14_1.length : Int))=false:=by rw [← hl14_1];exact c10b0)
     clear c10
     obtain rfl:=Option.some.inj H
     go_wp2
     go_ret
     exact ⟨_,by first|rfl|(simp [errW_none,errW_some] <;> rfl)|(simp [*,errW_none,errW_some] <;> rfl),by (with_reducible repeat (first|apply Kd.N_alloc|apply Kd.N_drewN|apply Kd.N_drew));exact Kd.N_mono HO_5.out (fun _ hk=>hk.1),by repeat (first|(with_reducible first|exact HB.out|apply below_alloc|apply pw_below_drewN|apply below_drew1|refine below_set ?_ GE327.out)|exact HB.out)⟩
end Go.Proofs.Ytfiandejapgkoaa.P

