/- Texts of GrainBack. Merged: Px7. -/
import Derived.Test.YthoelihgpkffiaaQGrainBackPx0
import Derived.Test.YthoelihgpkffiaaQGrainBackPx2
import Derived.Test.YthoelihgpkffiaaQGrainBackPx4
import Derived.Test.YthoelihgpkffiaaQGrainBackPx6
namespace Go.Proofs.Ythoelihgpkffiaa.P
open Go.RowKit Go.Proofs.YthoelihgpkffiaaW.PrintWords Go.Proofs.YthoelihgpkffiaaW.PrintLast Go.Proofs.YthoelihgpkffiaaW.PrintMore
attribute [local go_sem] max2_int min2_int max_two min_two max_three min_three max_four min_four   -- for this text's walks alone
set_option linter.unusedVariables false
set_option linter.unusedSimpArgs false
def grain_Marks.l0 : Nat→List (List (S45))→List (List (List (S45)))→Int→Int→List Int→Int→Int→Int→Option ((List (List (S45))))
 | 0,_,_,_,_,_,_,_,_=>none
 | k + 1,x5,x10,x11,x12,x237000,x237001,x237002,x237003=>if x12 < x11 then (if 0≤x12 then (if x12 < (x10.length : Int) then (if 0 < ((rd_L4 x10 x12).length : Int) then ((grain_Key.f x237000 x237001 x237002 x237003 (rd_L3 (rd_L4 x10 x12) 0)).bind fun t242=>(if x5.length < 5864062014805 then (grain_Marks.l0 k (x5 ++ [t242]) x10 x11 (wrap64 (x12 + 1)) x237000 x237001 x237002 x237003) else (none))) else (none)) else (none)) else (none)) else (some x5)
def grain_Marks.f (k : Nat) (l0_0 : List Int) (a0_1 : Int) (a0_2 : Int) (a0_3 : Int) (l1 : List (List (S45))) : Option ((List (List (S45)))):=(grain_Split.f k l0_0 a0_1 a0_2 a0_3 l1).bind fun t237=>(grain_Marks.l0 k ([] : List (List (S45))) t237 (t237.length : Int) 0 l0_0 a0_1 a0_2 a0_3)
theorem grain_Marks.mono_l : ∀ k,(∀ y0 y1 y2 y3 y4 y5 y6 y7,LeO (grain_Marks.l0 k y0 y1 y2 y3 y4 y5 y6 y7) (grain_Marks.l0 (k + 1) y0 y1 y2 y3 y4 y5 y6 y7))
 | 0=>fun _ _ _ _ _ _ _ _ r h=>by simp [grain_Marks.l0] at h
 | k + 1=>by
  have ih0:=grain_Marks.mono_l k
  ·intro y0 y1 y2 y3 y4 y5 y6 y7
   unfold grain_Marks.l0
   repeat' first
   | (with_reducible exact ih0 _ _ _ _ _ _ _ _)
   | (with_reducible exact grain_Split.mono _ _ _ _ _ _)
   | (with_reducible exact LeO.refl _)
   | (with_reducible exact LeO.none _)
   | (with_reducible refine LeO.ite ?_ ?_)
   | (with_reducible refine LeO.bind ?_ (fun _=>?_))
   | exact ih0 _ _ _ _ _ _ _ _
   | exact grain_Split.mono _ _ _ _ _ _
   | exact LeO.none _
   | refine LeO.ite ?_ ?_
   | refine LeO.bind ?_ (fun _=>?_)
theorem grain_Marks.mono : ∀ a0 a1 a2 a3 a4 k,LeO (grain_Marks.f k a0 a1 a2 a3 a4) (grain_Marks.f (k + 1) a0 a1 a2 a3 a4):=by
 intro a0 a1 a2 a3 a4 k
 have ih0:=grain_Marks.mono_l k
 unfold grain_Marks.f
 repeat' first
   | (with_reducible exact ih0 _ _ _ _ _ _ _ _)
   | (with_reducible exact grain_Split.mono _ _ _ _ _ _)
   | (with_reducible exact LeO.refl _)
   | (with_reducible exact LeO.none _)
   | (with_reducible refine LeO.ite ?_ ?_)
   | (with_reducible refine LeO.bind ?_ (fun _=>?_))
   | exact ih0 _ _ _ _ _ _ _ _
   | exact grain_Split.mono _ _ _ _ _ _
   | exact LeO.none _
   | refine LeO.ite ?_ ?_
   | refine LeO.bind ?_ (fun _=>?_)
def grain_Marks.T5 : Bool × List (List Nat × List Nat):=(true,[([],[]),([],[]),([],[]),([2],[2]),([3],[3]),([1,4],[1,4]),([5],[5]),([0,6,5],[0,6]),([7,7,0,1,2,3,4,5,6,7],[0,7])])
def grain_Marks.B5 : List Nat:=[0,0,0,4,12,30,62,127,255]
theorem grain_Marks.tab5 : rtab .any (opsOf Try.f12 5)=grain_Marks.T5:=by kernel_rfl
theorem grain_Marks.bits5 : waitsOk grain_Marks.T5.2 grain_Marks.B5=true:=by kernel_rfl
set_option maxHeartbeats 8000000 in
set_option maxRecDepth 100000 in
theorem grain_Marks.calls (k : Nat) (A0_0 : Option Addr) (c0_0 : Nat) (l0_0 : List Int) (a0_1 : Int) (a0_2 : Int) (a0_3 : Int) (P1_ : Nat→Prop) (A1 : Option Addr) (c1 : Nat) (l1 : List (List (S45))) (r : List (List (S45))) (w : World) (hr0_0 : Kd.C (Kd.int .i64) w A0_0 l0_0.length l0_0) (hc0_0 : l0_0.length≤c0_0) (hs1 : Kd.V (Kd.slice 45 k45) 38 w w.heap.size (fun k_=>P1_ k_) (.slice A1 l1.length c1) l1) (h : grain_Marks.f k l0_0 a0_1 a0_2 a0_3 l1=some r) :
  Calls Try.prog 12 #[.agg #[.slice A0_0 l0_0.length c0_0,.int .i64 a0_1,.int .i64 a0_2,.int .i64 a0_3],.slice A1 l1.length c1] w fun e w'=>∃ v0_ : Value,e=.returned (v0_)∧Kd.N (Kd.slice 45 k45) 38 w' w.heap.size (fun k_=>(P1_ k_ ∨ w.heap.size≤k_)) v0_ r∧Below w.heap.size w w':=by
 have hu29:=Try.underlying29
 have HR0_0:=Aside0.mk hr0_0
 have HC0_0:=Aside0.mk hc0_0
 clear hr0_0 hc0_0
 have HO1:=Aside0.mk (show Kd.V (Kd.slice 45 k45) 38 w w.heap.size (fun k_=>(P1_ k_ ∨ w.heap.size≤k_)) (.slice A1 l1.length c1) l1 from Kd.V_mono hs1 (fun k_ hk=>.inl hk))
 have HB:=Aside0.mk (Below.refl w.heap.size w)
 have H : ((grain_Split.f k l0_0 a0_1 a0_2 a0_3 l1).bind fun t237=>(grain_Marks.l0 k ([] : List (List (S45))) t237 (t237.length : Int) 0 l0_0 a0_1 a0_2 a0_3))=some r:=h
 clear h
 replace H:=Option.bind_eq_some_iff.mp H
 obtain ⟨t237,A30,H⟩:=H
 replace H : (grain_Marks.l0 k ([] : List (List (S45))) t237 (t237.length : Int) 0 l0_0 a0_1 a0_2 a0_3)=some r:=H
 have A3:=Aside0.mk A30
 clear A30
 have H':=Aside0.mk H
 clear H
 go_enter Try.func12,Try.ntmps12
 go_wp2_with (first|((with_reducible refine gate_dst (N:=2) rfl ?_);refine box_event ?hg (N:=2) ?hd (cs:=#[.slice A0_0 l0_0.length c0_0,.int .i64 a0_1,.int .i64 a0_2,.int .i64 a0_3]) (t:=29) ?hr ?_;(case hd=>rfl);(case hg=>rfl);(case hr=>first|(go_simp;done)|(go_simp;rfl));intro gb236 hg w4 hbox hb;have n0_:=Aside0.mk (Kd.V_below (Kd.V_elderB (V_up HO1.out) gb236 (Nat.le_of_eq hg.symm)) hb);have n1_:=Aside0.mk (below_step (below_up HB.out) hb);have n2_:=Aside0.mk (hbox);have n3_:=Aside0.mk ((by rw [hg];exact (below_size (below_up HB.out)) : w.heap.size≤gb236));have n4_:=Aside0.mk ((by rw [hg];exact (below_size (below_up HB.out)) : w.heap.size≤gb236));clear HO1;clear HB;have HO1:=n0_;have HB:=n1_;have BK236:=n2_;have GW236:=n3_;have GE236:=n4_;clear n0_ n1_ n2_ n3_ n4_;clear hb hbox hg;have hcz5_0 : w4.cell? ⟨gb236,0,none⟩=some (.slice A0_0 l0_0.length c0_0):=(blk_cell BK236.out 0).trans rfl;have hcz5_1 : w4.cell? ⟨gb236,1,none⟩=some (.int .i64 a0_1):=(blk_cell BK236.out 1).trans rfl;have hcz5_2 : w4.cell? ⟨gb236,2,none⟩=some (.int .i64 a0_2):=(blk_cell BK236.out 2).trans rfl;have hcz5_3 : w4.cell? ⟨gb236,3,none⟩=some (.int .i64 a0_3):=(blk_cell BK236.out 3).trans rfl;have hfz5_0:=blk_frozen BK236.out 0;have hfz5_1:=blk_frozen BK236.out 1;have hfz5_2:=blk_frozen BK236.out 2;have hfz5_3:=blk_frozen BK236.out 3)|((with_reducible refine gate_callee (f:=11) rfl ?_);refine goesL_ (some 10) rfl rfl Try.func11 (by kernel_rfl) rfl #[.agg #[.slice A0_0 l0_0.length c0_0,.int .i64 a0_1,.int .i64 a0_2,.int .i64 a0_3],.slice A1 l1.length c1] rfl (by (try simp only [List.map_toArray,List.map_cons,List.map_nil]);first|done|rfl|(simp only [List.length_drop,List.length_take];rfl)) ?_;(with_reducible refine (grain_Split.calls k _ _ l0_0 a0_1 a0_2 a0_3 (fun k_=>((P1_ k_ ∨ w.heap.size≤k_)∧k_≠gb236)) _ _ l1 t237 _ ?side1 ?side2 ?side3 A3.out).mono ?_);(case side1=>repeat (first|exact (Kd.C_below HR0_0.out HB.out)|(with_reducible refine Kd.C_alloc ?_ _)|(with_reducible refine Kd.C_drewN ?_ _)|(with_reducible refine Kd.C_drew ?_)));(case side2=>exact HC0_0.out);(case side3=>exact HO1.out);rintro e w6 ⟨v238,rfl,ho0,hb⟩;refine ⟨_,rfl,?_⟩;have n0_:=Aside0.mk (Kd.V_elder' (V_up HO1.out) (by first|exact Kd.N_base ho0|exact Kd.S_base ho0) hb);have n1_:=Aside0.mk (Kd.N_lower (Kd.N_mono (ok':=fun k_=>(P1_ k_ ∨ w.heap.size≤k_)∧k_≠gb236) ho0 (fun k_ hk_=>⟨Or.elim hk_ (fun hs_=>hs_.1) (fun hn_=>(.inr (Nat.le_trans (below_size (by repeat (first|(with_reducible first|exact HB.out|apply below_alloc|apply pw_below_drewN|apply below_drew1|refine below_set ?_ GE236.out)|exact HB.out))) hn_))),Or.elim hk_ (fun hs_=>hs_.2) (fun hn_=>(Kd.freshB (g:=gb236) (o:=.cells #[.slice A0_0 l0_0.length c0_0,.int .i64 a0_1,.int .i64 a0_2,.int .i64 a0_3] 29 (0,0)) (blk_up BK236.out) k_ hn_))⟩)) (below_size (by repeat (first|(with_reducible first|exact HB.out|apply below_alloc|apply pw_below_drewN|apply below_drew1|refine below_set ?_ GE236.out)|exact HB.out))));have n2_:=Aside0.mk (blk_below (g:=gb236) (o:=.cells #[.slice A0_0 l0_0.length c0_0,.int .i64 a0_1,.int .i64 a0_2,.int .i64 a0_3] 29 (0,0)) (blk_up BK236.out) hb);have n3_:=Aside0.mk (below_step (by repeat (first|(with_reducible first|exact HB.out|apply below_alloc|apply pw_below_drewN|apply below_drew1|refine below_set ?_ GE236.out)|exact HB.out)) hb);clear HO1;clear BK236;clear HB;have HO1:=n0_;have HO239:=n1_;have BK236:=n2_;have HB:=n3_;clear n0_ n1_ n2_ n3_;(try clear hb);(try clear hb2);(try clear hk);(try clear hi);(try clear ho0);obtain ⟨Ao7,co7,eo7⟩:=Kd.N_slice HO239.out;subst eo7))
 go_loopg [5,12] k (fun kq v5 v12 w'=>∃ (x5_1 : List (List (S45))) (x12_1 : Int),v12=.int .i64 x12_1∧Aside0 (grain_Marks.l0 kq x5_1 t237 (t237.length : Int) x12_1 l0_0 a0_1 a0_2 a0_3=some r)∧Aside0 (kq≤k)∧Aside0 (Kd.N (Kd.slice 45 k45) 38 w' w.heap.size (fun k_=>(P1_ k_ ∨ w.heap.size≤k_)∧some k_≠((.slice Ao7 t237.length co7) : Value).ownBlock∧k_≠gb236) v5 x5_1)∧Aside0 (Kd.N (Kd.slice 38 (Kd.slice 45 k45)) 25 w' w.heap.size (fun k_=>(P1_ k_ ∨ w.heap.size≤k_)∧some k_≠(v5 : Value).ownBlock∧k_≠gb236) (.slice Ao7 t237.length co7) t237)∧Aside0 (w'.heap[gb236]?=some (.cells #[(.slice A0_0 l0_0.length c0_0),.int .i64 a0_1,.int .i64 a0_2,.int .i64 a0_3] 29 (0,0)))∧Aside0 (Below w.heap.size w w'))
 case atStart=>exact ⟨(([] : List (List (S45)))),(0),(by first|rfl|(simp;done)|(simp [*];done)),H',⟨Nat.le_refl _⟩,⟨by first|exact Kd.S_nil _ _ _ _ _|exact Kd.N_nil _ _ _ _ _|exact Kd.V_nil _ _ _ _ _|exact Kd.Q_nil _ _ _ _ _|exact Kd.R_nil _ _ _ _ _⟩,⟨by (with_reducible repeat (first|apply Kd.N_alloc|apply Kd.N_drewN|apply Kd.N_drew));exact Kd.N_mono HO239.out (fun _ hk=>⟨hk.1,⟨(by simp [Value.ownBlock]),hk.2⟩⟩)⟩,⟨by (with_reducible repeat (first|refine blk_drewN ?_ _|refine blk_drew ?_|refine blk_alloc ?_ _));exact BK236.out⟩,⟨by repeat (first|(with_reducible first|exact HB.out|apply below_alloc|apply pw_below_drewN|apply below_drew1|refine below_set ?_ GE236.out)|exact HB.out)⟩⟩
 case round =>
  clear H'
  try clear c1
  try clear p2
  try clear hcz5_0
  try clear hcz5_1
  try clear hcz5_2
  try clear hcz5_3
  try clear hfz5_0
  try clear hfz5_1
  try clear hfz5_2
  try clear hfz5_3
  obtain ⟨x5_1,x12_1,rfl,HA,HK1,HO_5,HO_10,BK236,HB⟩:=hrel
  cases gk with
  | zero=>exact absurd HA.out (by simp [grain_Marks.l0])
  | succ k1 =>
   have H:=HA.out
   clear HA
   simp only [grain_Marks.l0] at H
   by_cases c8 : x12_1 < (t237.length : Int)
   ·rw [if_pos c8] at H
    have c8b0 : decide (x12_1 < (t237.length : Int))=true:=decide_eq_true c8
    clear c8
    by_cases c9 : 0≤x12_1
    ·rw [if_pos c9] at H
     have c9b0 : decide (0≤x12_1)=true:=decide_eq_true c9
     clear c9
     by_cases c10 : x12_1 < (t237.length : Int)
     ·rw [if_pos c10] at H
      have c10b0 : decide (x12_1 < (t237.length : Int))=true:=decide_eq_true c10
      clear c10
      by_cases c11 : 0 < ((rd_L4 t237 x12_1).length : Int)
      ·rw [if_pos c11] at H
       have c11b0 : decide (0 < ((rd_L4 t237 x12_1).length : Int))=true:=decide_eq_true c11
       have c11b1 : decide (0 < (rd_L4 t237 x12_1).length)=true:=decide_eq_true (by omega)
       clear c11
       replace H:=Option.bind_eq_some_iff.mp H
       obtain ⟨t242,A120,H⟩:=H
       replace H : (if x5_1.length < 5864062014805 then (grain_Marks.l0 k1 (x5_1 ++ [t242]) t237 (t237.length : Int) (wrap64 (x12_1 + 1)) l0_0 a0_1 a0_2 a0_3) else (none))=some r:=H
       have A12:=Aside0.mk A120
       clear A120
       by_cases c13 : x5_1.length < 5864062014805
       ·rw [if_pos c13] at H
        have LMc13:=Aside0.mk c13
        clear c13
        obtain ⟨y245,hy245⟩ : ∃ y_ : List (List (S45)),y_=(x5_1 ++ [t242]):=⟨_,rfl⟩
        replace H : (grain_Marks.l0 k1 y245 t237 (t237.length : Int) (wrap64 (x12_1 + 1)) l0_0 a0_1 a0_2 a0_3)=some r:=by first|(rw [hy245];with_reducible exact H)|(have H2_:=(Option.bind_some _ _).symm.trans H;rw [hy245];with_reducible exact H2_)|(have H2_:=(Option.bind_some _ _).symm.trans H;with_reducible exact H2_)|with_reducible exact H|(rw [hy245];exact H)|exact H
        have Ny245:=Aside0.mk hy245
        clear hy245
        have H':=Aside0.mk H
        clear H
        have p240 : 0≤(x12_1 : Int):=of_decide_eq_true (by first|(with_reducible assumption)|assumption)
        have q240 : x12_1 < (t237.length : Int):=of_decide_eq_true (by first|(with_reducible assumption)|assumption)
        obtain ⟨ad240,A240_0,c240_0,e240,hx240_0,hl240_0,hi240_0⟩:=at_L4 (Kd.N_reads' HO_10.out).2.2 x12_1 p240 q240
        cases e240
        obtain ⟨ce240,hce240,hMe240,hcc240⟩:=Kd.N_get HO_10.out [] x12_1 p240 (by first|exact q240|exact of_decide_eq_true (by first|(with_reducible assumption)|assumption)|(have e_:=(Kd.N_reads' HO_10.out).1;omega))
        obtain ⟨ua240_0,uc240_0,rfl,ul240_0,ge240_0⟩:=Kd.FK_slice_open hMe240
        have hv240_0:=hcc240 0 _ rfl
        rw [Nat.add_zero,show ((Kd.slice 38 (Kd.slice 45 k45))).sz=1 from rfl,Nat.mul_one] at hv240_0
        replace hv240_0:=Option.some.inj (hv240_0.symm.trans hx240_0)
        injection hv240_0 with hva_ hvn_ hvc_
        rw [hva_] at ge240_0
        rw [hvc_] at ul240_0
        have HL240_0:=Aside0.mk (show Kd.V (Kd.slice 45 k45) 38 _ w.heap.size _ _ (rd_L4 t237 x12_1) from Kd.V_mk ul240_0 ge240_0)
        clear hva_ hvn_ hvc_ ge240_0 ul240_0
        clear hcc240 hce240
        have HR240_0:=Aside0.mk hi240_0
        have HC240_0:=Aside0.mk hl240_0
        clear hi240_0 hl240_0
        replace p240:=eq_true p240
        replace q240:=eq_true q240
        try go_wp2
        have n0_:=Aside0.mk (Kd.N_drew HO_5.out)
        have n1_:=Aside0.mk (Kd.N_drew HO_10.out)
        have n2_:=Aside0.mk (Kd.V_drew HL240_0.out)
        have n3_:=Aside0.mk (blk_drew BK236.out)
        have n4_:=Aside0.mk (Kd.C_drew HR240_0.out)
        have n5_:=Aside0.mk (below_drew1 HB.out)
        clear HO_5
        clear HO_10
        clear HL240_0
        clear BK236
        clear HR240_0
        clear HB
        have HO_5:=n0_
        have HO_10:=n1_
        have HL240_0:=n2_
        have BK236:=n3_
        have HR240_0:=n4_
        have HB:=n5_
        clear n0_ n1_ n2_ n3_ n4_ n5_
        have p241 : 0≤(0 : Int):=(by omega)
        have q241 : 0 < ((rd_L4 t237 x12_1).length : Int):=of_decide_eq_true (by first|(with_reducible assumption)|assumption)
        obtain ⟨ad241,A241_0,c241_0,e241,hx241_0,hl241_0,hi241_0⟩:=at_L3 (by repeat (first|(with_reducible exact HR240_0.out)|(with_reducible refine Kd.C_alloc ?_ _)|(with_reducible refine Kd.C_drewN ?_ _)|(with_reducible refine Kd.C_drew ?_)|exact HR240_0.out)) 0 p241 q241
        cases e241
        obtain ⟨ce241,hce241,hMe241,hcc241⟩:=Kd.V_get HL240_0.out [] 0 p241 (by first|exact q241|exact of_decide_eq_true (by first|(with_reducible assumption)|assumption)|(have e_:=(Kd.V_reads' HL240_0.out).1;omega))
        obtain ⟨ua241_0,uc241_0,rfl,ul241_0,ge241_0⟩:=Kd.FK_slice_open hMe241
        have hv241_0:=hcc241 0 _ rfl
        rw [Nat.add_zero,show ((Kd.slice 45 k45)).sz=1 from rfl,Nat.mul_one] at hv241_0
        replace hv241_0:=Option.some.inj (hv241_0.symm.trans hx241_0)
        injection hv241_0 with hva_ hvn_ hvc_
        rw [hva_] at ge241_0
        rw [hvc_] at ul241_0
        have HL241_0:=Aside0.mk (show Kd.V k45 45 _ w.heap.size _ _ (rd_L3 (rd_L4 t237 x12_1) 0) from Kd.V_mk ul241_0 ge241_0)
        clear hva_ hvn_ hvc_ ge241_0 ul241_0
        clear hcc241 hce241
        have qi241 : (0 < (rd_L4 t237 x12_1).length)=True:=eq_true (by omega)
        (try rw [show ((0 : Int)).toNat=0 from rfl] at hx241_0)
        (try rw [Addr.add_zero'] at hx241_0)
        have HR241_0:=Aside0.mk hi241_0
        have HC241_0:=Aside0.mk hl241_0
        clear hi241_0 hl241_0
        replace p241:=eq_true p241
        replace q241:=eq_true q241
        refine start_ (n:=9) (S:=fun w'=>w'.cell? ⟨gb236,0,none⟩=some (.slice A0_0 l0_0.length c0_0)∧w'.cell? ⟨gb236,1,none⟩=some (.int .i64 a0_1)∧w'.cell? ⟨gb236,2,none⟩=some (.int .i64 a0_2)∧w'.cell? ⟨gb236,3,none⟩=some (.int .i64 a0_3)∧w'.cell? ad241=some (.slice A241_0 (rd_L3 (rd_L4 t237 x12_1) 0).length c241_0)) (ds:=[6,7]) #[false,false,false,false,false,false,false,false,false] (by kernel_rfl) rfl rfl ⟨(blk_cell BK236.out 0).trans rfl,(blk_cell BK236.out 1).trans rfl,(blk_cell BK236.out 2).trans rfl,(blk_cell BK236.out 3).trans rfl,hx241_0⟩ (fun hHeld=>?_);refine with_tabW grain_Marks.tab5 grain_Marks.bits5 (fun HT_ HW_=>?_)
        generalize wr.drew=w14 at HO_5 HO_10 HL240_0 BK236 HR240_0 HB HL241_0 HR241_0 hx241_0 hHeld ⊢
        refine pure_ (i:=0) (N:=some 16) (v:=?_) (a':=?_) #[true,false,false,false,false,false,false,false,false] rfl rfl (any_of HT_.out (by kernel_rfl)) (fun _ _ _ h=>h) (Or.inl ⟨by rfl,?_⟩) ?_ ?_
        rotate_left;(intro w';go_simp;with_reducible rfl);rotate_left;(simp only [Act.put,List.setIfInBounds_toArray,List.set_cons_zero,List.set_cons_succ,i64_w,i32_w];rfl)
        refine pure_ (i:=2) (N:=some 18) (v:=?_) (a':=?_) #[true,false,true,false,false,false,false,false,false] rfl rfl (any_of HT_.out (by kernel_rfl)) (fun _ _ _ h=>h) (Or.inl ⟨by rfl,?_⟩) ?_ ?_
        rotate_left;(intro w';go_simp;with_reducible rfl);rotate_left;(simp only [Act.put,List.setIfInBounds_toArray,List.set_cons_zero,List.set_cons_succ,i64_w,i32_w];rfl)
        refine pure_ (i:=3) (N:=some 19) (v:=?_) (a':=?_) #[true,false,true,true,false,false,false,false,false] rfl rfl (any_of HT_.out (by kernel_rfl)) (fun _ _ _ h=>h) (Or.inl ⟨by rfl,?_⟩) ?_ ?_
        rotate_left;(intro w';go_simp;with_reducible rfl);rotate_left;(simp only [Act.put,List.setIfInBounds_toArray,List.set_cons_zero,List.set_cons_succ,i64_w,i32_w];rfl)
        refine take_ (i:=1) (N:=some 17) (v:=?_) (a':=?_) #[true,true,true,true,false,false,false,false,false] rfl rfl (take_ofW HT_.out HW_.out (by kernel_rfl)) (fun _ _ _ h=>h) (Or.inl ⟨by rfl,?_⟩) hHeld ?_ ?_
        rotate_left;(rintro w' ⟨s0,s1,s2,s3,s4⟩;go_simp;with_reducible rfl);rotate_left;(simp only [Act.put,List.setIfInBounds_toArray,List.set_cons_zero,List.set_cons_succ,i64_w,i32_w];rfl)
        refine take_ (i:=4) (N:=some 20) (v:=?_) (a':=?_) #[true,true,true,true,true,false,false,false,false] rfl rfl (take_ofW HT_.out HW_.out (by kernel_rfl)) (fun _ _ _ h=>h) (Or.inl ⟨by rfl,?_⟩) hHeld ?_ ?_
        rotate_left;(rintro w' ⟨s0,s1,s2,s3,s4⟩;go_simp;with_reducible rfl);rotate_left;(simp only [Act.put,List.setIfInBounds_toArray,List.set_cons_zero,List.set_cons_succ,i64_w,i32_w];rfl)
        refine one_ (i:=5) (N:=some 21) #[true,true,true,true,true,true,false,false,false] rfl rfl (one_of HT_.out (by kernel_rfl)) (by decide) (fun K hK=>?_)
        refine goes_ Try.func23 (by kernel_rfl) rfl #[.agg #[.slice A0_0 l0_0.length c0_0,.int .i64 a0_1,.int .i64 a0_2,.int .i64 a0_3],.slice A241_0 (rd_L3 (rd_L4 t237 x12_1) 0).length c241_0] (by rfl) rfl rfl (by (try simp only [List.map_toArray,List.map_cons,List.map_nil]);first|done|rfl|(simp only [List.length_drop,List.length_take];rfl)) ?_
        with_reducible refine (grain_Key.calls _ _ l0_0 a0_1 a0_2 a0_3 _ _ (rd_L3 (rd_L4 t237 x12_1) 0) t242 _ ?side1 ?side2 ?side3 ?side4 A12.out).mono ?_
        (case side1=>repeat (first|exact (Kd.C_below HR0_0.out HB.out)|(with_reducible refine Kd.C_alloc ?_ _)|(with_reducible refine Kd.C_drewN ?_ _)|(with_reducible refine Kd.C_drew ?_)))
        (case side2=>exact HC0_0.out)
        (case side3=>repeat (first|exact (by repeat (first|(with_reducible exact HR241_0.out)|(with_reducible refine Kd.C_alloc ?_ _)|(with_reducible refine Kd.C_drewN ?_ _)|(with_reducible refine Kd.C_drew ?_)|exact HR241_0.out))|(with_reducible refine Kd.C_alloc ?_ _)|(with_reducible refine Kd.C_drewN ?_ _)|(with_reducible refine Kd.C_drew ?_)))
        (case side4=>exact HC241_0.out)
        rintro e w15 ⟨v243,rfl,ho0,hb⟩
        have HS4_:=(hb.cell (World.block_lt_of_cell? _ _ (hHeld.2.2.2.2))).trans (hHeld.2.2.2.2)
        refine ⟨_,rfl,?_⟩
        have n0_:=Aside0.mk (Kd.N_elder' (N_up HO_5.out) (Kd.R_base ho0) hb)
        have n1_:=Aside0.mk (Kd.N_elder' (N_up HO_10.out) (Kd.R_base ho0) hb)
        have n2_:=Aside0.mk (Kd.V_elder' (by (with_reducible repeat (first|apply Kd.V_alloc|apply Kd.V_drewN|apply Kd.V_drew));exact HL240_0.out) (Kd.R_base ho0) hb)
        have n3_:=Aside0.mk (Kd.V_elder' (by (with_reducible repeat (first|apply Kd.V_alloc|apply Kd.V_drewN|apply Kd.V_drew));exact HL241_0.out) (Kd.R_base ho0) hb)
        have n4_:=Aside0.mk (Kd.R_lower (Kd.R_newM (M:=fun k_=>(w.heap.size≤k_)) ho0 (below_size (by repeat (first|(with_reducible first|exact HB.out|apply below_alloc|apply pw_below_drewN|apply below_drew1|refine below_set ?_ GE236.out)|exact HB.out))) (fun k_ h_=>h_)) (below_size (by repeat (first|(with_reducible first|exact HB.out|apply below_alloc|apply pw_below_drewN|apply below_drew1|refine below_set ?_ GE236.out)|exact HB.out))))
        have n5_:=Aside0.mk (blk_below (g:=gb236) (o:=.cells #[.slice A0_0 l0_0.length c0_0,.int .i64 a0_1,.int .i64 a0_2,.int .i64 a0_3] 29 (0,0)) (blk_up BK236.out) hb)
        have n6_:=Aside0.mk (Kd.C_below (by repeat (first|(with_reducible exact HR240_0.out)|(with_reducible refine Kd.C_alloc ?_ _)|(with_reducible refine Kd.C_drewN ?_ _)|(with_reducible refine Kd.C_drew ?_)|exact HR240_0.out)) hb)
        have n7_:=Aside0.mk (Kd.C_below (by repeat (first|(with_reducible exact HR241_0.out)|(with_reducible refine Kd.C_alloc ?_ _)|(with_reducible refine Kd.C_drewN ?_ _)|(with_reducible refine Kd.C_drew ?_)|exact HR241_0.out)) hb)
        have n8_:=Aside0.mk (below_step (by repeat (first|(with_reducible first|exact HB.out|apply below_alloc|apply pw_below_drewN|apply below_drew1|refine below_set ?_ GE236.out)|exact HB.out)) hb)
        clear HO_5
        clear HO_10
        clear HL240_0
        clear HL241_0
        clear BK236
        clear HR240_0
        clear HR241_0
        clear HB
        have HO_5:=n0_
        have HO_10:=n1_
        have HL240_0:=n2_
        have HL241_0:=n3_
        have HO244:=n4_
        have BK236:=n5_
        have HR240_0:=n6_
        have HR241_0:=n7_
        have HB:=n8_
        clear n0_ n1_ n2_ n3_ n4_ n5_ n6_ n7_ n8_
        (try clear hb)
        (try clear hb2)
        (try clear hk)
        (try clear hi)
        (try clear ho0)
        obtain ⟨Ao17,co17,eo17⟩:=Kd.R_slice HO244.out
        (first|subst eo17|(injection eo17 with f1_ f2_ f3_;have f4_:=f1_.symm;have f5_:=f3_.symm;clear f1_ f2_ f3_;subst f4_;subst f5_))
        refine hK.out _ _ ⟨(blk_cell BK236.out 0).trans rfl,(blk_cell BK236.out 1).trans rfl,(blk_cell BK236.out 2).trans rfl,(blk_cell BK236.out 3).trans rfl,HS4_⟩ (fun hHeld=>?_)
        clear hK K
        refine norm_ (a':=?_) ?_ ?_
        rotate_left
        ·show Act.put _ (some 21) _=_
         simp only [Act.put,List.setIfInBounds_toArray,List.set_cons_zero,List.set_cons_succ,i64_w,i32_w]
         rfl
        refine last_ (i:=6) (N:=some 22) #[true,true,true,true,true,true,true,false,false] rfl rfl (one_of HT_.out (by kernel_rfl)) (by decide) (fun K hK=>?_)
        refine value_ (w1:=?_) (v:=?_) (by rfl) rfl ?_ ?_
        rotate_left 2
        ·go_simp
         constructor
         ·rfl
         ·rfl
        refine hK.out _ _ ?_
        clear hK K
        refine norm_ (a':=?_) ?_ ?_
        rotate_left
        ·show Act.put _ (some 22) _=_
         simp only [Act.put,List.setIfInBounds_toArray,List.set_cons_zero,List.set_cons_succ,i64_w,i32_w]
         rfl
        refine last_ (i:=7) (N:=some 23) #[true,true,true,true,true,true,true,true,false] rfl rfl (one_of HT_.out (by kernel_rfl)) (by decide) (fun K hK=>?_)
        refine Kd.N_append_step (Kd.slice 45 k45) (w0:=w) w.heap.size (by rfl) (.tmp 16) (.tmp 22) 25 38 (.slice none 0 0) 24 rfl Try.underlying25 info38 rfl (by decide) (by omega) u5 x5_1 t242 [.slice Ao17 t242.length co17] (fun k_=>(P1_ k_ ∨ w.heap.size≤k_)∧some k_≠(.slice (some ad240) t237.length co7 : Value).ownBlock∧k_≠gb236) (fun k_=>((fun k_=>(P1_ k_ ∨ w.heap.size≤k_)∧some k_≠(.slice (some ad240) t237.length co7 : Value).ownBlock∧k_≠gb236)) k_∧some k_≠(u5 : Value).ownBlock) rfl rfl ?aP (fun _ hk=>hk) ?aF ?aO ?aB ?aS ?aL ?_
        (case aP=>exact (Kd.FK_slice_mk (Kd.R_reads' (Kd.R_mono (ok':=(fun k_=>((fun k_=>(P1_ k_ ∨ w.heap.size≤k_)∧some k_≠(.slice (some ad240) t237.length co7 : Value).ownBlock∧k_≠gb236)) k_∧some k_≠(u5 : Value).ownBlock)) (Kd.R_types (Kd.R_apart' (Kd.R_apart' (HO244.out) (Kd.N_typed HO_10.out) (by decide)) (Kd.N_typed HO_5.out) (by decide)) BK236.out (by decide)) (fun k_ hk=>⟨⟨(.inr (hk.1.1.1.1)),⟨hk.1.1.2,hk.2⟩⟩,hk.1.2⟩))).2.1 (Kd.R_F (Kd.R_mono (ok':=(fun k_=>((fun k_=>(P1_ k_ ∨ w.heap.size≤k_)∧some k_≠(.slice (some ad240) t237.length co7 : Value).ownBlock∧k_≠gb236)) k_∧some k_≠(u5 : Value).ownBlock)) (Kd.R_types (Kd.R_apart' (Kd.R_apart' (HO244.out) (Kd.N_typed HO_10.out) (by decide)) (Kd.N_typed HO_5.out) (by decide)) BK236.out (by decide)) (fun k_ hk=>⟨⟨(.inr (hk.1.1.1.1)),⟨hk.1.1.2,hk.2⟩⟩,hk.1.2⟩)))))
        (case aB=>exact (by repeat (first|(with_reducible first|exact HB.out|apply below_alloc|apply pw_below_drewN|apply below_drew1|refine below_set ?_ GE236.out)|exact HB.out)))
        (case aF=>exact (fun k_ hk=>⟨(.inr (Nat.le_trans (below_size (by repeat (first|(with_reducible first|exact HB.out|apply below_alloc|apply pw_below_drewN|apply below_drew1|refine below_set ?_ GE236.out)|exact HB.out))) hk)),Kd.fresh' (Kd.N_lt (N_up HO_10.out)) k_ hk,Kd.freshB (g:=gb236) (o:=.cells #[.slice A0_0 l0_0.length c0_0,.int .i64 a0_1,.int .i64 a0_2,.int .i64 a0_3] 29 (0,0)) (blk_up BK236.out) k_ hk⟩))
        (case aO=>exact (by (with_reducible repeat (first|apply Kd.N_alloc|apply Kd.N_drewN|apply Kd.N_drew));exact Kd.N_mono HO_5.out (fun _ hk=>⟨hk.1.1,⟨hk.1.2.1,hk.1.2.2⟩⟩)))
        (case aS=>exact (below_size (by repeat (first|(with_reducible first|exact HB.out|apply below_alloc|apply pw_below_drewN|apply below_drew1|refine below_set ?_ GE236.out)|exact HB.out))))
        (case aL=>have:=LMc13.out;omega)
        intro v246 w16 ho hb hg hat
        rw [← Ny245.out] at ho
        have n0_:=Aside0.mk (Kd.N_afterv (ok:=(fun k_=>(P1_ k_ ∨ w.heap.size≤k_)∧some k_≠(.slice Ao17 t242.length co17 : Value).ownBlock∧k_≠gb236)) (by (with_reducible repeat (first|apply Kd.N_alloc|apply Kd.N_drewN|apply Kd.N_drew));exact Kd.N_mono HO_10.out (fun _ hk=>⟨⟨hk.1.1,⟨hk.2,hk.1.2.2⟩⟩,hk.1.2.1⟩)) hg hat)
        have n1_:=Aside0.mk (blk_grown (g:=gb236) (o:=.cells #[.slice A0_0 l0_0.length c0_0,.int .i64 a0_1,.int .i64 a0_2,.int .i64 a0_3] 29 (0,0)) (blk_up BK236.out) hg (Kd.N_ne HO_5.out BK236.out (by decide)))
        have n2_:=Aside0.mk (Kd.V_afterv (ok:=(fun k_=>(P1_ k_ ∨ w.heap.size≤k_)∧some k_≠(.slice (some ad240) t237.length co7 : Value).ownBlock∧some k_≠(.slice Ao17 t242.length co17 : Value).ownBlock∧k_≠gb236)) (by (with_reducible repeat (first|apply Kd.V_alloc|apply Kd.V_drewN|apply Kd.V_drew));exact Kd.V_mono HL240_0.out (fun _ hk=>⟨⟨hk.1.1.1,⟨hk.1.2,⟨hk.2,hk.1.1.2.2⟩⟩⟩,hk.1.1.2.1⟩)) hg hat)
        have n3_:=Aside0.mk (Kd.V_afterv (ok:=(fun k_=>(P1_ k_ ∨ w.heap.size≤k_)∧some k_≠(.slice (some ad240) t237.length co7 : Value).ownBlock∧some k_≠(.slice Ao17 t242.length co17 : Value).ownBlock∧k_≠gb236)) (by (with_reducible repeat (first|apply Kd.V_alloc|apply Kd.V_drewN|apply Kd.V_drew));exact Kd.V_mono HL241_0.out (fun _ hk=>⟨⟨hk.1.1.1,⟨hk.1.2,⟨hk.2,hk.1.1.2.2⟩⟩⟩,hk.1.1.2.1⟩)) hg hat)
        have n4_:=Aside0.mk (hb)
        have n5_:=Aside0.mk (ho)
        clear HO_10
        clear BK236
        clear HL240_0
        clear HL241_0
        clear HB
        clear HO_5
        clear HO244
        have HO_10:=n0_
        have BK236:=n1_
        have HL240_0:=n2_
        have HL241_0:=n3_
        have HB:=n4_
        have HO247:=n5_
        clear n0_ n1_ n2_ n3_ n4_ n5_
        clear ho hb hg hat
        refine hK.out _ _ ?_
        clear hK K
        refine norm_ (a':=?_) ?_ ?_
        rotate_left
        ·show Act.put _ (some 23) _=_
         simp only [Act.put,List.setIfInBounds_toArray,List.set_cons_zero,List.set_cons_succ,i64_w,i32_w]
         rfl
        refine pure_ (i:=8) (N:=some 5) (v:=?_) (a':=?_) #[true,true,true,true,true,true,true,true,true] rfl rfl (any_of HT_.out (by kernel_rfl)) (fun _ _ _ h=>h) (Or.inl ⟨by rfl,?_⟩) ?_ ?_
        rotate_left;(intro w';go_simp;with_reducible rfl);rotate_left;(simp only [Act.put,List.setIfInBounds_toArray,List.set_cons_zero,List.set_cons_succ,i64_w,i32_w];rfl)
        refine done_ (done_of HT_.out (by kernel_rfl)) ?_
        (try clear HS4_);(try clear hHeld)
        try go_wp2
        go_roundg k1
        case measure=>have:=HK1.out;omega
        case rel=>exact ⟨(y245),(wrap64 (x12_1 + 1)),(by first|rfl|(simp;done)|(simp [*];done)),(by first|exact H'|(subst_vars;exact H')),⟨by have:=HK1.out;omega⟩,⟨by (with_reducible repeat (first|apply Kd.N_alloc|apply Kd.N_drewN|apply Kd.N_drew));exact HO247.out⟩,⟨by (with_reducible repeat (first|apply Kd.N_alloc|apply Kd.N_drewN|apply Kd.N_drew));exact Kd.N_mono HO_10.out (fun _ hk=>⟨hk.1.1,⟨hk.2,hk.1.2.2⟩⟩)⟩,⟨by (with_reducible repeat (first|refine blk_drewN ?_ _|refine blk_drew ?_|refine blk_alloc ?_ _));exact BK236.out⟩,⟨by repeat (first|(with_reducible first|exact HB.out|apply below_alloc|apply pw_below_drewN|apply below_drew1|refine below_set ?_ GE236.out)|exact HB.out)⟩⟩
       ·rw [if_neg c13] at H
        exact absurd H (by simp)
      ·rw [if_neg c11] at H
       exact absurd H (by simp)
     ·rw [if_neg c10] at H
      exact absurd H (by simp)
    ·rw [if_neg c9] at H
     exact absurd H (by simp)
   ·rw [if_neg c8] at H
    have c8b0 : decide (x12_1 < (t237.length : Int))=false:=decide_eq_false c8
    clear c8
    obtain rfl:=Option.some.inj H
    go_wp2
    go_ret
    exact ⟨_,by first|rfl|(simp [errW_none,errW_some] <;> rfl)|(simp [*,errW_none,errW_some] <;> rfl),by (with_reducible repeat (first|apply Kd.N_alloc|apply Kd.N_drewN|apply Kd.N_drew));exact Kd.N_mono HO_5.out (fun _ hk=>hk.1),by repeat (first|(with_reducible first|exact HB.out|apply below_alloc|apply pw_below_drewN|apply below_drew1|refine below_set ?_ GE236.out)|exact HB.out)⟩
def thresherref09_Sorted.l0 : Nat→List (List (S45))→Int→List Int→Int→Int→Int→Option (Bool)
 | 0,_,_,_,_,_,_=>none
 | k + 1,x1,x5,x249000,x249001,x249002,x249003=>if x5 < (x1.length : Int) then (if 0≤(wrap64 (x5 - 1)) then (if (wrap64 (x5 - 1)) < (x1.length : Int) then (if 0≤x5 then ((thresherref04_Compare.f k x249000 x249001 x249002 x249003 (rd_L3 x1 (wrap64 (x5 - 1))) (rd_L3 x1 x5)).bind fun t251=>(if t251 > 0 then (some false) else (thresherref09_Sorted.l0 k x1 (wrap64 (x5 + 1)) x249000 x249001 x249002 x249003))) else (none)) else (none)) else (none)) else (some true)
def thresherref09_Sorted.f (k : Nat) (l0_0 : List Int) (a0_1 : Int) (a0_2 : Int) (a0_3 : Int) (l1 : List (List (S45))) : Option (Bool):=thresherref09_Sorted.l0 k l1 1 l0_0 a0_1 a0_2 a0_3
theorem thresherref09_Sorted.mono_l : ∀ k,(∀ y0 y1 y2 y3 y4 y5,LeO (thresherref09_Sorted.l0 k y0 y1 y2 y3 y4 y5) (thresherref09_Sorted.l0 (k + 1) y0 y1 y2 y3 y4 y5))
 | 0=>fun _ _ _ _ _ _ r h=>by simp [thresherref09_Sorted.l0] at h
 | k + 1=>by
  have ih0:=thresherref09_Sorted.mono_l k
  ·intro y0 y1 y2 y3 y4 y5
   unfold thresherref09_Sorted.l0
   repeat' first
   | (with_reducible exact ih0 _ _ _ _ _ _)
   | (with_reducible exact thresherref04_Compare.mono _ _ _ _ _ _ _)
   | (with_reducible exact LeO.refl _)
   | (with_reducible exact LeO.none _)
   | (with_reducible refine LeO.ite ?_ ?_)
   | (with_reducible refine LeO.bind ?_ (fun _=>?_))
   | exact ih0 _ _ _ _ _ _
   | exact thresherref04_Compare.mono _ _ _ _ _ _ _
   | exact LeO.none _
   | refine LeO.ite ?_ ?_
   | refine LeO.bind ?_ (fun _=>?_)
theorem thresherref09_Sorted.mono : ∀ a0 a1 a2 a3 a4 k,LeO (thresherref09_Sorted.f k a0 a1 a2 a3 a4) (thresherref09_Sorted.f (k + 1) a0 a1 a2 a3 a4):=by
 intro a0 a1 a2 a3 a4 k
 have ih0:=thresherref09_Sorted.mono_l k
 unfold thresherref09_Sorted.f
 repeat' first
   | (with_reducible exact ih0 _ _ _ _ _ _)
   | (with_reducible exact thresherref04_Compare.mono _ _ _ _ _ _ _)
   | (with_reducible exact LeO.refl _)
   | (with_reducible exact LeO.none _)
   | (with_reducible refine LeO.ite ?_ ?_)
   | (with_reducible refine LeO.bind ?_ (fun _=>?_))
   | exact ih0 _ _ _ _ _ _
   | exact thresherref04_Compare.mono _ _ _ _ _ _ _
   | exact LeO.none _
   | refine LeO.ite ?_ ?_
   | refine LeO.bind ?_ (fun _=>?_)
def thresherref09_Sorted.T4 : Bool × List (List Nat × List Nat):=(true,[([],[]),([],[]),([],[]),([2],[2]),([1,3],[1,3]),([4],[4]),([],[]),([],[]),([6,7],[6,7]),([8],[8]),([0,5,9],[0,5,9]),([10],[10])])
def thresherref09_Sorted.B4 : List Nat:=[0,0,0,4,14,30,0,0,192,448,1023,2047]
theorem thresherref09_Sorted.tab4 : rtab .any (opsOf Try.f13 4)=thresherref09_Sorted.T4:=by kernel_rfl
theorem thresherref09_Sorted.bits4 : waitsOk thresherref09_Sorted.T4.2 thresherref09_Sorted.B4=true:=by kernel_rfl
set_option maxHeartbeats 8000000 in
set_option maxRecDepth 100000 in
theorem thresherref09_Sorted.calls (k : Nat) (A0_0 : Option Addr) (c0_0 : Nat) (l0_0 : List Int) (a0_1 : Int) (a0_2 : Int) (a0_3 : Int) (A1 : Option Addr) (c1 : Nat) (l1 : List (List (S45))) (r : Bool) (w : World) (hr0_0 : Kd.C (Kd.int .i64) w A0_0 l0_0.length l0_0) (hc0_0 : l0_0.length≤c0_0) (hr1 : Kd.C (Kd.slice 45 k45) w A1 l1.length l1) (hc1 : l1.length≤c1) (h : thresherref09_Sorted.f k l0_0 a0_1 a0_2 a0_3 l1=some r) :
  Calls Try.prog 13 #[.agg #[.slice A0_0 l0_0.length c0_0,.int .i64 a0_1,.int .i64 a0_2,.int .i64 a0_3],.slice A1 l1.length c1] w fun e w'=>e=.returned (.bool r)∧Below w.heap.size w w':=by
 have hu29:=Try.underlying29
 have HR0_0:=Aside0.mk hr0_0
 have HC0_0:=Aside0.mk hc0_0
 clear hr0_0 hc0_0
 have HR1:=Aside0.mk hr1
 have HC1:=Aside0.mk hc1
 clear hr1 hc1
 have HB:=Aside0.mk (Below.refl w.heap.size w)
 have H : (thresherref09_Sorted.l0 k l1 1 l0_0 a0_1 a0_2 a0_3)=some r:=h
 clear h
 have H':=Aside0.mk H
 clear H
 go_enter Try.func13,Try.ntmps13
 go_wp2_with (first|((with_reducible refine gate_dst (N:=2) rfl ?_);refine box_event ?hg (N:=2) ?hd (cs:=#[.slice A0_0 l0_0.length c0_0,.int .i64 a0_1,.int .i64 a0_2,.int .i64 a0_3]) (t:=29) ?hr ?_;(case hd=>rfl);(case hg=>rfl);(case hr=>first|(go_simp;done)|(go_simp;rfl));intro gb248 hg w3 hbox hb;have n0_:=Aside0.mk (below_step (below_up HB.out) hb);have n1_:=Aside0.mk (hbox);have n2_:=Aside0.mk ((by rw [hg];exact (below_size (below_up HB.out)) : w.heap.size≤gb248));have n3_:=Aside0.mk ((by rw [hg];exact (below_size (below_up HB.out)) : w.heap.size≤gb248));clear HB;have HB:=n0_;have BK248:=n1_;have GW248:=n2_;have GE248:=n3_;clear n0_ n1_ n2_ n3_;clear hb hbox hg))
 go_loopg [5] k (fun kq v5 w'=>∃ (x5_1 : Int),v5=.int .i64 x5_1∧Aside0 (thresherref09_Sorted.l0 kq l1 x5_1 l0_0 a0_1 a0_2 a0_3=some r)∧Aside0 (kq≤k)∧Aside0 (w'.heap[gb248]?=some (.cells #[(.slice A0_0 l0_0.length c0_0),.int .i64 a0_1,.int .i64 a0_2,.int .i64 a0_3] 29 (0,0)))∧Aside0 (Below w.heap.size w w'))
 case atStart=>exact ⟨(1),(by first|rfl|(simp;done)|(simp [*];done)),H',⟨Nat.le_refl _⟩,⟨by (with_reducible repeat (first|refine blk_drewN ?_ _|refine blk_drew ?_|refine blk_alloc ?_ _));exact BK248.out⟩,⟨by repeat (first|(with_reducible first|exact HB.out|apply below_alloc|apply pw_below_drewN|apply below_drew1|refine below_set ?_ GE248.out)|exact HB.out)⟩⟩
 case round =>
  clear H'
  try clear c1
  try clear p2
  obtain ⟨x5_1,rfl,HA,HK1,BK248,HB⟩:=hrel
  cases gk with
  | zero=>exact absurd HA.out (by simp [thresherref09_Sorted.l0])
  | succ k1 =>
   have H:=HA.out
   clear HA
   simp only [thresherref09_Sorted.l0] at H
   by_cases c4 : x5_1 < (l1.length : Int)
   ·rw [if_pos c4] at H
    have c4b0 : decide (x5_1 < (l1.length : Int))=true:=decide_eq_true c4
    clear c4
    obtain ⟨ji5,hji5⟩ : ∃ j_ : Int,(wrap64 (x5_1 - 1))=j_:=⟨_,rfl⟩
    replace H : (if 0≤(ji5) then (if (ji5) < (l1.length : Int) then (if 0≤x5_1 then ((thresherref04_Compare.f k1 l0_0 a0_1 a0_2 a0_3 (rd_L3 l1 (ji5)) (rd_L3 l1 x5_1)).bind fun t251=>(if t251 > 0 then (some false) else (thresherref09_Sorted.l0 k1 l1 (wrap64 (x5_1 + 1)) l0_0 a0_1 a0_2 a0_3))) else (none)) else (none)) else (none))=some r:=by first|(rw [hji5] at H;exact H)|(simp only [hji5] at H ⊢;exact H)
    have hji5w : (IntKind.i64.wrap (x5_1 - 1))=ji5:=(i64_w _).trans hji5
    by_cases c6 : 0≤(ji5)
    ·rw [if_pos c6] at H
     have c6b0 : decide (0≤(ji5))=true:=decide_eq_true c6
     clear c6
     by_cases c7 : (ji5) < (l1.length : Int)
     ·rw [if_pos c7] at H
      have c7b0 : decide ((ji5) < (l1.length : Int))=true:=decide_eq_true c7
      clear c7
      by_cases c8 : 0≤x5_1
      ·rw [if_pos c8] at H
       have c8b0 : decide (0≤x5_1)=true:=decide_eq_true c8
       clear c8
       replace H:=Option.bind_eq_some_iff.mp H
       obtain ⟨t251,A90,H⟩:=H
       replace H : (if t251 > 0 then (some false) else (thresherref09_Sorted.l0 k1 l1 (wrap64 (x5_1 + 1)) l0_0 a0_1 a0_2 a0_3))=some r:=H
       have A9:=Aside0.mk A90
       clear A90
       by_cases c10 : t251 > 0
       ·rw [if_pos c10] at H
        have c10b0 : decide (0 < t251)=true:=decide_eq_true c10
        clear c10
        obtain rfl:=Option.some.inj H
        try go_wp2
        have n0_:=Aside0.mk (blk_drew BK248.out)
        have n1_:=Aside0.mk (below_drew1 HB.out)
        clear BK248
        clear HB
        have BK248:=n0_
        have HB:=n1_
        clear n0_ n1_
        have p249 : 0≤((ji5) : Int):=of_decide_eq_true (by first|(with_reducible assumption)|assumption)
        have q249 : (ji5) < (l1.length : Int):=of_decide_eq_true (by first|(with_reducible assumption)|assumption)
        obtain ⟨ad249,A249_0,c249_0,e249,hx249_0,hl249_0,hi249_0⟩:=at_L3 HR1.out (ji5) p249 q249
        have hw249_0:=hx249_0
        cases e249
        replace hx249_0:=(HB.out.cell (World.block_lt_of_cell? w _ hx249_0)).trans hx249_0
        have HR249_0:=Aside0.mk hi249_0
        have HC249_0:=Aside0.mk hl249_0
        clear hi249_0 hl249_0
        replace p249:=eq_true p249
        replace q249:=eq_true q249
        have p250 : 0≤(x5_1 : Int):=of_decide_eq_true (by first|(with_reducible assumption)|assumption)
        have q250 : x5_1 < (l1.length : Int):=of_decide_eq_true (by first|(with_reducible assumption)|assumption)
        obtain ⟨ad250,A250_0,c250_0,e250,hx250_0,hl250_0,hi250_0⟩:=at_L3 HR1.out x5_1 p250 q250
        have hw250_0:=hx250_0
        obtain rfl : ad249=ad250:=(by injection e250)
        replace hx250_0:=(HB.out.cell (World.block_lt_of_cell? w _ hx250_0)).trans hx250_0
        have HR250_0:=Aside0.mk hi250_0
        have HC250_0:=Aside0.mk hl250_0
        clear hi250_0 hl250_0
        replace p250:=eq_true p250
        replace q250:=eq_true q250
        refine start_ (n:=12) (S:=fun w'=>w'.cell? ⟨gb248,0,none⟩=some (.slice A0_0 l0_0.length c0_0)∧w'.cell? ⟨gb248,1,none⟩=some (.int .i64 a0_1)∧w'.cell? ⟨gb248,2,none⟩=some (.int .i64 a0_2)∧w'.cell? ⟨gb248,3,none⟩=some (.int .i64 a0_3)∧w'.cell? (ad249.add ((ji5)).toNat)=some (.slice A249_0 (rd_L3 l1 (ji5)).length c249_0)∧w'.cell? (ad249.add (x5_1).toNat)=some (.slice A250_0 (rd_L3 l1 x5_1).length c250_0)) (ds:=[]) #[false,false,false,false,false,false,false,false,false,false,false,false] (by kernel_rfl) rfl rfl ⟨(blk_cell BK248.out 0).trans rfl,(blk_cell BK248.out 1).trans rfl,(blk_cell BK248.out 2).trans rfl,(blk_cell BK248.out 3).trans rfl,((HB.out.cell (World.block_lt_of_cell? w _ hw249_0)).trans hw249_0),((HB.out.cell (World.block_lt_of_cell? w _ hw250_0)).trans hw250_0)⟩ (fun hHeld=>?_);refine with_tabW thresherref09_Sorted.tab4 thresherref09_Sorted.bits4 (fun HT_ HW_=>?_)
        generalize wr.drew=w11 at BK248 HB HR249_0 HR250_0 hx249_0 hx250_0 hHeld ⊢
        refine pure_ (i:=1) (N:=some 13) (v:=?_) (a':=?_) #[false,true,false,false,false,false,false,false,false,false,false,false] rfl rfl (any_of HT_.out (by kernel_rfl)) (fun _ _ _ h=>h) (Or.inl ⟨by rfl,?_⟩) ?_ ?_
        rotate_left;(intro w';go_simp;with_reducible rfl);rotate_left;(simp only [Act.put,List.setIfInBounds_toArray,List.set_cons_zero,List.set_cons_succ,i64_w,i32_w];rfl)
        refine pure_ (i:=2) (N:=some 14) (v:=?_) (a':=?_) #[false,true,true,false,false,false,false,false,false,false,false,false] rfl rfl (any_of HT_.out (by kernel_rfl)) (fun _ _ _ h=>h) (Or.inl ⟨by rfl,?_⟩) ?_ ?_
        rotate_left;(intro w';go_simp;with_reducible rfl);rotate_left;(simp only [Act.put,List.setIfInBounds_toArray,List.set_cons_zero,List.set_cons_succ,i64_w,i32_w];rfl)
        refine pure_ (i:=3) (N:=some 15) (v:=?_) (a':=?_) #[false,true,true,true,false,false,false,false,false,false,false,false] rfl rfl (any_of HT_.out (by kernel_rfl)) (fun _ _ _ h=>h) (Or.inl ⟨by rfl,?_⟩) ?_ ?_
        rotate_left;(intro w';go_simp;with_reducible rfl);rotate_left;(simp only [Act.put,List.setIfInBounds_toArray,List.set_cons_zero,List.set_cons_succ,i64_w,i32_w];rfl)
        refine pure_ (i:=4) (N:=some 16) (v:=?_) (a':=?_) #[false,true,true,true,true,false,false,false,false,false,false,false] rfl rfl (any_of HT_.out (by kernel_rfl)) (fun _ _ _ h=>h) (Or.inl ⟨by rfl,?_⟩) ?_ ?_
        rotate_left;(intro w';go_simp;with_reducible rfl);rotate_left;(simp only [Act.put,List.setIfInBounds_toArray,List.set_cons_zero,List.set_cons_succ,i64_w,i32_w];rfl)
        refine pure_ (i:=6) (N:=some 18) (v:=?_) (a':=?_) #[false,true,true,true,true,false,true,false,false,false,false,false] rfl rfl (any_of HT_.out (by kernel_rfl)) (fun _ _ _ h=>h) (Or.inl ⟨by rfl,?_⟩) ?_ ?_
        rotate_left;(intro w';go_simp;with_reducible rfl);rotate_left;(simp only [Act.put,List.setIfInBounds_toArray,List.set_cons_zero,List.set_cons_succ,i64_w,i32_w];rfl)
        refine pure_ (i:=7) (N:=some 19) (v:=?_) (a':=?_) #[false,true,true,true,true,false,true,true,false,false,false,false] rfl rfl (any_of HT_.out (by kernel_rfl)) (fun _ _ _ h=>h) (Or.inl ⟨by rfl,?_⟩) ?_ ?_
        rotate_left;(intro w';go_simp;with_reducible rfl);rotate_left;(simp only [Act.put,List.setIfInBounds_toArray,List.set_cons_zero,List.set_cons_succ,i64_w,i32_w];rfl)
        refine pure_ (i:=8) (N:=some 20) (v:=?_) (a':=?_) #[false,true,true,true,true,false,true,true,true,false,false,false] rfl rfl (any_of HT_.out (by kernel_rfl)) (fun _ _ _ h=>h) (Or.inl ⟨by rfl,?_⟩) ?_ ?_
        rotate_left;(intro w';go_simp;with_reducible rfl);rotate_left;(simp only [Act.put,List.setIfInBounds_toArray,List.set_cons_zero,List.set_cons_succ,i64_w,i32_w];rfl)
        refine take_ (i:=0) (N:=some 12) (v:=?_) (a':=?_) #[true,true,true,true,true,false,true,true,true,false,false,false] rfl rfl (take_ofW HT_.out HW_.out (by kernel_rfl)) (fun _ _ _ h=>h) (Or.inl ⟨by rfl,?_⟩) hHeld ?_ ?_
        rotate_left;(rintro w' ⟨s0,s1,s2,s3,s4,s5⟩;go_simp;with_reducible rfl);rotate_left;(simp only [Act.put,List.setIfInBounds_toArray,List.set_cons_zero,List.set_cons_succ,i64_w,i32_w];rfl)
        refine take_ (i:=5) (N:=some 17) (v:=?_) (a':=?_) #[true,true,true,true,true,true,true,true,true,false,false,false] rfl rfl (take_ofW HT_.out HW_.out (by kernel_rfl)) (fun _ _ _ h=>h) (Or.inl ⟨by rfl,?_⟩) hHeld ?_ ?_
        rotate_left;(rintro w' ⟨s0,s1,s2,s3,s4,s5⟩;go_simp;with_reducible rfl);rotate_left;(simp only [Act.put,List.setIfInBounds_toArray,List.set_cons_zero,List.set_cons_succ,i64_w,i32_w];rfl)
        refine take_ (i:=9) (N:=some 21) (v:=?_) (a':=?_) #[true,true,true,true,true,true,true,true,true,true,false,false] rfl rfl (take_ofW HT_.out HW_.out (by kernel_rfl)) (fun _ _ _ h=>h) (Or.inl ⟨by rfl,?_⟩) hHeld ?_ ?_
        rotate_left;(rintro w' ⟨s0,s1,s2,s3,s4,s5⟩;go_simp;with_reducible rfl);rotate_left;(simp only [Act.put,List.setIfInBounds_toArray,List.set_cons_zero,List.set_cons_succ,i64_w,i32_w];rfl)
        refine one_ (i:=10) (N:=some 22) #[true,true,true,true,true,true,true,true,true,true,true,false] rfl rfl (one_of HT_.out (by kernel_rfl)) (by decide) (fun K hK=>?_)
        refine goes_ Try.func14 (by kernel_rfl) rfl #[.agg #[.slice A0_0 l0_0.length c0_0,.int .i64 a0_1,.int .i64 a0_2,.int .i64 a0_3],.slice A249_0 (rd_L3 l1 (ji5)).length c249_0,.slice A250_0 (rd_L3 l1 x5_1).length c250_0] (by rfl) rfl rfl (by (try simp only [List.map_toArray,List.map_cons,List.map_nil]);first|done|(simp only [hji5];rfl)|rfl|(simp only [List.length_drop,List.length_take];rfl)) ?_
        with_reducible refine (thresherref04_Compare.calls k1 _ _ l0_0 a0_1 a0_2 a0_3 _ _ (rd_L3 l1 (ji5)) _ _ (rd_L3 l1 x5_1) t251 _ ?side1 ?side2 ?side3 ?side4 ?side5 ?side6 A9.out).mono ?_
        (case side1=>repeat (first|exact (Kd.C_below HR0_0.out HB.out)|(with_reducible refine Kd.C_alloc ?_ _)|(with_reducible refine Kd.C_drewN ?_ _)|(with_reducible refine Kd.C_drew ?_)))
        (case side2=>exact HC0_0.out)
        (case side3=>repeat (first|exact (Kd.C_below HR249_0.out HB.out)|(with_reducible refine Kd.C_alloc ?_ _)|(with_reducible refine Kd.C_drewN ?_ _)|(with_reducible refine Kd.C_drew ?_)))
        (case side4=>exact HC249_0.out)
        (case side5=>repeat (first|exact (Kd.C_below HR250_0.out HB.out)|(with_reducible refine Kd.C_alloc ?_ _)|(with_reducible refine Kd.C_drewN ?_ _)|(with_reducible refine Kd.C_drew ?_)))
        (case side6=>exact HC250_0.out)
        rintro e w12 ⟨rfl,hb⟩
        refine ⟨_,rfl,?_⟩
        have n0_:=Aside0.mk (blk_below (g:=gb248) (o:=.cells #[.slice A0_0 l0_0.length c0_0,.int .i64 a0_1,.int .i64 a0_2,.int .i64 a0_3] 29 (0,0)) (blk_up BK248.out) hb)
        have n1_:=Aside0.mk (below_step (by repeat (first|(with_reducible first|exact HB.out|apply below_alloc|apply pw_below_drewN|apply below_drew1|refine below_set ?_ GE248.out)|exact HB.out)) hb)
        clear BK248
        clear HB
        have BK248:=n0_
        have HB:=n1_
        clear n0_ n1_
        (try clear hb)
        (try clear hb2)
        (try clear hk)
        (try clear hi)
        refine hK.out _ _ ⟨(blk_cell BK248.out 0).trans rfl,(blk_cell BK248.out 1).trans rfl,(blk_cell BK248.out 2).trans rfl,(blk_cell BK248.out 3).trans rfl,((HB.out.cell (World.block_lt_of_cell? w _ hw249_0)).trans hw249_0),((HB.out.cell (World.block_lt_of_cell? w _ hw250_0)).trans hw250_0)⟩ (fun hHeld=>?_)
        clear hK K
        refine norm_ (a':=?_) ?_ ?_
        rotate_left
        ·show Act.put _ (some 22) _=_
         simp only [Act.put,List.setIfInBounds_toArray,List.set_cons_zero,List.set_cons_succ,i64_w,i32_w]
         rfl
        refine pure_ (i:=11) (N:=some 23) (v:=?_) (a':=?_) #[true,true,true,true,true,true,true,true,true,true,true,true] rfl rfl (any_of HT_.out (by kernel_rfl)) (fun _ _ _ h=>h) (Or.inl ⟨by rfl,?_⟩) ?_ ?_
        rotate_left;(intro w';go_simp;with_reducible rfl);rotate_left;(simp only [Act.put,List.setIfInBounds_toArray,List.set_cons_zero,List.set_cons_succ,i64_w,i32_w];rfl)
        refine done_ (done_of HT_.out (by kernel_rfl)) ?_
        (try clear hHeld)
        try go_wp2
        go_ret
        exact ⟨by first|rfl|(simp [errW_none,errW_some] <;> rfl)|(simp only [← hji5];first|rfl|(simp [errW_none,errW_some] <;> rfl))|(simp [*,errW_none,errW_some] <;> rfl),by repeat (first|(with_reducible first|exact HB.out|apply below_alloc|apply pw_below_drewN|apply below_drew1|refine below_set ?_ GE248.out)|exact HB.out)⟩
       ·rw [if_neg c10] at H
        have c10b0 : decide (0 < t251)=false:=decide_eq_false c10
        clear c10
        have H':=Aside0.mk H
        clear H
        try go_wp2
        have n0_:=Aside0.mk (blk_drew BK248.out)
        have n1_:=Aside0.mk (below_drew1 HB.out)
        clear BK248
        clear HB
        have BK248:=n0_
        have HB:=n1_
        clear n0_ n1_
        have p249 : 0≤((ji5) : Int):=of_decide_eq_true (by first|(with_reducible assumption)|assumption)
        have q249 : (ji5) < (l1.length : Int):=of_decide_eq_true (by first|(with_reducible assumption)|assumption)
        obtain ⟨ad249,A249_0,c249_0,e249,hx249_0,hl249_0,hi249_0⟩:=at_L3 HR1.out (ji5) p249 q249
        have hw249_0:=hx249_0
        cases e249
        replace hx249_0:=(HB.out.cell (World.block_lt_of_cell? w _ hx249_0)).trans hx249_0
        have HR249_0:=Aside0.mk hi249_0
        have HC249_0:=Aside0.mk hl249_0
        clear hi249_0 hl249_0
        replace p249:=eq_true p249
        replace q249:=eq_true q249
        have p250 : 0≤(x5_1 : Int):=of_decide_eq_true (by first|(with_reducible assumption)|assumption)
        have q250 : x5_1 < (l1.length : Int):=of_decide_eq_true (by first|(with_reducible assumption)|assumption)
        obtain ⟨ad250,A250_0,c250_0,e250,hx250_0,hl250_0,hi250_0⟩:=at_L3 HR1.out x5_1 p250 q250
        have hw250_0:=hx250_0
        obtain rfl : ad249=ad250:=(by injection e250)
        replace hx250_0:=(HB.out.cell (World.block_lt_of_cell? w _ hx250_0)).trans hx250_0
        have HR250_0:=Aside0.mk hi250_0
        have HC250_0:=Aside0.mk hl250_0
        clear hi250_0 hl250_0
        replace p250:=eq_true p250
        replace q250:=eq_true q250
        refine start_ (n:=12) (S:=fun w'=>w'.cell? ⟨gb248,0,none⟩=some (.slice A0_0 l0_0.length c0_0)∧w'.cell? ⟨gb248,1,none⟩=some (.int .i64 a0_1)∧w'.cell? ⟨gb248,2,none⟩=some (.int .i64 a0_2)∧w'.cell? ⟨gb248,3,none⟩=some (.int .i64 a0_3)∧w'.cell? (ad249.add ((ji5)).toNat)=some (.slice A249_0 (rd_L3 l1 (ji5)).length c249_0)∧w'.cell? (ad249.add (x5_1).toNat)=some (.slice A250_0 (rd_L3 l1 x5_1).length c250_0)) (ds:=[]) #[false,false,false,false,false,false,false,false,false,false,false,false] (by kernel_rfl) rfl rfl ⟨(blk_cell BK248.out 0).trans rfl,(blk_cell BK248.out 1).trans rfl,(blk_cell BK248.out 2).trans rfl,(blk_cell BK248.out 3).trans rfl,((HB.out.cell (World.block_lt_of_cell? w _ hw249_0)).trans hw249_0),((HB.out.cell (World.block_lt_of_cell? w _ hw250_0)).trans hw250_0)⟩ (fun hHeld=>?_);refine with_tabW thresherref09_Sorted.tab4 thresherref09_Sorted.bits4 (fun HT_ HW_=>?_)
        generalize wr.drew=w13 at BK248 HB HR249_0 HR250_0 hx249_0 hx250_0 hHeld ⊢
        refine pure_ (i:=1) (N:=some 13) (v:=?_) (a':=?_) #[false,true,false,false,false,false,false,false,false,false,false,false] rfl rfl (any_of HT_.out (by kernel_rfl)) (fun _ _ _ h=>h) (Or.inl ⟨by rfl,?_⟩) ?_ ?_
        rotate_left;(intro w';go_simp;with_reducible rfl);rotate_left;(simp only [Act.put,List.setIfInBounds_toArray,List.set_cons_zero,List.set_cons_succ,i64_w,i32_w];rfl)
        refine pure_ (i:=2) (N:=some 14) (v:=?_) (a':=?_) #[false,true,true,false,false,false,false,false,false,false,false,false] rfl rfl (any_of HT_.out (by kernel_rfl)) (fun _ _ _ h=>h) (Or.inl ⟨by rfl,?_⟩) ?_ ?_
        rotate_left;(intro w';go_simp;with_reducible rfl);rotate_left;(simp only [Act.put,List.setIfInBounds_toArray,List.set_cons_zero,List.set_cons_succ,i64_w,i32_w];rfl)
        refine pure_ (i:=3) (N:=some 15) (v:=?_) (a':=?_) #[false,true,true,true,false,false,false,false,false,false,false,false] rfl rfl (any_of HT_.out (by kernel_rfl)) (fun _ _ _ h=>h) (Or.inl ⟨by rfl,?_⟩) ?_ ?_
        rotate_left;(intro w';go_simp;with_reducible rfl);rotate_left;(simp only [Act.put,List.setIfInBounds_toArray,List.set_cons_zero,List.set_cons_succ,i64_w,i32_w];rfl)
        refine pure_ (i:=4) (N:=some 16) (v:=?_) (a':=?_) #[false,true,true,true,true,false,false,false,false,false,false,false] rfl rfl (any_of HT_.out (by kernel_rfl)) (fun _ _ _ h=>h) (Or.inl ⟨by rfl,?_⟩) ?_ ?_
        rotate_left;(intro w';go_simp;with_reducible rfl);rotate_left;(simp only [Act.put,List.setIfInBounds_toArray,List.set_cons_zero,List.set_cons_succ,i64_w,i32_w];rfl)
        refine pure_ (i:=6) (N:=some 18) (v:=?_) (a':=?_) #[false,true,true,true,true,false,true,false,false,false,false,false] rfl rfl (any_of HT_.out (by kernel_rfl)) (fun _ _ _ h=>h) (Or.inl ⟨by rfl,?_⟩) ?_ ?_
        rotate_left;(intro w';go_simp;with_reducible rfl);rotate_left;(simp only [Act.put,List.setIfInBounds_toArray,List.set_cons_zero,List.set_cons_succ,i64_w,i32_w];rfl)
        refine pure_ (i:=7) (N:=some 19) (v:=?_) (a':=?_) #[false,true,true,true,true,false,true,true,false,false,false,false] rfl rfl (any_of HT_.out (by kernel_rfl)) (fun _ _ _ h=>h) (Or.inl ⟨by rfl,?_⟩) ?_ ?_
        rotate_left;(intro w';go_simp;with_reducible rfl);rotate_left;(simp only [Act.put,List.setIfInBounds_toArray,List.set_cons_zero,List.set_cons_succ,i64_w,i32_w];rfl)
        refine pure_ (i:=8) (N:=some 20) (v:=?_) (a':=?_) #[false,true,true,true,true,false,true,true,true,false,false,false] rfl rfl (any_of HT_.out (by kernel_rfl)) (fun _ _ _ h=>h) (Or.inl ⟨by rfl,?_⟩) ?_ ?_
        rotate_left;(intro w';go_simp;with_reducible rfl);rotate_left;(simp only [Act.put,List.setIfInBounds_toArray,List.set_cons_zero,List.set_cons_succ,i64_w,i32_w];rfl)
        refine take_ (i:=0) (N:=some 12) (v:=?_) (a':=?_) #[true,true,true,true,true,false,true,true,true,false,false,false] rfl rfl (take_ofW HT_.out HW_.out (by kernel_rfl)) (fun _ _ _ h=>h) (Or.inl ⟨by rfl,?_⟩) hHeld ?_ ?_
        rotate_left;(rintro w' ⟨s0,s1,s2,s3,s4,s5⟩;go_simp;with_reducible rfl);rotate_left;(simp only [Act.put,List.setIfInBounds_toArray,List.set_cons_zero,List.set_cons_succ,i64_w,i32_w];rfl)
        refine take_ (i:=5) (N:=some 17) (v:=?_) (a':=?_) #[true,true,true,true,true,true,true,true,true,false,false,false] rfl rfl (take_ofW HT_.out HW_.out (by kernel_rfl)) (fun _ _ _ h=>h) (Or.inl ⟨by rfl,?_⟩) hHeld ?_ ?_
        rotate_left;(rintro w' ⟨s0,s1,s2,s3,s4,s5⟩;go_simp;with_reducible rfl);rotate_left;(simp only [Act.put,List.setIfInBounds_toArray,List.set_cons_zero,List.set_cons_succ,i64_w,i32_w];rfl)
        refine take_ (i:=9) (N:=some 21) (v:=?_) (a':=?_) #[true,true,true,true,true,true,true,true,true,true,false,false] rfl rfl (take_ofW HT_.out HW_.out (by kernel_rfl)) (fun _ _ _ h=>h) (Or.inl ⟨by rfl,?_⟩) hHeld ?_ ?_
        rotate_left;(rintro w' ⟨s0,s1,s2,s3,s4,s5⟩;go_simp;with_reducible rfl);rotate_left;(simp only [Act.put,List.setIfInBounds_toArray,List.set_cons_zero,List.set_cons_succ,i64_w,i32_w];rfl)
        refine one_ (i:=10) (N:=some 22) #[true,true,true,true,true,true,true,true,true,true,true,false] rfl rfl (one_of HT_.out (by kernel_rfl)) (by decide) (fun K hK=>?_)
        refine goes_ Try.func14 (by kernel_rfl) rfl #[.agg #[.slice A0_0 l0_0.length c0_0,.int .i64 a0_1,.int .i64 a0_2,.int .i64 a0_3],.slice A249_0 (rd_L3 l1 (ji5)).length c249_0,.slice A250_0 (rd_L3 l1 x5_1).length c250_0] (by rfl) rfl rfl (by (try simp only [List.map_toArray,List.map_cons,List.map_nil]);first|done|(simp only [hji5];rfl)|rfl|(simp only [List.length_drop,List.length_take];rfl)) ?_
        with_reducible refine (thresherref04_Compare.calls k1 _ _ l0_0 a0_1 a0_2 a0_3 _ _ (rd_L3 l1 (ji5)) _ _ (rd_L3 l1 x5_1) t251 _ ?side1 ?side2 ?side3 ?side4 ?side5 ?side6 A9.out).mono ?_
        (case side1=>repeat (first|exact (Kd.C_below HR0_0.out HB.out)|(with_reducible refine Kd.C_alloc ?_ _)|(with_reducible refine Kd.C_drewN ?_ _)|(with_reducible refine Kd.C_drew ?_)))
        (case side2=>exact HC0_0.out)
        (case side3=>repeat (first|exact (Kd.C_below HR249_0.out HB.out)|(with_reducible refine Kd.C_alloc ?_ _)|(with_reducible refine Kd.C_drewN ?_ _)|(with_reducible refine Kd.C_drew ?_)))
        (case side4=>exact HC249_0.out)
        (case side5=>repeat (first|exact (Kd.C_below HR250_0.out HB.out)|(with_reducible refine Kd.C_alloc ?_ _)|(with_reducible refine Kd.C_drewN ?_ _)|(with_reducible refine Kd.C_drew ?_)))
        (case side6=>exact HC250_0.out)
        rintro e w14 ⟨rfl,hb⟩
        refine ⟨_,rfl,?_⟩
        have n0_:=Aside0.mk (blk_below (g:=gb248) (o:=.cells #[.slice A0_0 l0_0.length c0_0,.int .i64 a0_1,.int .i64 a0_2,.int .i64 a0_3] 29 (0,0)) (blk_up BK248.out) hb)
        have n1_:=Aside0.mk (below_step (by repeat (first|(with_reducible first|exact HB.out|apply below_alloc|apply pw_below_drewN|apply below_drew1|refine below_set ?_ GE248.out)|exact HB.out)) hb)
        clear BK248
        clear HB
        have BK248:=n0_
        have HB:=n1_
        clear n0_ n1_
        (try clear hb)
        (try clear hb2)
        (try clear hk)
        (try clear hi)
        refine hK.out _ _ ⟨(blk_cell BK248.out 0).trans rfl,(blk_cell BK248.out 1).trans rfl,(blk_cell BK248.out 2).trans rfl,(blk_cell BK248.out 3).trans rfl,((HB.out.cell (World.block_lt_of_cell? w _ hw249_0)).trans hw249_0),((HB.out.cell (World.block_lt_of_cell? w _ hw250_0)).trans hw250_0)⟩ (fun hHeld=>?_)
        clear hK K
        refine norm_ (a':=?_) ?_ ?_
        rotate_left
        ·show Act.put _ (some 22) _=_
         simp only [Act.put,List.setIfInBounds_toArray,List.set_cons_zero,List.set_cons_succ,i64_w,i32_w]
         rfl
        refine pure_ (i:=11) (N:=some 23) (v:=?_) (a':=?_) #[true,true,true,true,true,true,true,true,true,true,true,true] rfl rfl (any_of HT_.out (by kernel_rfl)) (fun _ _ _ h=>h) (Or.inl ⟨by rfl,?_⟩) ?_ ?_
        rotate_left;(intro w';go_simp;with_reducible rfl);rotate_left;(simp only [Act.put,List.setIfInBounds_toArray,List.set_cons_zero,List.set_cons_succ,i64_w,i32_w];rfl)
        refine done_ (done_of HT_.out (by kernel_rfl)) ?_
        (try clear hHeld)
        try go_wp2
        go_roundg k1
        case measure=>have:=HK1.out;omega
        case rel=>exact ⟨(wrap64 (x5_1 + 1)),(by first|rfl|(simp;done)|(simp [*];done)),(by first|exact H'|(subst_vars;exact H')),⟨by have:=HK1.out;omega⟩,⟨by (with_reducible repeat (first|refine blk_drewN ?_ _|refine blk_drew ?_|refine blk_alloc ?_ _));exact BK248.out⟩,⟨by repeat (first|(with_reducible first|exact HB.out|apply below_alloc|apply pw_below_drewN|apply below_drew1|refine below_set ?_ GE248.out)|exact HB.out)⟩⟩
      ·rw [if_neg c8] at H
       exact absurd H (by simp)
     ·rw [if_neg c7] at H
      exact absurd H (by simp)
    ·rw [if_neg c6] at H
     exact absurd H (by simp)
   ·rw [if_neg c4] at H
    have c4b0 : decide (x5_1 < (l1.length : Int))=false:=decide_eq_false c4
    clear c4
    obtain rfl:=Option.some.inj H
    go_wp2
    go_ret
    exact ⟨by first|rfl|(simp [errW_none,errW_some] <;> rfl)|(simp [*,errW_none,errW_some] <;> rfl),by repeat (first|(with_reducible first|exact HB.out|apply below_alloc|apply pw_below_drewN|apply below_drew1|refine below_set ?_ GE248.out)|exact HB.out)⟩
end Go.Proofs.Ythoelihgpkffiaa.P

