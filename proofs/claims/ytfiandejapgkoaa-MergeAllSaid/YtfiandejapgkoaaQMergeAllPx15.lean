/- Texts of MergeAll. Merged: Px15. -/
import Derived.Test.YtfiandejapgkoaaQMergeAllPx0
import Derived.Test.YtfiandejapgkoaaQMergeAllPx7
import Derived.Test.YtfiandejapgkoaaQMergeAllPx14
namespace Go.Proofs.Ytfiandejapgkoaa.P
open Go.RowKit Go.Proofs.YtfiandejapgkoaaW.PrintWords Go.Proofs.YtfiandejapgkoaaW.PrintLast Go.Proofs.YtfiandejapgkoaaW.PrintMore
attribute [local go_sem] max2_int min2_int max_two min_two max_three min_three max_four min_four   -- for this text's walks alone
set_option linter.unusedVariables false
set_option linter.unusedSimpArgs false
mutual
def thresherref13_Rows.l0 : Nat→List (List (S31))→List (List (S31))→Int→List Int→Int→Int→Int→Option ((List (List (S31))))
 | 0,_,_,_,_,_,_,_=>none
 | k + 1,x1,x5,x6,x370000,x370001,x370002,x370003=>if x6 < (x1.length : Int) then (if x370002=1 then (thresherref13_Rows.j1 k x1 x5 x6 (x5.length : Int) false x370000 x370001 x370002 x370003) else (if (x5.length : Int) > 0 then (if 0≤(wrap64 ((x5.length : Int) - 1)) then (if (wrap64 ((x5.length : Int) - 1)) < (x5.length : Int) then (if 0≤x6 then ((thresherref04_Compare.f k x370000 x370001 x370002 x370003 (rd_L3 x5 (wrap64 ((x5.length : Int) - 1))) (rd_L3 x1 x6)).bind fun t375=>(thresherref13_Rows.j1 k x1 x5 x6 (x5.length : Int) (t375 == 0) x370000 x370001 x370002 x370003)) else (none)) else (none)) else (none)) else (thresherref13_Rows.j1 k x1 x5 x6 (x5.length : Int) false x370000 x370001 x370002 x370003))) else (some x5)
def thresherref13_Rows.j1 : Nat→List (List (S31))→List (List (S31))→Int→Int→Bool→List Int→Int→Int→Int→Option ((List (List (S31))))
 | 0,_,_,_,_,_,_,_,_,_=>none
 | k + 1,x1,x5,x6,x7,x37,x370000,x370001,x370002,x370003=>if x37=true then (if 0≤(wrap64 (x7 - 1)) then (if (wrap64 (x7 - 1)) < (x5.length : Int) then (if 0≤x6 then (if x6 < (x1.length : Int) then ((thresherref13_One.f k x370000 x370001 x370002 x370003 (rd_L3 x5 (wrap64 (x7 - 1))) (rd_L3 x1 x6)).bind fun t378=>(thresherref13_Rows.l0 k x1 (x5.set ((wrap64 (x7 - 1)) : Int).toNat t378) (wrap64 (x6 + 1)) x370000 x370001 x370002 x370003)) else (none)) else (none)) else (none)) else (none)) else (if 0≤x6 then (if x6 < (x1.length : Int) then (if x5.length < 5864062014805 then (thresherref13_Rows.l0 k x1 (x5 ++ [rd_L3 x1 x6]) (wrap64 (x6 + 1)) x370000 x370001 x370002 x370003) else (none)) else (none)) else (none))
end
def thresherref13_Rows.f (k : Nat) (l0_0 : List Int) (a0_1 : Int) (a0_2 : Int) (a0_3 : Int) (l1 : List (List (S31))) : Option ((List (List (S31)))):=thresherref13_Rows.l0 k l1 (([] : List (List (S31)))) 0 l0_0 a0_1 a0_2 a0_3
theorem thresherref13_Rows.mono_l : ∀ k,(∀ y0 y1 y2 y3 y4 y5 y6,LeO (thresherref13_Rows.l0 k y0 y1 y2 y3 y4 y5 y6) (thresherref13_Rows.l0 (k + 1) y0 y1 y2 y3 y4 y5 y6))∧(∀ y0 y1 y2 y3 y4 y5 y6 y7 y8,LeO (thresherref13_Rows.j1 k y0 y1 y2 y3 y4 y5 y6 y7 y8) (thresherref13_Rows.j1 (k + 1) y0 y1 y2 y3 y4 y5 y6 y7 y8))
 | 0=>⟨fun _ _ _ _ _ _ _ r h=>by simp [thresherref13_Rows.l0] at h,fun _ _ _ _ _ _ _ _ _ r h=>by simp [thresherref13_Rows.j1] at h⟩
 | k + 1=>by
  obtain ⟨ih0,ih1⟩:=thresherref13_Rows.mono_l k
  refine ⟨?_,?_⟩
  ·intro y0 y1 y2 y3 y4 y5 y6
   unfold thresherref13_Rows.l0
   repeat' first
   | (with_reducible exact ih0 _ _ _ _ _ _ _)
   | (with_reducible exact ih1 _ _ _ _ _ _ _ _ _)
   | (with_reducible exact thresherref04_Compare.mono _ _ _ _ _ _ _)
   | (with_reducible exact thresherref13_One.mono _ _ _ _ _ _ _)
   | (with_reducible exact LeO.refl _)
   | (with_reducible exact LeO.none _)
   | (with_reducible refine LeO.ite ?_ ?_)
   | (with_reducible refine LeO.bind ?_ (fun _=>?_))
   | exact ih0 _ _ _ _ _ _ _
   | exact ih1 _ _ _ _ _ _ _ _ _
   | exact thresherref04_Compare.mono _ _ _ _ _ _ _
   | exact thresherref13_One.mono _ _ _ _ _ _ _
   | exact LeO.none _
   | refine LeO.ite ?_ ?_
   | refine LeO.bind ?_ (fun _=>?_)
  ·intro y0 y1 y2 y3 y4 y5 y6 y7 y8
   unfold thresherref13_Rows.j1
   repeat' first
   | (with_reducible exact ih0 _ _ _ _ _ _ _)
   | (with_reducible exact ih1 _ _ _ _ _ _ _ _ _)
   | (with_reducible exact thresherref04_Compare.mono _ _ _ _ _ _ _)
   | (with_reducible exact thresherref13_One.mono _ _ _ _ _ _ _)
   | (with_reducible exact LeO.refl _)
   | (with_reducible exact LeO.none _)
   | (with_reducible refine LeO.ite ?_ ?_)
   | (with_reducible refine LeO.bind ?_ (fun _=>?_))
   | exact ih0 _ _ _ _ _ _ _
   | exact ih1 _ _ _ _ _ _ _ _ _
   | exact thresherref04_Compare.mono _ _ _ _ _ _ _
   | exact thresherref13_One.mono _ _ _ _ _ _ _
   | exact LeO.none _
   | refine LeO.ite ?_ ?_
   | refine LeO.bind ?_ (fun _=>?_)
theorem thresherref13_Rows.mono : ∀ a0 a1 a2 a3 a4 k,LeO (thresherref13_Rows.f k a0 a1 a2 a3 a4) (thresherref13_Rows.f (k + 1) a0 a1 a2 a3 a4):=by
 intro a0 a1 a2 a3 a4 k
 obtain ⟨ih0,ih1⟩:=thresherref13_Rows.mono_l k
 unfold thresherref13_Rows.f
 repeat' first
   | (with_reducible exact ih0 _ _ _ _ _ _ _)
   | (with_reducible exact ih1 _ _ _ _ _ _ _ _ _)
   | (with_reducible exact thresherref04_Compare.mono _ _ _ _ _ _ _)
   | (with_reducible exact thresherref13_One.mono _ _ _ _ _ _ _)
   | (with_reducible exact LeO.refl _)
   | (with_reducible exact LeO.none _)
   | (with_reducible refine LeO.ite ?_ ?_)
   | (with_reducible refine LeO.bind ?_ (fun _=>?_))
   | exact ih0 _ _ _ _ _ _ _
   | exact ih1 _ _ _ _ _ _ _ _ _
   | exact thresherref04_Compare.mono _ _ _ _ _ _ _
   | exact thresherref13_One.mono _ _ _ _ _ _ _
   | exact LeO.none _
   | refine LeO.ite ?_ ?_
   | refine LeO.bind ?_ (fun _=>?_)
def thresherref13_Rows.T6 : Bool × List (List Nat × List Nat):=(true,[([],[]),([0],[0]),([1],[1]),([2],[2]),([3],[3]),([4,3],[3,4]),([3,5],[3,5]),([6,3],[6]),([7],[7]),([7],[7]),([7],[7]),([10,7],[7,10]),([9,11,7],[7,9,11]),([12,7],[7,12]),([7],[7]),([7],[7]),([14,15,7],[7,14,15]),([16,7],[7,16]),([8,13,17,7,7],[7,8,13,17]),([18,7],[7,18]),([7,19],[7,19])])
def thresherref13_Rows.B6 : List Nat:=[0,1,3,7,15,31,63,127,255,255,255,1279,3839,7935,255,255,49407,114943,262143,524287,1048575]
theorem thresherref13_Rows.tab6 : rtab .any (opsOf Try.f26 6)=thresherref13_Rows.T6:=by kernel_rfl
theorem thresherref13_Rows.bits6 : waitsOk thresherref13_Rows.T6.2 thresherref13_Rows.B6=true:=by kernel_rfl
def thresherref13_Rows.T7 : Bool × List (List Nat × List Nat):=(true,[([],[]),([],[]),([1],[1]),([],[]),([],[]),([],[]),([5],[5]),([4,6],[4,6]),([7],[7]),([],[]),([],[]),([9,10],[9,10]),([11],[11]),([3,8,12],[3,8,12]),([0,2,0,1,2,3,4,5,6,7,8,9,10,11,12,13],[0,2]),([14,13,13,0,1,2,3,4,5,6,7,8,9,10,11,12,13],[13,14])])
def thresherref13_Rows.B7 : List Nat:=[0,0,2,0,0,0,32,112,240,0,0,1536,3584,8184,16383,32767]
theorem thresherref13_Rows.tab7 : rtab .any (opsOf Try.f26 7)=thresherref13_Rows.T7:=by kernel_rfl
theorem thresherref13_Rows.bits7 : waitsOk thresherref13_Rows.T7.2 thresherref13_Rows.B7=true:=by kernel_rfl
set_option maxHeartbeats 8000000 in
set_option maxRecDepth 100000 in
theorem thresherref13_Rows.calls (k : Nat) (A0_0 : Option Addr) (c0_0 : Nat) (l0_0 : List Int) (a0_1 : Int) (a0_2 : Int) (a0_3 : Int) (P1_ : Nat→Prop) (A1 : Option Addr) (c1 : Nat) (l1 : List (List (S31))) (r : List (List (S31))) (w : World) (hr0_0 : Kd.C (Kd.int .i64) w A0_0 l0_0.length l0_0) (hc0_0 : l0_0.length≤c0_0) (hs1 : Kd.V (Kd.slice 31 k31) 33 w w.heap.size (fun k_=>P1_ k_) (.slice A1 l1.length c1) l1) (h : thresherref13_Rows.f k l0_0 a0_1 a0_2 a0_3 l1=some r) :
  Calls Try.prog 26 #[.agg #[.slice A0_0 l0_0.length c0_0,.int .i64 a0_1,.int .i64 a0_2,.int .i64 a0_3],.slice A1 l1.length c1] w fun e w'=>∃ v0_ : Value,e=.returned (v0_)∧Kd.N (Kd.slice 31 k31) 33 w' w.heap.size (fun k_=>(P1_ k_ ∨ w.heap.size≤k_)) v0_ r∧Below w.heap.size w w':=by
 have hu26:=Try.underlying26
 have HR0_0:=Aside0.mk hr0_0
 have HC0_0:=Aside0.mk hc0_0
 clear hr0_0 hc0_0
 have HO1:=Aside0.mk (show Kd.V (Kd.slice 31 k31) 33 w w.heap.size (fun k_=>(P1_ k_ ∨ w.heap.size≤k_)) (.slice A1 l1.length c1) l1 from Kd.V_mono hs1 (fun k_ hk=>.inl hk))
 have HB:=Aside0.mk (Below.refl w.heap.size w)
 have H : (thresherref13_Rows.l0 k l1 (([] : List (List (S31)))) 0 l0_0 a0_1 a0_2 a0_3)=some r:=h
 clear h
 obtain ⟨y370,hy370⟩ : ∃ y_ : List (List (S31)),y_=(([] : List (List (S31)))):=⟨_,rfl⟩
 replace H : (thresherref13_Rows.l0 k l1 y370 0 l0_0 a0_1 a0_2 a0_3)=some r:=by first|(rw [hy370];with_reducible exact H)|(have H2_:=(Option.bind_some _ _).symm.trans H;rw [hy370];with_reducible exact H2_)|(have H2_:=(Option.bind_some _ _).symm.trans H;with_reducible exact H2_)|with_reducible exact H|(rw [hy370];exact H)|exact H
 have Ny370:=Aside0.mk hy370
 clear hy370
 have H':=Aside0.mk H
 clear H
 go_enter Try.func26,Try.ntmps26
 go_wp2_with (first|((with_reducible refine gate_dst (N:=2) rfl ?_);refine box_event ?hg (N:=2) ?hd (cs:=#[.slice A0_0 l0_0.length c0_0,.int .i64 a0_1,.int .i64 a0_2,.int .i64 a0_3]) (t:=26) ?hr ?_;(case hd=>rfl);(case hg=>rfl);(case hr=>first|(go_simp;done)|(go_simp;rfl));intro gb369 hg w3 hbox hb;have n0_:=Aside0.mk (Kd.V_below (Kd.V_elderB (V_up HO1.out) gb369 (Nat.le_of_eq hg.symm)) hb);have n1_:=Aside0.mk (below_step (below_up HB.out) hb);have n2_:=Aside0.mk (hbox);have n3_:=Aside0.mk ((by rw [hg];exact (below_size (below_up HB.out)) : w.heap.size≤gb369));have n4_:=Aside0.mk ((by rw [hg];exact (below_size (below_up HB.out)) : w.heap.size≤gb369));clear HO1;clear HB;have HO1:=n0_;have HB:=n1_;have BK369:=n2_;have GW369:=n3_;have GE369:=n4_;clear n0_ n1_ n2_ n3_ n4_;clear hb hbox hg)|((with_reducible refine gate_dst (N:=8) rfl ?_);refine Kd.N_lit (Kd.slice 31 k31) _ 33 ?hg (N':=8) ?hd (xs:=([] : List (List (S31)))) (inner:=[]) (ok:=(fun k_=>(P1_ k_ ∨ w.heap.size≤k_)∧k_≠gb369)) (okp:=(fun k_=>(P1_ k_ ∨ w.heap.size≤k_)∧k_≠gb369)) ?hr ?hp (fun _ hk=>hk) ((show ∀ k_,w3.heap.size≤k_→(fun k_=>(P1_ k_ ∨ w.heap.size≤k_)∧k_≠gb369) k_ from fun k_ hk=>⟨(.inr (Nat.le_trans (below_size (below_go HB.out)) hk)),Kd.freshB (blk_up BK369.out) k_ hk⟩) _ (Nat.le_refl _)) (Below.refl _ _) (Nat.le_refl _) (by simp) ?_;(case hd=>rfl);(case hg=>rfl);(case hr=>first|(go_simp;done)|(go_simp;rfl));(case hp=>exact (Reps.none _ _));intro v371 w4 ho5 hb hg_ hnew_;clear hg_ hnew_;(first|rw [← Ny370.out] at ho5|(simp only [Int.reduceToNat] at ho5;rw [← Ny370.out] at ho5));have n0_:=Aside0.mk (Kd.V_elder' (V_up HO1.out) (Kd.N_base ho5) hb);have n1_:=Aside0.mk (Kd.N_lower ho5 (below_size (below_go HB.out)));have n2_:=Aside0.mk (blk_below (blk_up BK369.out) hb);have n3_:=Aside0.mk (below_step (below_go HB.out) hb);clear HO1;clear BK369;clear HB;have HO1:=n0_;have HO372:=n1_;have BK369:=n2_;have HB:=n3_;clear n0_ n1_ n2_ n3_;clear hb ho5))
 go_loopg [5,6] k (fun kq v5 v6 w'=>∃ (x1_1 : List (List (S31))) (x5_1 : List (List (S31))) (x6_1 : Int),v6=.int .i64 x6_1∧Aside0 (thresherref13_Rows.l0 kq x1_1 x5_1 x6_1 l0_0 a0_1 a0_2 a0_3=some r)∧Aside0 (kq≤k)∧Aside0 (Kd.V (Kd.slice 31 k31) 33 w' w.heap.size (fun k_=>(P1_ k_ ∨ w.heap.size≤k_)∧some k_≠(v5 : Value).ownBlock∧k_≠gb369) (.slice A1 l1.length c1) x1_1)∧Aside0 (Kd.N (Kd.slice 31 k31) 33 w' w.heap.size (fun k_=>(P1_ k_ ∨ w.heap.size≤k_)∧k_≠gb369) v5 x5_1)∧Aside0 (w'.heap[gb369]?=some (.cells #[(.slice A0_0 l0_0.length c0_0),.int .i64 a0_1,.int .i64 a0_2,.int .i64 a0_3] 26 (0,0)))∧Aside0 (Below w.heap.size w w'))
 case atStart=>exact ⟨(l1),(y370),(0),(by first|rfl|(simp;done)|(simp [*];done)),H',⟨Nat.le_refl _⟩,⟨by (with_reducible repeat (first|apply Kd.V_alloc|apply Kd.V_drewN|apply Kd.V_drew));exact Kd.V_mono HO1.out (fun _ hk=>⟨hk.1.1,⟨hk.2,hk.1.2⟩⟩)⟩,⟨by (with_reducible repeat (first|apply Kd.N_alloc|apply Kd.N_drewN|apply Kd.N_drew));exact HO372.out⟩,⟨by (with_reducible repeat (first|refine blk_drewN ?_ _|refine blk_drew ?_|refine blk_alloc ?_ _));exact BK369.out⟩,⟨by repeat (first|(with_reducible first|exact HB.out|apply below_alloc|apply pw_below_drewN|apply below_drew1|refine below_set ?_ GE369.out)|exact HB.out)⟩⟩
 case round =>
  clear H'
  try clear c1
  try clear c2
  try clear p2
  obtain ⟨x1_1,x5_1,x6_1,rfl,HA,HK1,HO_1,HO_5,BK369,HB⟩:=hrel
  have hl1_1:=(Kd.V_reads' HO_1.out).1
  rw [hl1_1] at HO_1
  (try simp only [hl1_1])
  (try simp only [hl1_1] at BK369)
  (try simp only [hl1_1] at HO_5)
  cases gk with
  | zero=>exact absurd HA.out (by simp [thresherref13_Rows.l0])
  | succ k1 =>
   have H:=HA.out
   clear HA
   simp only [thresherref13_Rows.l0] at H
   by_cases c6 : x6_1 < (x1_1.length : Int)
   ·rw [if_pos c6] at H
    have c6b0 : decide (x6_1 < (x1_1.length : Int))=true:=decide_eq_true c6
    clear c6
    have HC7:=Aside0.mk H
    clear H
    obtain ⟨Ao8,co8,eo8⟩:=Kd.N_slice HO_5.out
    subst eo8
    go_upto_region 6 with (fail)
    go_cut [37] (fun v37 wc=>∃ (kq : Nat) (x37_6 : Bool),v37=.bool x37_6∧Aside0 (thresherref13_Rows.j1 kq x1_1 x5_1 x6_1 (x5_1.length : Int) x37_6 l0_0 a0_1 a0_2 a0_3=some r)∧Aside0 (kq≤k1)∧Aside0 (Kd.V (Kd.slice 31 k31) 33 wc w.heap.size (fun k_=>(P1_ k_ ∨ w.heap.size≤k_)∧some k_≠((.slice Ao8 x5_1.length co8) : Value).ownBlock∧k_≠gb369) (.slice A1 x1_1.length c1) x1_1)∧Aside0 (Kd.N (Kd.slice 31 k31) 33 wc w.heap.size (fun k_=>(P1_ k_ ∨ w.heap.size≤k_)∧k_≠gb369) (.slice Ao8 x5_1.length co8) x5_1)∧Aside0 (wc.heap[gb369]?=some (.cells #[(.slice A0_0 l0_0.length c0_0),.int .i64 a0_1,.int .i64 a0_2,.int .i64 a0_3] 26 (0,0)))∧Aside0 (Below w.heap.size w wc))
    case first =>
     have H:=HC7.out
     clear HC7
     by_cases c9 : a0_2=1
     ·rw [if_pos c9] at H
      have c9b0 : (a0_2 == 1)=true:=beq_iff_eq.mpr c9
      have c9b1 : (a0_2 != 1)=false:=bne_eq_false_iff_eq.mpr c9
      clear c9
      (first|rw [c9b0]|(simp only [i64_w,i32_w];rw [c9b0])|skip)
      have H':=Aside0.mk H
      clear H
      try go_wp2
      have n0_:=Aside0.mk (Kd.V_drew HO_1.out)
      have n1_:=Aside0.mk (Kd.N_drew HO_5.out)
      have n2_:=Aside0.mk (blk_drew BK369.out)
      have n3_:=Aside0.mk (below_drew1 HB.out)
      clear HO_1
      clear HO_5
      clear BK369
      clear HB
      have HO_1:=n0_
      have HO_5:=n1_
      have BK369:=n2_
      have HB:=n3_
      clear n0_ n1_ n2_ n3_
      refine start_ (n:=21) (S:=fun w'=>w'.cell? ⟨gb369,0,none⟩=some (.slice A0_0 l0_0.length c0_0)∧w'.cell? ⟨gb369,1,none⟩=some (.int .i64 a0_1)∧w'.cell? ⟨gb369,2,none⟩=some (.int .i64 a0_2)∧w'.cell? ⟨gb369,3,none⟩=some (.int .i64 a0_3)) (ds:=[]) #[false,false,false,false,false,false,false,false,false,false,false,false,false,false,false,false,false,false,false,false,false] (by kernel_rfl) rfl rfl ⟨(blk_cell BK369.out 0).trans rfl,(blk_cell BK369.out 1).trans rfl,(blk_cell BK369.out 2).trans rfl,(blk_cell BK369.out 3).trans rfl⟩ (fun hHeld=>?_);refine with_tabW thresherref13_Rows.tab6 thresherref13_Rows.bits6 (fun HT_ HW_=>?_)
      generalize wr.drew=w10 at HO_1 HO_5 BK369 HB hHeld ⊢
      refine pure_ (i:=0) (N:=some 17) (v:=?_) (a':=?_) #[true,false,false,false,false,false,false,false,false,false,false,false,false,false,false,false,false,false,false,false,false] rfl rfl (any_of HT_.out (by kernel_rfl)) (fun _ _ _ h=>h) (Or.inl ⟨by rfl,?_⟩) ?_ ?_
      rotate_left;(intro w';go_simp;with_reducible rfl);rotate_left;(simp only [Act.put,List.setIfInBounds_toArray,List.set_cons_zero,List.set_cons_succ,i64_w,i32_w];rfl)
      refine take_ (i:=1) (N:=some 18) (v:=?_) (a':=?_) #[true,true,false,false,false,false,false,false,false,false,false,false,false,false,false,false,false,false,false,false,false] rfl rfl (take_ofW HT_.out HW_.out (by kernel_rfl)) (fun _ _ _ h=>h) (Or.inl ⟨by rfl,?_⟩) hHeld ?_ ?_
      rotate_left;(rintro w' ⟨s0,s1,s2,s3⟩;go_simp;with_reducible rfl);rotate_left;(simp only [Act.put,List.setIfInBounds_toArray,List.set_cons_zero,List.set_cons_succ,i64_w,i32_w];rfl)
      refine pure_ (i:=2) (N:=some 19) (v:=?_) (a':=?_) #[true,true,true,false,false,false,false,false,false,false,false,false,false,false,false,false,false,false,false,false,false] rfl rfl (any_of HT_.out (by kernel_rfl)) (fun _ _ _ h=>h) (Or.inl ⟨by rfl,?_⟩) ?_ ?_
      rotate_left;(intro w';go_simp;with_reducible rfl);rotate_left;(simp only [Act.put,List.setIfInBounds_toArray,List.set_cons_zero,List.set_cons_succ,i64_w,i32_w];rfl)
      refine pure_ (i:=3) (N:=some 20) (v:=?_) (a':=?_) #[true,true,true,true,false,false,false,false,false,false,false,false,false,false,false,false,false,false,false,false,false] rfl rfl (any_of HT_.out (by kernel_rfl)) (fun _ _ _ h=>h) (Or.inl ⟨by rfl,?_⟩) ?_ ?_
      rotate_left;(intro w';go_simp;with_reducible rfl);rotate_left;(simp only [Act.put,List.setIfInBounds_toArray,List.set_cons_zero,List.set_cons_succ,i64_w,i32_w];rfl)
      refine pure_ (i:=4) (N:=some 21) (v:=undef) (a':=?_) #[true,true,true,true,true,false,false,false,false,false,false,false,false,false,false,false,false,false,false,false,false] rfl rfl (any_of HT_.out (by kernel_rfl)) (fun _ _ _ h=>h) (Or.inr ⟨by rfl,rfl⟩) ?_ ?_
      rotate_left
      ·simp only [Act.put,List.setIfInBounds_toArray,List.set_cons_zero,List.set_cons_succ,i64_w,i32_w]
       rfl
      refine pure_ (i:=5) (N:=some 22) (v:=undef) (a':=?_) #[true,true,true,true,true,true,false,false,false,false,false,false,false,false,false,false,false,false,false,false,false] rfl rfl (any_of HT_.out (by kernel_rfl)) (fun _ _ _ h=>h) (Or.inr ⟨by rfl,rfl⟩) ?_ ?_
      rotate_left
      ·simp only [Act.put,List.setIfInBounds_toArray,List.set_cons_zero,List.set_cons_succ,i64_w,i32_w]
       rfl
      refine pure_ (i:=6) (N:=some 23) (v:=?_) (a':=?_) #[true,true,true,true,true,true,true,false,false,false,false,false,false,false,false,false,false,false,false,false,false] rfl rfl (any_of HT_.out (by kernel_rfl)) (fun _ _ _ h=>h) (Or.inl ⟨by rfl,?_⟩) ?_ ?_
      rotate_left;(intro w';go_simp;with_reducible rfl);rotate_left;(simp only [Act.put,List.setIfInBounds_toArray,List.set_cons_zero,List.set_cons_succ,i64_w,i32_w];rfl)
      refine pure_ (i:=7) (N:=some 24) (v:=?_) (a':=?_) #[true,true,true,true,true,true,true,true,false,false,false,false,false,false,false,false,false,false,false,false,false] rfl rfl (any_of HT_.out (by kernel_rfl)) (fun _ _ _ h=>h) (Or.inl ⟨by rfl,?_⟩) ?_ ?_
      rotate_left;(intro w';go_simp;with_reducible rfl);rotate_left;(simp only [Act.put,List.setIfInBounds_toArray,List.set_cons_zero,List.set_cons_succ,i64_w,i32_w];rfl)
      refine pure_ (i:=8) (N:=some 25) (v:=undef) (a':=?_) #[true,true,true,true,true,true,true,true,true,false,false,false,false,false,false,false,false,false,false,false,false] rfl rfl (any_of HT_.out (by kernel_rfl)) (fun _ _ _ h=>h) (Or.inr ⟨by rfl,rfl⟩) ?_ ?_
      rotate_left
      ·simp only [Act.put,List.setIfInBounds_toArray,List.set_cons_zero,List.set_cons_succ,i64_w,i32_w]
       rfl
      refine pure_ (i:=9) (N:=some 26) (v:=undef) (a':=?_) #[true,true,true,true,true,true,true,true,true,true,false,false,false,false,false,false,false,false,false,false,false] rfl rfl (any_of HT_.out (by kernel_rfl)) (fun _ _ _ h=>h) (Or.inr ⟨by rfl,rfl⟩) ?_ ?_
      rotate_left
      ·simp only [Act.put,List.setIfInBounds_toArray,List.set_cons_zero,List.set_cons_succ,i64_w,i32_w]
       rfl
      refine pure_ (i:=10) (N:=some 27) (v:=undef) (a':=?_) #[true,true,true,true,true,true,true,true,true,true,true,false,false,false,false,false,false,false,false,false,false] rfl rfl (any_of HT_.out (by kernel_rfl)) (fun _ _ _ h=>h) (Or.inr ⟨by rfl,rfl⟩) ?_ ?_
      rotate_left
      ·simp only [Act.put,List.setIfInBounds_toArray,List.set_cons_zero,List.set_cons_succ,i64_w,i32_w]
       rfl
      refine pure_ (i:=11) (N:=some 28) (v:=undef) (a':=?_) #[true,true,true,true,true,true,true,true,true,true,true,true,false,false,false,false,false,false,false,false,false] rfl rfl (any_of HT_.out (by kernel_rfl)) (fun _ _ _ h=>h) (Or.inr ⟨by rfl,rfl⟩) ?_ ?_
      rotate_left
      ·simp only [Act.put,List.setIfInBounds_toArray,List.set_cons_zero,List.set_cons_succ,i64_w,i32_w]
       rfl
      refine pure_ (i:=12) (N:=some 29) (v:=undef) (a':=?_) #[true,true,true,true,true,true,true,true,true,true,true,true,true,false,false,false,false,false,false,false,false] rfl rfl (any_of HT_.out (by kernel_rfl)) (fun _ _ _ h=>h) (Or.inr ⟨by rfl,rfl⟩) ?_ ?_
      rotate_left
      ·simp only [Act.put,List.setIfInBounds_toArray,List.set_cons_zero,List.set_cons_succ,i64_w,i32_w]
       rfl
      refine pure_ (i:=13) (N:=some 30) (v:=undef) (a':=?_) #[true,true,true,true,true,true,true,true,true,true,true,true,true,true,false,false,false,false,false,false,false] rfl rfl (any_of HT_.out (by kernel_rfl)) (fun _ _ _ h=>h) (Or.inr ⟨by rfl,rfl⟩) ?_ ?_
      rotate_left
      ·simp only [Act.put,List.setIfInBounds_toArray,List.set_cons_zero,List.set_cons_succ,i64_w,i32_w]
       rfl
      refine pure_ (i:=14) (N:=some 31) (v:=undef) (a':=?_) #[true,true,true,true,true,true,true,true,true,true,true,true,true,true,true,false,false,false,false,false,false] rfl rfl (any_of HT_.out (by kernel_rfl)) (fun _ _ _ h=>h) (Or.inr ⟨by rfl,rfl⟩) ?_ ?_
      rotate_left
      ·simp only [Act.put,List.setIfInBounds_toArray,List.set_cons_zero,List.set_cons_succ,i64_w,i32_w]
       rfl
      refine pure_ (i:=15) (N:=some 32) (v:=undef) (a':=?_) #[true,true,true,true,true,true,true,true,true,true,true,true,true,true,true,true,false,false,false,false,false] rfl rfl (any_of HT_.out (by kernel_rfl)) (fun _ _ _ h=>h) (Or.inr ⟨by rfl,rfl⟩) ?_ ?_
      rotate_left
      ·simp only [Act.put,List.setIfInBounds_toArray,List.set_cons_zero,List.set_cons_succ,i64_w,i32_w]
       rfl
      refine pure_ (i:=16) (N:=some 33) (v:=undef) (a':=?_) #[true,true,true,true,true,true,true,true,true,true,true,true,true,true,true,true,true,false,false,false,false] rfl rfl (any_of HT_.out (by kernel_rfl)) (fun _ _ _ h=>h) (Or.inr ⟨by rfl,rfl⟩) ?_ ?_
      rotate_left
      ·simp only [Act.put,List.setIfInBounds_toArray,List.set_cons_zero,List.set_cons_succ,i64_w,i32_w]
       rfl
      refine pure_ (i:=17) (N:=some 34) (v:=undef) (a':=?_) #[true,true,true,true,true,true,true,true,true,true,true,true,true,true,true,true,true,true,false,false,false] rfl rfl (any_of HT_.out (by kernel_rfl)) (fun _ _ _ h=>h) (Or.inr ⟨by rfl,rfl⟩) ?_ ?_
      rotate_left
      ·simp only [Act.put,List.setIfInBounds_toArray,List.set_cons_zero,List.set_cons_succ,i64_w,i32_w]
       rfl
      refine pure_ (i:=18) (N:=some 35) (v:=undef) (a':=?_) #[true,true,true,true,true,true,true,true,true,true,true,true,true,true,true,true,true,true,true,false,false] rfl rfl (any_of HT_.out (by kernel_rfl)) (fun _ _ _ h=>h) (Or.inr ⟨by rfl,rfl⟩) ?_ ?_
      rotate_left
      ·simp only [Act.put,List.setIfInBounds_toArray,List.set_cons_zero,List.set_cons_succ,i64_w,i32_w]
       rfl
      refine pure_ (i:=19) (N:=some 36) (v:=undef) (a':=?_) #[true,true,true,true,true,true,true,true,true,true,true,true,true,true,true,true,true,true,true,true,false] rfl rfl (any_of HT_.out (by kernel_rfl)) (fun _ _ _ h=>h) (Or.inr ⟨by rfl,rfl⟩) ?_ ?_
      rotate_left
      ·simp only [Act.put,List.setIfInBounds_toArray,List.set_cons_zero,List.set_cons_succ,i64_w,i32_w]
       rfl
      refine pure_ (i:=20) (N:=some 37) (v:=?_) (a':=?_) #[true,true,true,true,true,true,true,true,true,true,true,true,true,true,true,true,true,true,true,true,true] rfl rfl (any_of HT_.out (by kernel_rfl)) (fun _ _ _ h=>h) (Or.inl ⟨by rfl,?_⟩) ?_ ?_
      rotate_left;(intro w';go_simp;with_reducible rfl);rotate_left;(simp only [Act.put,List.setIfInBounds_toArray,List.set_cons_zero,List.set_cons_succ,i64_w,i32_w];rfl)
      refine done_ (done_of HT_.out (by kernel_rfl)) ?_
      (try clear hHeld)
      try go_wp2
      go_meet
      case rel=>exact ⟨_,(false),(by first|rfl|(simp;done)|(simp [*];done)),(by first|exact H'|(subst_vars;exact H')),⟨by have:=HK1.out;first|omega|exact Nat.le_refl _⟩,⟨by (try simp only [hl1_1]);(with_reducible repeat (first|apply Kd.V_alloc|apply Kd.V_drewN|apply Kd.V_drew));exact HO_1.out⟩,⟨by (try simp only [hl1_1]);(with_reducible repeat (first|apply Kd.N_alloc|apply Kd.N_drewN|apply Kd.N_drew));exact HO_5.out⟩,⟨by (try simp only [hl1_1]);(with_reducible repeat (first|refine blk_drewN ?_ _|refine blk_drew ?_|refine blk_alloc ?_ _));exact BK369.out⟩,⟨by repeat (first|(with_reducible first|exact HB.out|apply below_alloc|apply pw_below_drewN|apply below_drew1|refine below_set ?_ GE369.out)|exact HB.out)⟩⟩
     ·rw [if_neg c9] at H
      have c9b0 : (a0_2 == 1)=false:=beq_eq_false_iff_ne.mpr c9
      have c9b1 : (a0_2 != 1)=true:=bne_iff_ne.mpr c9
      (first|rw [c9b0]|(simp only [i64_w,i32_w];rw [c9b0])|skip)
      by_cases c11 : (x5_1.length : Int) > 0
      ·rw [if_pos c11] at H
       have c11b0 : decide (0 < (x5_1.length : Int))=true:=decide_eq_true c11
       have c11b1 : decide (0 < x5_1.length)=true:=decide_eq_true (by omega)
       clear c11
       obtain ⟨ji12,hji12⟩ : ∃ j_ : Int,(wrap64 ((x5_1.length : Int) - 1))=j_:=⟨_,rfl⟩
       replace H : (if 0≤(ji12) then (if (ji12) < (x5_1.length : Int) then (if 0≤x6_1 then ((thresherref04_Compare.f k1 l0_0 a0_1 a0_2 a0_3 (rd_L3 x5_1 (ji12)) (rd_L3 x1_1 x6_1)).bind fun t375=>(thresherref13_Rows.j1 k1 x1_1 x5_1 x6_1 (x5_1.length : Int) (t375 == 0) l0_0 a0_1 a0_2 a0_3)) else (none)) else (none)) else (none))=some r:=by first|(rw [hji12] at H;exact H)|(simp only [hji12] at H ⊢;exact H)
       have hji12w : (IntKind.i64.wrap ((x5_1.length : Int) - 1))=ji12:=(i64_w _).trans hji12
       by_cases c13 : 0≤(ji12)
       ·rw [if_pos c13] at H
        have c13b0 : decide (0≤(ji12))=true:=decide_eq_true c13
        clear c13
        by_cases c14 : (ji12) < (x5_1.length : Int)
        ·rw [if_pos c14] at H
         have c14b0 : decide ((ji12) < (x5_1.length : Int))=true:=decide_eq_true c14
         clear c14
         by_cases c15 : 0≤x6_1
         ·rw [if_pos c15] at H
          have c15b0 : decide (0≤x6_1)=true:=decide_eq_true c15
          clear c15
          replace H:=Option.bind_eq_some_iff.mp H
          obtain ⟨t375,A160,H⟩:=H
          replace H : (thresherref13_Rows.j1 k1 x1_1 x5_1 x6_1 (x5_1.length : Int) (t375 == 0) l0_0 a0_1 a0_2 a0_3)=some r:=H
          have A16:=Aside0.mk A160
          clear A160
          have H':=Aside0.mk H
          clear H
          try go_wp2
          have n0_:=Aside0.mk (Kd.V_drew HO_1.out)
          have n1_:=Aside0.mk (Kd.N_drew HO_5.out)
          have n2_:=Aside0.mk (blk_drew BK369.out)
          have n3_:=Aside0.mk (below_drew1 HB.out)
          clear HO_1
          clear HO_5
          clear BK369
          clear HB
          have HO_1:=n0_
          have HO_5:=n1_
          have BK369:=n2_
          have HB:=n3_
          clear n0_ n1_ n2_ n3_
          have p373 : 0≤((ji12) : Int):=of_decide_eq_true (by first|(with_reducible assumption)|assumption)
          have q373 : (ji12) < (x5_1.length : Int):=of_decide_eq_true (by first|(with_reducible assumption)|assumption)
          obtain ⟨ad373,A373_0,c373_0,e373,hx373_0,hl373_0,hi373_0⟩:=at_L3 (Kd.N_reads' HO_5.out).2.2 (ji12) p373 q373
          cases e373
          obtain ⟨ce373,hce373,hMe373,hcc373⟩:=Kd.N_get HO_5.out [] (ji12) p373 (by first|exact q373|exact of_decide_eq_true (by first|(with_reducible assumption)|assumption)|(have e_:=(Kd.N_reads' HO_5.out).1;omega))
          obtain ⟨ua373_0,uc373_0,rfl,ul373_0,ge373_0⟩:=Kd.FK_slice_open hMe373
          have hv373_0:=hcc373 0 _ rfl
          rw [Nat.add_zero,show ((Kd.slice 31 k31)).sz=1 from rfl,Nat.mul_one] at hv373_0
          replace hv373_0:=Option.some.inj (hv373_0.symm.trans hx373_0)
          injection hv373_0 with hva_ hvn_ hvc_
          rw [hva_] at ge373_0
          rw [hvc_] at ul373_0
          have HL373_0:=Aside0.mk (show Kd.V k31 31 _ w.heap.size _ _ (rd_L3 x5_1 (ji12)) from Kd.V_mk ul373_0 ge373_0)
          clear hva_ hvn_ hvc_ ge373_0 ul373_0
          clear hcc373 hce373
          have HR373_0:=Aside0.mk hi373_0
          have HC373_0:=Aside0.mk hl373_0
          clear hi373_0 hl373_0
          replace p373:=eq_true p373
          replace q373:=eq_true q373
          have p374 : 0≤(x6_1 : Int):=of_decide_eq_true (by first|(with_reducible assumption)|assumption)
          have q374 : x6_1 < (x1_1.length : Int):=of_decide_eq_true (by first|(with_reducible assumption)|assumption)
          obtain ⟨ad374,A374_0,c374_0,e374,hx374_0,hl374_0,hi374_0⟩:=at_L3 (Kd.V_reads' HO_1.out).2.2 x6_1 p374 q374
          cases e374
          obtain ⟨ce374,hce374,hMe374,hcc374⟩:=Kd.V_get HO_1.out [] x6_1 p374 (by first|exact q374|exact of_decide_eq_true (by first|(with_reducible assumption)|assumption)|(have e_:=(Kd.V_reads' HO_1.out).1;omega))
          obtain ⟨ua374_0,uc374_0,rfl,ul374_0,ge374_0⟩:=Kd.FK_slice_open hMe374
          have hv374_0:=hcc374 0 _ rfl
          rw [Nat.add_zero,show ((Kd.slice 31 k31)).sz=1 from rfl,Nat.mul_one] at hv374_0
          replace hv374_0:=Option.some.inj (hv374_0.symm.trans hx374_0)
          injection hv374_0 with hva_ hvn_ hvc_
          rw [hva_] at ge374_0
          rw [hvc_] at ul374_0
          have HL374_0:=Aside0.mk (show Kd.V k31 31 _ w.heap.size _ _ (rd_L3 x1_1 x6_1) from Kd.V_mk ul374_0 ge374_0)
          clear hva_ hvn_ hvc_ ge374_0 ul374_0
          clear hcc374 hce374
          have HR374_0:=Aside0.mk hi374_0
          have HC374_0:=Aside0.mk hl374_0
          clear hi374_0 hl374_0
          replace p374:=eq_true p374
          replace q374:=eq_true q374
          refine start_ (n:=21) (S:=fun w'=>w'.cell? ⟨gb369,0,none⟩=some (.slice A0_0 l0_0.length c0_0)∧w'.cell? ⟨gb369,1,none⟩=some (.int .i64 a0_1)∧w'.cell? ⟨gb369,2,none⟩=some (.int .i64 a0_2)∧w'.cell? ⟨gb369,3,none⟩=some (.int .i64 a0_3)∧w'.cell? (ad373.add ((ji12)).toNat)=some (.slice A373_0 (rd_L3 x5_1 (ji12)).length c373_0)∧w'.cell? (ad374.add (x6_1).toNat)=some (.slice A374_0 (rd_L3 x1_1 x6_1).length c374_0)) (ds:=[]) #[false,false,false,false,false,false,false,false,false,false,false,false,false,false,false,false,false,false,false,false,false] (by kernel_rfl) rfl rfl ⟨(blk_cell BK369.out 0).trans rfl,(blk_cell BK369.out 1).trans rfl,(blk_cell BK369.out 2).trans rfl,(blk_cell BK369.out 3).trans rfl,hx373_0,hx374_0⟩ (fun hHeld=>?_);refine with_tabW thresherref13_Rows.tab6 thresherref13_Rows.bits6 (fun HT_ HW_=>?_)
          generalize wr.drew=w17 at HO_1 HO_5 BK369 HB HL373_0 HL374_0 HR373_0 HR374_0 hx373_0 hx374_0 hHeld ⊢
          refine pure_ (i:=0) (N:=some 17) (v:=?_) (a':=?_) #[true,false,false,false,false,false,false,false,false,false,false,false,false,false,false,false,false,false,false,false,false] rfl rfl (any_of HT_.out (by kernel_rfl)) (fun _ _ _ h=>h) (Or.inl ⟨by rfl,?_⟩) ?_ ?_
          rotate_left;(intro w';go_simp;with_reducible rfl);rotate_left;(simp only [Act.put,List.setIfInBounds_toArray,List.set_cons_zero,List.set_cons_succ,i64_w,i32_w];rfl)
          refine take_ (i:=1) (N:=some 18) (v:=?_) (a':=?_) #[true,true,false,false,false,false,false,false,false,false,false,false,false,false,false,false,false,false,false,false,false] rfl rfl (take_ofW HT_.out HW_.out (by kernel_rfl)) (fun _ _ _ h=>h) (Or.inl ⟨by rfl,?_⟩) hHeld ?_ ?_
          rotate_left;(rintro w' ⟨s0,s1,s2,s3,s4,s5⟩;go_simp;with_reducible rfl);rotate_left;(simp only [Act.put,List.setIfInBounds_toArray,List.set_cons_zero,List.set_cons_succ,i64_w,i32_w];rfl)
          refine pure_ (i:=2) (N:=some 19) (v:=?_) (a':=?_) #[true,true,true,false,false,false,false,false,false,false,false,false,false,false,false,false,false,false,false,false,false] rfl rfl (any_of HT_.out (by kernel_rfl)) (fun _ _ _ h=>h) (Or.inl ⟨by rfl,?_⟩) ?_ ?_
          rotate_left;(intro w';go_simp;with_reducible rfl);rotate_left;(simp only [Act.put,List.setIfInBounds_toArray,List.set_cons_zero,List.set_cons_succ,i64_w,i32_w];rfl)
          refine pure_ (i:=3) (N:=some 20) (v:=?_) (a':=?_) #[true,true,true,true,false,false,false,false,false,false,false,false,false,false,false,false,false,false,false,false,false] rfl rfl (any_of HT_.out (by kernel_rfl)) (fun _ _ _ h=>h) (Or.inl ⟨by rfl,?_⟩) ?_ ?_
          rotate_left;(intro w';go_simp;with_reducible rfl);rotate_left;(simp only [Act.put,List.setIfInBounds_toArray,List.set_cons_zero,List.set_cons_succ,i64_w,i32_w];rfl)
          refine pure_ (i:=4) (N:=some 21) (v:=?_) (a':=?_) #[true,true,true,true,true,false,false,false,false,false,false,false,false,false,false,false,false,false,false,false,false] rfl rfl (any_of HT_.out (by kernel_rfl)) (fun _ _ _ h=>h) (Or.inl ⟨by rfl,?_⟩) ?_ ?_
          rotate_left;(intro w';go_simp;with_reducible rfl);rotate_left;(simp only [Act.put,List.setIfInBounds_toArray,List.set_cons_zero,List.set_cons_succ,i64_w,i32_w];rfl)
          refine pure_ (i:=5) (N:=some 22) (v:=?_) (a':=?_) #[true,true,true,true,true,true,false,false,false,false,false,false,false,false,false,false,false,false,false,false,false] rfl rfl (any_of HT_.out (by kernel_rfl)) (fun _ _ _ h=>h) (Or.inl ⟨by rfl,?_⟩) ?_ ?_
          rotate_left;(intro w';go_simp;with_reducible rfl);rotate_left;(simp only [Act.put,List.setIfInBounds_toArray,List.set_cons_zero,List.set_cons_succ,i64_w,i32_w];rfl)
          refine pure_ (i:=6) (N:=some 23) (v:=?_) (a':=?_) #[true,true,true,true,true,true,true,false,false,false,false,false,false,false,false,false,false,false,false,false,false] rfl rfl (any_of HT_.out (by kernel_rfl)) (fun _ _ _ h=>h) (Or.inl ⟨by rfl,?_⟩) ?_ ?_
          rotate_left;(intro w';go_simp;with_reducible rfl);rotate_left;(simp only [Act.put,List.setIfInBounds_toArray,List.set_cons_zero,List.set_cons_succ,i64_w,i32_w];rfl)
          refine pure_ (i:=7) (N:=some 24) (v:=?_) (a':=?_) #[true,true,true,true,true,true,true,true,false,false,false,false,false,false,false,false,false,false,false,false,false] rfl rfl (any_of HT_.out (by kernel_rfl)) (fun _ _ _ h=>h) (Or.inl ⟨by rfl,?_⟩) ?_ ?_
          rotate_left;(intro w';go_simp;with_reducible rfl);rotate_left;(simp only [Act.put,List.setIfInBounds_toArray,List.set_cons_zero,List.set_cons_succ,i64_w,i32_w];rfl)
          refine pure_ (i:=9) (N:=some 26) (v:=?_) (a':=?_) #[true,true,true,true,true,true,true,true,false,true,false,false,false,false,false,false,false,false,false,false,false] rfl rfl (any_of HT_.out (by kernel_rfl)) (fun _ _ _ h=>h) (Or.inl ⟨by rfl,?_⟩) ?_ ?_
          rotate_left;(intro w';go_simp;with_reducible rfl);rotate_left;(simp only [Act.put,List.setIfInBounds_toArray,List.set_cons_zero,List.set_cons_succ,i64_w,i32_w];rfl)
          refine pure_ (i:=10) (N:=some 27) (v:=?_) (a':=?_) #[true,true,true,true,true,true,true,true,false,true,true,false,false,false,false,false,false,false,false,false,false] rfl rfl (any_of HT_.out (by kernel_rfl)) (fun _ _ _ h=>h) (Or.inl ⟨by rfl,?_⟩) ?_ ?_
          rotate_left;(intro w';go_simp;with_reducible rfl);rotate_left;(simp only [Act.put,List.setIfInBounds_toArray,List.set_cons_zero,List.set_cons_succ,i64_w,i32_w];rfl)
          refine pure_ (i:=11) (N:=some 28) (v:=?_) (a':=?_) #[true,true,true,true,true,true,true,true,false,true,true,true,false,false,false,false,false,false,false,false,false] rfl rfl (any_of HT_.out (by kernel_rfl)) (fun _ _ _ h=>h) (Or.inl ⟨by rfl,?_⟩) ?_ ?_
          rotate_left;(intro w';go_simp;with_reducible rfl);rotate_left;(simp only [Act.put,List.setIfInBounds_toArray,List.set_cons_zero,List.set_cons_succ,i64_w,i32_w];rfl)
          refine pure_ (i:=12) (N:=some 29) (v:=?_) (a':=?_) #[true,true,true,true,true,true,true,true,false,true,true,true,true,false,false,false,false,false,false,false,false] rfl rfl (any_of HT_.out (by kernel_rfl)) (fun _ _ _ h=>h) (Or.inl ⟨by rfl,?_⟩) ?_ ?_
          rotate_left;(intro w';go_simp;with_reducible rfl);rotate_left;(simp only [Act.put,List.setIfInBounds_toArray,List.set_cons_zero,List.set_cons_succ,i64_w,i32_w];rfl)
          refine pure_ (i:=14) (N:=some 31) (v:=?_) (a':=?_) #[true,true,true,true,true,true,true,true,false,true,true,true,true,false,true,false,false,false,false,false,false] rfl rfl (any_of HT_.out (by kernel_rfl)) (fun _ _ _ h=>h) (Or.inl ⟨by rfl,?_⟩) ?_ ?_
          rotate_left;(intro w';go_simp;with_reducible rfl);rotate_left;(simp only [Act.put,List.setIfInBounds_toArray,List.set_cons_zero,List.set_cons_succ,i64_w,i32_w];rfl)
          refine pure_ (i:=15) (N:=some 32) (v:=?_) (a':=?_) #[true,true,true,true,true,true,true,true,false,true,true,true,true,false,true,true,false,false,false,false,false] rfl rfl (any_of HT_.out (by kernel_rfl)) (fun _ _ _ h=>h) (Or.inl ⟨by rfl,?_⟩) ?_ ?_
          rotate_left;(intro w';go_simp;with_reducible rfl);rotate_left;(simp only [Act.put,List.setIfInBounds_toArray,List.set_cons_zero,List.set_cons_succ,i64_w,i32_w];rfl)
          refine pure_ (i:=16) (N:=some 33) (v:=?_) (a':=?_) #[true,true,true,true,true,true,true,true,false,true,true,true,true,false,true,true,true,false,false,false,false] rfl rfl (any_of HT_.out (by kernel_rfl)) (fun _ _ _ h=>h) (Or.inl ⟨by rfl,?_⟩) ?_ ?_
          rotate_left;(intro w';go_simp;with_reducible rfl);rotate_left;(simp only [Act.put,List.setIfInBounds_toArray,List.set_cons_zero,List.set_cons_succ,i64_w,i32_w];rfl)
          refine take_ (i:=8) (N:=some 25) (v:=?_) (a':=?_) #[true,true,true,true,true,true,true,true,true,true,true,true,true,false,true,true,true,false,false,false,false] rfl rfl (take_ofW HT_.out HW_.out (by kernel_rfl)) (fun _ _ _ h=>h) (Or.inl ⟨by rfl,?_⟩) hHeld ?_ ?_
          rotate_left;(rintro w' ⟨s0,s1,s2,s3,s4,s5⟩;go_simp;with_reducible rfl);rotate_left;(simp only [Act.put,List.setIfInBounds_toArray,List.set_cons_zero,List.set_cons_succ,i64_w,i32_w];rfl)
          refine take_ (i:=13) (N:=some 30) (v:=?_) (a':=?_) #[true,true,true,true,true,true,true,true,true,true,true,true,true,true,true,true,true,false,false,false,false] rfl rfl (take_ofW HT_.out HW_.out (by kernel_rfl)) (fun _ _ _ h=>h) (Or.inl ⟨by rfl,?_⟩) hHeld ?_ ?_
          rotate_left;(rintro w' ⟨s0,s1,s2,s3,s4,s5⟩;go_simp;with_reducible rfl);rotate_left;(simp only [Act.put,List.setIfInBounds_toArray,List.set_cons_zero,List.set_cons_succ,i64_w,i32_w];rfl)
          refine take_ (i:=17) (N:=some 34) (v:=?_) (a':=?_) #[true,true,true,true,true,true,true,true,true,true,true,true,true,true,true,true,true,true,false,false,false] rfl rfl (take_ofW HT_.out HW_.out (by kernel_rfl)) (fun _ _ _ h=>h) (Or.inl ⟨by rfl,?_⟩) hHeld ?_ ?_
          rotate_left;(rintro w' ⟨s0,s1,s2,s3,s4,s5⟩;go_simp;with_reducible rfl);rotate_left;(simp only [Act.put,List.setIfInBounds_toArray,List.set_cons_zero,List.set_cons_succ,i64_w,i32_w];rfl)
          refine one_ (i:=18) (N:=some 35) #[true,true,true,true,true,true,true,true,true,true,true,true,true,true,true,true,true,true,true,false,false] rfl rfl (one_of HT_.out (by kernel_rfl)) (by decide) (fun K hK=>?_)
          refine goes_ Try.func27 (by kernel_rfl) rfl #[.agg #[.slice A0_0 l0_0.length c0_0,.int .i64 a0_1,.int .i64 a0_2,.int .i64 a0_3],.slice A373_0 (rd_L3 x5_1 (ji12)).length c373_0,.slice A374_0 (rd_L3 x1_1 x6_1).length c374_0] (by rfl) rfl rfl (by (try simp only [List.map_toArray,List.map_cons,List.map_nil]);first|done|(simp only [hji12];rfl)|rfl|(simp only [List.length_drop,List.length_take];rfl)) ?_
          with_reducible refine (thresherref04_Compare.calls k1 _ _ l0_0 a0_1 a0_2 a0_3 _ _ (rd_L3 x5_1 (ji12)) _ _ (rd_L3 x1_1 x6_1) t375 _ ?side1 ?side2 ?side3 ?side4 ?side5 ?side6 A16.out).mono ?_
          (case side1=>repeat (first|exact (Kd.C_below HR0_0.out HB.out)|(with_reducible refine Kd.C_alloc ?_ _)|(with_reducible refine Kd.C_drewN ?_ _)|(with_reducible refine Kd.C_drew ?_)))
          (case side2=>exact HC0_0.out)
          (case side3=>repeat (first|exact (by repeat (first|(with_reducible exact HR373_0.out)|(with_reducible refine Kd.C_alloc ?_ _)|(with_reducible refine Kd.C_drewN ?_ _)|(with_reducible refine Kd.C_drew ?_)|exact HR373_0.out))|(with_reducible refine Kd.C_alloc ?_ _)|(with_reducible refine Kd.C_drewN ?_ _)|(with_reducible refine Kd.C_drew ?_)))
          (case side4=>exact HC373_0.out)
          (case side5=>repeat (first|exact (by repeat (first|(with_reducible exact HR374_0.out)|(with_reducible refine Kd.C_alloc ?_ _)|(with_reducible refine Kd.C_drewN ?_ _)|(with_reducible refine Kd.C_drew ?_)|exact HR374_0.out))|(with_reducible refine Kd.C_alloc ?_ _)|(with_reducible refine Kd.C_drewN ?_ _)|(with_reducible refine Kd.C_drew ?_)))
          (case side6=>exact HC374_0.out)
          rintro e w18 ⟨rfl,hb⟩
          have HS4_:=(hb.cell (World.block_lt_of_cell? _ _ (hHeld.2.2.2.2.1))).trans (hHeld.2.2.2.2.1)
          have HS5_:=(hb.cell (World.block_lt_of_cell? _ _ (hHeld.2.2.2.2.2))).trans (hHeld.2.2.2.2.2)
          refine ⟨_,rfl,?_⟩
          have n0_:=Aside0.mk (Kd.V_below (V_up HO_1.out) hb)
          have n1_:=Aside0.mk (Kd.N_below (N_up HO_5.out) hb)
          have n2_:=Aside0.mk (Kd.V_below (by (with_reducible repeat (first|apply Kd.V_alloc|apply Kd.V_drewN|apply Kd.V_drew));exact HL373_0.out) hb)
          have n3_:=Aside0.mk (Kd.V_below (by (with_reducible repeat (first|apply Kd.V_alloc|apply Kd.V_drewN|apply Kd.V_drew));exact HL374_0.out) hb)
          have n4_:=Aside0.mk (blk_below (blk_up BK369.out) hb)
          have n5_:=Aside0.mk (Kd.C_below (by repeat (first|(with_reducible exact HR373_0.out)|(with_reducible refine Kd.C_alloc ?_ _)|(with_reducible refine Kd.C_drewN ?_ _)|(with_reducible refine Kd.C_drew ?_)|exact HR373_0.out)) hb)
          have n6_:=Aside0.mk (Kd.C_below (by repeat (first|(with_reducible exact HR374_0.out)|(with_reducible refine Kd.C_alloc ?_ _)|(with_reducible refine Kd.C_drewN ?_ _)|(with_reducible refine Kd.C_drew ?_)|exact HR374_0.out)) hb)
          have n7_:=Aside0.mk (below_step (below_go HB.out) hb)
          clear HO_1
          clear HO_5
          clear HL373_0
          clear HL374_0
          clear BK369
          clear HR373_0
          clear HR374_0
          clear HB
          have HO_1:=n0_
          have HO_5:=n1_
          have HL373_0:=n2_
          have HL374_0:=n3_
          have BK369:=n4_
          have HR373_0:=n5_
          have HR374_0:=n6_
          have HB:=n7_
          clear n0_ n1_ n2_ n3_ n4_ n5_ n6_ n7_
          (try clear hb)
          (try clear hb2)
          (try clear hk)
          (try clear hi)
          refine hK.out _ _ ⟨(blk_cell BK369.out 0).trans rfl,(blk_cell BK369.out 1).trans rfl,(blk_cell BK369.out 2).trans rfl,(blk_cell BK369.out 3).trans rfl,HS4_,HS5_⟩ (fun hHeld=>?_)
          clear hK K
          refine norm_ (a':=?_) ?_ ?_
          rotate_left
          ·show Act.put _ (some 35) _=_
           simp only [Act.put,List.setIfInBounds_toArray,List.set_cons_zero,List.set_cons_succ,i64_w,i32_w]
           rfl
          refine pure_ (i:=19) (N:=some 36) (v:=?_) (a':=?_) #[true,true,true,true,true,true,true,true,true,true,true,true,true,true,true,true,true,true,true,true,false] rfl rfl (any_of HT_.out (by kernel_rfl)) (fun _ _ _ h=>h) (Or.inl ⟨by rfl,?_⟩) ?_ ?_
          rotate_left;(intro w';go_simp;with_reducible rfl);rotate_left;(simp only [Act.put,List.setIfInBounds_toArray,List.set_cons_zero,List.set_cons_succ,i64_w,i32_w];rfl)
          refine pure_ (i:=20) (N:=some 37) (v:=?_) (a':=?_) #[true,true,true,true,true,true,true,true,true,true,true,true,true,true,true,true,true,true,true,true,true] rfl rfl (any_of HT_.out (by kernel_rfl)) (fun _ _ _ h=>h) (Or.inl ⟨by rfl,?_⟩) ?_ ?_
          rotate_left;(intro w';go_simp;with_reducible rfl);rotate_left;(simp only [Act.put,List.setIfInBounds_toArray,List.set_cons_zero,List.set_cons_succ,i64_w,i32_w];rfl)
          refine done_ (done_of HT_.out (by kernel_rfl)) ?_
          (try clear HS4_);(try clear HS5_);(try clear hHeld)
          try go_wp2
          go_meet
          case rel=>exact ⟨_,((t375 == 0)),(by first|rfl|(simp;done)|(simp [*];done)),(by first|exact H'|(subst_vars;exact H')),⟨by have:=HK1.out;first|omega|exact Nat.le_refl _⟩,⟨by (try simp only [hl1_1]);(with_reducible repeat (first|apply Kd.V_alloc|apply Kd.V_drewN|apply Kd.V_drew));exact HO_1.out⟩,⟨by (try simp only [hl1_1]);(with_reducible repeat (first|apply Kd.N_alloc|apply Kd.N_drewN|apply Kd.N_drew));exact HO_5.out⟩,⟨by (try simp only [hl1_1]);(with_reducible repeat (first|refine blk_drewN ?_ _|refine blk_drew ?_|refine blk_alloc ?_ _));exact BK369.out⟩,⟨by repeat (first|(with_reducible first|exact HB.out|apply below_alloc|apply pw_below_drewN|apply below_drew1|refine below_set ?_ GE369.out)|exact HB.out)⟩⟩
         ·rw [if_neg c15] at H
          exact absurd H (by simp)
        ·rw [if_neg c14] at H
         exact absurd H (by simp)
       ·rw [if_neg c13] at H
        exact absurd H (by simp)
      ·rw [if_neg c11] at H
       have c11b0 : decide (0 < (x5_1.length : Int))=false:=decide_eq_false c11
       have c11b1 : decide (0 < x5_1.length)=false:=decide_eq_false (by omega)
       clear c11
       have H':=Aside0.mk H
       clear H
       try go_wp2
       have n0_:=Aside0.mk (Kd.V_drew HO_1.out)
       have n1_:=Aside0.mk (Kd.N_drew HO_5.out)
       have n2_:=Aside0.mk (blk_drew BK369.out)
       have n3_:=Aside0.mk (below_drew1 HB.out)
       clear HO_1
       clear HO_5
       clear BK369
       clear HB
       have HO_1:=n0_
       have HO_5:=n1_
       have BK369:=n2_
       have HB:=n3_
       clear n0_ n1_ n2_ n3_
       refine start_ (n:=21) (S:=fun w'=>w'.cell? ⟨gb369,0,none⟩=some (.slice A0_0 l0_0.length c0_0)∧w'.cell? ⟨gb369,1,none⟩=some (.int .i64 a0_1)∧w'.cell? ⟨gb369,2,none⟩=some (.int .i64 a0_2)∧w'.cell? ⟨gb369,3,none⟩=some (.int .i64 a0_3)) (ds:=[]) #[false,false,false,false,false,false,false,false,false,false,false,false,false,false,false,false,false,false,false,false,false] (by kernel_rfl) rfl rfl ⟨(blk_cell BK369.out 0).trans rfl,(blk_cell BK369.out 1).trans rfl,(blk_cell BK369.out 2).trans rfl,(blk_cell BK369.out 3).trans rfl⟩ (fun hHeld=>?_);refine with_tabW thresherref13_Rows.tab6 thresherref13_Rows.bits6 (fun HT_ HW_=>?_)
       generalize wr.drew=w19 at HO_1 HO_5 BK369 HB hHeld ⊢
       refine pure_ (i:=0) (N:=some 17) (v:=?_) (a':=?_) #[true,false,false,false,false,false,false,false,false,false,false,false,false,false,false,false,false,false,false,false,false] rfl rfl (any_of HT_.out (by kernel_rfl)) (fun _ _ _ h=>h) (Or.inl ⟨by rfl,?_⟩) ?_ ?_
       rotate_left;(intro w';go_simp;with_reducible rfl);rotate_left;(simp only [Act.put,List.setIfInBounds_toArray,List.set_cons_zero,List.set_cons_succ,i64_w,i32_w];rfl)
       refine take_ (i:=1) (N:=some 18) (v:=?_) (a':=?_) #[true,true,false,false,false,false,false,false,false,false,false,false,false,false,false,false,false,false,false,false,false] rfl rfl (take_ofW HT_.out HW_.out (by kernel_rfl)) (fun _ _ _ h=>h) (Or.inl ⟨by rfl,?_⟩) hHeld ?_ ?_
       rotate_left;(rintro w' ⟨s0,s1,s2,s3⟩;go_simp;with_reducible rfl);rotate_left;(simp only [Act.put,List.setIfInBounds_toArray,List.set_cons_zero,List.set_cons_succ,i64_w,i32_w];rfl)
       refine pure_ (i:=2) (N:=some 19) (v:=?_) (a':=?_) #[true,true,true,false,false,false,false,false,false,false,false,false,false,false,false,false,false,false,false,false,false] rfl rfl (any_of HT_.out (by kernel_rfl)) (fun _ _ _ h=>h) (Or.inl ⟨by rfl,?_⟩) ?_ ?_
       rotate_left;(intro w';go_simp;with_reducible rfl);rotate_left;(simp only [Act.put,List.setIfInBounds_toArray,List.set_cons_zero,List.set_cons_succ,i64_w,i32_w];rfl)
       refine pure_ (i:=3) (N:=some 20) (v:=?_) (a':=?_) #[true,true,true,true,false,false,false,false,false,false,false,false,false,false,false,false,false,false,false,false,false] rfl rfl (any_of HT_.out (by kernel_rfl)) (fun _ _ _ h=>h) (Or.inl ⟨by rfl,?_⟩) ?_ ?_
       rotate_left;(intro w';go_simp;with_reducible rfl);rotate_left;(simp only [Act.put,List.setIfInBounds_toArray,List.set_cons_zero,List.set_cons_succ,i64_w,i32_w];rfl)
       refine pure_ (i:=4) (N:=some 21) (v:=?_) (a':=?_) #[true,true,true,true,true,false,false,false,false,false,false,false,false,false,false,false,false,false,false,false,false] rfl rfl (any_of HT_.out (by kernel_rfl)) (fun _ _ _ h=>h) (Or.inl ⟨by rfl,?_⟩) ?_ ?_
       rotate_left;(intro w';go_simp;with_reducible rfl);rotate_left;(simp only [Act.put,List.setIfInBounds_toArray,List.set_cons_zero,List.set_cons_succ,i64_w,i32_w];rfl)
       refine pure_ (i:=5) (N:=some 22) (v:=?_) (a':=?_) #[true,true,true,true,true,true,false,false,false,false,false,false,false,false,false,false,false,false,false,false,false] rfl rfl (any_of HT_.out (by kernel_rfl)) (fun _ _ _ h=>h) (Or.inl ⟨by rfl,?_⟩) ?_ ?_
       rotate_left;(intro w';go_simp;with_reducible rfl);rotate_left;(simp only [Act.put,List.setIfInBounds_toArray,List.set_cons_zero,List.set_cons_succ,i64_w,i32_w];rfl)
       refine pure_ (i:=6) (N:=some 23) (v:=?_) (a':=?_) #[true,true,true,true,true,true,true,false,false,false,false,false,false,false,false,false,false,false,false,false,false] rfl rfl (any_of HT_.out (by kernel_rfl)) (fun _ _ _ h=>h) (Or.inl ⟨by rfl,?_⟩) ?_ ?_
       rotate_left;(intro w';go_simp;with_reducible rfl);rotate_left;(simp only [Act.put,List.setIfInBounds_toArray,List.set_cons_zero,List.set_cons_succ,i64_w,i32_w];rfl)
       refine pure_ (i:=7) (N:=some 24) (v:=?_) (a':=?_) #[true,true,true,true,true,true,true,true,false,false,false,false,false,false,false,false,false,false,false,false,false] rfl rfl (any_of HT_.out (by kernel_rfl)) (fun _ _ _ h=>h) (Or.inl ⟨by rfl,?_⟩) ?_ ?_
       rotate_left;(intro w';go_simp;with_reducible rfl);rotate_left;(simp only [Act.put,List.setIfInBounds_toArray,List.set_cons_zero,List.set_cons_succ,i64_w,i32_w];rfl)
       refine pure_ (i:=8) (N:=some 25) (v:=undef) (a':=?_) #[true,true,true,true,true,true,true,true,true,false,false,false,false,false,false,false,false,false,false,false,false] rfl rfl (any_of HT_.out (by kernel_rfl)) (fun _ _ _ h=>h) (Or.inr ⟨by rfl,rfl⟩) ?_ ?_
       rotate_left
       ·simp only [Act.put,List.setIfInBounds_toArray,List.set_cons_zero,List.set_cons_succ,i64_w,i32_w]
        rfl
       refine pure_ (i:=9) (N:=some 26) (v:=undef) (a':=?_) #[true,true,true,true,true,true,true,true,true,true,false,false,false,false,false,false,false,false,false,false,false] rfl rfl (any_of HT_.out (by kernel_rfl)) (fun _ _ _ h=>h) (Or.inr ⟨by rfl,rfl⟩) ?_ ?_
       rotate_left
       ·simp only [Act.put,List.setIfInBounds_toArray,List.set_cons_zero,List.set_cons_succ,i64_w,i32_w]
        rfl
       refine pure_ (i:=10) (N:=some 27) (v:=undef) (a':=?_) #[true,true,true,true,true,true,true,true,true,true,true,false,false,false,false,false,false,false,false,false,false] rfl rfl (any_of HT_.out (by kernel_rfl)) (fun _ _ _ h=>h) (Or.inr ⟨by rfl,rfl⟩) ?_ ?_
       rotate_left
       ·simp only [Act.put,List.setIfInBounds_toArray,List.set_cons_zero,List.set_cons_succ,i64_w,i32_w]
        rfl
       refine pure_ (i:=11) (N:=some 28) (v:=undef) (a':=?_) #[true,true,true,true,true,true,true,true,true,true,true,true,false,false,false,false,false,false,false,false,false] rfl rfl (any_of HT_.out (by kernel_rfl)) (fun _ _ _ h=>h) (Or.inr ⟨by rfl,rfl⟩) ?_ ?_
       rotate_left
       ·simp only [Act.put,List.setIfInBounds_toArray,List.set_cons_zero,List.set_cons_succ,i64_w,i32_w]
        rfl
       refine pure_ (i:=12) (N:=some 29) (v:=undef) (a':=?_) #[true,true,true,true,true,true,true,true,true,true,true,true,true,false,false,false,false,false,false,false,false] rfl rfl (any_of HT_.out (by kernel_rfl)) (fun _ _ _ h=>h) (Or.inr ⟨by rfl,rfl⟩) ?_ ?_
       rotate_left
       ·simp only [Act.put,List.setIfInBounds_toArray,List.set_cons_zero,List.set_cons_succ,i64_w,i32_w]
        rfl
       refine pure_ (i:=13) (N:=some 30) (v:=undef) (a':=?_) #[true,true,true,true,true,true,true,true,true,true,true,true,true,true,false,false,false,false,false,false,false] rfl rfl (any_of HT_.out (by kernel_rfl)) (fun _ _ _ h=>h) (Or.inr ⟨by rfl,rfl⟩) ?_ ?_
       rotate_left
       ·simp only [Act.put,List.setIfInBounds_toArray,List.set_cons_zero,List.set_cons_succ,i64_w,i32_w]
        rfl
       refine pure_ (i:=14) (N:=some 31) (v:=undef) (a':=?_) #[true,true,true,true,true,true,true,true,true,true,true,true,true,true,true,false,false,false,false,false,false] rfl rfl (any_of HT_.out (by kernel_rfl)) (fun _ _ _ h=>h) (Or.inr ⟨by rfl,rfl⟩) ?_ ?_
       rotate_left
       ·simp only [Act.put,List.setIfInBounds_toArray,List.set_cons_zero,List.set_cons_succ,i64_w,i32_w]
        rfl
       refine pure_ (i:=15) (N:=some 32) (v:=undef) (a':=?_) #[true,true,true,true,true,true,true,true,true,true,true,true,true,true,true,true,false,false,false,false,false] rfl rfl (any_of HT_.out (by kernel_rfl)) (fun _ _ _ h=>h) (Or.inr ⟨by rfl,rfl⟩) ?_ ?_
       rotate_left
       ·simp only [Act.put,List.setIfInBounds_toArray,List.set_cons_zero,List.set_cons_succ,i64_w,i32_w]
        rfl
       refine pure_ (i:=16) (N:=some 33) (v:=undef) (a':=?_) #[true,true,true,true,true,true,true,true,true,true,true,true,true,true,true,true,true,false,false,false,false] rfl rfl (any_of HT_.out (by kernel_rfl)) (fun _ _ _ h=>h) (Or.inr ⟨by rfl,rfl⟩) ?_ ?_
       rotate_left
       ·simp only [Act.put,List.setIfInBounds_toArray,List.set_cons_zero,List.set_cons_succ,i64_w,i32_w]
        rfl
       refine pure_ (i:=17) (N:=some 34) (v:=undef) (a':=?_) #[true,true,true,true,true,true,true,true,true,true,true,true,true,true,true,true,true,true,false,false,false] rfl rfl (any_of HT_.out (by kernel_rfl)) (fun _ _ _ h=>h) (Or.inr ⟨by rfl,rfl⟩) ?_ ?_
       rotate_left
       ·simp only [Act.put,List.setIfInBounds_toArray,List.set_cons_zero,List.set_cons_succ,i64_w,i32_w]
        rfl
       refine pure_ (i:=18) (N:=some 35) (v:=undef) (a':=?_) #[true,true,true,true,true,true,true,true,true,true,true,true,true,true,true,true,true,true,true,false,false] rfl rfl (any_of HT_.out (by kernel_rfl)) (fun _ _ _ h=>h) (Or.inr ⟨by rfl,rfl⟩) ?_ ?_
       rotate_left
       ·simp only [Act.put,List.setIfInBounds_toArray,List.set_cons_zero,List.set_cons_succ,i64_w,i32_w]
        rfl
       refine pure_ (i:=19) (N:=some 36) (v:=undef) (a':=?_) #[true,true,true,true,true,true,true,true,true,true,true,true,true,true,true,true,true,true,true,true,false] rfl rfl (any_of HT_.out (by kernel_rfl)) (fun _ _ _ h=>h) (Or.inr ⟨by rfl,rfl⟩) ?_ ?_
       rotate_left
       ·simp only [Act.put,List.setIfInBounds_toArray,List.set_cons_zero,List.set_cons_succ,i64_w,i32_w]
        rfl
       refine pure_ (i:=20) (N:=some 37) (v:=?_) (a':=?_) #[true,true,true,true,true,true,true,true,true,true,true,true,true,true,true,true,true,true,true,true,true] rfl rfl (any_of HT_.out (by kernel_rfl)) (fun _ _ _ h=>h) (Or.inl ⟨by rfl,?_⟩) ?_ ?_
       rotate_left;(intro w';go_simp;with_reducible rfl);rotate_left;(simp only [Act.put,List.setIfInBounds_toArray,List.set_cons_zero,List.set_cons_succ,i64_w,i32_w];rfl)
       refine done_ (done_of HT_.out (by kernel_rfl)) ?_
       (try clear hHeld)
       try go_wp2
       go_meet
       case rel=>exact ⟨_,(false),(by first|rfl|(simp;done)|(simp [*];done)),(by first|exact H'|(subst_vars;exact H')),⟨by have:=HK1.out;first|omega|exact Nat.le_refl _⟩,⟨by (try simp only [hl1_1]);(with_reducible repeat (first|apply Kd.V_alloc|apply Kd.V_drewN|apply Kd.V_drew));exact HO_1.out⟩,⟨by (try simp only [hl1_1]);(with_reducible repeat (first|apply Kd.N_alloc|apply Kd.N_drewN|apply Kd.N_drew));exact HO_5.out⟩,⟨by (try simp only [hl1_1]);(with_reducible repeat (first|refine blk_drewN ?_ _|refine blk_drew ?_|refine blk_alloc ?_ _));exact BK369.out⟩,⟨by repeat (first|(with_reducible first|exact HB.out|apply below_alloc|apply pw_below_drewN|apply below_drew1|refine below_set ?_ GE369.out)|exact HB.out)⟩⟩
    case rest =>
     clear HC7
     try clear c1
     try clear c2
     try clear p2
     try clear c3
     try clear p3
     try clear q3
     try clear hx3
     try clear p6
     try clear c9
     try clear c9b0
     try clear c9b1
     try clear c11
     try clear c11b0
     try clear c11b1
     try clear c13
     try clear c13b0
     try clear c14
     try clear c14b0
     try clear c15
     try clear c15b0
     try clear hx373_0
     try clear hx374_0
     try clear p373
     try clear p374
     try clear q373
     try clear q374
     obtain ⟨kq,x37_6,rfl,HA,HJ6,HO_1,HO_5,BK369,HB⟩:=hcut
     cases kq with
     | zero=>exact absurd HA.out (by simp [thresherref13_Rows.j1])
     | succ kj6 =>
      have H:=HA.out
      clear HA
      simp only [thresherref13_Rows.j1] at H
      by_cases c20 : x37_6=true
      ·subst c20
       have H1 : (if 0≤(wrap64 ((x5_1.length : Int) - 1)) then (if (wrap64 ((x5_1.length : Int) - 1)) < (x5_1.length : Int) then (if 0≤x6_1 then (if x6_1 < (x1_1.length : Int) then ((thresherref13_One.f kj6 l0_0 a0_1 a0_2 a0_3 (rd_L3 x5_1 (wrap64 ((x5_1.length : Int) - 1))) (rd_L3 x1_1 x6_1)).bind fun t378=>(thresherref13_Rows.l0 kj6 x1_1 (x5_1.set ((wrap64 ((x5_1.length : Int) - 1)) : Int).toNat t378) (wrap64 (x6_1 + 1)) l0_0 a0_1 a0_2 a0_3)) else (none)) else (none)) else (none)) else (none))=some r:=by rw [if_pos rfl] at H;exact H
       clear H
       have H:=H1
       clear H1
       obtain ⟨ji21,hji21⟩ : ∃ j_ : Int,(wrap64 ((x5_1.length : Int) - 1))=j_:=⟨_,rfl⟩
       replace H : (if 0≤(ji21) then (if (ji21) < (x5_1.length : Int) then (if 0≤x6_1 then (if x6_1 < (x1_1.length : Int) then ((thresherref13_One.f kj6 l0_0 a0_1 a0_2 a0_3 (rd_L3 x5_1 (ji21)) (rd_L3 x1_1 x6_1)).bind fun t378=>(thresherref13_Rows.l0 kj6 x1_1 (x5_1.set ((ji21) : Int).toNat t378) (wrap64 (x6_1 + 1)) l0_0 a0_1 a0_2 a0_3)) else (none)) else (none)) else (none)) else (none))=some r:=by first|(rw [hji21] at H;exact H)|(simp only [hji21] at H ⊢;exact H)
       have hji21w : (IntKind.i64.wrap ((x5_1.length : Int) - 1))=ji21:=(i64_w _).trans hji21
       by_cases c22 : 0≤(ji21)
       ·rw [if_pos c22] at H
        have c22b0 : decide (0≤(ji21))=true:=decide_eq_true c22
        clear c22
        by_cases c23 : (ji21) < (x5_1.length : Int)
        ·rw [if_pos c23] at H
         have c23b0 : decide ((ji21) < (x5_1.length : Int))=true:=decide_eq_true c23
         clear c23
         by_cases c24 : 0≤x6_1
         ·rw [if_pos c24] at H
          have c24b0 : decide (0≤x6_1)=true:=decide_eq_true c24
          clear c24
          by_cases c25 : x6_1 < (x1_1.length : Int)
          ·rw [if_pos c25] at H
           have c25b0 : decide (x6_1 < (x1_1.length : Int))=true:=decide_eq_true c25
           clear c25
           replace H:=Option.bind_eq_some_iff.mp H
           obtain ⟨t378,A260,H⟩:=H
           replace H : (thresherref13_Rows.l0 kj6 x1_1 (x5_1.set ((ji21) : Int).toNat t378) (wrap64 (x6_1 + 1)) l0_0 a0_1 a0_2 a0_3)=some r:=H
           have A26:=Aside0.mk A260
           clear A260
           obtain ⟨y381,hy381⟩ : ∃ y_ : List (List (S31)),y_=(x5_1.set ((ji21) : Int).toNat t378):=⟨_,rfl⟩
           replace H : (thresherref13_Rows.l0 kj6 x1_1 y381 (wrap64 (x6_1 + 1)) l0_0 a0_1 a0_2 a0_3)=some r:=by first|(rw [hy381];with_reducible exact H)|(have H2_:=(Option.bind_some _ _).symm.trans H;rw [hy381];with_reducible exact H2_)|(have H2_:=(Option.bind_some _ _).symm.trans H;with_reducible exact H2_)|with_reducible exact H|(rw [hy381];exact H)|exact H
           have Ny381:=Aside0.mk hy381
           clear hy381
           have H':=Aside0.mk H
           clear H
           try go_wp2
           have n0_:=Aside0.mk (Kd.V_drew HO_1.out)
           have n1_:=Aside0.mk (Kd.N_drew HO_5.out)
           have n2_:=Aside0.mk (blk_drew BK369.out)
           have n3_:=Aside0.mk (below_drew1 HB.out)
           clear HO_1
           clear HO_5
           clear BK369
           clear HB
           have HO_1:=n0_
           have HO_5:=n1_
           have BK369:=n2_
           have HB:=n3_
           clear n0_ n1_ n2_ n3_
           have p376 : 0≤((ji21) : Int):=of_decide_eq_true (by first|(with_reducible assumption)|assumption)
           have q376 : (ji21) < (x5_1.length : Int):=of_decide_eq_true (by first|(with_reducible assumption)|assumption)
           obtain ⟨ad376,A376_0,c376_0,e376,hx376_0,hl376_0,hi376_0⟩:=at_L3 (Kd.N_reads' HO_5.out).2.2 (ji21) p376 q376
           cases e376
           obtain ⟨ce376,hce376,hMe376,hcc376⟩:=Kd.N_get HO_5.out [] (ji21) p376 (by first|exact q376|exact of_decide_eq_true (by first|(with_reducible assumption)|assumption)|(have e_:=(Kd.N_reads' HO_5.out).1;omega))
           obtain ⟨ua376_0,uc376_0,rfl,ul376_0,ge376_0⟩:=Kd.FK_slice_open hMe376
           have hv376_0:=hcc376 0 _ rfl
           rw [Nat.add_zero,show ((Kd.slice 31 k31)).sz=1 from rfl,Nat.mul_one] at hv376_0
           replace hv376_0:=Option.some.inj (hv376_0.symm.trans hx376_0)
           injection hv376_0 with hva_ hvn_ hvc_
           rw [hva_] at ge376_0
           rw [hvc_] at ul376_0
           have HL376_0:=Aside0.mk (show Kd.V k31 31 _ w.heap.size _ _ (rd_L3 x5_1 (ji21)) from Kd.V_mk ul376_0 ge376_0)
           clear hva_ hvn_ hvc_ ge376_0 ul376_0
           clear hcc376 hce376
           have HR376_0:=Aside0.mk hi376_0
           have HC376_0:=Aside0.mk hl376_0
           clear hi376_0 hl376_0
           replace p376:=eq_true p376
           replace q376:=eq_true q376
           have p377 : 0≤(x6_1 : Int):=of_decide_eq_true (by first|(with_reducible assumption)|assumption)
           have q377 : x6_1 < (x1_1.length : Int):=of_decide_eq_true (by first|(with_reducible assumption)|assumption)
           obtain ⟨ad377,A377_0,c377_0,e377,hx377_0,hl377_0,hi377_0⟩:=at_L3 (Kd.V_reads' HO_1.out).2.2 x6_1 p377 q377
           cases e377
           obtain ⟨ce377,hce377,hMe377,hcc377⟩:=Kd.V_get HO_1.out [] x6_1 p377 (by first|exact q377|exact of_decide_eq_true (by first|(with_reducible assumption)|assumption)|(have e_:=(Kd.V_reads' HO_1.out).1;omega))
           obtain ⟨ua377_0,uc377_0,rfl,ul377_0,ge377_0⟩:=Kd.FK_slice_open hMe377
           have hv377_0:=hcc377 0 _ rfl
           rw [Nat.add_zero,show ((Kd.slice 31 k31)).sz=1 from rfl,Nat.mul_one] at hv377_0
           replace hv377_0:=Option.some.inj (hv377_0.symm.trans hx377_0)
           injection hv377_0 with hva_ hvn_ hvc_
           rw [hva_] at ge377_0
           rw [hvc_] at ul377_0
           have HL377_0:=Aside0.mk (show Kd.V k31 31 _ w.heap.size _ _ (rd_L3 x1_1 x6_1) from Kd.V_mk ul377_0 ge377_0)
           clear hva_ hvn_ hvc_ ge377_0 ul377_0
           clear hcc377 hce377
           have HR377_0:=Aside0.mk hi377_0
           have HC377_0:=Aside0.mk hl377_0
           clear hi377_0 hl377_0
           replace p377:=eq_true p377
           replace q377:=eq_true q377
           refine start_ (n:=16) (S:=fun w'=>w'.cell? ⟨gb369,0,none⟩=some (.slice A0_0 l0_0.length c0_0)∧w'.cell? ⟨gb369,1,none⟩=some (.int .i64 a0_1)∧w'.cell? ⟨gb369,2,none⟩=some (.int .i64 a0_2)∧w'.cell? ⟨gb369,3,none⟩=some (.int .i64 a0_3)∧w'.cell? (ad376.add ((ji21)).toNat)=some (.slice A376_0 (rd_L3 x5_1 (ji21)).length c376_0)∧w'.cell? (ad377.add (x6_1).toNat)=some (.slice A377_0 (rd_L3 x1_1 x6_1).length c377_0)) (ds:=[15]) #[false,false,false,false,false,false,false,false,false,false,false,false,false,false,false,false] (by kernel_rfl) rfl rfl ⟨(blk_cell BK369.out 0).trans rfl,(blk_cell BK369.out 1).trans rfl,(blk_cell BK369.out 2).trans rfl,(blk_cell BK369.out 3).trans rfl,hx376_0,hx377_0⟩ (fun hHeld=>?_);refine with_tabW thresherref13_Rows.tab7 thresherref13_Rows.bits7 (fun HT_ HW_=>?_)
           generalize wc.drew=w28 at HO_1 HO_5 BK369 HB HL376_0 HL377_0 HR376_0 HR377_0 hx376_0 hx377_0 hHeld ⊢
           refine pure_ (i:=0) (N:=some 38) (v:=?_) (a':=?_) #[true,false,false,false,false,false,false,false,false,false,false,false,false,false,false,false] rfl rfl (any_of HT_.out (by kernel_rfl)) (fun _ _ _ h=>h) (Or.inl ⟨by rfl,?_⟩) ?_ ?_
           rotate_left;(intro w';go_simp;with_reducible rfl);rotate_left;(simp only [Act.put,List.setIfInBounds_toArray,List.set_cons_zero,List.set_cons_succ,i64_w,i32_w];rfl)
           refine pure_ (i:=1) (N:=some 39) (v:=?_) (a':=?_) #[true,true,false,false,false,false,false,false,false,false,false,false,false,false,false,false] rfl rfl (any_of HT_.out (by kernel_rfl)) (fun _ _ _ h=>h) (Or.inl ⟨by rfl,?_⟩) ?_ ?_
           rotate_left;(intro w';go_simp;with_reducible rfl);rotate_left;(simp only [Act.put,List.setIfInBounds_toArray,List.set_cons_zero,List.set_cons_succ,i64_w,i32_w];rfl)
           refine pure_ (i:=2) (N:=some 40) (v:=?_) (a':=?_) #[true,true,true,false,false,false,false,false,false,false,false,false,false,false,false,false] rfl rfl (any_of HT_.out (by kernel_rfl)) (fun _ _ _ h=>h) (Or.inl ⟨by rfl,?_⟩) ?_ ?_
           rotate_left;(intro w';go_simp;with_reducible rfl);rotate_left;(simp only [Act.put,List.setIfInBounds_toArray,List.set_cons_zero,List.set_cons_succ,i64_w,i32_w];rfl)
           refine pure_ (i:=4) (N:=some 42) (v:=?_) (a':=?_) #[true,true,true,false,true,false,false,false,false,false,false,false,false,false,false,false] rfl rfl (any_of HT_.out (by kernel_rfl)) (fun _ _ _ h=>h) (Or.inl ⟨by rfl,?_⟩) ?_ ?_
           rotate_left;(intro w';go_simp;with_reducible rfl);rotate_left;(simp only [Act.put,List.setIfInBounds_toArray,List.set_cons_zero,List.set_cons_succ,i64_w,i32_w];rfl)
           refine pure_ (i:=5) (N:=some 43) (v:=?_) (a':=?_) #[true,true,true,false,true,true,false,false,false,false,false,false,false,false,false,false] rfl rfl (any_of HT_.out (by kernel_rfl)) (fun _ _ _ h=>h) (Or.inl ⟨by rfl,?_⟩) ?_ ?_
           rotate_left;(intro w';go_simp;with_reducible rfl);rotate_left;(simp only [Act.put,List.setIfInBounds_toArray,List.set_cons_zero,List.set_cons_succ,i64_w,i32_w];rfl)
           refine pure_ (i:=6) (N:=some 44) (v:=?_) (a':=?_) #[true,true,true,false,true,true,true,false,false,false,false,false,false,false,false,false] rfl rfl (any_of HT_.out (by kernel_rfl)) (fun _ _ _ h=>h) (Or.inl ⟨by rfl,?_⟩) ?_ ?_
           rotate_left;(intro w';go_simp;with_reducible rfl);rotate_left;(simp only [Act.put,List.setIfInBounds_toArray,List.set_cons_zero,List.set_cons_succ,i64_w,i32_w];rfl)
           refine pure_ (i:=7) (N:=some 45) (v:=?_) (a':=?_) #[true,true,true,false,true,true,true,true,false,false,false,false,false,false,false,false] rfl rfl (any_of HT_.out (by kernel_rfl)) (fun _ _ _ h=>h) (Or.inl ⟨by rfl,?_⟩) ?_ ?_
           rotate_left;(intro w';go_simp;with_reducible rfl);rotate_left;(simp only [Act.put,List.setIfInBounds_toArray,List.set_cons_zero,List.set_cons_succ,i64_w,i32_w];rfl)
           refine pure_ (i:=9) (N:=some 47) (v:=?_) (a':=?_) #[true,true,true,false,true,true,true,true,false,true,false,false,false,false,false,false] rfl rfl (any_of HT_.out (by kernel_rfl)) (fun _ _ _ h=>h) (Or.inl ⟨by rfl,?_⟩) ?_ ?_
           rotate_left;(intro w';go_simp;with_reducible rfl);rotate_left;(simp only [Act.put,List.setIfInBounds_toArray,List.set_cons_zero,List.set_cons_succ,i64_w,i32_w];rfl)
           refine pure_ (i:=10) (N:=some 48) (v:=?_) (a':=?_) #[true,true,true,false,true,true,true,true,false,true,true,false,false,false,false,false] rfl rfl (any_of HT_.out (by kernel_rfl)) (fun _ _ _ h=>h) (Or.inl ⟨by rfl,?_⟩) ?_ ?_
           rotate_left;(intro w';go_simp;with_reducible rfl);rotate_left;(simp only [Act.put,List.setIfInBounds_toArray,List.set_cons_zero,List.set_cons_succ,i64_w,i32_w];rfl)
           refine pure_ (i:=11) (N:=some 49) (v:=?_) (a':=?_) #[true,true,true,false,true,true,true,true,false,true,true,true,false,false,false,false] rfl rfl (any_of HT_.out (by kernel_rfl)) (fun _ _ _ h=>h) (Or.inl ⟨by rfl,?_⟩) ?_ ?_
           rotate_left;(intro w';go_simp;with_reducible rfl);rotate_left;(simp only [Act.put,List.setIfInBounds_toArray,List.set_cons_zero,List.set_cons_succ,i64_w,i32_w];rfl)
           refine take_ (i:=3) (N:=some 41) (v:=?_) (a':=?_) #[true,true,true,true,true,true,true,true,false,true,true,true,false,false,false,false] rfl rfl (take_ofW HT_.out HW_.out (by kernel_rfl)) (fun _ _ _ h=>h) (Or.inl ⟨by rfl,?_⟩) hHeld ?_ ?_
           rotate_left;(rintro w' ⟨s0,s1,s2,s3,s4,s5⟩;go_simp;with_reducible rfl);rotate_left;(simp only [Act.put,List.setIfInBounds_toArray,List.set_cons_zero,List.set_cons_succ,i64_w,i32_w];rfl)
           refine take_ (i:=8) (N:=some 46) (v:=?_) (a':=?_) #[true,true,true,true,true,true,true,true,true,true,true,true,false,false,false,false] rfl rfl (take_ofW HT_.out HW_.out (by kernel_rfl)) (fun _ _ _ h=>h) (Or.inl ⟨by rfl,?_⟩) hHeld ?_ ?_
           rotate_left;(rintro w' ⟨s0,s1,s2,s3,s4,s5⟩;go_simp;with_reducible rfl);rotate_left;(simp only [Act.put,List.setIfInBounds_toArray,List.set_cons_zero,List.set_cons_succ,i64_w,i32_w];rfl)
           refine take_ (i:=12) (N:=some 50) (v:=?_) (a':=?_) #[true,true,true,true,true,true,true,true,true,true,true,true,true,false,false,false] rfl rfl (take_ofW HT_.out HW_.out (by kernel_rfl)) (fun _ _ _ h=>h) (Or.inl ⟨by rfl,?_⟩) hHeld ?_ ?_
           rotate_left;(rintro w' ⟨s0,s1,s2,s3,s4,s5⟩;go_simp;with_reducible rfl);rotate_left;(simp only [Act.put,List.setIfInBounds_toArray,List.set_cons_zero,List.set_cons_succ,i64_w,i32_w];rfl)
           refine one_ (i:=13) (N:=some 51) #[true,true,true,true,true,true,true,true,true,true,true,true,true,true,false,false] rfl rfl (one_of HT_.out (by kernel_rfl)) (by decide) (fun K hK=>?_)
           refine goes_ Try.func34 (by kernel_rfl) rfl #[.agg #[.slice A0_0 l0_0.length c0_0,.int .i64 a0_1,.int .i64 a0_2,.int .i64 a0_3],.slice A376_0 (rd_L3 x5_1 (ji21)).length c376_0,.slice A377_0 (rd_L3 x1_1 x6_1).length c377_0] (by rfl) rfl rfl (by (try simp only [List.map_toArray,List.map_cons,List.map_nil]);first|done|(simp only [hji21];rfl)|rfl|(simp only [List.length_drop,List.length_take];rfl)) ?_
           with_reducible refine (thresherref13_One.calls kj6 _ _ l0_0 a0_1 a0_2 a0_3 _ _ (rd_L3 x5_1 (ji21)) _ _ (rd_L3 x1_1 x6_1) t378 _ ?side1 ?side2 ?side3 ?side4 ?side5 ?side6 A26.out).mono ?_
           (case side1=>repeat (first|exact (Kd.C_below HR0_0.out HB.out)|(with_reducible refine Kd.C_alloc ?_ _)|(with_reducible refine Kd.C_drewN ?_ _)|(with_reducible refine Kd.C_drew ?_)))
           (case side2=>exact HC0_0.out)
           (case side3=>repeat (first|exact (by repeat (first|(with_reducible exact HR376_0.out)|(with_reducible refine Kd.C_alloc ?_ _)|(with_reducible refine Kd.C_drewN ?_ _)|(with_reducible refine Kd.C_drew ?_)|exact HR376_0.out))|(with_reducible refine Kd.C_alloc ?_ _)|(with_reducible refine Kd.C_drewN ?_ _)|(with_reducible refine Kd.C_drew ?_)))
           (case side4=>exact HC376_0.out)
           (case side5=>repeat (first|exact (by repeat (first|(with_reducible exact HR377_0.out)|(with_reducible refine Kd.C_alloc ?_ _)|(with_reducible refine Kd.C_drewN ?_ _)|(with_reducible refine Kd.C_drew ?_)|exact HR377_0.out))|(with_reducible refine Kd.C_alloc ?_ _)|(with_reducible refine Kd.C_drewN ?_ _)|(with_reducible refine Kd.C_drew ?_)))
           (case side6=>exact HC377_0.out)
           rintro e w29 ⟨v379,rfl,ho0,hb⟩
           obtain ⟨Ao_v379,co_v379,rfl⟩:=Kd.R_slice ho0
           have HS4_:=(hb.cell (World.block_lt_of_cell? _ _ (hHeld.2.2.2.2.1))).trans (hHeld.2.2.2.2.1)
           have HS5_:=(hb.cell (World.block_lt_of_cell? _ _ (hHeld.2.2.2.2.2))).trans (hHeld.2.2.2.2.2)
           refine ⟨_,rfl,?_⟩
           have n0_:=Aside0.mk (Kd.V_elder' (V_up HO_1.out) (Kd.R_base ho0) hb)
           have n1_:=Aside0.mk (Kd.N_elder' (N_up HO_5.out) (Kd.R_base ho0) hb)
           have n2_:=Aside0.mk (Kd.V_elder' (by (with_reducible repeat (first|apply Kd.V_alloc|apply Kd.V_drewN|apply Kd.V_drew));exact HL376_0.out) (Kd.R_base ho0) hb)
           have n3_:=Aside0.mk (Kd.V_elder' (by (with_reducible repeat (first|apply Kd.V_alloc|apply Kd.V_drewN|apply Kd.V_drew));exact HL377_0.out) (Kd.R_base ho0) hb)
           have n4_:=Aside0.mk (Kd.R_lower (Kd.R_newM (M:=fun k_=>(w.heap.size≤k_)) ho0 (below_size (below_go HB.out)) (fun k_ h_=>h_)) (below_size (below_go HB.out)))
           have n5_:=Aside0.mk (blk_below (blk_up BK369.out) hb)
           have n6_:=Aside0.mk (Kd.C_below (by repeat (first|(with_reducible exact HR376_0.out)|(with_reducible refine Kd.C_alloc ?_ _)|(with_reducible refine Kd.C_drewN ?_ _)|(with_reducible refine Kd.C_drew ?_)|exact HR376_0.out)) hb)
           have n7_:=Aside0.mk (Kd.C_below (by repeat (first|(with_reducible exact HR377_0.out)|(with_reducible refine Kd.C_alloc ?_ _)|(with_reducible refine Kd.C_drewN ?_ _)|(with_reducible refine Kd.C_drew ?_)|exact HR377_0.out)) hb)
           have n8_:=Aside0.mk (below_step (below_go HB.out) hb)
           clear HO_1
           clear HO_5
           clear HL376_0
           clear HL377_0
           clear BK369
           clear HR376_0
           clear HR377_0
           clear HB
           have HO_1:=n0_
           have HO_5:=n1_
           have HL376_0:=n2_
           have HL377_0:=n3_
           have HO380:=n4_
           have BK369:=n5_
           have HR376_0:=n6_
           have HR377_0:=n7_
           have HB:=n8_
           clear n0_ n1_ n2_ n3_ n4_ n5_ n6_ n7_ n8_
           (try clear hb)
           (try clear hb2)
           (try clear hk)
           (try clear hi)
           (try clear ho0)
           have p27 : 0≤((ji21) : Int):=of_decide_eq_true (by first|(with_reducible assumption)|assumption)
           have q27 : ((ji21) : Int) < ((x5_1.length : Int) : Int):=of_decide_eq_true (by first|(with_reducible assumption)|assumption)
           obtain ⟨go27,co27,eo27,gb27,gl27,cl27,HG27⟩:=Kd.N_form HO_5.out (by omega)
           (first|cases eo27|(injection eo27 with ea_ en_ ec_;(first|subst ea_|(injection ea_ with ea_;subst ea_));subst ec_;clear en_))
           have GB27:=Aside0.mk gb27
           have GG27:=Aside0.mk HG27
           clear gb27 gl27 HG27
           (first|simp only [add_plain] at hx376_0|skip)
           obtain ⟨ce27,hcl27,hM27,hcc27,hfr27⟩:=Kd.N_elem HO_5.out [] ((ji21) : Int) p27 q27
           obtain ⟨ua27_0,uc27_0,rfl,ul27_0,ge27_0⟩:=Kd.FK_slice_open hM27
           have hx27_0:=hcc27 0 _ rfl
           have hf27_0:=hfr27 0
           (try simp only [show ((Kd.slice 31 k31)).sz=1 from rfl,Nat.mul_one,Nat.add_zero] at hx27_0)
           (try simp only [show ((Kd.slice 31 k31)).sz=1 from rfl,Nat.mul_one,Nat.add_zero] at hf27_0)
           clear hcl27 hcc27 hfr27 hM27
           replace p27:=eq_true p27
           replace q27:=eq_true q27
           have HX30:=Aside0.mk (show Kd.N (Kd.slice 31 k31) 33 _ w.heap.size (fun k_=>(P1_ k_ ∨ w.heap.size≤k_)∧some k_≠((.slice Ao_v379 t378.length co_v379) : Value).ownBlock∧k_≠gb369) (.slice (some ⟨go27,0,none⟩) x5_1.length co8) x5_1 from (Kd.N_mono (HO_5.out) (fun k_ hk=>⟨hk.1.1,⟨hk.2,hk.1.2⟩⟩)))
           replace HX30:=Aside0.mk (show Kd.N (Kd.slice 31 k31) 33 _ w.heap.size (fun k_=>(P1_ k_ ∨ w.heap.size≤k_)∧k_≠gb369) (.slice (some ⟨go27,0,none⟩) x5_1.length co8) x5_1 from Kd.N_mono HX30.out (fun k_ hk=>⟨hk.1,hk.2.2⟩))
           obtain ⟨ce30,hcl30,hM30,hcc30,hfr30⟩:=Kd.N_elem HX30.out [] ((ji21) : Int) (of_decide_eq_true (by first|(with_reducible assumption)|assumption)) (by have h_ : ((ji21) : Int) < ((x5_1.length : Int) : Int):=of_decide_eq_true (by first|(with_reducible assumption)|assumption);first|exact h_|(have e_:=(Kd.N_reads' HO_5.out).1;omega)|simpa using h_)
           obtain ⟨ua30_0,uc30_0,rfl,ul30_0,ge30_0⟩:=Kd.FK_slice_open hM30
           have HP30:=(Kd.N_seg HX30.out ((ji21) : Int) (of_decide_eq_true (by first|(with_reducible assumption)|assumption)) (by have h_ : ((ji21) : Int) < ((x5_1.length : Int) : Int):=of_decide_eq_true (by first|(with_reducible assumption)|assumption);first|exact h_|(have e_:=(Kd.N_reads' HO_5.out).1;omega)|simpa using h_) (seg:=[(.slice Ao_v379 t378.length co_v379)]) (j:=0) hcl30 hcc30 (show 1≤1 from by decide) (x':=t378) (Kd.FK_slice_mk (Kd.R_reads' (Kd.R_mono (ok':=(fun k_=>((fun k_=>(P1_ k_ ∨ w.heap.size≤k_)∧k_≠gb369)) k_∧k_≠go27)) (Kd.R_types (Kd.R_apart' (HO380.out) (Kd.N_typed HO_5.out) (by decide)) BK369.out (by decide)) (fun k_ hk=>⟨⟨(.inr (hk.1.1.1)),hk.2⟩,fun e_=>(hk.1.2) (by rw [e_];rfl)⟩))).2.1 (Kd.R_F (Kd.R_mono (ok':=(fun k_=>((fun k_=>(P1_ k_ ∨ w.heap.size≤k_)∧k_≠gb369)) k_∧k_≠go27)) (Kd.R_types (Kd.R_apart' (HO380.out) (Kd.N_typed HO_5.out) (by decide)) BK369.out (by decide)) (fun k_ hk=>⟨⟨(.inr (hk.1.1.1)),hk.2⟩,fun e_=>(hk.1.2) (by rw [e_];rfl)⟩)))) (fun _ hk=>hk)).1
           (try simp only [show ((Kd.slice 31 k31)).sz=1 from rfl,Nat.mul_one,Nat.add_zero] at HP30)
           rw [← Ny381.out] at HP30
           have HQ30:=Aside0.mk HP30
           clear hcl30 hcc30 hfr30 hM30 HP30
           refine hK.out _ _ ⟨(blk_cell BK369.out 0).trans rfl,(blk_cell BK369.out 1).trans rfl,(blk_cell BK369.out 2).trans rfl,(blk_cell BK369.out 3).trans rfl,HS4_,HS5_⟩ (fun hHeld=>?_)
           clear hK K
           refine norm_ (a':=?_) ?_ ?_
           rotate_left
           ·show Act.put _ (some 51) _=_
            simp only [Act.put,List.setIfInBounds_toArray,List.set_cons_zero,List.set_cons_succ,i64_w,i32_w]
            rfl
           refine pure_ (i:=14) (N:=some 52) (v:=?_) (a':=?_) #[true,true,true,true,true,true,true,true,true,true,true,true,true,true,true,false] rfl rfl (any_of HT_.out (by kernel_rfl)) (fun _ _ _ h=>h) (Or.inl ⟨by rfl,?_⟩) ?_ ?_
           rotate_left;(intro w';go_simp;with_reducible rfl);rotate_left;(simp only [Act.put,List.setIfInBounds_toArray,List.set_cons_zero,List.set_cons_succ,i64_w,i32_w];rfl)
           refine last_ (i:=15) (N:=none) #[true,true,true,true,true,true,true,true,true,true,true,true,true,true,true,true] rfl rfl (one_of HT_.out (by kernel_rfl)) (by decide) (fun K hK=>?_)
           refine skip_ (w1:=?_) (by rfl) rfl ?_ ?_
           rotate_left
           ·go_simp
            rfl
           refine hK.out _ _ ?_
           clear hK K
           refine done_ (done_of HT_.out (by kernel_rfl)) ?_
           (try clear HS4_);(try clear HS5_);(try clear hHeld)
           try go_wp2
           (try simp only [← hl1_1])
           go_roundg kj6
           case measure=>have:=HK1.out;have:=HJ6.out;omega
           case rel=>exact ⟨(x1_1),(y381),(wrap64 (x6_1 + 1)),(by first|rfl|(simp;done)|(simp [*];done)),(by first|exact H'|(subst_vars;exact H')),⟨by have:=HK1.out;have:=HJ6.out;omega⟩,⟨by (try simp only [hl1_1]);(with_reducible repeat (first|apply Kd.V_alloc|apply Kd.V_drewN|apply Kd.V_drew));exact Kd.V_mono (Kd.V_far (p:=⟨go27,((ji21) : Int).toNat,none⟩) (Kd.V_mono HO_1.out (fun k_ hk=>(⟨hk,fun e_=>hk.1.2.1 (by rw [e_];rfl)⟩ : _∧k_≠go27))) (fun _ hk=>hk.2) ((.slice Ao_v379 t378.length co_v379))) (fun _ hk=>⟨hk.1.1.1,⟨hk.1.1.2.1,hk.1.1.2.2⟩⟩)⟩,⟨by (try simp only [hl1_1]);(with_reducible repeat (first|apply Kd.N_alloc|apply Kd.N_drewN|apply Kd.N_drew));exact HQ30.out⟩,⟨by (try simp only [hl1_1]);(with_reducible repeat (first|refine blk_drewN ?_ _|refine blk_drew ?_|refine blk_alloc ?_ _));refine blk_far ?_ (by have h_:=Kd.N_away HO_5.out (fun _ hk=>hk.1.2);intro e_;exact h_ (by rw [e_];rfl)) _;(with_reducible repeat (first|refine blk_drewN ?_ _|refine blk_drew ?_|refine blk_alloc ?_ _));exact BK369.out⟩,⟨by repeat (first|(with_reducible first|exact HB.out|apply below_alloc|apply pw_below_drewN|apply below_drew1|refine below_set ?_ GB27.out|refine below_set ?_ GE369.out)|exact HB.out)⟩⟩
          ·rw [if_neg c25] at H
           exact absurd H (by simp)
         ·rw [if_neg c24] at H
          exact absurd H (by simp)
        ·rw [if_neg c23] at H
         exact absurd H (by simp)
       ·rw [if_neg c22] at H
        exact absurd H (by simp)
      ·replace c20:=Bool.eq_false_iff.mpr c20
       subst c20
       have H1 : (if 0≤x6_1 then (if x6_1 < (x1_1.length : Int) then (if x5_1.length < 5864062014805 then (thresherref13_Rows.l0 kj6 x1_1 (x5_1 ++ [rd_L3 x1_1 x6_1]) (wrap64 (x6_1 + 1)) l0_0 a0_1 a0_2 a0_3) else (none)) else (none)) else (none))=some r:=by rw [if_neg (show ¬ (false=true) by decide)] at H;exact H
       clear H
       have H:=H1
       clear H1
       by_cases c31 : 0≤x6_1
       ·rw [if_pos c31] at H
        have c31b0 : decide (0≤x6_1)=true:=decide_eq_true c31
        clear c31
        by_cases c32 : x6_1 < (x1_1.length : Int)
        ·rw [if_pos c32] at H
         have c32b0 : decide (x6_1 < (x1_1.length : Int))=true:=decide_eq_true c32
         clear c32
         by_cases c33 : x5_1.length < 5864062014805
         ·rw [if_pos c33] at H
          have LMc33:=Aside0.mk c33
          clear c33
          obtain ⟨y383,hy383⟩ : ∃ y_ : List (List (S31)),y_=(x5_1 ++ [rd_L3 x1_1 x6_1]):=⟨_,rfl⟩
          replace H : (thresherref13_Rows.l0 kj6 x1_1 y383 (wrap64 (x6_1 + 1)) l0_0 a0_1 a0_2 a0_3)=some r:=by first|(rw [hy383];with_reducible exact H)|(have H2_:=(Option.bind_some _ _).symm.trans H;rw [hy383];with_reducible exact H2_)|(have H2_:=(Option.bind_some _ _).symm.trans H;with_reducible exact H2_)|with_reducible exact H|(rw [hy383];exact H)|exact H
          have Ny383:=Aside0.mk hy383
          clear hy383
          have H':=Aside0.mk H
          clear H
          have p382 : 0≤(x6_1 : Int):=of_decide_eq_true (by first|(with_reducible assumption)|assumption)
          have q382 : x6_1 < (x1_1.length : Int):=of_decide_eq_true (by first|(with_reducible assumption)|assumption)
          obtain ⟨ad382,A382_0,c382_0,e382,hx382_0,hl382_0,hi382_0⟩:=at_L3 (Kd.V_reads' HO_1.out).2.2 x6_1 p382 q382
          cases e382
          obtain ⟨ce382,hce382,hMe382,hcc382⟩:=Kd.V_get HO_1.out [] x6_1 p382 (by first|exact q382|exact of_decide_eq_true (by first|(with_reducible assumption)|assumption)|(have e_:=(Kd.V_reads' HO_1.out).1;omega))
          obtain ⟨ua382_0,uc382_0,rfl,ul382_0,ge382_0⟩:=Kd.FK_slice_open hMe382
          have hv382_0:=hcc382 0 _ rfl
          rw [Nat.add_zero,show ((Kd.slice 31 k31)).sz=1 from rfl,Nat.mul_one] at hv382_0
          replace hv382_0:=Option.some.inj (hv382_0.symm.trans hx382_0)
          injection hv382_0 with hva_ hvn_ hvc_
          rw [hva_] at ge382_0
          rw [hvc_] at ul382_0
          have HL382_0:=Aside0.mk (show Kd.V k31 31 _ w.heap.size _ _ (rd_L3 x1_1 x6_1) from Kd.V_mk ul382_0 ge382_0)
          clear hva_ hvn_ hvc_ ge382_0 ul382_0
          clear hcc382 hce382
          have HR382_0:=Aside0.mk hi382_0
          have HC382_0:=Aside0.mk hl382_0
          clear hi382_0 hl382_0
          replace p382:=eq_true p382
          replace q382:=eq_true q382
          go_wp2_with (first|((with_reducible refine gate_builtin (b:=.append) (xs:=#[.tmp 53,.tmp 58]) rfl ?_);at_builtin;refine Kd.N_append (Kd.slice 31 k31) (w0:=w) w.heap.size rfl (.tmp 53) (.tmp 58) 28 33 (.slice none 0 0) 24 rfl Try.underlying28 info33 rfl (by decide) (by omega) (.slice Ao8 x5_1.length co8) x5_1 (rd_L3 x1_1 x6_1) [.slice A382_0 (rd_L3 x1_1 x6_1).length c382_0] (fun k_=>(P1_ k_ ∨ w.heap.size≤k_)∧k_≠gb369) (fun k_=>((fun k_=>(P1_ k_ ∨ w.heap.size≤k_)∧k_≠gb369)) k_∧some k_≠(.slice Ao8 x5_1.length co8 : Value).ownBlock) rfl rfl ?aP (fun _ hk=>hk) ?aF ?aO ?aB ?aS ?aL ?_;(case aP=>exact (Kd.FK_slice_mk (Kd.V_reads' (Kd.V_mono (ok':=(fun k_=>((fun k_=>(P1_ k_ ∨ w.heap.size≤k_)∧k_≠gb369)) k_∧some k_≠(.slice Ao8 x5_1.length co8 : Value).ownBlock)) (HL382_0.out) (fun k_ hk=>⟨⟨hk.1,hk.2.2⟩,hk.2.1⟩))).2.1 (Kd.V_F (Kd.V_mono (ok':=(fun k_=>((fun k_=>(P1_ k_ ∨ w.heap.size≤k_)∧k_≠gb369)) k_∧some k_≠(.slice Ao8 x5_1.length co8 : Value).ownBlock)) (HL382_0.out) (fun k_ hk=>⟨⟨hk.1,hk.2.2⟩,hk.2.1⟩)))));(case aB=>exact (below_go HB.out));(case aF=>exact (fun k_ hk=>⟨(.inr (Nat.le_trans (below_size (below_go HB.out)) hk)),Kd.freshB (blk_up BK369.out) k_ hk⟩));(case aO=>exact (N_up HO_5.out));(case aS=>exact (below_size (below_go HB.out)));(case aL=>have:=LMc33.out;omega);intro v384 w34 ho hb hg hat;rw [← Ny383.out] at ho;have n0_:=Aside0.mk (Kd.V_afterv (ok:=(fun k_=>(P1_ k_ ∨ w.heap.size≤k_)∧k_≠gb369)) (V_upm HO_1.out (fun _ hk=>⟨⟨hk.1,hk.2.2⟩,hk.2.1⟩)) hg hat);have n1_:=Aside0.mk (blk_grown (blk_up BK369.out) hg (Kd.N_ne HO_5.out BK369.out (by decide)));have n2_:=Aside0.mk (Kd.V_afterv (ok:=(fun k_=>(P1_ k_ ∨ w.heap.size≤k_)∧k_≠gb369)) (V_upm HL382_0.out (fun _ hk=>⟨⟨hk.1,hk.2.2⟩,hk.2.1⟩)) hg hat);have n3_:=Aside0.mk (hb);have n4_:=Aside0.mk (ho);clear HO_1;clear BK369;clear HL382_0;clear HB;clear HO_5;have HO_1:=n0_;have BK369:=n1_;have HL382_0:=n2_;have HB:=n3_;have HO385:=n4_;clear n0_ n1_ n2_ n3_ n4_;clear ho hb hg hat))
          (try simp only [← hl1_1])
          go_roundg kj6
          case measure=>have:=HK1.out;have:=HJ6.out;omega
          case rel=>exact ⟨(x1_1),(y383),(wrap64 (x6_1 + 1)),(by first|rfl|(simp;done)|(simp [*];done)),(by first|exact H'|(subst_vars;exact H')),⟨by have:=HK1.out;have:=HJ6.out;omega⟩,⟨by (try simp only [hl1_1]);(with_reducible repeat (first|apply Kd.V_alloc|apply Kd.V_drewN|apply Kd.V_drew));exact Kd.V_mono HO_1.out (fun _ hk=>⟨hk.1.1,⟨hk.2,hk.1.2⟩⟩)⟩,⟨by (try simp only [hl1_1]);(with_reducible repeat (first|apply Kd.N_alloc|apply Kd.N_drewN|apply Kd.N_drew));exact HO385.out⟩,⟨by (try simp only [hl1_1]);(with_reducible repeat (first|refine blk_drewN ?_ _|refine blk_drew ?_|refine blk_alloc ?_ _));exact BK369.out⟩,⟨by repeat (first|(with_reducible first|exact HB.out|apply below_alloc|apply pw_below_drewN|apply below_drew1|refine below_set ?_ GE369.out)|exact HB.out)⟩⟩
         ·rw [if_neg c33] at H
          exact absurd H (by simp)
        ·rw [if_neg c32] at H
         exact absurd H (by simp)
       ·rw [if_neg c31] at H
        exact absurd H (by simp)
   ·rw [if_neg c6] at H
    have c6b0 : decide (x6_1 < (x1_1.length : Int))=false:=decide_eq_false c6
    clear c6
    obtain rfl:=Option.some.inj H
    go_wp2
    go_ret
    exact ⟨_,by first|rfl|(simp [errW_none,errW_some] <;> rfl)|(simp [*,errW_none,errW_some] <;> rfl),by (with_reducible repeat (first|apply Kd.N_alloc|apply Kd.N_drewN|apply Kd.N_drew));exact Kd.N_mono HO_5.out (fun _ hk=>hk.1),by repeat (first|(with_reducible first|exact HB.out|apply below_alloc|apply pw_below_drewN|apply below_drew1|refine below_set ?_ GE369.out)|exact HB.out)⟩
end Go.Proofs.Ytfiandejapgkoaa.P

