/- Texts of MergeFirst. Merged: Px8. -/
import Derived.Test.YtfiandejapgkoaaQMergeFirstPx0
import Derived.Test.YtfiandejapgkoaaQMergeFirstPx7
namespace Go.Proofs.Ytfiandejapgkoaa.P
open Go.RowKit Go.Proofs.YtfiandejapgkoaaW.PrintWords Go.Proofs.YtfiandejapgkoaaW.PrintLast Go.Proofs.YtfiandejapgkoaaW.PrintMore
attribute [local go_sem] max2_int min2_int max_two min_two max_three min_three max_four min_four   -- for this text's walks alone
set_option linter.unusedVariables false
set_option linter.unusedSimpArgs false
mutual
def thresherref09_Sort.l0 : Nat→List (List (S31))→List (List (S31))→Int→List Int→Int→Int→Int→Option ((List (List (S31))))
 | 0,_,_,_,_,_,_,_=>none
 | k + 1,x1,x5,x6,x212000,x212001,x212002,x212003=>if x6 < (x1.length : Int) then (thresherref09_Sort.l1 k x1 x5 x6 (([] : List (List (S31)))) false 0 x212000 x212001 x212002 x212003) else (some x5)
def thresherref09_Sort.l1 : Nat→List (List (S31))→List (List (S31))→Int→List (List (S31))→Bool→Int→List Int→Int→Int→Int→Option ((List (List (S31))))
 | 0,_,_,_,_,_,_,_,_,_,_=>none
 | k + 1,x1,x5,x6,x7,x8,x9,x212000,x212001,x212002,x212003=>if x9 < (x5.length : Int) then (if x8=true then (if 0≤x9 then (if x7.length < 5864062014805 then (thresherref09_Sort.l1 k x1 x5 x6 (x7 ++ [rd_L3 x5 x9]) x8 (wrap64 (x9 + 1)) x212000 x212001 x212002 x212003) else (none)) else (none)) else (if 0≤x9 then (if 0≤x6 then (if x6 < (x1.length : Int) then ((thresherref04_Compare.f k x212000 x212001 x212002 x212003 (rd_L3 x5 x9) (rd_L3 x1 x6)).bind fun t220=>(if t220 > 0 then (if x7.length < 5864062014805 then ((some (x7 ++ [rd_L3 x1 x6] : List (List (S31)))).bind fun y226=>(if y226.length < 5864062014805 then (thresherref09_Sort.l1 k x1 x5 x6 (y226 ++ [rd_L3 x5 x9]) true (wrap64 (x9 + 1)) x212000 x212001 x212002 x212003) else (none))) else (none)) else (if x7.length < 5864062014805 then (thresherref09_Sort.l1 k x1 x5 x6 (x7 ++ [rd_L3 x5 x9]) x8 (wrap64 (x9 + 1)) x212000 x212001 x212002 x212003) else (none)))) else (none)) else (none)) else (none))) else (if x8=true then (thresherref09_Sort.l0 k x1 x7 (wrap64 (x6 + 1)) x212000 x212001 x212002 x212003) else (if 0≤x6 then (if x6 < (x1.length : Int) then (if x7.length < 5864062014805 then (thresherref09_Sort.l0 k x1 (x7 ++ [rd_L3 x1 x6]) (wrap64 (x6 + 1)) x212000 x212001 x212002 x212003) else (none)) else (none)) else (none)))
end
def thresherref09_Sort.f (k : Nat) (l0_0 : List Int) (a0_1 : Int) (a0_2 : Int) (a0_3 : Int) (l1 : List (List (S31))) : Option ((List (List (S31)))):=thresherref09_Sort.l0 k l1 (([] : List (List (S31)))) 0 l0_0 a0_1 a0_2 a0_3
theorem thresherref09_Sort.mono_l : ∀ k,(∀ y0 y1 y2 y3 y4 y5 y6,LeO (thresherref09_Sort.l0 k y0 y1 y2 y3 y4 y5 y6) (thresherref09_Sort.l0 (k + 1) y0 y1 y2 y3 y4 y5 y6))∧(∀ y0 y1 y2 y3 y4 y5 y6 y7 y8 y9,LeO (thresherref09_Sort.l1 k y0 y1 y2 y3 y4 y5 y6 y7 y8 y9) (thresherref09_Sort.l1 (k + 1) y0 y1 y2 y3 y4 y5 y6 y7 y8 y9))
 | 0=>⟨fun _ _ _ _ _ _ _ r h=>by simp [thresherref09_Sort.l0] at h,fun _ _ _ _ _ _ _ _ _ _ r h=>by simp [thresherref09_Sort.l1] at h⟩
 | k + 1=>by
  obtain ⟨ih0,ih1⟩:=thresherref09_Sort.mono_l k
  refine ⟨?_,?_⟩
  ·intro y0 y1 y2 y3 y4 y5 y6
   unfold thresherref09_Sort.l0
   repeat' first
   | (with_reducible exact ih0 _ _ _ _ _ _ _)
   | (with_reducible exact ih1 _ _ _ _ _ _ _ _ _ _)
   | (with_reducible exact thresherref04_Compare.mono _ _ _ _ _ _ _)
   | (with_reducible exact LeO.refl _)
   | (with_reducible exact LeO.none _)
   | (with_reducible refine LeO.ite ?_ ?_)
   | (with_reducible refine LeO.bind ?_ (fun _=>?_))
   | exact ih0 _ _ _ _ _ _ _
   | exact ih1 _ _ _ _ _ _ _ _ _ _
   | exact thresherref04_Compare.mono _ _ _ _ _ _ _
   | exact LeO.none _
   | refine LeO.ite ?_ ?_
   | refine LeO.bind ?_ (fun _=>?_)
  ·intro y0 y1 y2 y3 y4 y5 y6 y7 y8 y9
   unfold thresherref09_Sort.l1
   repeat' first
   | (with_reducible exact ih0 _ _ _ _ _ _ _)
   | (with_reducible exact ih1 _ _ _ _ _ _ _ _ _ _)
   | (with_reducible exact thresherref04_Compare.mono _ _ _ _ _ _ _)
   | (with_reducible exact LeO.refl _)
   | (with_reducible exact LeO.none _)
   | (with_reducible refine LeO.ite ?_ ?_)
   | (with_reducible refine LeO.bind ?_ (fun _=>?_))
   | exact ih0 _ _ _ _ _ _ _
   | exact ih1 _ _ _ _ _ _ _ _ _ _
   | exact thresherref04_Compare.mono _ _ _ _ _ _ _
   | exact LeO.none _
   | refine LeO.ite ?_ ?_
   | refine LeO.bind ?_ (fun _=>?_)
theorem thresherref09_Sort.mono : ∀ a0 a1 a2 a3 a4 k,LeO (thresherref09_Sort.f k a0 a1 a2 a3 a4) (thresherref09_Sort.f (k + 1) a0 a1 a2 a3 a4):=by
 intro a0 a1 a2 a3 a4 k
 obtain ⟨ih0,ih1⟩:=thresherref09_Sort.mono_l k
 unfold thresherref09_Sort.f
 repeat' first
   | (with_reducible exact ih0 _ _ _ _ _ _ _)
   | (with_reducible exact ih1 _ _ _ _ _ _ _ _ _ _)
   | (with_reducible exact thresherref04_Compare.mono _ _ _ _ _ _ _)
   | (with_reducible exact LeO.refl _)
   | (with_reducible exact LeO.none _)
   | (with_reducible refine LeO.ite ?_ ?_)
   | (with_reducible refine LeO.bind ?_ (fun _=>?_))
   | exact ih0 _ _ _ _ _ _ _
   | exact ih1 _ _ _ _ _ _ _ _ _ _
   | exact thresherref04_Compare.mono _ _ _ _ _ _ _
   | exact LeO.none _
   | refine LeO.ite ?_ ?_
   | refine LeO.bind ?_ (fun _=>?_)
def thresherref09_Sort.T10 : Bool × List (List Nat × List Nat):=(true,[([],[]),([0],[0]),([1],[1]),([2],[2]),([2],[2]),([2],[2]),([4,5,2],[2,4,5]),([6,2],[2,6]),([2],[2]),([2],[2]),([8,9,2],[2,8,9]),([10,2],[2,10]),([3,7,11,2,2],[2,3,7,11]),([12,2],[2,12]),([2,13],[2,13])])
def thresherref09_Sort.B10 : List Nat:=[0,1,3,7,7,7,55,119,7,7,775,1799,4095,8191,16383]
theorem thresherref09_Sort.tab10 : rtab .any (opsOf Try.f17 10)=thresherref09_Sort.T10:=by kernel_rfl
theorem thresherref09_Sort.bits10 : waitsOk thresherref09_Sort.T10.2 thresherref09_Sort.B10=true:=by kernel_rfl
set_option maxHeartbeats 8000000 in
set_option maxRecDepth 100000 in
theorem thresherref09_Sort.calls (k : Nat) (A0_0 : Option Addr) (c0_0 : Nat) (l0_0 : List Int) (a0_1 : Int) (a0_2 : Int) (a0_3 : Int) (P1_ : Nat→Prop) (A1 : Option Addr) (c1 : Nat) (l1 : List (List (S31))) (r : List (List (S31))) (w : World) (hr0_0 : Kd.C (Kd.int .i64) w A0_0 l0_0.length l0_0) (hc0_0 : l0_0.length≤c0_0) (hs1 : Kd.V (Kd.slice 31 k31) 33 w w.heap.size (fun k_=>P1_ k_) (.slice A1 l1.length c1) l1) (h : thresherref09_Sort.f k l0_0 a0_1 a0_2 a0_3 l1=some r) :
  Calls Try.prog 17 #[.agg #[.slice A0_0 l0_0.length c0_0,.int .i64 a0_1,.int .i64 a0_2,.int .i64 a0_3],.slice A1 l1.length c1] w fun e w'=>∃ v0_ : Value,e=.returned (v0_)∧Kd.N (Kd.slice 31 k31) 33 w' w.heap.size (fun k_=>(P1_ k_ ∨ w.heap.size≤k_)) v0_ r∧Below w.heap.size w w':=by
 have hu26:=Try.underlying26
 have HR0_0:=Aside0.mk hr0_0
 have HC0_0:=Aside0.mk hc0_0
 clear hr0_0 hc0_0
 have HO1:=Aside0.mk (show Kd.V (Kd.slice 31 k31) 33 w w.heap.size (fun k_=>(P1_ k_ ∨ w.heap.size≤k_)) (.slice A1 l1.length c1) l1 from Kd.V_mono hs1 (fun k_ hk=>.inl hk))
 have HB:=Aside0.mk (Below.refl w.heap.size w)
 have H : (thresherref09_Sort.l0 k l1 (([] : List (List (S31)))) 0 l0_0 a0_1 a0_2 a0_3)=some r:=h
 clear h
 obtain ⟨y212,hy212⟩ : ∃ y_ : List (List (S31)),y_=(([] : List (List (S31)))):=⟨_,rfl⟩
 replace H : (thresherref09_Sort.l0 k l1 y212 0 l0_0 a0_1 a0_2 a0_3)=some r:=by first|(rw [hy212];with_reducible exact H)|(have H2_:=(Option.bind_some _ _).symm.trans H;rw [hy212];with_reducible exact H2_)|(have H2_:=(Option.bind_some _ _).symm.trans H;with_reducible exact H2_)|with_reducible exact H|(rw [hy212];exact H)|exact H
 have Ny212:=Aside0.mk hy212
 clear hy212
 have H':=Aside0.mk H
 clear H
 go_enter Try.func17,Try.ntmps17
 go_wp2_with (first|((with_reducible refine gate_dst (N:=2) rfl ?_);refine box_event ?hg (N:=2) ?hd (cs:=#[.slice A0_0 l0_0.length c0_0,.int .i64 a0_1,.int .i64 a0_2,.int .i64 a0_3]) (t:=26) ?hr ?_;(case hd=>rfl);(case hg=>rfl);(case hr=>first|(go_simp;done)|(go_simp;rfl));intro gb211 hg w3 hbox hb;have n0_:=Aside0.mk (Kd.V_below (Kd.V_elderB (V_up HO1.out) gb211 (Nat.le_of_eq hg.symm)) hb);have n1_:=Aside0.mk (below_step (below_up HB.out) hb);have n2_:=Aside0.mk (hbox);have n3_:=Aside0.mk ((by rw [hg];exact (below_size (below_up HB.out)) : w.heap.size≤gb211));have n4_:=Aside0.mk ((by rw [hg];exact (below_size (below_up HB.out)) : w.heap.size≤gb211));clear HO1;clear HB;have HO1:=n0_;have HB:=n1_;have BK211:=n2_;have GW211:=n3_;have GE211:=n4_;clear n0_ n1_ n2_ n3_ n4_;clear hb hbox hg)|((with_reducible refine gate_dst (N:=10) rfl ?_);refine Kd.N_lit (Kd.slice 31 k31) _ 33 ?hg (N':=10) ?hd (xs:=([] : List (List (S31)))) (inner:=[]) (ok:=(fun k_=>(P1_ k_ ∨ w.heap.size≤k_)∧k_≠gb211)) (okp:=(fun k_=>(P1_ k_ ∨ w.heap.size≤k_)∧k_≠gb211)) ?hr ?hp (fun _ hk=>hk) ((show ∀ k_,w3.heap.size≤k_→(fun k_=>(P1_ k_ ∨ w.heap.size≤k_)∧k_≠gb211) k_ from fun k_ hk=>⟨(.inr (Nat.le_trans (below_size (below_go HB.out)) hk)),Kd.freshB (blk_up BK211.out) k_ hk⟩) _ (Nat.le_refl _)) (Below.refl _ _) (Nat.le_refl _) (by simp) ?_;(case hd=>rfl);(case hg=>rfl);(case hr=>first|(go_simp;done)|(go_simp;rfl));(case hp=>exact (Reps.none _ _));intro v213 w4 ho5 hb hg_ hnew_;clear hg_ hnew_;(first|rw [← Ny212.out] at ho5|(simp only [Int.reduceToNat] at ho5;rw [← Ny212.out] at ho5));have n0_:=Aside0.mk (Kd.V_elder' (V_up HO1.out) (Kd.N_base ho5) hb);have n1_:=Aside0.mk (Kd.N_lower ho5 (below_size (below_go HB.out)));have n2_:=Aside0.mk (blk_below (blk_up BK211.out) hb);have n3_:=Aside0.mk (below_step (below_go HB.out) hb);clear HO1;clear BK211;clear HB;have HO1:=n0_;have HO214:=n1_;have BK211:=n2_;have HB:=n3_;clear n0_ n1_ n2_ n3_;clear hb ho5))
 go_loopg [5,6] k (fun kq v5 v6 w'=>∃ (x5_1 : List (List (S31))) (x6_1 : Int),v6=.int .i64 x6_1∧Aside0 (thresherref09_Sort.l0 kq l1 x5_1 x6_1 l0_0 a0_1 a0_2 a0_3=some r)∧Aside0 (kq≤k)∧Aside0 (Kd.V (Kd.slice 31 k31) 33 w' w.heap.size (fun k_=>(P1_ k_ ∨ w.heap.size≤k_)∧some k_≠(v5 : Value).ownBlock∧k_≠gb211) (.slice A1 l1.length c1) l1)∧Aside0 (Kd.N (Kd.slice 31 k31) 33 w' w.heap.size (fun k_=>(P1_ k_ ∨ w.heap.size≤k_)∧k_≠gb211) v5 x5_1)∧Aside0 (w'.heap[gb211]?=some (.cells #[(.slice A0_0 l0_0.length c0_0),.int .i64 a0_1,.int .i64 a0_2,.int .i64 a0_3] 26 (0,0)))∧Aside0 (Below w.heap.size w w'))
 case atStart=>exact ⟨(y212),(0),(by first|rfl|(simp;done)|(simp [*];done)),H',⟨Nat.le_refl _⟩,⟨by (with_reducible repeat (first|apply Kd.V_alloc|apply Kd.V_drewN|apply Kd.V_drew));exact Kd.V_mono HO1.out (fun _ hk=>⟨hk.1.1,⟨hk.2,hk.1.2⟩⟩)⟩,⟨by (with_reducible repeat (first|apply Kd.N_alloc|apply Kd.N_drewN|apply Kd.N_drew));exact HO214.out⟩,⟨by (with_reducible repeat (first|refine blk_drewN ?_ _|refine blk_drew ?_|refine blk_alloc ?_ _));exact BK211.out⟩,⟨by repeat (first|(with_reducible first|exact HB.out|apply below_alloc|apply pw_below_drewN|apply below_drew1|refine below_set ?_ GE211.out)|exact HB.out)⟩⟩
 case round =>
  clear H'
  try clear c1
  try clear p2
  obtain ⟨x5_1,x6_1,rfl,HA,HK1,HO_1,HO_5,BK211,HB⟩:=hrel
  cases gk with
  | zero=>exact absurd HA.out (by simp [thresherref09_Sort.l0])
  | succ k1 =>
   have H:=HA.out
   clear HA
   simp only [thresherref09_Sort.l0] at H
   by_cases c6 : x6_1 < (l1.length : Int)
   ·rw [if_pos c6] at H
    have c6b0 : decide (x6_1 < (l1.length : Int))=true:=decide_eq_true c6
    clear c6
    obtain ⟨y215,hy215⟩ : ∃ y_ : List (List (S31)),y_=(([] : List (List (S31)))):=⟨_,rfl⟩
    replace H : (thresherref09_Sort.l1 k1 l1 x5_1 x6_1 y215 false 0 l0_0 a0_1 a0_2 a0_3)=some r:=by first|(rw [hy215];with_reducible exact H)|(have H2_:=(Option.bind_some _ _).symm.trans H;rw [hy215];with_reducible exact H2_)|(have H2_:=(Option.bind_some _ _).symm.trans H;with_reducible exact H2_)|with_reducible exact H|(rw [hy215];exact H)|exact H
    have Ny215:=Aside0.mk hy215
    clear hy215
    have H':=Aside0.mk H
    clear H
    go_wp2_with (first|((with_reducible refine gate_dst (N:=17) rfl ?_);refine Kd.N_lit (Kd.slice 31 k31) _ 33 ?hg (N':=17) ?hd (xs:=([] : List (List (S31)))) (inner:=[]) (ok:=(fun k_=>(P1_ k_ ∨ w.heap.size≤k_)∧some k_≠(u5 : Value).ownBlock∧k_≠gb211)) (okp:=(fun k_=>(P1_ k_ ∨ w.heap.size≤k_)∧some k_≠(u5 : Value).ownBlock∧k_≠gb211)) ?hr ?hp (fun _ hk=>hk) ((show ∀ k_,wr.heap.size≤k_→(fun k_=>(P1_ k_ ∨ w.heap.size≤k_)∧some k_≠(u5 : Value).ownBlock∧k_≠gb211) k_ from fun k_ hk=>⟨(.inr (Nat.le_trans (below_size (below_go HB.out)) hk)),Kd.fresh' (Kd.N_lt (N_up HO_5.out)) k_ hk,Kd.freshB (blk_up BK211.out) k_ hk⟩) _ (Nat.le_refl _)) (Below.refl _ _) (Nat.le_refl _) (by simp) ?_;(case hd=>rfl);(case hg=>rfl);(case hr=>first|(go_simp;done)|(go_simp;rfl));(case hp=>exact (Reps.none _ _));intro v216 w7 ho8 hb hg_ hnew_;clear hg_ hnew_;(first|rw [← Ny215.out] at ho8|(simp only [Int.reduceToNat] at ho8;rw [← Ny215.out] at ho8));have n0_:=Aside0.mk (Kd.V_elder' (V_up HO_1.out) (Kd.N_base ho8) hb);have n1_:=Aside0.mk (Kd.N_elder' (N_up HO_5.out) (Kd.N_base ho8) hb);have n2_:=Aside0.mk (Kd.N_lower ho8 (below_size (below_go HB.out)));have n3_:=Aside0.mk (blk_below (blk_up BK211.out) hb);have n4_:=Aside0.mk (below_step (below_go HB.out) hb);clear HO_1;clear HO_5;clear BK211;clear HB;have HO_1:=n0_;have HO_5:=n1_;have HO217:=n2_;have BK211:=n3_;have HB:=n4_;clear n0_ n1_ n2_ n3_ n4_;clear hb ho8))
    go_loopg [7,8,9] k1 (fun kq v7 v8 v9 w'=>∃ (x7_2 : List (List (S31))) (x8_2 : Bool) (x9_2 : Int),v8=.bool x8_2∧v9=.int .i64 x9_2∧Aside0 (thresherref09_Sort.l1 kq l1 x5_1 x6_1 x7_2 x8_2 x9_2 l0_0 a0_1 a0_2 a0_3=some r)∧Aside0 (kq≤k1)∧Aside0 (Kd.V (Kd.slice 31 k31) 33 w' w.heap.size (fun k_=>(P1_ k_ ∨ w.heap.size≤k_)∧some k_≠(u5 : Value).ownBlock∧some k_≠(v7 : Value).ownBlock∧k_≠gb211) (.slice A1 l1.length c1) l1)∧Aside0 (Kd.N (Kd.slice 31 k31) 33 w' w.heap.size (fun k_=>(P1_ k_ ∨ w.heap.size≤k_)∧some k_≠(v7 : Value).ownBlock∧k_≠gb211) u5 x5_1)∧Aside0 (Kd.N (Kd.slice 31 k31) 33 w' w.heap.size (fun k_=>(P1_ k_ ∨ w.heap.size≤k_)∧some k_≠(u5 : Value).ownBlock∧k_≠gb211) v7 x7_2)∧Aside0 (w'.heap[gb211]?=some (.cells #[(.slice A0_0 l0_0.length c0_0),.int .i64 a0_1,.int .i64 a0_2,.int .i64 a0_3] 26 (0,0)))∧Aside0 (Below w.heap.size w w'))
    case atStart=>exact ⟨(y215),(false),(0),(by first|rfl|(simp;done)|(simp [*];done)),(by first|rfl|(simp;done)|(simp [*];done)),H',⟨Nat.le_refl _⟩,⟨by (with_reducible repeat (first|apply Kd.V_alloc|apply Kd.V_drewN|apply Kd.V_drew));exact Kd.V_mono HO_1.out (fun _ hk=>⟨hk.1.1,⟨hk.1.2.1,⟨hk.2,hk.1.2.2⟩⟩⟩)⟩,⟨by (with_reducible repeat (first|apply Kd.N_alloc|apply Kd.N_drewN|apply Kd.N_drew));exact Kd.N_mono HO_5.out (fun _ hk=>⟨hk.1.1,⟨hk.2,hk.1.2⟩⟩)⟩,⟨by (with_reducible repeat (first|apply Kd.N_alloc|apply Kd.N_drewN|apply Kd.N_drew));exact HO217.out⟩,⟨by (with_reducible repeat (first|refine blk_drewN ?_ _|refine blk_drew ?_|refine blk_alloc ?_ _));exact BK211.out⟩,⟨by repeat (first|(with_reducible first|exact HB.out|apply below_alloc|apply pw_below_drewN|apply below_drew1|refine below_set ?_ GE211.out)|exact HB.out)⟩⟩
    case round =>
     clear H'
     try clear c1
     try clear p2
     try clear c6
     try clear c6b0
     try clear p2
     obtain ⟨x7_2,x8_2,x9_2,rfl,rfl,HA,HK2,HO_1,HO_5,HO_7,BK211,HB⟩:=hrel
     cases gk with
     | zero=>exact absurd HA.out (by simp [thresherref09_Sort.l1])
     | succ k2 =>
      have H:=HA.out
      clear HA
      simp only [thresherref09_Sort.l1] at H
      by_cases c9 : x9_2 < (x5_1.length : Int)
      ·rw [if_pos c9] at H
       have c9b0 : decide (x9_2 < (x5_1.length : Int))=true:=decide_eq_true c9
       clear c9
       by_cases c10 : x8_2=true
       ·subst c10
        have H1 : (if 0≤x9_2 then (if x7_2.length < 5864062014805 then (thresherref09_Sort.l1 k2 l1 x5_1 x6_1 (x7_2 ++ [rd_L3 x5_1 x9_2]) true (wrap64 (x9_2 + 1)) l0_0 a0_1 a0_2 a0_3) else (none)) else (none))=some r:=by rw [if_pos rfl] at H;exact H
        clear H
        have H:=H1
        clear H1
        by_cases c11 : 0≤x9_2
        ·rw [if_pos c11] at H
         have c11b0 : decide (0≤x9_2)=true:=decide_eq_true c11
         clear c11
         by_cases c12 : x7_2.length < 5864062014805
         ·rw [if_pos c12] at H
          have LMc12:=Aside0.mk c12
          clear c12
          obtain ⟨y222,hy222⟩ : ∃ y_ : List (List (S31)),y_=(x7_2 ++ [rd_L3 x5_1 x9_2]):=⟨_,rfl⟩
          replace H : (thresherref09_Sort.l1 k2 l1 x5_1 x6_1 y222 true (wrap64 (x9_2 + 1)) l0_0 a0_1 a0_2 a0_3)=some r:=by first|(rw [hy222];with_reducible exact H)|(have H2_:=(Option.bind_some _ _).symm.trans H;rw [hy222];with_reducible exact H2_)|(have H2_:=(Option.bind_some _ _).symm.trans H;with_reducible exact H2_)|with_reducible exact H|(rw [hy222];exact H)|exact H
          have Ny222:=Aside0.mk hy222
          clear hy222
          have H':=Aside0.mk H
          clear H
          obtain ⟨Ao13,co13,eo13⟩:=Kd.N_slice HO_5.out
          subst eo13
          try go_wp2
          have n0_:=Aside0.mk (Kd.V_drew HO_1.out)
          have n1_:=Aside0.mk (Kd.N_drew HO_5.out)
          have n2_:=Aside0.mk (Kd.N_drew HO_7.out)
          have n3_:=Aside0.mk (blk_drew BK211.out)
          have n4_:=Aside0.mk (below_drew1 HB.out)
          clear HO_1
          clear HO_5
          clear HO_7
          clear BK211
          clear HB
          have HO_1:=n0_
          have HO_5:=n1_
          have HO_7:=n2_
          have BK211:=n3_
          have HB:=n4_
          clear n0_ n1_ n2_ n3_ n4_
          refine start_ (n:=15) (S:=fun w'=>True) (ds:=[]) #[false,false,false,false,false,false,false,false,false,false,false,false,false,false,false] (by kernel_rfl) rfl rfl trivial (fun hHeld=>?_);refine with_tabW thresherref09_Sort.tab10 thresherref09_Sort.bits10 (fun HT_ HW_=>?_)
          generalize wr.drew=w14 at HO_1 HO_5 HO_7 BK211 HB hHeld ⊢
          refine pure_ (i:=0) (N:=some 24) (v:=?_) (a':=?_) #[true,false,false,false,false,false,false,false,false,false,false,false,false,false,false] rfl rfl (any_of HT_.out (by kernel_rfl)) (fun _ _ _ h=>h) (Or.inl ⟨by rfl,?_⟩) ?_ ?_
          rotate_left;(intro w';go_simp;with_reducible rfl);rotate_left;(simp only [Act.put,List.setIfInBounds_toArray,List.set_cons_zero,List.set_cons_succ,i64_w,i32_w];rfl)
          refine pure_ (i:=1) (N:=some 25) (v:=?_) (a':=?_) #[true,true,false,false,false,false,false,false,false,false,false,false,false,false,false] rfl rfl (any_of HT_.out (by kernel_rfl)) (fun _ _ _ h=>h) (Or.inl ⟨by rfl,?_⟩) ?_ ?_
          rotate_left;(intro w';go_simp;with_reducible rfl);rotate_left;(simp only [Act.put,List.setIfInBounds_toArray,List.set_cons_zero,List.set_cons_succ,i64_w,i32_w];rfl)
          refine pure_ (i:=2) (N:=some 26) (v:=?_) (a':=?_) #[true,true,true,false,false,false,false,false,false,false,false,false,false,false,false] rfl rfl (any_of HT_.out (by kernel_rfl)) (fun _ _ _ h=>h) (Or.inl ⟨by rfl,?_⟩) ?_ ?_
          rotate_left;(intro w';go_simp;with_reducible rfl);rotate_left;(simp only [Act.put,List.setIfInBounds_toArray,List.set_cons_zero,List.set_cons_succ,i64_w,i32_w];rfl)
          refine pure_ (i:=3) (N:=some 27) (v:=undef) (a':=?_) #[true,true,true,true,false,false,false,false,false,false,false,false,false,false,false] rfl rfl (any_of HT_.out (by kernel_rfl)) (fun _ _ _ h=>h) (Or.inr ⟨by rfl,rfl⟩) ?_ ?_
          rotate_left
          ·simp only [Act.put,List.setIfInBounds_toArray,List.set_cons_zero,List.set_cons_succ,i64_w,i32_w]
           rfl
          refine pure_ (i:=4) (N:=some 28) (v:=undef) (a':=?_) #[true,true,true,true,true,false,false,false,false,false,false,false,false,false,false] rfl rfl (any_of HT_.out (by kernel_rfl)) (fun _ _ _ h=>h) (Or.inr ⟨by rfl,rfl⟩) ?_ ?_
          rotate_left
          ·simp only [Act.put,List.setIfInBounds_toArray,List.set_cons_zero,List.set_cons_succ,i64_w,i32_w]
           rfl
          refine pure_ (i:=5) (N:=some 29) (v:=undef) (a':=?_) #[true,true,true,true,true,true,false,false,false,false,false,false,false,false,false] rfl rfl (any_of HT_.out (by kernel_rfl)) (fun _ _ _ h=>h) (Or.inr ⟨by rfl,rfl⟩) ?_ ?_
          rotate_left
          ·simp only [Act.put,List.setIfInBounds_toArray,List.set_cons_zero,List.set_cons_succ,i64_w,i32_w]
           rfl
          refine pure_ (i:=6) (N:=some 30) (v:=undef) (a':=?_) #[true,true,true,true,true,true,true,false,false,false,false,false,false,false,false] rfl rfl (any_of HT_.out (by kernel_rfl)) (fun _ _ _ h=>h) (Or.inr ⟨by rfl,rfl⟩) ?_ ?_
          rotate_left
          ·simp only [Act.put,List.setIfInBounds_toArray,List.set_cons_zero,List.set_cons_succ,i64_w,i32_w]
           rfl
          refine pure_ (i:=7) (N:=some 31) (v:=undef) (a':=?_) #[true,true,true,true,true,true,true,true,false,false,false,false,false,false,false] rfl rfl (any_of HT_.out (by kernel_rfl)) (fun _ _ _ h=>h) (Or.inr ⟨by rfl,rfl⟩) ?_ ?_
          rotate_left
          ·simp only [Act.put,List.setIfInBounds_toArray,List.set_cons_zero,List.set_cons_succ,i64_w,i32_w]
           rfl
          refine pure_ (i:=8) (N:=some 32) (v:=undef) (a':=?_) #[true,true,true,true,true,true,true,true,true,false,false,false,false,false,false] rfl rfl (any_of HT_.out (by kernel_rfl)) (fun _ _ _ h=>h) (Or.inr ⟨by rfl,rfl⟩) ?_ ?_
          rotate_left
          ·simp only [Act.put,List.setIfInBounds_toArray,List.set_cons_zero,List.set_cons_succ,i64_w,i32_w]
           rfl
          refine pure_ (i:=9) (N:=some 33) (v:=undef) (a':=?_) #[true,true,true,true,true,true,true,true,true,true,false,false,false,false,false] rfl rfl (any_of HT_.out (by kernel_rfl)) (fun _ _ _ h=>h) (Or.inr ⟨by rfl,rfl⟩) ?_ ?_
          rotate_left
          ·simp only [Act.put,List.setIfInBounds_toArray,List.set_cons_zero,List.set_cons_succ,i64_w,i32_w]
           rfl
          refine pure_ (i:=10) (N:=some 34) (v:=undef) (a':=?_) #[true,true,true,true,true,true,true,true,true,true,true,false,false,false,false] rfl rfl (any_of HT_.out (by kernel_rfl)) (fun _ _ _ h=>h) (Or.inr ⟨by rfl,rfl⟩) ?_ ?_
          rotate_left
          ·simp only [Act.put,List.setIfInBounds_toArray,List.set_cons_zero,List.set_cons_succ,i64_w,i32_w]
           rfl
          refine pure_ (i:=11) (N:=some 35) (v:=undef) (a':=?_) #[true,true,true,true,true,true,true,true,true,true,true,true,false,false,false] rfl rfl (any_of HT_.out (by kernel_rfl)) (fun _ _ _ h=>h) (Or.inr ⟨by rfl,rfl⟩) ?_ ?_
          rotate_left
          ·simp only [Act.put,List.setIfInBounds_toArray,List.set_cons_zero,List.set_cons_succ,i64_w,i32_w]
           rfl
          refine pure_ (i:=12) (N:=some 36) (v:=undef) (a':=?_) #[true,true,true,true,true,true,true,true,true,true,true,true,true,false,false] rfl rfl (any_of HT_.out (by kernel_rfl)) (fun _ _ _ h=>h) (Or.inr ⟨by rfl,rfl⟩) ?_ ?_
          rotate_left
          ·simp only [Act.put,List.setIfInBounds_toArray,List.set_cons_zero,List.set_cons_succ,i64_w,i32_w]
           rfl
          refine pure_ (i:=13) (N:=some 37) (v:=undef) (a':=?_) #[true,true,true,true,true,true,true,true,true,true,true,true,true,true,false] rfl rfl (any_of HT_.out (by kernel_rfl)) (fun _ _ _ h=>h) (Or.inr ⟨by rfl,rfl⟩) ?_ ?_
          rotate_left
          ·simp only [Act.put,List.setIfInBounds_toArray,List.set_cons_zero,List.set_cons_succ,i64_w,i32_w]
           rfl
          refine pure_ (i:=14) (N:=some 38) (v:=?_) (a':=?_) #[true,true,true,true,true,true,true,true,true,true,true,true,true,true,true] rfl rfl (any_of HT_.out (by kernel_rfl)) (fun _ _ _ h=>h) (Or.inl ⟨by rfl,?_⟩) ?_ ?_
          rotate_left;(intro w';go_simp;with_reducible rfl);rotate_left;(simp only [Act.put,List.setIfInBounds_toArray,List.set_cons_zero,List.set_cons_succ,i64_w,i32_w];rfl)
          refine done_ (done_of HT_.out (by kernel_rfl)) ?_
          (try clear hHeld)
          have p221 : 0≤(x9_2 : Int):=of_decide_eq_true (by first|(with_reducible assumption)|assumption)
          have q221 : x9_2 < (x5_1.length : Int):=of_decide_eq_true (by first|(with_reducible assumption)|assumption)
          obtain ⟨ad221,A221_0,c221_0,e221,hx221_0,hl221_0,hi221_0⟩:=at_L3 (Kd.N_reads' HO_5.out).2.2 x9_2 p221 q221
          cases e221
          obtain ⟨ce221,hce221,hMe221,hcc221⟩:=Kd.N_get HO_5.out [] x9_2 p221 (by first|exact q221|exact of_decide_eq_true (by first|(with_reducible assumption)|assumption)|(have e_:=(Kd.N_reads' HO_5.out).1;omega))
          obtain ⟨ua221_0,uc221_0,rfl,ul221_0,ge221_0⟩:=Kd.FK_slice_open hMe221
          have hv221_0:=hcc221 0 _ rfl
          rw [Nat.add_zero,show ((Kd.slice 31 k31)).sz=1 from rfl,Nat.mul_one] at hv221_0
          replace hv221_0:=Option.some.inj (hv221_0.symm.trans hx221_0)
          injection hv221_0 with hva_ hvn_ hvc_
          rw [hva_] at ge221_0
          rw [hvc_] at ul221_0
          have HL221_0:=Aside0.mk (show Kd.V k31 31 _ w.heap.size _ _ (rd_L3 x5_1 x9_2) from Kd.V_mk ul221_0 ge221_0)
          clear hva_ hvn_ hvc_ ge221_0 ul221_0
          clear hcc221 hce221
          have HR221_0:=Aside0.mk hi221_0
          have HC221_0:=Aside0.mk hl221_0
          clear hi221_0 hl221_0
          replace p221:=eq_true p221
          replace q221:=eq_true q221
          try go_wp2_with (first|((with_reducible refine gate_builtin (b:=.append) (xs:=#[.tmp 46,.tmp 51]) rfl ?_);at_builtin;refine Kd.N_append (Kd.slice 31 k31) (w0:=w) w.heap.size rfl (.tmp 46) (.tmp 51) 28 33 (.slice none 0 0) 24 rfl Try.underlying28 info33 rfl (by decide) (by omega) u7 x7_2 (rd_L3 x5_1 x9_2) [.slice A221_0 (rd_L3 x5_1 x9_2).length c221_0] (fun k_=>(P1_ k_ ∨ w.heap.size≤k_)∧some k_≠(.slice (some ad221) x5_1.length co13 : Value).ownBlock∧k_≠gb211) (fun k_=>((fun k_=>(P1_ k_ ∨ w.heap.size≤k_)∧some k_≠(.slice (some ad221) x5_1.length co13 : Value).ownBlock∧k_≠gb211)) k_∧some k_≠(u7 : Value).ownBlock) rfl rfl ?aP (fun _ hk=>hk) ?aF ?aO ?aB ?aS ?aL ?_;(case aP=>exact (Kd.FK_slice_mk (Kd.V_reads' (Kd.V_mono (ok':=(fun k_=>((fun k_=>(P1_ k_ ∨ w.heap.size≤k_)∧some k_≠(.slice (some ad221) x5_1.length co13 : Value).ownBlock∧k_≠gb211)) k_∧some k_≠(u7 : Value).ownBlock)) (HL221_0.out) (fun k_ hk=>⟨⟨hk.1.1,⟨hk.2,hk.1.2.2⟩⟩,hk.1.2.1⟩))).2.1 (Kd.V_F (Kd.V_mono (ok':=(fun k_=>((fun k_=>(P1_ k_ ∨ w.heap.size≤k_)∧some k_≠(.slice (some ad221) x5_1.length co13 : Value).ownBlock∧k_≠gb211)) k_∧some k_≠(u7 : Value).ownBlock)) (HL221_0.out) (fun k_ hk=>⟨⟨hk.1.1,⟨hk.2,hk.1.2.2⟩⟩,hk.1.2.1⟩)))));(case aB=>exact (below_go HB.out));(case aF=>exact (fun k_ hk=>⟨(.inr (Nat.le_trans (below_size (below_go HB.out)) hk)),Kd.fresh' (Kd.N_lt (N_up HO_5.out)) k_ hk,Kd.freshB (blk_up BK211.out) k_ hk⟩));(case aO=>exact (N_up HO_7.out));(case aS=>exact (below_size (below_go HB.out)));(case aL=>have:=LMc12.out;omega);intro v223 w15 ho hb hg hat;rw [← Ny222.out] at ho;have n0_:=Aside0.mk (Kd.V_afterv (ok:=(fun k_=>(P1_ k_ ∨ w.heap.size≤k_)∧some k_≠(.slice (some ad221) x5_1.length co13 : Value).ownBlock∧k_≠gb211)) (V_upm HO_1.out (fun _ hk=>⟨⟨hk.1,⟨hk.2.1,hk.2.2.2⟩⟩,hk.2.2.1⟩)) hg hat);have n1_:=Aside0.mk (Kd.N_afterv (ok:=(fun k_=>(P1_ k_ ∨ w.heap.size≤k_)∧k_≠gb211)) (N_upm HO_5.out (fun _ hk=>⟨⟨hk.1,hk.2.2⟩,hk.2.1⟩)) hg hat);have n2_:=Aside0.mk (blk_grown (blk_up BK211.out) hg (Kd.N_ne HO_7.out BK211.out (by decide)));have n3_:=Aside0.mk (Kd.V_afterv (ok:=(fun k_=>(P1_ k_ ∨ w.heap.size≤k_)∧some k_≠(.slice (some ad221) x5_1.length co13 : Value).ownBlock∧k_≠gb211)) (V_upm HL221_0.out (fun _ hk=>⟨⟨hk.1.1,⟨hk.2,hk.1.2.2⟩⟩,hk.1.2.1⟩)) hg hat);have n4_:=Aside0.mk (hb);have n5_:=Aside0.mk (ho);clear HO_1;clear HO_5;clear BK211;clear HL221_0;clear HB;clear HO_7;have HO_1:=n0_;have HO_5:=n1_;have BK211:=n2_;have HL221_0:=n3_;have HB:=n4_;have HO224:=n5_;clear n0_ n1_ n2_ n3_ n4_ n5_;clear ho hb hg hat))
          go_roundg k2
          case measure=>have:=HK1.out;have:=HK2.out;omega
          case rel=>exact ⟨(y222),(true),(wrap64 (x9_2 + 1)),(by first|rfl|(simp;done)|(simp [*];done)),(by first|rfl|(simp;done)|(simp [*];done)),(by first|exact H'|(subst_vars;exact H')),⟨by have:=HK1.out;have:=HK2.out;omega⟩,⟨by (with_reducible repeat (first|apply Kd.V_alloc|apply Kd.V_drewN|apply Kd.V_drew));exact Kd.V_mono HO_1.out (fun _ hk=>⟨hk.1.1,⟨hk.1.2.1,⟨hk.2,hk.1.2.2⟩⟩⟩)⟩,⟨by (with_reducible repeat (first|apply Kd.N_alloc|apply Kd.N_drewN|apply Kd.N_drew));exact Kd.N_mono HO_5.out (fun _ hk=>⟨hk.1.1,⟨hk.2,hk.1.2⟩⟩)⟩,⟨by (with_reducible repeat (first|apply Kd.N_alloc|apply Kd.N_drewN|apply Kd.N_drew));exact HO224.out⟩,⟨by (with_reducible repeat (first|refine blk_drewN ?_ _|refine blk_drew ?_|refine blk_alloc ?_ _));exact BK211.out⟩,⟨by repeat (first|(with_reducible first|exact HB.out|apply below_alloc|apply pw_below_drewN|apply below_drew1|refine below_set ?_ GE211.out)|exact HB.out)⟩⟩
         ·rw [if_neg c12] at H
          exact absurd H (by simp)
        ·rw [if_neg c11] at H
         exact absurd H (by simp)
       ·replace c10:=Bool.eq_false_iff.mpr c10
        subst c10
        have H1 : (if 0≤x9_2 then (if 0≤x6_1 then (if x6_1 < (l1.length : Int) then ((thresherref04_Compare.f k2 l0_0 a0_1 a0_2 a0_3 (rd_L3 x5_1 x9_2) (rd_L3 l1 x6_1)).bind fun t220=>(if t220 > 0 then (if x7_2.length < 5864062014805 then ((some (x7_2 ++ [rd_L3 l1 x6_1] : List (List (S31)))).bind fun y226=>(if y226.length < 5864062014805 then (thresherref09_Sort.l1 k2 l1 x5_1 x6_1 (y226 ++ [rd_L3 x5_1 x9_2]) true (wrap64 (x9_2 + 1)) l0_0 a0_1 a0_2 a0_3) else (none))) else (none)) else (if x7_2.length < 5864062014805 then (thresherref09_Sort.l1 k2 l1 x5_1 x6_1 (x7_2 ++ [rd_L3 x5_1 x9_2]) false (wrap64 (x9_2 + 1)) l0_0 a0_1 a0_2 a0_3) else (none)))) else (none)) else (none)) else (none))=some r:=by rw [if_neg (show ¬ (false=true) by decide)] at H;exact H
        clear H
        have H:=H1
        clear H1
        by_cases c16 : 0≤x9_2
        ·rw [if_pos c16] at H
         have c16b0 : decide (0≤x9_2)=true:=decide_eq_true c16
         clear c16
         by_cases c17 : 0≤x6_1
         ·rw [if_pos c17] at H
          have c17b0 : decide (0≤x6_1)=true:=decide_eq_true c17
          clear c17
          by_cases c18 : x6_1 < (l1.length : Int)
          ·rw [if_pos c18] at H
           have c18b0 : decide (x6_1 < (l1.length : Int))=true:=decide_eq_true c18
           clear c18
           replace H:=Option.bind_eq_some_iff.mp H
           obtain ⟨t220,A190,H⟩:=H
           replace H : (if t220 > 0 then (if x7_2.length < 5864062014805 then ((some (x7_2 ++ [rd_L3 l1 x6_1] : List (List (S31)))).bind fun y226=>(if y226.length < 5864062014805 then (thresherref09_Sort.l1 k2 l1 x5_1 x6_1 (y226 ++ [rd_L3 x5_1 x9_2]) true (wrap64 (x9_2 + 1)) l0_0 a0_1 a0_2 a0_3) else (none))) else (none)) else (if x7_2.length < 5864062014805 then (thresherref09_Sort.l1 k2 l1 x5_1 x6_1 (x7_2 ++ [rd_L3 x5_1 x9_2]) false (wrap64 (x9_2 + 1)) l0_0 a0_1 a0_2 a0_3) else (none)))=some r:=H
           have A19:=Aside0.mk A190
           clear A190
           by_cases c20 : t220 > 0
           ·rw [if_pos c20] at H
            have c20b0 : decide (0 < t220)=true:=decide_eq_true c20
            clear c20
            by_cases c21 : x7_2.length < 5864062014805
            ·rw [if_pos c21] at H
             have LMc21:=Aside0.mk c21
             clear c21
             obtain ⟨y226,hy226⟩ : ∃ y_ : List (List (S31)),y_=(x7_2 ++ [rd_L3 l1 x6_1]):=⟨_,rfl⟩
             replace H : (if y226.length < 5864062014805 then (thresherref09_Sort.l1 k2 l1 x5_1 x6_1 (y226 ++ [rd_L3 x5_1 x9_2]) true (wrap64 (x9_2 + 1)) l0_0 a0_1 a0_2 a0_3) else (none))=some r:=by first|(rw [hy226];with_reducible exact H)|(have H2_:=(Option.bind_some _ _).symm.trans H;rw [hy226];with_reducible exact H2_)|(have H2_:=(Option.bind_some _ _).symm.trans H;with_reducible exact H2_)|with_reducible exact H|(rw [hy226];exact H)|exact H
             have Ny226:=Aside0.mk hy226
             clear hy226
             by_cases c22 : y226.length < 5864062014805
             ·rw [if_pos c22] at H
              have LMc22:=Aside0.mk c22
              clear c22
              obtain ⟨y230,hy230⟩ : ∃ y_ : List (List (S31)),y_=(y226 ++ [rd_L3 x5_1 x9_2]):=⟨_,rfl⟩
              replace H : (thresherref09_Sort.l1 k2 l1 x5_1 x6_1 y230 true (wrap64 (x9_2 + 1)) l0_0 a0_1 a0_2 a0_3)=some r:=by first|(rw [hy230];with_reducible exact H)|(have H2_:=(Option.bind_some _ _).symm.trans H;rw [hy230];with_reducible exact H2_)|(have H2_:=(Option.bind_some _ _).symm.trans H;with_reducible exact H2_)|with_reducible exact H|(rw [hy230];exact H)|exact H
              have Ny230:=Aside0.mk hy230
              clear hy230
              have H':=Aside0.mk H
              clear H
              obtain ⟨Ao23,co23,eo23⟩:=Kd.N_slice HO_5.out
              subst eo23
              try go_wp2
              have n0_:=Aside0.mk (Kd.V_drew HO_1.out)
              have n1_:=Aside0.mk (Kd.N_drew HO_5.out)
              have n2_:=Aside0.mk (Kd.N_drew HO_7.out)
              have n3_:=Aside0.mk (blk_drew BK211.out)
              have n4_:=Aside0.mk (below_drew1 HB.out)
              clear HO_1
              clear HO_5
              clear HO_7
              clear BK211
              clear HB
              have HO_1:=n0_
              have HO_5:=n1_
              have HO_7:=n2_
              have BK211:=n3_
              have HB:=n4_
              clear n0_ n1_ n2_ n3_ n4_
              have p218 : 0≤(x9_2 : Int):=of_decide_eq_true (by first|(with_reducible assumption)|assumption)
              have q218 : x9_2 < (x5_1.length : Int):=of_decide_eq_true (by first|(with_reducible assumption)|assumption)
              obtain ⟨ad218,A218_0,c218_0,e218,hx218_0,hl218_0,hi218_0⟩:=at_L3 (Kd.N_reads' HO_5.out).2.2 x9_2 p218 q218
              cases e218
              obtain ⟨ce218,hce218,hMe218,hcc218⟩:=Kd.N_get HO_5.out [] x9_2 p218 (by first|exact q218|exact of_decide_eq_true (by first|(with_reducible assumption)|assumption)|(have e_:=(Kd.N_reads' HO_5.out).1;omega))
              obtain ⟨ua218_0,uc218_0,rfl,ul218_0,ge218_0⟩:=Kd.FK_slice_open hMe218
              have hv218_0:=hcc218 0 _ rfl
              rw [Nat.add_zero,show ((Kd.slice 31 k31)).sz=1 from rfl,Nat.mul_one] at hv218_0
              replace hv218_0:=Option.some.inj (hv218_0.symm.trans hx218_0)
              injection hv218_0 with hva_ hvn_ hvc_
              rw [hva_] at ge218_0
              rw [hvc_] at ul218_0
              have HL218_0:=Aside0.mk (show Kd.V k31 31 _ w.heap.size _ _ (rd_L3 x5_1 x9_2) from Kd.V_mk ul218_0 ge218_0)
              clear hva_ hvn_ hvc_ ge218_0 ul218_0
              clear hcc218 hce218
              have HR218_0:=Aside0.mk hi218_0
              have HC218_0:=Aside0.mk hl218_0
              clear hi218_0 hl218_0
              replace p218:=eq_true p218
              replace q218:=eq_true q218
              have p219 : 0≤(x6_1 : Int):=of_decide_eq_true (by first|(with_reducible assumption)|assumption)
              have q219 : x6_1 < (l1.length : Int):=of_decide_eq_true (by first|(with_reducible assumption)|assumption)
              obtain ⟨ad219,A219_0,c219_0,e219,hx219_0,hl219_0,hi219_0⟩:=at_L3 (Kd.V_reads' HO_1.out).2.2 x6_1 p219 q219
              cases e219
              obtain ⟨ce219,hce219,hMe219,hcc219⟩:=Kd.V_get HO_1.out [] x6_1 p219 (by first|exact q219|exact of_decide_eq_true (by first|(with_reducible assumption)|assumption)|(have e_:=(Kd.V_reads' HO_1.out).1;omega))
              obtain ⟨ua219_0,uc219_0,rfl,ul219_0,ge219_0⟩:=Kd.FK_slice_open hMe219
              have hv219_0:=hcc219 0 _ rfl
              rw [Nat.add_zero,show ((Kd.slice 31 k31)).sz=1 from rfl,Nat.mul_one] at hv219_0
              replace hv219_0:=Option.some.inj (hv219_0.symm.trans hx219_0)
              injection hv219_0 with hva_ hvn_ hvc_
              rw [hva_] at ge219_0
              rw [hvc_] at ul219_0
              have HL219_0:=Aside0.mk (show Kd.V k31 31 _ w.heap.size _ _ (rd_L3 l1 x6_1) from Kd.V_mk ul219_0 ge219_0)
              clear hva_ hvn_ hvc_ ge219_0 ul219_0
              clear hcc219 hce219
              have HR219_0:=Aside0.mk hi219_0
              have HC219_0:=Aside0.mk hl219_0
              clear hi219_0 hl219_0
              replace p219:=eq_true p219
              replace q219:=eq_true q219
              refine start_ (n:=15) (S:=fun w'=>w'.cell? ⟨gb211,0,none⟩=some (.slice A0_0 l0_0.length c0_0)∧w'.cell? ⟨gb211,1,none⟩=some (.int .i64 a0_1)∧w'.cell? ⟨gb211,2,none⟩=some (.int .i64 a0_2)∧w'.cell? ⟨gb211,3,none⟩=some (.int .i64 a0_3)∧w'.cell? (ad218.add (x9_2).toNat)=some (.slice A218_0 (rd_L3 x5_1 x9_2).length c218_0)∧w'.cell? (ad219.add (x6_1).toNat)=some (.slice A219_0 (rd_L3 l1 x6_1).length c219_0)) (ds:=[]) #[false,false,false,false,false,false,false,false,false,false,false,false,false,false,false] (by kernel_rfl) rfl rfl ⟨(blk_cell BK211.out 0).trans rfl,(blk_cell BK211.out 1).trans rfl,(blk_cell BK211.out 2).trans rfl,(blk_cell BK211.out 3).trans rfl,hx218_0,hx219_0⟩ (fun hHeld=>?_);refine with_tabW thresherref09_Sort.tab10 thresherref09_Sort.bits10 (fun HT_ HW_=>?_)
              generalize wr.drew=w24 at HO_1 HO_5 HO_7 BK211 HB HL218_0 HL219_0 HR218_0 HR219_0 hx218_0 hx219_0 hHeld ⊢
              refine pure_ (i:=0) (N:=some 24) (v:=?_) (a':=?_) #[true,false,false,false,false,false,false,false,false,false,false,false,false,false,false] rfl rfl (any_of HT_.out (by kernel_rfl)) (fun _ _ _ h=>h) (Or.inl ⟨by rfl,?_⟩) ?_ ?_
              rotate_left;(intro w';go_simp;with_reducible rfl);rotate_left;(simp only [Act.put,List.setIfInBounds_toArray,List.set_cons_zero,List.set_cons_succ,i64_w,i32_w];rfl)
              refine pure_ (i:=1) (N:=some 25) (v:=?_) (a':=?_) #[true,true,false,false,false,false,false,false,false,false,false,false,false,false,false] rfl rfl (any_of HT_.out (by kernel_rfl)) (fun _ _ _ h=>h) (Or.inl ⟨by rfl,?_⟩) ?_ ?_
              rotate_left;(intro w';go_simp;with_reducible rfl);rotate_left;(simp only [Act.put,List.setIfInBounds_toArray,List.set_cons_zero,List.set_cons_succ,i64_w,i32_w];rfl)
              refine pure_ (i:=2) (N:=some 26) (v:=?_) (a':=?_) #[true,true,true,false,false,false,false,false,false,false,false,false,false,false,false] rfl rfl (any_of HT_.out (by kernel_rfl)) (fun _ _ _ h=>h) (Or.inl ⟨by rfl,?_⟩) ?_ ?_
              rotate_left;(intro w';go_simp;with_reducible rfl);rotate_left;(simp only [Act.put,List.setIfInBounds_toArray,List.set_cons_zero,List.set_cons_succ,i64_w,i32_w];rfl)
              refine pure_ (i:=4) (N:=some 28) (v:=?_) (a':=?_) #[true,true,true,false,true,false,false,false,false,false,false,false,false,false,false] rfl rfl (any_of HT_.out (by kernel_rfl)) (fun _ _ _ h=>h) (Or.inl ⟨by rfl,?_⟩) ?_ ?_
              rotate_left;(intro w';go_simp;with_reducible rfl);rotate_left;(simp only [Act.put,List.setIfInBounds_toArray,List.set_cons_zero,List.set_cons_succ,i64_w,i32_w];rfl)
              refine pure_ (i:=5) (N:=some 29) (v:=?_) (a':=?_) #[true,true,true,false,true,true,false,false,false,false,false,false,false,false,false] rfl rfl (any_of HT_.out (by kernel_rfl)) (fun _ _ _ h=>h) (Or.inl ⟨by rfl,?_⟩) ?_ ?_
              rotate_left;(intro w';go_simp;with_reducible rfl);rotate_left;(simp only [Act.put,List.setIfInBounds_toArray,List.set_cons_zero,List.set_cons_succ,i64_w,i32_w];rfl)
              refine pure_ (i:=6) (N:=some 30) (v:=?_) (a':=?_) #[true,true,true,false,true,true,true,false,false,false,false,false,false,false,false] rfl rfl (any_of HT_.out (by kernel_rfl)) (fun _ _ _ h=>h) (Or.inl ⟨by rfl,?_⟩) ?_ ?_
              rotate_left;(intro w';go_simp;with_reducible rfl);rotate_left;(simp only [Act.put,List.setIfInBounds_toArray,List.set_cons_zero,List.set_cons_succ,i64_w,i32_w];rfl)
              refine pure_ (i:=8) (N:=some 32) (v:=?_) (a':=?_) #[true,true,true,false,true,true,true,false,true,false,false,false,false,false,false] rfl rfl (any_of HT_.out (by kernel_rfl)) (fun _ _ _ h=>h) (Or.inl ⟨by rfl,?_⟩) ?_ ?_
              rotate_left;(intro w';go_simp;with_reducible rfl);rotate_left;(simp only [Act.put,List.setIfInBounds_toArray,List.set_cons_zero,List.set_cons_succ,i64_w,i32_w];rfl)
              refine pure_ (i:=9) (N:=some 33) (v:=?_) (a':=?_) #[true,true,true,false,true,true,true,false,true,true,false,false,false,false,false] rfl rfl (any_of HT_.out (by kernel_rfl)) (fun _ _ _ h=>h) (Or.inl ⟨by rfl,?_⟩) ?_ ?_
              rotate_left;(intro w';go_simp;with_reducible rfl);rotate_left;(simp only [Act.put,List.setIfInBounds_toArray,List.set_cons_zero,List.set_cons_succ,i64_w,i32_w];rfl)
              refine pure_ (i:=10) (N:=some 34) (v:=?_) (a':=?_) #[true,true,true,false,true,true,true,false,true,true,true,false,false,false,false] rfl rfl (any_of HT_.out (by kernel_rfl)) (fun _ _ _ h=>h) (Or.inl ⟨by rfl,?_⟩) ?_ ?_
              rotate_left;(intro w';go_simp;with_reducible rfl);rotate_left;(simp only [Act.put,List.setIfInBounds_toArray,List.set_cons_zero,List.set_cons_succ,i64_w,i32_w];rfl)
              refine take_ (i:=3) (N:=some 27) (v:=?_) (a':=?_) #[true,true,true,true,true,true,true,false,true,true,true,false,false,false,false] rfl rfl (take_ofW HT_.out HW_.out (by kernel_rfl)) (fun _ _ _ h=>h) (Or.inl ⟨by rfl,?_⟩) hHeld ?_ ?_
              rotate_left;(rintro w' ⟨s0,s1,s2,s3,s4,s5⟩;go_simp;with_reducible rfl);rotate_left;(simp only [Act.put,List.setIfInBounds_toArray,List.set_cons_zero,List.set_cons_succ,i64_w,i32_w];rfl)
              refine take_ (i:=7) (N:=some 31) (v:=?_) (a':=?_) #[true,true,true,true,true,true,true,true,true,true,true,false,false,false,false] rfl rfl (take_ofW HT_.out HW_.out (by kernel_rfl)) (fun _ _ _ h=>h) (Or.inl ⟨by rfl,?_⟩) hHeld ?_ ?_
              rotate_left;(rintro w' ⟨s0,s1,s2,s3,s4,s5⟩;go_simp;with_reducible rfl);rotate_left;(simp only [Act.put,List.setIfInBounds_toArray,List.set_cons_zero,List.set_cons_succ,i64_w,i32_w];rfl)
              refine take_ (i:=11) (N:=some 35) (v:=?_) (a':=?_) #[true,true,true,true,true,true,true,true,true,true,true,true,false,false,false] rfl rfl (take_ofW HT_.out HW_.out (by kernel_rfl)) (fun _ _ _ h=>h) (Or.inl ⟨by rfl,?_⟩) hHeld ?_ ?_
              rotate_left;(rintro w' ⟨s0,s1,s2,s3,s4,s5⟩;go_simp;with_reducible rfl);rotate_left;(simp only [Act.put,List.setIfInBounds_toArray,List.set_cons_zero,List.set_cons_succ,i64_w,i32_w];rfl)
              refine one_ (i:=12) (N:=some 36) #[true,true,true,true,true,true,true,true,true,true,true,true,true,false,false] rfl rfl (one_of HT_.out (by kernel_rfl)) (by decide) (fun K hK=>?_)
              refine goes_ Try.func27 (by kernel_rfl) rfl #[.agg #[.slice A0_0 l0_0.length c0_0,.int .i64 a0_1,.int .i64 a0_2,.int .i64 a0_3],.slice A218_0 (rd_L3 x5_1 x9_2).length c218_0,.slice A219_0 (rd_L3 l1 x6_1).length c219_0] (by rfl) rfl rfl (by (try simp only [List.map_toArray,List.map_cons,List.map_nil]);first|done|rfl|(simp only [List.length_drop,List.length_take];rfl)) ?_
              with_reducible refine (thresherref04_Compare.calls k2 _ _ l0_0 a0_1 a0_2 a0_3 _ _ (rd_L3 x5_1 x9_2) _ _ (rd_L3 l1 x6_1) t220 _ ?side1 ?side2 ?side3 ?side4 ?side5 ?side6 A19.out).mono ?_
              (case side1=>repeat (first|exact (Kd.C_below HR0_0.out HB.out)|(with_reducible refine Kd.C_alloc ?_ _)|(with_reducible refine Kd.C_drewN ?_ _)|(with_reducible refine Kd.C_drew ?_)))
              (case side2=>exact HC0_0.out)
              (case side3=>repeat (first|exact (by repeat (first|(with_reducible exact HR218_0.out)|(with_reducible refine Kd.C_alloc ?_ _)|(with_reducible refine Kd.C_drewN ?_ _)|(with_reducible refine Kd.C_drew ?_)|exact HR218_0.out))|(with_reducible refine Kd.C_alloc ?_ _)|(with_reducible refine Kd.C_drewN ?_ _)|(with_reducible refine Kd.C_drew ?_)))
              (case side4=>exact HC218_0.out)
              (case side5=>repeat (first|exact (by repeat (first|(with_reducible exact HR219_0.out)|(with_reducible refine Kd.C_alloc ?_ _)|(with_reducible refine Kd.C_drewN ?_ _)|(with_reducible refine Kd.C_drew ?_)|exact HR219_0.out))|(with_reducible refine Kd.C_alloc ?_ _)|(with_reducible refine Kd.C_drewN ?_ _)|(with_reducible refine Kd.C_drew ?_)))
              (case side6=>exact HC219_0.out)
              rintro e w25 ⟨rfl,hb⟩
              have HS4_:=(hb.cell (World.block_lt_of_cell? _ _ (hHeld.2.2.2.2.1))).trans (hHeld.2.2.2.2.1)
              have HS5_:=(hb.cell (World.block_lt_of_cell? _ _ (hHeld.2.2.2.2.2))).trans (hHeld.2.2.2.2.2)
              refine ⟨_,rfl,?_⟩
              have n0_:=Aside0.mk (Kd.V_below (V_up HO_1.out) hb)
              have n1_:=Aside0.mk (Kd.N_below (N_up HO_5.out) hb)
              have n2_:=Aside0.mk (Kd.N_below (N_up HO_7.out) hb)
              have n3_:=Aside0.mk (Kd.V_below (by (with_reducible repeat (first|apply Kd.V_alloc|apply Kd.V_drewN|apply Kd.V_drew));exact HL218_0.out) hb)
              have n4_:=Aside0.mk (Kd.V_below (by (with_reducible repeat (first|apply Kd.V_alloc|apply Kd.V_drewN|apply Kd.V_drew));exact HL219_0.out) hb)
              have n5_:=Aside0.mk (blk_below (blk_up BK211.out) hb)
              have n6_:=Aside0.mk (Kd.C_below (by repeat (first|(with_reducible exact HR218_0.out)|(with_reducible refine Kd.C_alloc ?_ _)|(with_reducible refine Kd.C_drewN ?_ _)|(with_reducible refine Kd.C_drew ?_)|exact HR218_0.out)) hb)
              have n7_:=Aside0.mk (Kd.C_below (by repeat (first|(with_reducible exact HR219_0.out)|(with_reducible refine Kd.C_alloc ?_ _)|(with_reducible refine Kd.C_drewN ?_ _)|(with_reducible refine Kd.C_drew ?_)|exact HR219_0.out)) hb)
              have n8_:=Aside0.mk (below_step (below_go HB.out) hb)
              clear HO_1
              clear HO_5
              clear HO_7
              clear HL218_0
              clear HL219_0
              clear BK211
              clear HR218_0
              clear HR219_0
              clear HB
              have HO_1:=n0_
              have HO_5:=n1_
              have HO_7:=n2_
              have HL218_0:=n3_
              have HL219_0:=n4_
              have BK211:=n5_
              have HR218_0:=n6_
              have HR219_0:=n7_
              have HB:=n8_
              clear n0_ n1_ n2_ n3_ n4_ n5_ n6_ n7_ n8_
              (try clear hb)
              (try clear hb2)
              (try clear hk)
              (try clear hi)
              refine hK.out _ _ ⟨(blk_cell BK211.out 0).trans rfl,(blk_cell BK211.out 1).trans rfl,(blk_cell BK211.out 2).trans rfl,(blk_cell BK211.out 3).trans rfl,HS4_,HS5_⟩ (fun hHeld=>?_)
              clear hK K
              refine norm_ (a':=?_) ?_ ?_
              rotate_left
              ·show Act.put _ (some 36) _=_
               simp only [Act.put,List.setIfInBounds_toArray,List.set_cons_zero,List.set_cons_succ,i64_w,i32_w]
               rfl
              refine pure_ (i:=13) (N:=some 37) (v:=?_) (a':=?_) #[true,true,true,true,true,true,true,true,true,true,true,true,true,true,false] rfl rfl (any_of HT_.out (by kernel_rfl)) (fun _ _ _ h=>h) (Or.inl ⟨by rfl,?_⟩) ?_ ?_
              rotate_left;(intro w';go_simp;with_reducible rfl);rotate_left;(simp only [Act.put,List.setIfInBounds_toArray,List.set_cons_zero,List.set_cons_succ,i64_w,i32_w];rfl)
              refine pure_ (i:=14) (N:=some 38) (v:=?_) (a':=?_) #[true,true,true,true,true,true,true,true,true,true,true,true,true,true,true] rfl rfl (any_of HT_.out (by kernel_rfl)) (fun _ _ _ h=>h) (Or.inl ⟨by rfl,?_⟩) ?_ ?_
              rotate_left;(intro w';go_simp;with_reducible rfl);rotate_left;(simp only [Act.put,List.setIfInBounds_toArray,List.set_cons_zero,List.set_cons_succ,i64_w,i32_w];rfl)
              refine done_ (done_of HT_.out (by kernel_rfl)) ?_
              (try clear HS4_);(try clear HS5_);(try clear hHeld)
              have p225 : 0≤(x6_1 : Int):=of_decide_eq_true (by first|(with_reducible assumption)|assumption)
              have q225 : x6_1 < (l1.length : Int):=of_decide_eq_true (by first|(with_reducible assumption)|assumption)
              obtain ⟨ad225,A225_0,c225_0,e225,hx225_0,hl225_0,hi225_0⟩:=at_L3 (Kd.V_reads' HO_1.out).2.2 x6_1 p225 q225
              obtain rfl : ad219=ad225:=(by injection e225)
              obtain ⟨ce225,hce225,hMe225,hcc225⟩:=Kd.V_get HO_1.out [] x6_1 p225 (by first|exact q225|exact of_decide_eq_true (by first|(with_reducible assumption)|assumption)|(have e_:=(Kd.V_reads' HO_1.out).1;omega))
              obtain ⟨ua225_0,uc225_0,rfl,ul225_0,ge225_0⟩:=Kd.FK_slice_open hMe225
              have hv225_0:=hcc225 0 _ rfl
              rw [Nat.add_zero,show ((Kd.slice 31 k31)).sz=1 from rfl,Nat.mul_one] at hv225_0
              replace hv225_0:=Option.some.inj (hv225_0.symm.trans hx225_0)
              injection hv225_0 with hva_ hvn_ hvc_
              rw [hva_] at ge225_0
              rw [hvc_] at ul225_0
              have HL225_0:=Aside0.mk (show Kd.V k31 31 _ w.heap.size _ _ (rd_L3 l1 x6_1) from Kd.V_mk ul225_0 ge225_0)
              clear hva_ hvn_ hvc_ ge225_0 ul225_0
              clear hcc225 hce225
              have HR225_0:=Aside0.mk hi225_0
              have HC225_0:=Aside0.mk hl225_0
              clear hi225_0 hl225_0
              replace p225:=eq_true p225
              replace q225:=eq_true q225
              try go_wp2_with (first|((with_reducible refine gate_builtin (b:=.append) (xs:=#[.tmp 39,.tmp 44]) rfl ?_);at_builtin;refine Kd.N_append (Kd.slice 31 k31) (w0:=w) w.heap.size rfl (.tmp 39) (.tmp 44) 28 33 (.slice none 0 0) 24 rfl Try.underlying28 info33 rfl (by decide) (by omega) u7 x7_2 (rd_L3 l1 x6_1) [.slice A225_0 (rd_L3 l1 x6_1).length c225_0] (fun k_=>(P1_ k_ ∨ w.heap.size≤k_)∧some k_≠(.slice (some ad218) x5_1.length co23 : Value).ownBlock∧k_≠gb211) (fun k_=>((fun k_=>(P1_ k_ ∨ w.heap.size≤k_)∧some k_≠(.slice (some ad218) x5_1.length co23 : Value).ownBlock∧k_≠gb211)) k_∧some k_≠(u7 : Value).ownBlock) rfl rfl ?aP (fun _ hk=>hk) ?aF ?aO ?aB ?aS ?aL ?_;(case aP=>exact (Kd.FK_slice_mk (Kd.V_reads' (Kd.V_mono (ok':=(fun k_=>((fun k_=>(P1_ k_ ∨ w.heap.size≤k_)∧some k_≠(.slice (some ad218) x5_1.length co23 : Value).ownBlock∧k_≠gb211)) k_∧some k_≠(u7 : Value).ownBlock)) (HL225_0.out) (fun k_ hk=>⟨⟨hk.1,⟨hk.2.1,hk.2.2.2⟩⟩,hk.2.2.1⟩))).2.1 (Kd.V_F (Kd.V_mono (ok':=(fun k_=>((fun k_=>(P1_ k_ ∨ w.heap.size≤k_)∧some k_≠(.slice (some ad218) x5_1.length co23 : Value).ownBlock∧k_≠gb211)) k_∧some k_≠(u7 : Value).ownBlock)) (HL225_0.out) (fun k_ hk=>⟨⟨hk.1,⟨hk.2.1,hk.2.2.2⟩⟩,hk.2.2.1⟩)))));(case aB=>exact (below_go HB.out));(case aF=>exact (fun k_ hk=>⟨(.inr (Nat.le_trans (below_size (below_go HB.out)) hk)),Kd.fresh' (Kd.N_lt (N_up HO_5.out)) k_ hk,Kd.freshB (blk_up BK211.out) k_ hk⟩));(case aO=>exact (N_up HO_7.out));(case aS=>exact (below_size (below_go HB.out)));(case aL=>have:=LMc21.out;omega);intro v227 w26 ho hb hg hat;rw [← Ny226.out] at ho;have n0_:=Aside0.mk (Kd.V_afterv (ok:=(fun k_=>(P1_ k_ ∨ w.heap.size≤k_)∧some k_≠(.slice (some ad218) x5_1.length co23 : Value).ownBlock∧k_≠gb211)) (V_upm HO_1.out (fun _ hk=>⟨⟨hk.1,⟨hk.2.1,hk.2.2.2⟩⟩,hk.2.2.1⟩)) hg hat);have n1_:=Aside0.mk (Kd.N_afterv (ok:=(fun k_=>(P1_ k_ ∨ w.heap.size≤k_)∧k_≠gb211)) (N_upm HO_5.out (fun _ hk=>⟨⟨hk.1,hk.2.2⟩,hk.2.1⟩)) hg hat);have n2_:=Aside0.mk (blk_grown (blk_up BK211.out) hg (Kd.N_ne HO_7.out BK211.out (by decide)));have n3_:=Aside0.mk (Kd.V_afterv (ok:=(fun k_=>(P1_ k_ ∨ w.heap.size≤k_)∧some k_≠(.slice (some ad218) x5_1.length co23 : Value).ownBlock∧k_≠gb211)) (V_upm HL218_0.out (fun _ hk=>⟨⟨hk.1.1,⟨hk.2,hk.1.2.2⟩⟩,hk.1.2.1⟩)) hg hat);have n4_:=Aside0.mk (Kd.V_afterv (ok:=(fun k_=>(P1_ k_ ∨ w.heap.size≤k_)∧some k_≠(.slice (some ad218) x5_1.length co23 : Value).ownBlock∧k_≠gb211)) (V_upm HL219_0.out (fun _ hk=>⟨⟨hk.1,⟨hk.2.1,hk.2.2.2⟩⟩,hk.2.2.1⟩)) hg hat);have n5_:=Aside0.mk (Kd.V_afterv (ok:=(fun k_=>(P1_ k_ ∨ w.heap.size≤k_)∧some k_≠(.slice (some ad218) x5_1.length co23 : Value).ownBlock∧k_≠gb211)) (V_upm HL225_0.out (fun _ hk=>⟨⟨hk.1,⟨hk.2.1,hk.2.2.2⟩⟩,hk.2.2.1⟩)) hg hat);have n6_:=Aside0.mk (hb);have n7_:=Aside0.mk (ho);clear HO_1;clear HO_5;clear BK211;clear HL218_0;clear HL219_0;clear HL225_0;clear HB;clear HO_7;have HO_1:=n0_;have HO_5:=n1_;have BK211:=n2_;have HL218_0:=n3_;have HL219_0:=n4_;have HL225_0:=n5_;have HB:=n6_;have HO228:=n7_;clear n0_ n1_ n2_ n3_ n4_ n5_ n6_ n7_;clear ho hb hg hat;have p229 : 0≤(x9_2 : Int):=of_decide_eq_true (by first|(with_reducible assumption)|assumption);have q229 : x9_2 < (x5_1.length : Int):=of_decide_eq_true (by first|(with_reducible assumption)|assumption);obtain ⟨ad229,A229_0,c229_0,e229,hx229_0,hl229_0,hi229_0⟩:=at_L3 (Kd.N_reads' HO_5.out).2.2 x9_2 p229 q229;obtain rfl : ad218=ad229:=(by injection e229);obtain ⟨ce229,hce229,hMe229,hcc229⟩:=Kd.N_get HO_5.out [] x9_2 p229 (by first|exact q229|exact of_decide_eq_true (by first|(with_reducible assumption)|assumption)|(have e_:=(Kd.N_reads' HO_5.out).1;omega));obtain ⟨ua229_0,uc229_0,rfl,ul229_0,ge229_0⟩:=Kd.FK_slice_open hMe229;have hv229_0:=hcc229 0 _ rfl;rw [Nat.add_zero,show ((Kd.slice 31 k31)).sz=1 from rfl,Nat.mul_one] at hv229_0;replace hv229_0:=Option.some.inj (hv229_0.symm.trans hx229_0);injection hv229_0 with hva_ hvn_ hvc_;rw [hva_] at ge229_0;rw [hvc_] at ul229_0;have HL229_0:=Aside0.mk (show Kd.V k31 31 _ w.heap.size _ _ (rd_L3 x5_1 x9_2) from Kd.V_mk ul229_0 ge229_0);clear hva_ hvn_ hvc_ ge229_0 ul229_0;clear hcc229 hce229;have HR229_0:=Aside0.mk hi229_0;have HC229_0:=Aside0.mk hl229_0;clear hi229_0 hl229_0;replace p229:=eq_true p229;replace q229:=eq_true q229)|((with_reducible refine gate_builtin (b:=.append) (xs:=#[.tmp 46,.tmp 51]) rfl ?_);at_builtin;refine Kd.N_append (Kd.slice 31 k31) (w0:=w) w.heap.size rfl (.tmp 46) (.tmp 51) 28 33 (.slice none 0 0) 24 rfl Try.underlying28 info33 rfl (by decide) (by omega) v227 y226 (rd_L3 x5_1 x9_2) [.slice A229_0 (rd_L3 x5_1 x9_2).length c229_0] (fun k_=>(P1_ k_ ∨ w.heap.size≤k_)∧some k_≠(.slice (some ad218) x5_1.length co23 : Value).ownBlock∧k_≠gb211) (fun k_=>((fun k_=>(P1_ k_ ∨ w.heap.size≤k_)∧some k_≠(.slice (some ad218) x5_1.length co23 : Value).ownBlock∧k_≠gb211)) k_∧some k_≠(v227 : Value).ownBlock) rfl rfl ?aP (fun _ hk=>hk) ?aF ?aO ?aB ?aS ?aL ?_;(case aP=>exact (Kd.FK_slice_mk (Kd.V_reads' (Kd.V_mono (ok':=(fun k_=>((fun k_=>(P1_ k_ ∨ w.heap.size≤k_)∧some k_≠(.slice (some ad218) x5_1.length co23 : Value).ownBlock∧k_≠gb211)) k_∧some k_≠(v227 : Value).ownBlock)) (HL229_0.out) (fun k_ hk=>⟨⟨hk.1.1.1,⟨hk.2,hk.1.1.2⟩⟩,hk.1.2⟩))).2.1 (Kd.V_F (Kd.V_mono (ok':=(fun k_=>((fun k_=>(P1_ k_ ∨ w.heap.size≤k_)∧some k_≠(.slice (some ad218) x5_1.length co23 : Value).ownBlock∧k_≠gb211)) k_∧some k_≠(v227 : Value).ownBlock)) (HL229_0.out) (fun k_ hk=>⟨⟨hk.1.1.1,⟨hk.2,hk.1.1.2⟩⟩,hk.1.2⟩)))));(case aB=>exact (below_go HB.out));(case aF=>exact (fun k_ hk=>⟨(.inr (Nat.le_trans (below_size (below_go HB.out)) hk)),Kd.fresh' (Kd.N_lt (N_up HO_5.out)) k_ hk,Kd.freshB (blk_up BK211.out) k_ hk⟩));(case aO=>exact (N_up HO228.out));(case aS=>exact (below_size (below_go HB.out)));(case aL=>have:=LMc22.out;omega);intro v231 w27 ho hb hg hat;rw [← Ny230.out] at ho;have n0_:=Aside0.mk (Kd.V_afterv (ok:=(fun k_=>(P1_ k_ ∨ w.heap.size≤k_)∧some k_≠(.slice (some ad218) x5_1.length co23 : Value).ownBlock∧k_≠gb211)) (V_up HO_1.out) hg hat);have n1_:=Aside0.mk (Kd.N_afterv (ok:=(fun k_=>(P1_ k_ ∨ w.heap.size≤k_)∧k_≠gb211)) (N_up HO_5.out) hg hat);have n2_:=Aside0.mk (blk_grown (blk_up BK211.out) hg (Kd.N_ne HO228.out BK211.out (by decide)));have n3_:=Aside0.mk (Kd.V_afterv (ok:=(fun k_=>(P1_ k_ ∨ w.heap.size≤k_)∧some k_≠(.slice (some ad218) x5_1.length co23 : Value).ownBlock∧k_≠gb211)) (by (with_reducible repeat (first|apply Kd.V_alloc|apply Kd.V_drewN|apply Kd.V_drew));exact HL218_0.out) hg hat);have n4_:=Aside0.mk (Kd.V_afterv (ok:=(fun k_=>(P1_ k_ ∨ w.heap.size≤k_)∧some k_≠(.slice (some ad218) x5_1.length co23 : Value).ownBlock∧k_≠gb211)) (by (with_reducible repeat (first|apply Kd.V_alloc|apply Kd.V_drewN|apply Kd.V_drew));exact HL219_0.out) hg hat);have n5_:=Aside0.mk (Kd.V_afterv (ok:=(fun k_=>(P1_ k_ ∨ w.heap.size≤k_)∧some k_≠(.slice (some ad218) x5_1.length co23 : Value).ownBlock∧k_≠gb211)) (by (with_reducible repeat (first|apply Kd.V_alloc|apply Kd.V_drewN|apply Kd.V_drew));exact HL225_0.out) hg hat);have n6_:=Aside0.mk (Kd.V_afterv (ok:=(fun k_=>(P1_ k_ ∨ w.heap.size≤k_)∧some k_≠(.slice (some ad218) x5_1.length co23 : Value).ownBlock∧k_≠gb211)) (V_upm HL229_0.out (fun _ hk=>⟨⟨hk.1.1.1,⟨hk.2,hk.1.1.2⟩⟩,hk.1.2⟩)) hg hat);have n7_:=Aside0.mk (hb);have n8_:=Aside0.mk (ho);clear HO_1;clear HO_5;clear BK211;clear HL218_0;clear HL219_0;clear HL225_0;clear HL229_0;clear HB;clear HO228;have HO_1:=n0_;have HO_5:=n1_;have BK211:=n2_;have HL218_0:=n3_;have HL219_0:=n4_;have HL225_0:=n5_;have HL229_0:=n6_;have HB:=n7_;have HO232:=n8_;clear n0_ n1_ n2_ n3_ n4_ n5_ n6_ n7_ n8_;clear ho hb hg hat))
              go_roundg k2
              case measure=>have:=HK1.out;have:=HK2.out;omega
              case rel=>exact ⟨(y230),(true),(wrap64 (x9_2 + 1)),(by first|rfl|(simp;done)|(simp [*];done)),(by first|rfl|(simp;done)|(simp [*];done)),(by first|exact H'|(subst_vars;exact H')),⟨by have:=HK1.out;have:=HK2.out;omega⟩,⟨by (with_reducible repeat (first|apply Kd.V_alloc|apply Kd.V_drewN|apply Kd.V_drew));exact Kd.V_mono HO_1.out (fun _ hk=>⟨hk.1.1,⟨hk.1.2.1,⟨hk.2,hk.1.2.2⟩⟩⟩)⟩,⟨by (with_reducible repeat (first|apply Kd.N_alloc|apply Kd.N_drewN|apply Kd.N_drew));exact Kd.N_mono HO_5.out (fun _ hk=>⟨hk.1.1,⟨hk.2,hk.1.2⟩⟩)⟩,⟨by (with_reducible repeat (first|apply Kd.N_alloc|apply Kd.N_drewN|apply Kd.N_drew));exact HO232.out⟩,⟨by (with_reducible repeat (first|refine blk_drewN ?_ _|refine blk_drew ?_|refine blk_alloc ?_ _));exact BK211.out⟩,⟨by repeat (first|(with_reducible first|exact HB.out|apply below_alloc|apply pw_below_drewN|apply below_drew1|refine below_set ?_ GE211.out)|exact HB.out)⟩⟩
             ·rw [if_neg c22] at H
              exact absurd H (by simp)
            ·rw [if_neg c21] at H
             exact absurd H (by simp)
           ·rw [if_neg c20] at H
            have c20b0 : decide (0 < t220)=false:=decide_eq_false c20
            clear c20
            by_cases c28 : x7_2.length < 5864062014805
            ·rw [if_pos c28] at H
             have LMc28:=Aside0.mk c28
             clear c28
             obtain ⟨y234,hy234⟩ : ∃ y_ : List (List (S31)),y_=(x7_2 ++ [rd_L3 x5_1 x9_2]):=⟨_,rfl⟩
             replace H : (thresherref09_Sort.l1 k2 l1 x5_1 x6_1 y234 false (wrap64 (x9_2 + 1)) l0_0 a0_1 a0_2 a0_3)=some r:=by first|(rw [hy234];with_reducible exact H)|(have H2_:=(Option.bind_some _ _).symm.trans H;rw [hy234];with_reducible exact H2_)|(have H2_:=(Option.bind_some _ _).symm.trans H;with_reducible exact H2_)|with_reducible exact H|(rw [hy234];exact H)|exact H
             have Ny234:=Aside0.mk hy234
             clear hy234
             have H':=Aside0.mk H
             clear H
             obtain ⟨Ao29,co29,eo29⟩:=Kd.N_slice HO_5.out
             subst eo29
             try go_wp2
             have n0_:=Aside0.mk (Kd.V_drew HO_1.out)
             have n1_:=Aside0.mk (Kd.N_drew HO_5.out)
             have n2_:=Aside0.mk (Kd.N_drew HO_7.out)
             have n3_:=Aside0.mk (blk_drew BK211.out)
             have n4_:=Aside0.mk (below_drew1 HB.out)
             clear HO_1
             clear HO_5
             clear HO_7
             clear BK211
             clear HB
             have HO_1:=n0_
             have HO_5:=n1_
             have HO_7:=n2_
             have BK211:=n3_
             have HB:=n4_
             clear n0_ n1_ n2_ n3_ n4_
             have p218 : 0≤(x9_2 : Int):=of_decide_eq_true (by first|(with_reducible assumption)|assumption)
             have q218 : x9_2 < (x5_1.length : Int):=of_decide_eq_true (by first|(with_reducible assumption)|assumption)
             obtain ⟨ad218,A218_0,c218_0,e218,hx218_0,hl218_0,hi218_0⟩:=at_L3 (Kd.N_reads' HO_5.out).2.2 x9_2 p218 q218
             cases e218
             obtain ⟨ce218,hce218,hMe218,hcc218⟩:=Kd.N_get HO_5.out [] x9_2 p218 (by first|exact q218|exact of_decide_eq_true (by first|(with_reducible assumption)|assumption)|(have e_:=(Kd.N_reads' HO_5.out).1;omega))
             obtain ⟨ua218_0,uc218_0,rfl,ul218_0,ge218_0⟩:=Kd.FK_slice_open hMe218
             have hv218_0:=hcc218 0 _ rfl
             rw [Nat.add_zero,show ((Kd.slice 31 k31)).sz=1 from rfl,Nat.mul_one] at hv218_0
             replace hv218_0:=Option.some.inj (hv218_0.symm.trans hx218_0)
             injection hv218_0 with hva_ hvn_ hvc_
             rw [hva_] at ge218_0
             rw [hvc_] at ul218_0
             have HL218_0:=Aside0.mk (show Kd.V k31 31 _ w.heap.size _ _ (rd_L3 x5_1 x9_2) from Kd.V_mk ul218_0 ge218_0)
             clear hva_ hvn_ hvc_ ge218_0 ul218_0
             clear hcc218 hce218
             have HR218_0:=Aside0.mk hi218_0
             have HC218_0:=Aside0.mk hl218_0
             clear hi218_0 hl218_0
             replace p218:=eq_true p218
             replace q218:=eq_true q218
             have p219 : 0≤(x6_1 : Int):=of_decide_eq_true (by first|(with_reducible assumption)|assumption)
             have q219 : x6_1 < (l1.length : Int):=of_decide_eq_true (by first|(with_reducible assumption)|assumption)
             obtain ⟨ad219,A219_0,c219_0,e219,hx219_0,hl219_0,hi219_0⟩:=at_L3 (Kd.V_reads' HO_1.out).2.2 x6_1 p219 q219
             cases e219
             obtain ⟨ce219,hce219,hMe219,hcc219⟩:=Kd.V_get HO_1.out [] x6_1 p219 (by first|exact q219|exact of_decide_eq_true (by first|(with_reducible assumption)|assumption)|(have e_:=(Kd.V_reads' HO_1.out).1;omega))
             obtain ⟨ua219_0,uc219_0,rfl,ul219_0,ge219_0⟩:=Kd.FK_slice_open hMe219
             have hv219_0:=hcc219 0 _ rfl
             rw [Nat.add_zero,show ((Kd.slice 31 k31)).sz=1 from rfl,Nat.mul_one] at hv219_0
             replace hv219_0:=Option.some.inj (hv219_0.symm.trans hx219_0)
             injection hv219_0 with hva_ hvn_ hvc_
             rw [hva_] at ge219_0
             rw [hvc_] at ul219_0
             have HL219_0:=Aside0.mk (show Kd.V k31 31 _ w.heap.size _ _ (rd_L3 l1 x6_1) from Kd.V_mk ul219_0 ge219_0)
             clear hva_ hvn_ hvc_ ge219_0 ul219_0
             clear hcc219 hce219
             have HR219_0:=Aside0.mk hi219_0
             have HC219_0:=Aside0.mk hl219_0
             clear hi219_0 hl219_0
             replace p219:=eq_true p219
             replace q219:=eq_true q219
             refine start_ (n:=15) (S:=fun w'=>w'.cell? ⟨gb211,0,none⟩=some (.slice A0_0 l0_0.length c0_0)∧w'.cell? ⟨gb211,1,none⟩=some (.int .i64 a0_1)∧w'.cell? ⟨gb211,2,none⟩=some (.int .i64 a0_2)∧w'.cell? ⟨gb211,3,none⟩=some (.int .i64 a0_3)∧w'.cell? (ad218.add (x9_2).toNat)=some (.slice A218_0 (rd_L3 x5_1 x9_2).length c218_0)∧w'.cell? (ad219.add (x6_1).toNat)=some (.slice A219_0 (rd_L3 l1 x6_1).length c219_0)) (ds:=[]) #[false,false,false,false,false,false,false,false,false,false,false,false,false,false,false] (by kernel_rfl) rfl rfl ⟨(blk_cell BK211.out 0).trans rfl,(blk_cell BK211.out 1).trans rfl,(blk_cell BK211.out 2).trans rfl,(blk_cell BK211.out 3).trans rfl,hx218_0,hx219_0⟩ (fun hHeld=>?_);refine with_tabW thresherref09_Sort.tab10 thresherref09_Sort.bits10 (fun HT_ HW_=>?_)
             generalize wr.drew=w30 at HO_1 HO_5 HO_7 BK211 HB HL218_0 HL219_0 HR218_0 HR219_0 hx218_0 hx219_0 hHeld ⊢
             refine pure_ (i:=0) (N:=some 24) (v:=?_) (a':=?_) #[true,false,false,false,false,false,false,false,false,false,false,false,false,false,false] rfl rfl (any_of HT_.out (by kernel_rfl)) (fun _ _ _ h=>h) (Or.inl ⟨by rfl,?_⟩) ?_ ?_
             rotate_left;(intro w';go_simp;with_reducible rfl);rotate_left;(simp only [Act.put,List.setIfInBounds_toArray,List.set_cons_zero,List.set_cons_succ,i64_w,i32_w];rfl)
             refine pure_ (i:=1) (N:=some 25) (v:=?_) (a':=?_) #[true,true,false,false,false,false,false,false,false,false,false,false,false,false,false] rfl rfl (any_of HT_.out (by kernel_rfl)) (fun _ _ _ h=>h) (Or.inl ⟨by rfl,?_⟩) ?_ ?_
             rotate_left;(intro w';go_simp;with_reducible rfl);rotate_left;(simp only [Act.put,List.setIfInBounds_toArray,List.set_cons_zero,List.set_cons_succ,i64_w,i32_w];rfl)
             refine pure_ (i:=2) (N:=some 26) (v:=?_) (a':=?_) #[true,true,true,false,false,false,false,false,false,false,false,false,false,false,false] rfl rfl (any_of HT_.out (by kernel_rfl)) (fun _ _ _ h=>h) (Or.inl ⟨by rfl,?_⟩) ?_ ?_
             rotate_left;(intro w';go_simp;with_reducible rfl);rotate_left;(simp only [Act.put,List.setIfInBounds_toArray,List.set_cons_zero,List.set_cons_succ,i64_w,i32_w];rfl)
             refine pure_ (i:=4) (N:=some 28) (v:=?_) (a':=?_) #[true,true,true,false,true,false,false,false,false,false,false,false,false,false,false] rfl rfl (any_of HT_.out (by kernel_rfl)) (fun _ _ _ h=>h) (Or.inl ⟨by rfl,?_⟩) ?_ ?_
             rotate_left;(intro w';go_simp;with_reducible rfl);rotate_left;(simp only [Act.put,List.setIfInBounds_toArray,List.set_cons_zero,List.set_cons_succ,i64_w,i32_w];rfl)
             refine pure_ (i:=5) (N:=some 29) (v:=?_) (a':=?_) #[true,true,true,false,true,true,false,false,false,false,false,false,false,false,false] rfl rfl (any_of HT_.out (by kernel_rfl)) (fun _ _ _ h=>h) (Or.inl ⟨by rfl,?_⟩) ?_ ?_
             rotate_left;(intro w';go_simp;with_reducible rfl);rotate_left;(simp only [Act.put,List.setIfInBounds_toArray,List.set_cons_zero,List.set_cons_succ,i64_w,i32_w];rfl)
             refine pure_ (i:=6) (N:=some 30) (v:=?_) (a':=?_) #[true,true,true,false,true,true,true,false,false,false,false,false,false,false,false] rfl rfl (any_of HT_.out (by kernel_rfl)) (fun _ _ _ h=>h) (Or.inl ⟨by rfl,?_⟩) ?_ ?_
             rotate_left;(intro w';go_simp;with_reducible rfl);rotate_left;(simp only [Act.put,List.setIfInBounds_toArray,List.set_cons_zero,List.set_cons_succ,i64_w,i32_w];rfl)
             refine pure_ (i:=8) (N:=some 32) (v:=?_) (a':=?_) #[true,true,true,false,true,true,true,false,true,false,false,false,false,false,false] rfl rfl (any_of HT_.out (by kernel_rfl)) (fun _ _ _ h=>h) (Or.inl ⟨by rfl,?_⟩) ?_ ?_
             rotate_left;(intro w';go_simp;with_reducible rfl);rotate_left;(simp only [Act.put,List.setIfInBounds_toArray,List.set_cons_zero,List.set_cons_succ,i64_w,i32_w];rfl)
             refine pure_ (i:=9) (N:=some 33) (v:=?_) (a':=?_) #[true,true,true,false,true,true,true,false,true,true,false,false,false,false,false] rfl rfl (any_of HT_.out (by kernel_rfl)) (fun _ _ _ h=>h) (Or.inl ⟨by rfl,?_⟩) ?_ ?_
             rotate_left;(intro w';go_simp;with_reducible rfl);rotate_left;(simp only [Act.put,List.setIfInBounds_toArray,List.set_cons_zero,List.set_cons_succ,i64_w,i32_w];rfl)
             refine pure_ (i:=10) (N:=some 34) (v:=?_) (a':=?_) #[true,true,true,false,true,true,true,false,true,true,true,false,false,false,false] rfl rfl (any_of HT_.out (by kernel_rfl)) (fun _ _ _ h=>h) (Or.inl ⟨by rfl,?_⟩) ?_ ?_
             rotate_left;(intro w';go_simp;with_reducible rfl);rotate_left;(simp only [Act.put,List.setIfInBounds_toArray,List.set_cons_zero,List.set_cons_succ,i64_w,i32_w];rfl)
             refine take_ (i:=3) (N:=some 27) (v:=?_) (a':=?_) #[true,true,true,true,true,true,true,false,true,true,true,false,false,false,false] rfl rfl (take_ofW HT_.out HW_.out (by kernel_rfl)) (fun _ _ _ h=>h) (Or.inl ⟨by rfl,?_⟩) hHeld ?_ ?_
             rotate_left;(rintro w' ⟨s0,s1,s2,s3,s4,s5⟩;go_simp;with_reducible rfl);rotate_left;(simp only [Act.put,List.setIfInBounds_toArray,List.set_cons_zero,List.set_cons_succ,i64_w,i32_w];rfl)
             refine take_ (i:=7) (N:=some 31) (v:=?_) (a':=?_) #[true,true,true,true,true,true,true,true,true,true,true,false,false,false,false] rfl rfl (take_ofW HT_.out HW_.out (by kernel_rfl)) (fun _ _ _ h=>h) (Or.inl ⟨by rfl,?_⟩) hHeld ?_ ?_
             rotate_left;(rintro w' ⟨s0,s1,s2,s3,s4,s5⟩;go_simp;with_reducible rfl);rotate_left;(simp only [Act.put,List.setIfInBounds_toArray,List.set_cons_zero,List.set_cons_succ,i64_w,i32_w];rfl)
             refine take_ (i:=11) (N:=some 35) (v:=?_) (a':=?_) #[true,true,true,true,true,true,true,true,true,true,true,true,false,false,false] rfl rfl (take_ofW HT_.out HW_.out (by kernel_rfl)) (fun _ _ _ h=>h) (Or.inl ⟨by rfl,?_⟩) hHeld ?_ ?_
             rotate_left;(rintro w' ⟨s0,s1,s2,s3,s4,s5⟩;go_simp;with_reducible rfl);rotate_left;(simp only [Act.put,List.setIfInBounds_toArray,List.set_cons_zero,List.set_cons_succ,i64_w,i32_w];rfl)
             refine one_ (i:=12) (N:=some 36) #[true,true,true,true,true,true,true,true,true,true,true,true,true,false,false] rfl rfl (one_of HT_.out (by kernel_rfl)) (by decide) (fun K hK=>?_)
             refine goes_ Try.func27 (by kernel_rfl) rfl #[.agg #[.slice A0_0 l0_0.length c0_0,.int .i64 a0_1,.int .i64 a0_2,.int .i64 a0_3],.slice A218_0 (rd_L3 x5_1 x9_2).length c218_0,.slice A219_0 (rd_L3 l1 x6_1).length c219_0] (by rfl) rfl rfl (by (try simp only [List.map_toArray,List.map_cons,List.map_nil]);first|done|rfl|(simp only [List.length_drop,List.length_take];rfl)) ?_
             with_reducible refine (thresherref04_Compare.calls k2 _ _ l0_0 a0_1 a0_2 a0_3 _ _ (rd_L3 x5_1 x9_2) _ _ (rd_L3 l1 x6_1) t220 _ ?side1 ?side2 ?side3 ?side4 ?side5 ?side6 A19.out).mono ?_
             (case side1=>repeat (first|exact (Kd.C_below HR0_0.out HB.out)|(with_reducible refine Kd.C_alloc ?_ _)|(with_reducible refine Kd.C_drewN ?_ _)|(with_reducible refine Kd.C_drew ?_)))
             (case side2=>exact HC0_0.out)
             (case side3=>repeat (first|exact (by repeat (first|(with_reducible exact HR218_0.out)|(with_reducible refine Kd.C_alloc ?_ _)|(with_reducible refine Kd.C_drewN ?_ _)|(with_reducible refine Kd.C_drew ?_)|exact HR218_0.out))|(with_reducible refine Kd.C_alloc ?_ _)|(with_reducible refine Kd.C_drewN ?_ _)|(with_reducible refine Kd.C_drew ?_)))
             (case side4=>exact HC218_0.out)
             (case side5=>repeat (first|exact (by repeat (first|(with_reducible exact HR219_0.out)|(with_reducible refine Kd.C_alloc ?_ _)|(with_reducible refine Kd.C_drewN ?_ _)|(with_reducible refine Kd.C_drew ?_)|exact HR219_0.out))|(with_reducible refine Kd.C_alloc ?_ _)|(with_reducible refine Kd.C_drewN ?_ _)|(with_reducible refine Kd.C_drew ?_)))
             (case side6=>exact HC219_0.out)
             rintro e w31 ⟨rfl,hb⟩
             have HS4_:=(hb.cell (World.block_lt_of_cell? _ _ (hHeld.2.2.2.2.1))).trans (hHeld.2.2.2.2.1)
             have HS5_:=(hb.cell (World.block_lt_of_cell? _ _ (hHeld.2.2.2.2.2))).trans (hHeld.2.2.2.2.2)
             refine ⟨_,rfl,?_⟩
             have n0_:=Aside0.mk (Kd.V_below (V_up HO_1.out) hb)
             have n1_:=Aside0.mk (Kd.N_below (N_up HO_5.out) hb)
             have n2_:=Aside0.mk (Kd.N_below (N_up HO_7.out) hb)
             have n3_:=Aside0.mk (Kd.V_below (by (with_reducible repeat (first|apply Kd.V_alloc|apply Kd.V_drewN|apply Kd.V_drew));exact HL218_0.out) hb)
             have n4_:=Aside0.mk (Kd.V_below (by (with_reducible repeat (first|apply Kd.V_alloc|apply Kd.V_drewN|apply Kd.V_drew));exact HL219_0.out) hb)
             have n5_:=Aside0.mk (blk_below (blk_up BK211.out) hb)
             have n6_:=Aside0.mk (Kd.C_below (by repeat (first|(with_reducible exact HR218_0.out)|(with_reducible refine Kd.C_alloc ?_ _)|(with_reducible refine Kd.C_drewN ?_ _)|(with_reducible refine Kd.C_drew ?_)|exact HR218_0.out)) hb)
             have n7_:=Aside0.mk (Kd.C_below (by repeat (first|(with_reducible exact HR219_0.out)|(with_reducible refine Kd.C_alloc ?_ _)|(with_reducible refine Kd.C_drewN ?_ _)|(with_reducible refine Kd.C_drew ?_)|exact HR219_0.out)) hb)
             have n8_:=Aside0.mk (below_step (below_go HB.out) hb)
             clear HO_1
             clear HO_5
             clear HO_7
             clear HL218_0
             clear HL219_0
             clear BK211
             clear HR218_0
             clear HR219_0
             clear HB
             have HO_1:=n0_
             have HO_5:=n1_
             have HO_7:=n2_
             have HL218_0:=n3_
             have HL219_0:=n4_
             have BK211:=n5_
             have HR218_0:=n6_
             have HR219_0:=n7_
             have HB:=n8_
             clear n0_ n1_ n2_ n3_ n4_ n5_ n6_ n7_ n8_
             (try clear hb)
             (try clear hb2)
             (try clear hk)
             (try clear hi)
             refine hK.out _ _ ⟨(blk_cell BK211.out 0).trans rfl,(blk_cell BK211.out 1).trans rfl,(blk_cell BK211.out 2).trans rfl,(blk_cell BK211.out 3).trans rfl,HS4_,HS5_⟩ (fun hHeld=>?_)
             clear hK K
             refine norm_ (a':=?_) ?_ ?_
             rotate_left
             ·show Act.put _ (some 36) _=_
              simp only [Act.put,List.setIfInBounds_toArray,List.set_cons_zero,List.set_cons_succ,i64_w,i32_w]
              rfl
             refine pure_ (i:=13) (N:=some 37) (v:=?_) (a':=?_) #[true,true,true,true,true,true,true,true,true,true,true,true,true,true,false] rfl rfl (any_of HT_.out (by kernel_rfl)) (fun _ _ _ h=>h) (Or.inl ⟨by rfl,?_⟩) ?_ ?_
             rotate_left;(intro w';go_simp;with_reducible rfl);rotate_left;(simp only [Act.put,List.setIfInBounds_toArray,List.set_cons_zero,List.set_cons_succ,i64_w,i32_w];rfl)
             refine pure_ (i:=14) (N:=some 38) (v:=?_) (a':=?_) #[true,true,true,true,true,true,true,true,true,true,true,true,true,true,true] rfl rfl (any_of HT_.out (by kernel_rfl)) (fun _ _ _ h=>h) (Or.inl ⟨by rfl,?_⟩) ?_ ?_
             rotate_left;(intro w';go_simp;with_reducible rfl);rotate_left;(simp only [Act.put,List.setIfInBounds_toArray,List.set_cons_zero,List.set_cons_succ,i64_w,i32_w];rfl)
             refine done_ (done_of HT_.out (by kernel_rfl)) ?_
             (try clear HS4_);(try clear HS5_);(try clear hHeld)
             have p233 : 0≤(x9_2 : Int):=of_decide_eq_true (by first|(with_reducible assumption)|assumption)
             have q233 : x9_2 < (x5_1.length : Int):=of_decide_eq_true (by first|(with_reducible assumption)|assumption)
             obtain ⟨ad233,A233_0,c233_0,e233,hx233_0,hl233_0,hi233_0⟩:=at_L3 (Kd.N_reads' HO_5.out).2.2 x9_2 p233 q233
             obtain rfl : ad218=ad233:=(by injection e233)
             obtain ⟨ce233,hce233,hMe233,hcc233⟩:=Kd.N_get HO_5.out [] x9_2 p233 (by first|exact q233|exact of_decide_eq_true (by first|(with_reducible assumption)|assumption)|(have e_:=(Kd.N_reads' HO_5.out).1;omega))
             obtain ⟨ua233_0,uc233_0,rfl,ul233_0,ge233_0⟩:=Kd.FK_slice_open hMe233
             have hv233_0:=hcc233 0 _ rfl
             rw [Nat.add_zero,show ((Kd.slice 31 k31)).sz=1 from rfl,Nat.mul_one] at hv233_0
             replace hv233_0:=Option.some.inj (hv233_0.symm.trans hx233_0)
             injection hv233_0 with hva_ hvn_ hvc_
             rw [hva_] at ge233_0
             rw [hvc_] at ul233_0
             have HL233_0:=Aside0.mk (show Kd.V k31 31 _ w.heap.size _ _ (rd_L3 x5_1 x9_2) from Kd.V_mk ul233_0 ge233_0)
             clear hva_ hvn_ hvc_ ge233_0 ul233_0
             clear hcc233 hce233
             have HR233_0:=Aside0.mk hi233_0
             have HC233_0:=Aside0.mk hl233_0
             clear hi233_0 hl233_0
             replace p233:=eq_true p233
             replace q233:=eq_true q233
             try go_wp2_with (first|((with_reducible refine gate_builtin (b:=.append) (xs:=#[.tmp 46,.tmp 51]) rfl ?_);at_builtin;refine Kd.N_append (Kd.slice 31 k31) (w0:=w) w.heap.size rfl (.tmp 46) (.tmp 51) 28 33 (.slice none 0 0) 24 rfl Try.underlying28 info33 rfl (by decide) (by omega) u7 x7_2 (rd_L3 x5_1 x9_2) [.slice A233_0 (rd_L3 x5_1 x9_2).length c233_0] (fun k_=>(P1_ k_ ∨ w.heap.size≤k_)∧some k_≠(.slice (some ad218) x5_1.length co29 : Value).ownBlock∧k_≠gb211) (fun k_=>((fun k_=>(P1_ k_ ∨ w.heap.size≤k_)∧some k_≠(.slice (some ad218) x5_1.length co29 : Value).ownBlock∧k_≠gb211)) k_∧some k_≠(u7 : Value).ownBlock) rfl rfl ?aP (fun _ hk=>hk) ?aF ?aO ?aB ?aS ?aL ?_;(case aP=>exact (Kd.FK_slice_mk (Kd.V_reads' (Kd.V_mono (ok':=(fun k_=>((fun k_=>(P1_ k_ ∨ w.heap.size≤k_)∧some k_≠(.slice (some ad218) x5_1.length co29 : Value).ownBlock∧k_≠gb211)) k_∧some k_≠(u7 : Value).ownBlock)) (HL233_0.out) (fun k_ hk=>⟨⟨hk.1.1,⟨hk.2,hk.1.2.2⟩⟩,hk.1.2.1⟩))).2.1 (Kd.V_F (Kd.V_mono (ok':=(fun k_=>((fun k_=>(P1_ k_ ∨ w.heap.size≤k_)∧some k_≠(.slice (some ad218) x5_1.length co29 : Value).ownBlock∧k_≠gb211)) k_∧some k_≠(u7 : Value).ownBlock)) (HL233_0.out) (fun k_ hk=>⟨⟨hk.1.1,⟨hk.2,hk.1.2.2⟩⟩,hk.1.2.1⟩)))));(case aB=>exact (below_go HB.out));(case aF=>exact (fun k_ hk=>⟨(.inr (Nat.le_trans (below_size (below_go HB.out)) hk)),Kd.fresh' (Kd.N_lt (N_up HO_5.out)) k_ hk,Kd.freshB (blk_up BK211.out) k_ hk⟩));(case aO=>exact (N_up HO_7.out));(case aS=>exact (below_size (below_go HB.out)));(case aL=>have:=LMc28.out;omega);intro v235 w32 ho hb hg hat;rw [← Ny234.out] at ho;have n0_:=Aside0.mk (Kd.V_afterv (ok:=(fun k_=>(P1_ k_ ∨ w.heap.size≤k_)∧some k_≠(.slice (some ad218) x5_1.length co29 : Value).ownBlock∧k_≠gb211)) (V_upm HO_1.out (fun _ hk=>⟨⟨hk.1,⟨hk.2.1,hk.2.2.2⟩⟩,hk.2.2.1⟩)) hg hat);have n1_:=Aside0.mk (Kd.N_afterv (ok:=(fun k_=>(P1_ k_ ∨ w.heap.size≤k_)∧k_≠gb211)) (N_upm HO_5.out (fun _ hk=>⟨⟨hk.1,hk.2.2⟩,hk.2.1⟩)) hg hat);have n2_:=Aside0.mk (blk_grown (blk_up BK211.out) hg (Kd.N_ne HO_7.out BK211.out (by decide)));have n3_:=Aside0.mk (Kd.V_afterv (ok:=(fun k_=>(P1_ k_ ∨ w.heap.size≤k_)∧some k_≠(.slice (some ad218) x5_1.length co29 : Value).ownBlock∧k_≠gb211)) (V_upm HL218_0.out (fun _ hk=>⟨⟨hk.1.1,⟨hk.2,hk.1.2.2⟩⟩,hk.1.2.1⟩)) hg hat);have n4_:=Aside0.mk (Kd.V_afterv (ok:=(fun k_=>(P1_ k_ ∨ w.heap.size≤k_)∧some k_≠(.slice (some ad218) x5_1.length co29 : Value).ownBlock∧k_≠gb211)) (V_upm HL219_0.out (fun _ hk=>⟨⟨hk.1,⟨hk.2.1,hk.2.2.2⟩⟩,hk.2.2.1⟩)) hg hat);have n5_:=Aside0.mk (Kd.V_afterv (ok:=(fun k_=>(P1_ k_ ∨ w.heap.size≤k_)∧some k_≠(.slice (some ad218) x5_1.length co29 : Value).ownBlock∧k_≠gb211)) (V_upm HL233_0.out (fun _ hk=>⟨⟨hk.1.1,⟨hk.2,hk.1.2.2⟩⟩,hk.1.2.1⟩)) hg hat);have n6_:=Aside0.mk (hb);have n7_:=Aside0.mk (ho);clear HO_1;clear HO_5;clear BK211;clear HL218_0;clear HL219_0;clear HL233_0;clear HB;clear HO_7;have HO_1:=n0_;have HO_5:=n1_;have BK211:=n2_;have HL218_0:=n3_;have HL219_0:=n4_;have HL233_0:=n5_;have HB:=n6_;have HO236:=n7_;clear n0_ n1_ n2_ n3_ n4_ n5_ n6_ n7_;clear ho hb hg hat))
             go_roundg k2
             case measure=>have:=HK1.out;have:=HK2.out;omega
             case rel=>exact ⟨(y234),(false),(wrap64 (x9_2 + 1)),(by first|rfl|(simp;done)|(simp [*];done)),(by first|rfl|(simp;done)|(simp [*];done)),(by first|exact H'|(subst_vars;exact H')),⟨by have:=HK1.out;have:=HK2.out;omega⟩,⟨by (with_reducible repeat (first|apply Kd.V_alloc|apply Kd.V_drewN|apply Kd.V_drew));exact Kd.V_mono HO_1.out (fun _ hk=>⟨hk.1.1,⟨hk.1.2.1,⟨hk.2,hk.1.2.2⟩⟩⟩)⟩,⟨by (with_reducible repeat (first|apply Kd.N_alloc|apply Kd.N_drewN|apply Kd.N_drew));exact Kd.N_mono HO_5.out (fun _ hk=>⟨hk.1.1,⟨hk.2,hk.1.2⟩⟩)⟩,⟨by (with_reducible repeat (first|apply Kd.N_alloc|apply Kd.N_drewN|apply Kd.N_drew));exact HO236.out⟩,⟨by (with_reducible repeat (first|refine blk_drewN ?_ _|refine blk_drew ?_|refine blk_alloc ?_ _));exact BK211.out⟩,⟨by repeat (first|(with_reducible first|exact HB.out|apply below_alloc|apply pw_below_drewN|apply below_drew1|refine below_set ?_ GE211.out)|exact HB.out)⟩⟩
            ·rw [if_neg c28] at H
             exact absurd H (by simp)
          ·rw [if_neg c18] at H
           exact absurd H (by simp)
         ·rw [if_neg c17] at H
          exact absurd H (by simp)
        ·rw [if_neg c16] at H
         exact absurd H (by simp)
      ·rw [if_neg c9] at H
       have c9b0 : decide (x9_2 < (x5_1.length : Int))=false:=decide_eq_false c9
       clear c9
       by_cases c33 : x8_2=true
       ·subst c33
        have H1 : (thresherref09_Sort.l0 k2 l1 x7_2 (wrap64 (x6_1 + 1)) l0_0 a0_1 a0_2 a0_3)=some r:=by rw [if_pos rfl] at H;exact H
        clear H
        have H:=H1
        clear H1
        have H':=Aside0.mk H
        clear H
        obtain ⟨Ao34,co34,eo34⟩:=Kd.N_slice HO_5.out
        subst eo34
        go_wp2
        go_roundg k2
        case measure=>have:=HK1.out;have:=HK2.out;omega
        case rel=>exact ⟨(x7_2),(wrap64 (x6_1 + 1)),(by first|rfl|(simp;done)|(simp [*];done)),(by first|exact H'|(subst_vars;exact H')),⟨by have:=HK1.out;have:=HK2.out;omega⟩,⟨by (with_reducible repeat (first|apply Kd.V_alloc|apply Kd.V_drewN|apply Kd.V_drew));exact Kd.V_mono HO_1.out (fun _ hk=>⟨hk.1,⟨hk.2.2.1,hk.2.2.2⟩⟩)⟩,⟨by (with_reducible repeat (first|apply Kd.N_alloc|apply Kd.N_drewN|apply Kd.N_drew));exact Kd.N_mono HO_7.out (fun _ hk=>⟨hk.1,hk.2.2⟩)⟩,⟨by (with_reducible repeat (first|refine blk_drewN ?_ _|refine blk_drew ?_|refine blk_alloc ?_ _));exact BK211.out⟩,⟨by repeat (first|(with_reducible first|exact HB.out|apply below_alloc|apply pw_below_drewN|apply below_drew1|refine below_set ?_ GE211.out)|exact HB.out)⟩⟩
       ·replace c33:=Bool.eq_false_iff.mpr c33
        subst c33
        have H1 : (if 0≤x6_1 then (if x6_1 < (l1.length : Int) then (if x7_2.length < 5864062014805 then (thresherref09_Sort.l0 k2 l1 (x7_2 ++ [rd_L3 l1 x6_1]) (wrap64 (x6_1 + 1)) l0_0 a0_1 a0_2 a0_3) else (none)) else (none)) else (none))=some r:=by rw [if_neg (show ¬ (false=true) by decide)] at H;exact H
        clear H
        have H:=H1
        clear H1
        by_cases c35 : 0≤x6_1
        ·rw [if_pos c35] at H
         have c35b0 : decide (0≤x6_1)=true:=decide_eq_true c35
         clear c35
         by_cases c36 : x6_1 < (l1.length : Int)
         ·rw [if_pos c36] at H
          have c36b0 : decide (x6_1 < (l1.length : Int))=true:=decide_eq_true c36
          clear c36
          by_cases c37 : x7_2.length < 5864062014805
          ·rw [if_pos c37] at H
           have LMc37:=Aside0.mk c37
           clear c37
           obtain ⟨y238,hy238⟩ : ∃ y_ : List (List (S31)),y_=(x7_2 ++ [rd_L3 l1 x6_1]):=⟨_,rfl⟩
           replace H : (thresherref09_Sort.l0 k2 l1 y238 (wrap64 (x6_1 + 1)) l0_0 a0_1 a0_2 a0_3)=some r:=by first|(rw [hy238];with_reducible exact H)|(have H2_:=(Option.bind_some _ _).symm.trans H;rw [hy238];with_reducible exact H2_)|(have H2_:=(Option.bind_some _ _).symm.trans H;with_reducible exact H2_)|with_reducible exact H|(rw [hy238];exact H)|exact H
           have Ny238:=Aside0.mk hy238
           clear hy238
           have H':=Aside0.mk H
           clear H
           obtain ⟨Ao38,co38,eo38⟩:=Kd.N_slice HO_5.out
           subst eo38
           have p237 : 0≤(x6_1 : Int):=of_decide_eq_true (by first|(with_reducible assumption)|assumption)
           have q237 : x6_1 < (l1.length : Int):=of_decide_eq_true (by first|(with_reducible assumption)|assumption)
           obtain ⟨ad237,A237_0,c237_0,e237,hx237_0,hl237_0,hi237_0⟩:=at_L3 (Kd.V_reads' HO_1.out).2.2 x6_1 p237 q237
           cases e237
           obtain ⟨ce237,hce237,hMe237,hcc237⟩:=Kd.V_get HO_1.out [] x6_1 p237 (by first|exact q237|exact of_decide_eq_true (by first|(with_reducible assumption)|assumption)|(have e_:=(Kd.V_reads' HO_1.out).1;omega))
           obtain ⟨ua237_0,uc237_0,rfl,ul237_0,ge237_0⟩:=Kd.FK_slice_open hMe237
           have hv237_0:=hcc237 0 _ rfl
           rw [Nat.add_zero,show ((Kd.slice 31 k31)).sz=1 from rfl,Nat.mul_one] at hv237_0
           replace hv237_0:=Option.some.inj (hv237_0.symm.trans hx237_0)
           injection hv237_0 with hva_ hvn_ hvc_
           rw [hva_] at ge237_0
           rw [hvc_] at ul237_0
           have HL237_0:=Aside0.mk (show Kd.V k31 31 _ w.heap.size _ _ (rd_L3 l1 x6_1) from Kd.V_mk ul237_0 ge237_0)
           clear hva_ hvn_ hvc_ ge237_0 ul237_0
           clear hcc237 hce237
           have HR237_0:=Aside0.mk hi237_0
           have HC237_0:=Aside0.mk hl237_0
           clear hi237_0 hl237_0
           replace p237:=eq_true p237
           replace q237:=eq_true q237
           go_wp2_with (first|((with_reducible refine gate_builtin (b:=.append) (xs:=#[.tmp 55,.tmp 60]) rfl ?_);at_builtin;refine Kd.N_append (Kd.slice 31 k31) (w0:=w) w.heap.size rfl (.tmp 55) (.tmp 60) 28 33 (.slice none 0 0) 24 rfl Try.underlying28 info33 rfl (by decide) (by omega) u7 x7_2 (rd_L3 l1 x6_1) [.slice A237_0 (rd_L3 l1 x6_1).length c237_0] (fun k_=>(P1_ k_ ∨ w.heap.size≤k_)∧some k_≠(.slice Ao38 x5_1.length co38 : Value).ownBlock∧k_≠gb211) (fun k_=>((fun k_=>(P1_ k_ ∨ w.heap.size≤k_)∧some k_≠(.slice Ao38 x5_1.length co38 : Value).ownBlock∧k_≠gb211)) k_∧some k_≠(u7 : Value).ownBlock) rfl rfl ?aP (fun _ hk=>hk) ?aF ?aO ?aB ?aS ?aL ?_;(case aP=>exact (Kd.FK_slice_mk (Kd.V_reads' (Kd.V_mono (ok':=(fun k_=>((fun k_=>(P1_ k_ ∨ w.heap.size≤k_)∧some k_≠(.slice Ao38 x5_1.length co38 : Value).ownBlock∧k_≠gb211)) k_∧some k_≠(u7 : Value).ownBlock)) (HL237_0.out) (fun k_ hk=>⟨⟨hk.1,⟨hk.2.1,hk.2.2.2⟩⟩,hk.2.2.1⟩))).2.1 (Kd.V_F (Kd.V_mono (ok':=(fun k_=>((fun k_=>(P1_ k_ ∨ w.heap.size≤k_)∧some k_≠(.slice Ao38 x5_1.length co38 : Value).ownBlock∧k_≠gb211)) k_∧some k_≠(u7 : Value).ownBlock)) (HL237_0.out) (fun k_ hk=>⟨⟨hk.1,⟨hk.2.1,hk.2.2.2⟩⟩,hk.2.2.1⟩)))));(case aB=>exact (below_go HB.out));(case aF=>exact (fun k_ hk=>⟨(.inr (Nat.le_trans (below_size (below_go HB.out)) hk)),Kd.fresh' (Kd.N_lt (N_up HO_5.out)) k_ hk,Kd.freshB (blk_up BK211.out) k_ hk⟩));(case aO=>exact (N_up HO_7.out));(case aS=>exact (below_size (below_go HB.out)));(case aL=>have:=LMc37.out;omega);intro v239 w39 ho hb hg hat;rw [← Ny238.out] at ho;have n0_:=Aside0.mk (Kd.V_afterv (ok:=(fun k_=>(P1_ k_ ∨ w.heap.size≤k_)∧some k_≠(.slice Ao38 x5_1.length co38 : Value).ownBlock∧k_≠gb211)) (V_upm HO_1.out (fun _ hk=>⟨⟨hk.1,⟨hk.2.1,hk.2.2.2⟩⟩,hk.2.2.1⟩)) hg hat);have n1_:=Aside0.mk (Kd.N_afterv (ok:=(fun k_=>(P1_ k_ ∨ w.heap.size≤k_)∧k_≠gb211)) (N_upm HO_5.out (fun _ hk=>⟨⟨hk.1,hk.2.2⟩,hk.2.1⟩)) hg hat);have n2_:=Aside0.mk (blk_grown (blk_up BK211.out) hg (Kd.N_ne HO_7.out BK211.out (by decide)));have n3_:=Aside0.mk (Kd.V_afterv (ok:=(fun k_=>(P1_ k_ ∨ w.heap.size≤k_)∧some k_≠(.slice Ao38 x5_1.length co38 : Value).ownBlock∧k_≠gb211)) (V_upm HL237_0.out (fun _ hk=>⟨⟨hk.1,⟨hk.2.1,hk.2.2.2⟩⟩,hk.2.2.1⟩)) hg hat);have n4_:=Aside0.mk (hb);have n5_:=Aside0.mk (ho);clear HO_1;clear HO_5;clear BK211;clear HL237_0;clear HB;clear HO_7;have HO_1:=n0_;have HO_5:=n1_;have BK211:=n2_;have HL237_0:=n3_;have HB:=n4_;have HO240:=n5_;clear n0_ n1_ n2_ n3_ n4_ n5_;clear ho hb hg hat))
           go_roundg k2
           case measure=>have:=HK1.out;have:=HK2.out;omega
           case rel=>exact ⟨(y238),(wrap64 (x6_1 + 1)),(by first|rfl|(simp;done)|(simp [*];done)),(by first|exact H'|(subst_vars;exact H')),⟨by have:=HK1.out;have:=HK2.out;omega⟩,⟨by (with_reducible repeat (first|apply Kd.V_alloc|apply Kd.V_drewN|apply Kd.V_drew));exact Kd.V_mono HO_1.out (fun _ hk=>⟨hk.1.1,⟨hk.2,hk.1.2.2⟩⟩)⟩,⟨by (with_reducible repeat (first|apply Kd.N_alloc|apply Kd.N_drewN|apply Kd.N_drew));exact Kd.N_mono HO240.out (fun _ hk=>⟨hk.1,hk.2.2⟩)⟩,⟨by (with_reducible repeat (first|refine blk_drewN ?_ _|refine blk_drew ?_|refine blk_alloc ?_ _));exact BK211.out⟩,⟨by repeat (first|(with_reducible first|exact HB.out|apply below_alloc|apply pw_below_drewN|apply below_drew1|refine below_set ?_ GE211.out)|exact HB.out)⟩⟩
          ·rw [if_neg c37] at H
           exact absurd H (by simp)
         ·rw [if_neg c36] at H
          exact absurd H (by simp)
        ·rw [if_neg c35] at H
         exact absurd H (by simp)
   ·rw [if_neg c6] at H
    have c6b0 : decide (x6_1 < (l1.length : Int))=false:=decide_eq_false c6
    clear c6
    obtain rfl:=Option.some.inj H
    go_wp2
    go_ret
    exact ⟨_,by first|rfl|(simp [errW_none,errW_some] <;> rfl)|(simp [*,errW_none,errW_some] <;> rfl),by (with_reducible repeat (first|apply Kd.N_alloc|apply Kd.N_drewN|apply Kd.N_drew));exact Kd.N_mono HO_5.out (fun _ hk=>hk.1),by repeat (first|(with_reducible first|exact HB.out|apply below_alloc|apply pw_below_drewN|apply below_drew1|refine below_set ?_ GE211.out)|exact HB.out)⟩
end Go.Proofs.Ytfiandejapgkoaa.P

