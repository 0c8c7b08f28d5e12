/- Texts of FoldLast. Merged: Px9. -/
import Derived.Test.YtmanchjamkpklaaQFoldLastPx0
import Derived.Test.YtmanchjamkpklaaQFoldLastPx8
namespace Go.Proofs.Ytmanchjamkpklaa.P
open Go.RowKit Go.Proofs.YtmanchjamkpklaaW.PrintWords Go.Proofs.YtmanchjamkpklaaW.PrintLast Go.Proofs.YtmanchjamkpklaaW.PrintMore
attribute [local go_sem] max2_int min2_int max_two min_two max_three min_three max_four min_four   -- for this text's walks alone
set_option linter.unusedVariables false
set_option linter.unusedSimpArgs false
mutual
def thresherref09_Sort.l0 : Nat→List (List (S45))→List (List (S45))→Int→List Int→Int→Int→Int→Option ((List (List (S45))))
 | 0,_,_,_,_,_,_,_=>none
 | k + 1,x1,x5,x6,x205000,x205001,x205002,x205003=>if x6 < (x1.length : Int) then (thresherref09_Sort.l1 k x1 x5 x6 (([] : List (List (S45)))) false 0 x205000 x205001 x205002 x205003) else (some x5)
def thresherref09_Sort.l1 : Nat→List (List (S45))→List (List (S45))→Int→List (List (S45))→Bool→Int→List Int→Int→Int→Int→Option ((List (List (S45))))
 | 0,_,_,_,_,_,_,_,_,_,_=>none
 | k + 1,x1,x5,x6,x7,x8,x9,x205000,x205001,x205002,x205003=>if x9 < (x5.length : Int) then (if x8=true then (if 0≤x9 then (if x7.length < 5864062014805 then (thresherref09_Sort.l1 k x1 x5 x6 (x7 ++ [rd_L5 x5 x9]) x8 (wrap64 (x9 + 1)) x205000 x205001 x205002 x205003) else (none)) else (none)) else (if 0≤x9 then (if 0≤x6 then (if x6 < (x1.length : Int) then ((thresherref04_Compare.f k x205000 x205001 x205002 x205003 (rd_L5 x5 x9) (rd_L5 x1 x6)).bind fun t213=>(if t213 > 0 then (if x7.length < 5864062014805 then ((some (x7 ++ [rd_L5 x1 x6] : List (List (S45)))).bind fun y219=>(if y219.length < 5864062014805 then (thresherref09_Sort.l1 k x1 x5 x6 (y219 ++ [rd_L5 x5 x9]) true (wrap64 (x9 + 1)) x205000 x205001 x205002 x205003) else (none))) else (none)) else (if x7.length < 5864062014805 then (thresherref09_Sort.l1 k x1 x5 x6 (x7 ++ [rd_L5 x5 x9]) x8 (wrap64 (x9 + 1)) x205000 x205001 x205002 x205003) else (none)))) else (none)) else (none)) else (none))) else (if x8=true then (thresherref09_Sort.l0 k x1 x7 (wrap64 (x6 + 1)) x205000 x205001 x205002 x205003) else (if 0≤x6 then (if x6 < (x1.length : Int) then (if x7.length < 5864062014805 then (thresherref09_Sort.l0 k x1 (x7 ++ [rd_L5 x1 x6]) (wrap64 (x6 + 1)) x205000 x205001 x205002 x205003) else (none)) else (none)) else (none)))
end
def thresherref09_Sort.f (k : Nat) (l0_0 : List Int) (a0_1 : Int) (a0_2 : Int) (a0_3 : Int) (l1 : List (List (S45))) : Option ((List (List (S45)))):=thresherref09_Sort.l0 k l1 (([] : List (List (S45)))) 0 l0_0 a0_1 a0_2 a0_3
theorem thresherref09_Sort.mono_l : ∀ k,(∀ y0 y1 y2 y3 y4 y5 y6,LeO (thresherref09_Sort.l0 k y0 y1 y2 y3 y4 y5 y6) (thresherref09_Sort.l0 (k + 1) y0 y1 y2 y3 y4 y5 y6))∧(∀ y0 y1 y2 y3 y4 y5 y6 y7 y8 y9,LeO (thresherref09_Sort.l1 k y0 y1 y2 y3 y4 y5 y6 y7 y8 y9) (thresherref09_Sort.l1 (k + 1) y0 y1 y2 y3 y4 y5 y6 y7 y8 y9))
 | 0=>⟨fun _ _ _ _ _ _ _ r h=>by simp [thresherref09_Sort.l0] at h,fun _ _ _ _ _ _ _ _ _ _ r h=>by simp [thresherref09_Sort.l1] at h⟩
 | k + 1=>by
  obtain ⟨ih0,ih1⟩:=thresherref09_Sort.mono_l k
  refine ⟨?_,?_⟩
  ·intro y0 y1 y2 y3 y4 y5 y6
   unfold thresherref09_Sort.l0
   repeat' first
   | (with_reducible exact ih0 _ _ _ _ _ _ _)
   | (with_reducible exact ih1 _ _ _ _ _ _ _ _ _ _)
   | (with_reducible exact thresherref04_Compare.mono _ _ _ _ _ _ _)
   | (with_reducible exact LeO.refl _)
   | (with_reducible exact LeO.none _)
   | (with_reducible refine LeO.ite ?_ ?_)
   | (with_reducible refine LeO.bind ?_ (fun _=>?_))
   | exact ih0 _ _ _ _ _ _ _
   | exact ih1 _ _ _ _ _ _ _ _ _ _
   | exact thresherref04_Compare.mono _ _ _ _ _ _ _
   | exact LeO.none _
   | refine LeO.ite ?_ ?_
   | refine LeO.bind ?_ (fun _=>?_)
  ·intro y0 y1 y2 y3 y4 y5 y6 y7 y8 y9
   unfold thresherref09_Sort.l1
   repeat' first
   | (with_reducible exact ih0 _ _ _ _ _ _ _)
   | (with_reducible exact ih1 _ _ _ _ _ _ _ _ _ _)
   | (with_reducible exact thresherref04_Compare.mono _ _ _ _ _ _ _)
   | (with_reducible exact LeO.refl _)
   | (with_reducible exact LeO.none _)
   | (with_reducible refine LeO.ite ?_ ?_)
   | (with_reducible refine LeO.bind ?_ (fun _=>?_))
   | exact ih0 _ _ _ _ _ _ _
   | exact ih1 _ _ _ _ _ _ _ _ _ _
   | exact thresherref04_Compare.mono _ _ _ _ _ _ _
   | exact LeO.none _
   | refine LeO.ite ?_ ?_
   | refine LeO.bind ?_ (fun _=>?_)
theorem thresherref09_Sort.mono : ∀ a0 a1 a2 a3 a4 k,LeO (thresherref09_Sort.f k a0 a1 a2 a3 a4) (thresherref09_Sort.f (k + 1) a0 a1 a2 a3 a4):=by
 intro a0 a1 a2 a3 a4 k
 obtain ⟨ih0,ih1⟩:=thresherref09_Sort.mono_l k
 unfold thresherref09_Sort.f
 repeat' first
   | (with_reducible exact ih0 _ _ _ _ _ _ _)
   | (with_reducible exact ih1 _ _ _ _ _ _ _ _ _ _)
   | (with_reducible exact thresherref04_Compare.mono _ _ _ _ _ _ _)
   | (with_reducible exact LeO.refl _)
   | (with_reducible exact LeO.none _)
   | (with_reducible refine LeO.ite ?_ ?_)
   | (with_reducible refine LeO.bind ?_ (fun _=>?_))
   | exact ih0 _ _ _ _ _ _ _
   | exact ih1 _ _ _ _ _ _ _ _ _ _
   | exact thresherref04_Compare.mono _ _ _ _ _ _ _
   | exact LeO.none _
   | refine LeO.ite ?_ ?_
   | refine LeO.bind ?_ (fun _=>?_)
def thresherref09_Sort.T10 : Bool × List (List Nat × List Nat):=(true,[([],[]),([0],[0]),([1],[1]),([2],[2]),([2],[2]),([2],[2]),([4,5,2],[2,4,5]),([6,2],[2,6]),([2],[2]),([2],[2]),([8,9,2],[2,8,9]),([10,2],[2,10]),([3,7,11,2,2],[2,3,7,11]),([12,2],[2,12]),([2,13],[2,13])])
def thresherref09_Sort.B10 : List Nat:=[0,1,3,7,7,7,55,119,7,7,775,1799,4095,8191,16383]
theorem thresherref09_Sort.tab10 : rtab .any (opsOf Try.f10 10)=thresherref09_Sort.T10:=by kernel_rfl
theorem thresherref09_Sort.bits10 : waitsOk thresherref09_Sort.T10.2 thresherref09_Sort.B10=true:=by kernel_rfl
set_option maxHeartbeats 8000000 in
set_option maxRecDepth 100000 in
theorem thresherref09_Sort.calls (k : Nat) (A0_0 : Option Addr) (c0_0 : Nat) (l0_0 : List Int) (a0_1 : Int) (a0_2 : Int) (a0_3 : Int) (P1_ : Nat→Prop) (A1 : Option Addr) (c1 : Nat) (l1 : List (List (S45))) (r : List (List (S45))) (w : World) (hr0_0 : Kd.C (Kd.int .i64) w A0_0 l0_0.length l0_0) (hc0_0 : l0_0.length≤c0_0) (hs1 : Kd.V (Kd.slice 45 k45) 36 w w.heap.size (fun k_=>P1_ k_) (.slice A1 l1.length c1) l1) (h : thresherref09_Sort.f k l0_0 a0_1 a0_2 a0_3 l1=some r) :
  Calls Try.prog 10 #[.agg #[.slice A0_0 l0_0.length c0_0,.int .i64 a0_1,.int .i64 a0_2,.int .i64 a0_3],.slice A1 l1.length c1] w fun e w'=>∃ v0_ : Value,e=.returned (v0_)∧Kd.N (Kd.slice 45 k45) 36 w' w.heap.size (fun k_=>(P1_ k_ ∨ w.heap.size≤k_)) v0_ r∧Below w.heap.size w w':=by
 have hu29:=Try.underlying29
 have HR0_0:=Aside0.mk hr0_0
 have HC0_0:=Aside0.mk hc0_0
 clear hr0_0 hc0_0
 have HO1:=Aside0.mk (show Kd.V (Kd.slice 45 k45) 36 w w.heap.size (fun k_=>(P1_ k_ ∨ w.heap.size≤k_)) (.slice A1 l1.length c1) l1 from Kd.V_mono hs1 (fun k_ hk=>.inl hk))
 have HB:=Aside0.mk (Below.refl w.heap.size w)
 have H : (thresherref09_Sort.l0 k l1 (([] : List (List (S45)))) 0 l0_0 a0_1 a0_2 a0_3)=some r:=h
 clear h
 obtain ⟨y205,hy205⟩ : ∃ y_ : List (List (S45)),y_=(([] : List (List (S45)))):=⟨_,rfl⟩
 replace H : (thresherref09_Sort.l0 k l1 y205 0 l0_0 a0_1 a0_2 a0_3)=some r:=by first|(rw [hy205];with_reducible exact H)|(have H2_:=(Option.bind_some _ _).symm.trans H;rw [hy205];with_reducible exact H2_)|(have H2_:=(Option.bind_some _ _).symm.trans H;with_reducible exact H2_)|with_reducible exact H|(rw [hy205];exact H)|exact H
 have Ny205:=Aside0.mk hy205
 clear hy205
 have H':=Aside0.mk H
 clear H
 go_enter Try.func10,Try.ntmps10
 go_wp2_with (first|((with_reducible refine gate_dst (N:=2) rfl ?_);refine box_event ?hg (N:=2) ?hd (cs:=#[.slice A0_0 l0_0.length c0_0,.int .i64 a0_1,.int .i64 a0_2,.int .i64 a0_3]) (t:=29) ?hr ?_;(case hd=>rfl);(case hg=>rfl);(case hr=>first|(go_simp;done)|(go_simp;rfl));intro gb204 hg w3 hbox hb;have n0_:=Aside0.mk (Kd.V_below (Kd.V_elderB (by (with_reducible repeat (first|apply Kd.V_alloc|apply Kd.V_drewN|apply Kd.V_drew));exact HO1.out) gb204 (Nat.le_of_eq hg.symm)) hb);have n1_:=Aside0.mk (below_step (by repeat (first|(with_reducible first|exact HB.out|apply below_alloc|apply pw_below_drewN|apply below_drew1)|exact HB.out)) hb);have n2_:=Aside0.mk (hbox);have n3_:=Aside0.mk ((by rw [hg];exact (below_size (by repeat (first|(with_reducible first|exact HB.out|apply below_alloc|apply pw_below_drewN|apply below_drew1)|exact HB.out))) : w.heap.size≤gb204));have n4_:=Aside0.mk ((by rw [hg];exact (below_size (by repeat (first|(with_reducible first|exact HB.out|apply below_alloc|apply pw_below_drewN|apply below_drew1)|exact HB.out))) : w.heap.size≤gb204));clear HO1;clear HB;have HO1:=n0_;have HB:=n1_;have BK204:=n2_;have GW204:=n3_;have GE204:=n4_;clear n0_ n1_ n2_ n3_ n4_;clear hb hbox hg)|((with_reducible refine gate_dst (N:=10) rfl ?_);refine Kd.N_lit (Kd.slice 45 k45) _ 36 ?hg (N':=10) ?hd (xs:=([] : List (List (S45)))) (inner:=[]) (ok:=(fun k_=>(P1_ k_ ∨ w.heap.size≤k_)∧k_≠gb204)) (okp:=(fun k_=>(P1_ k_ ∨ w.heap.size≤k_)∧k_≠gb204)) ?hr ?hp (fun _ hk=>hk) ((show ∀ k_,w3.heap.size≤k_→(fun k_=>(P1_ k_ ∨ w.heap.size≤k_)∧k_≠gb204) k_ from fun k_ hk=>⟨(.inr (Nat.le_trans (below_size (by repeat (first|(with_reducible first|exact HB.out|apply below_alloc|apply pw_below_drewN|apply below_drew1|refine below_set ?_ GE204.out)|exact HB.out))) hk)),Kd.freshB (g:=gb204) (o:=.cells #[.slice A0_0 l0_0.length c0_0,.int .i64 a0_1,.int .i64 a0_2,.int .i64 a0_3] 29 (0,0)) (by (with_reducible repeat (first|refine blk_drewN ?_ _|refine blk_drew ?_|refine blk_alloc ?_ _));exact BK204.out) k_ hk⟩) _ (Nat.le_refl _)) (Below.refl _ _) (Nat.le_refl _) (by simp) ?_;(case hd=>rfl);(case hg=>rfl);(case hr=>first|(go_simp;done)|(go_simp;rfl));(case hp=>exact (Reps.none _ _));intro v206 w4 ho5 hb hg_ hnew_;clear hg_ hnew_;(first|rw [← Ny205.out] at ho5|(simp only [Int.reduceToNat] at ho5;rw [← Ny205.out] at ho5));have n0_:=Aside0.mk (Kd.V_elder' (by (with_reducible repeat (first|apply Kd.V_alloc|apply Kd.V_drewN|apply Kd.V_drew));exact HO1.out) (Kd.N_base ho5) hb);have n1_:=Aside0.mk (Kd.N_lower ho5 (below_size (by repeat (first|(with_reducible first|exact HB.out|apply below_alloc|apply pw_below_drewN|apply below_drew1|refine below_set ?_ GE204.out)|exact HB.out))));have n2_:=Aside0.mk (blk_below (g:=gb204) (o:=.cells #[.slice A0_0 l0_0.length c0_0,.int .i64 a0_1,.int .i64 a0_2,.int .i64 a0_3] 29 (0,0)) (by (with_reducible repeat (first|refine blk_drewN ?_ _|refine blk_drew ?_|refine blk_alloc ?_ _));exact BK204.out) hb);have n3_:=Aside0.mk (below_step (by repeat (first|(with_reducible first|exact HB.out|apply below_alloc|apply pw_below_drewN|apply below_drew1|refine below_set ?_ GE204.out)|exact HB.out)) hb);clear HO1;clear BK204;clear HB;have HO1:=n0_;have HO207:=n1_;have BK204:=n2_;have HB:=n3_;clear n0_ n1_ n2_ n3_;clear hb ho5))
 go_loopg [5,6] k (fun kq v5 v6 w'=>∃ (x5_1 : List (List (S45))) (x6_1 : Int),v6=.int .i64 x6_1∧Aside0 (thresherref09_Sort.l0 kq l1 x5_1 x6_1 l0_0 a0_1 a0_2 a0_3=some r)∧Aside0 (kq≤k)∧Aside0 (Kd.V (Kd.slice 45 k45) 36 w' w.heap.size (fun k_=>(P1_ k_ ∨ w.heap.size≤k_)∧some k_≠(v5 : Value).ownBlock∧k_≠gb204) (.slice A1 l1.length c1) l1)∧Aside0 (Kd.N (Kd.slice 45 k45) 36 w' w.heap.size (fun k_=>(P1_ k_ ∨ w.heap.size≤k_)∧k_≠gb204) v5 x5_1)∧Aside0 (w'.heap[gb204]?=some (.cells #[(.slice A0_0 l0_0.length c0_0),.int .i64 a0_1,.int .i64 a0_2,.int .i64 a0_3] 29 (0,0)))∧Aside0 (Below w.heap.size w w'))
 case atStart=>exact ⟨(y205),(0),(by first|rfl|(simp;done)|(simp [*];done)),H',⟨Nat.le_refl _⟩,⟨by (with_reducible repeat (first|apply Kd.V_alloc|apply Kd.V_drewN|apply Kd.V_drew));exact Kd.V_mono HO1.out (fun _ hk=>⟨hk.1.1,⟨hk.2,hk.1.2⟩⟩)⟩,⟨by (with_reducible repeat (first|apply Kd.N_alloc|apply Kd.N_drewN|apply Kd.N_drew));exact HO207.out⟩,⟨by (with_reducible repeat (first|refine blk_drewN ?_ _|refine blk_drew ?_|refine blk_alloc ?_ _));exact BK204.out⟩,⟨by repeat (first|(with_reducible first|exact HB.out|apply below_alloc|apply pw_below_drewN|apply below_drew1|refine below_set ?_ GE204.out)|exact HB.out)⟩⟩
 case round =>
  clear H'
  try clear c1
  try clear p2
  obtain ⟨x5_1,x6_1,rfl,HA,HK1,HO_1,HO_5,BK204,HB⟩:=hrel
  cases gk with
  | zero=>exact absurd HA.out (by simp [thresherref09_Sort.l0])
  | succ k1 =>
   have H:=HA.out
   clear HA
   simp only [thresherref09_Sort.l0] at H
   by_cases c6 : x6_1 < (l1.length : Int)
   ·rw [if_pos c6] at H
    have c6b0 : decide (x6_1 < (l1.length : Int))=true:=decide_eq_true c6
    clear c6
    obtain ⟨y208,hy208⟩ : ∃ y_ : List (List (S45)),y_=(([] : List (List (S45)))):=⟨_,rfl⟩
    replace H : (thresherref09_Sort.l1 k1 l1 x5_1 x6_1 y208 false 0 l0_0 a0_1 a0_2 a0_3)=some r:=by first|(rw [hy208];with_reducible exact H)|(have H2_:=(Option.bind_some _ _).symm.trans H;rw [hy208];with_reducible exact H2_)|(have H2_:=(Option.bind_some _ _).symm.trans H;with_reducible exact H2_)|with_reducible exact H|(rw [hy208];exact H)|exact H
    have Ny208:=Aside0.mk hy208
    clear hy208
    have H':=Aside0.mk H
    clear H
    go_wp2_with (first|((with_reducible refine gate_dst (N:=17) rfl ?_);refine Kd.N_lit (Kd.slice 45 k45) _ 36 ?hg (N':=17) ?hd (xs:=([] : List (List (S45)))) (inner:=[]) (ok:=(fun k_=>(P1_ k_ ∨ w.heap.size≤k_)∧some k_≠(u5 : Value).ownBlock∧k_≠gb204)) (okp:=(fun k_=>(P1_ k_ ∨ w.heap.size≤k_)∧some k_≠(u5 : Value).ownBlock∧k_≠gb204)) ?hr ?hp (fun _ hk=>hk) ((show ∀ k_,wr.heap.size≤k_→(fun k_=>(P1_ k_ ∨ w.heap.size≤k_)∧some k_≠(u5 : Value).ownBlock∧k_≠gb204) k_ from fun k_ hk=>⟨(.inr (Nat.le_trans (below_size (by repeat (first|(with_reducible first|exact HB.out|apply below_alloc|apply pw_below_drewN|apply below_drew1|refine below_set ?_ GE204.out)|exact HB.out))) hk)),Kd.fresh' (Kd.N_lt (by (with_reducible repeat (first|apply Kd.N_alloc|apply Kd.N_drewN|apply Kd.N_drew));exact HO_5.out)) k_ hk,Kd.freshB (g:=gb204) (o:=.cells #[.slice A0_0 l0_0.length c0_0,.int .i64 a0_1,.int .i64 a0_2,.int .i64 a0_3] 29 (0,0)) (by (with_reducible repeat (first|refine blk_drewN ?_ _|refine blk_drew ?_|refine blk_alloc ?_ _));exact BK204.out) k_ hk⟩) _ (Nat.le_refl _)) (Below.refl _ _) (Nat.le_refl _) (by simp) ?_;(case hd=>rfl);(case hg=>rfl);(case hr=>first|(go_simp;done)|(go_simp;rfl));(case hp=>exact (Reps.none _ _));intro v209 w7 ho8 hb hg_ hnew_;clear hg_ hnew_;(first|rw [← Ny208.out] at ho8|(simp only [Int.reduceToNat] at ho8;rw [← Ny208.out] at ho8));have n0_:=Aside0.mk (Kd.V_elder' (by (with_reducible repeat (first|apply Kd.V_alloc|apply Kd.V_drewN|apply Kd.V_drew));exact HO_1.out) (Kd.N_base ho8) hb);have n1_:=Aside0.mk (Kd.N_elder' (by (with_reducible repeat (first|apply Kd.N_alloc|apply Kd.N_drewN|apply Kd.N_drew));exact HO_5.out) (Kd.N_base ho8) hb);have n2_:=Aside0.mk (Kd.N_lower ho8 (below_size (by repeat (first|(with_reducible first|exact HB.out|apply below_alloc|apply pw_below_drewN|apply below_drew1|refine below_set ?_ GE204.out)|exact HB.out))));have n3_:=Aside0.mk (blk_below (g:=gb204) (o:=.cells #[.slice A0_0 l0_0.length c0_0,.int .i64 a0_1,.int .i64 a0_2,.int .i64 a0_3] 29 (0,0)) (by (with_reducible repeat (first|refine blk_drewN ?_ _|refine blk_drew ?_|refine blk_alloc ?_ _));exact BK204.out) hb);have n4_:=Aside0.mk (below_step (by repeat (first|(with_reducible first|exact HB.out|apply below_alloc|apply pw_below_drewN|apply below_drew1|refine below_set ?_ GE204.out)|exact HB.out)) hb);clear HO_1;clear HO_5;clear BK204;clear HB;have HO_1:=n0_;have HO_5:=n1_;have HO210:=n2_;have BK204:=n3_;have HB:=n4_;clear n0_ n1_ n2_ n3_ n4_;clear hb ho8))
    go_loopg [7,8,9] k1 (fun kq v7 v8 v9 w'=>∃ (x7_2 : List (List (S45))) (x8_2 : Bool) (x9_2 : Int),v8=.bool x8_2∧v9=.int .i64 x9_2∧Aside0 (thresherref09_Sort.l1 kq l1 x5_1 x6_1 x7_2 x8_2 x9_2 l0_0 a0_1 a0_2 a0_3=some r)∧Aside0 (kq≤k1)∧Aside0 (Kd.V (Kd.slice 45 k45) 36 w' w.heap.size (fun k_=>(P1_ k_ ∨ w.heap.size≤k_)∧some k_≠(u5 : Value).ownBlock∧some k_≠(v7 : Value).ownBlock∧k_≠gb204) (.slice A1 l1.length c1) l1)∧Aside0 (Kd.N (Kd.slice 45 k45) 36 w' w.heap.size (fun k_=>(P1_ k_ ∨ w.heap.size≤k_)∧some k_≠(v7 : Value).ownBlock∧k_≠gb204) u5 x5_1)∧Aside0 (Kd.N (Kd.slice 45 k45) 36 w' w.heap.size (fun k_=>(P1_ k_ ∨ w.heap.size≤k_)∧some k_≠(u5 : Value).ownBlock∧k_≠gb204) v7 x7_2)∧Aside0 (w'.heap[gb204]?=some (.cells #[(.slice A0_0 l0_0.length c0_0),.int .i64 a0_1,.int .i64 a0_2,.int .i64 a0_3] 29 (0,0)))∧Aside0 (Below w.heap.size w w'))
    case atStart=>exact ⟨(y208),(false),(0),(by first|rfl|(simp;done)|(simp [*];done)),(by first|rfl|(simp;done)|(simp [*];done)),H',⟨Nat.le_refl _⟩,⟨by (with_reducible repeat (first|apply Kd.V_alloc|apply Kd.V_drewN|apply Kd.V_drew));exact Kd.V_mono HO_1.out (fun _ hk=>⟨hk.1.1,⟨hk.1.2.1,⟨hk.2,hk.1.2.2⟩⟩⟩)⟩,⟨by (with_reducible repeat (first|apply Kd.N_alloc|apply Kd.N_drewN|apply Kd.N_drew));exact Kd.N_mono HO_5.out (fun _ hk=>⟨hk.1.1,⟨hk.2,hk.1.2⟩⟩)⟩,⟨by (with_reducible repeat (first|apply Kd.N_alloc|apply Kd.N_drewN|apply Kd.N_drew));exact HO210.out⟩,⟨by (with_reducible repeat (first|refine blk_drewN ?_ _|refine blk_drew ?_|refine blk_alloc ?_ _));exact BK204.out⟩,⟨by repeat (first|(with_reducible first|exact HB.out|apply below_alloc|apply pw_below_drewN|apply below_drew1|refine below_set ?_ GE204.out)|exact HB.out)⟩⟩
    case round =>
     clear H'
     try clear c1
     try clear p2
     try clear c6
     try clear c6b0
     try clear p2
     obtain ⟨x7_2,x8_2,x9_2,rfl,rfl,HA,HK2,HO_1,HO_5,HO_7,BK204,HB⟩:=hrel
     cases gk with
     | zero=>exact absurd HA.out (by simp [thresherref09_Sort.l1])
     | succ k2 =>
      have H:=HA.out
      clear HA
      simp only [thresherref09_Sort.l1] at H
      by_cases c9 : x9_2 < (x5_1.length : Int)
      ·rw [if_pos c9] at H
       have c9b0 : decide (x9_2 < (x5_1.length : Int))=true:=decide_eq_true c9
       clear c9
       by_cases c10 : x8_2=true
       ·subst c10
        have H1 : (if 0≤x9_2 then (if x7_2.length < 5864062014805 then (thresherref09_Sort.l1 k2 l1 x5_1 x6_1 (x7_2 ++ [rd_L5 x5_1 x9_2]) true (wrap64 (x9_2 + 1)) l0_0 a0_1 a0_2 a0_3) else (none)) else (none))=some r:=by rw [if_pos rfl] at H;exact H
        clear H
        have H:=H1
        clear H1
        by_cases c11 : 0≤x9_2
        ·rw [if_pos c11] at H
         have c11b0 : decide (0≤x9_2)=true:=decide_eq_true c11
         clear c11
         by_cases c12 : x7_2.length < 5864062014805
         ·rw [if_pos c12] at H
          have LMc12:=Aside0.mk c12
          clear c12
          obtain ⟨y215,hy215⟩ : ∃ y_ : List (List (S45)),y_=(x7_2 ++ [rd_L5 x5_1 x9_2]):=⟨_,rfl⟩
          replace H : (thresherref09_Sort.l1 k2 l1 x5_1 x6_1 y215 true (wrap64 (x9_2 + 1)) l0_0 a0_1 a0_2 a0_3)=some r:=by first|(rw [hy215];with_reducible exact H)|(have H2_:=(Option.bind_some _ _).symm.trans H;rw [hy215];with_reducible exact H2_)|(have H2_:=(Option.bind_some _ _).symm.trans H;with_reducible exact H2_)|with_reducible exact H|(rw [hy215];exact H)|exact H
          have Ny215:=Aside0.mk hy215
          clear hy215
          have H':=Aside0.mk H
          clear H
          obtain ⟨Ao13,co13,eo13⟩:=Kd.N_slice HO_5.out
          subst eo13
          try go_wp2
          have n0_:=Aside0.mk (Kd.V_drew HO_1.out)
          have n1_:=Aside0.mk (Kd.N_drew HO_5.out)
          have n2_:=Aside0.mk (Kd.N_drew HO_7.out)
          have n3_:=Aside0.mk (blk_drew BK204.out)
          have n4_:=Aside0.mk (below_drew1 HB.out)
          clear HO_1
          clear HO_5
          clear HO_7
          clear BK204
          clear HB
          have HO_1:=n0_
          have HO_5:=n1_
          have HO_7:=n2_
          have BK204:=n3_
          have HB:=n4_
          clear n0_ n1_ n2_ n3_ n4_
          refine start_ (n:=15) (S:=fun w'=>True) (ds:=[]) #[false,false,false,false,false,false,false,false,false,false,false,false,false,false,false] (by kernel_rfl) rfl rfl trivial (fun hHeld=>?_);refine with_tabW thresherref09_Sort.tab10 thresherref09_Sort.bits10 (fun HT_ HW_=>?_)
          generalize wr.drew=w14 at HO_1 HO_5 HO_7 BK204 HB hHeld ⊢
          refine pure_ (i:=0) (N:=some 24) (v:=?_) (a':=?_) #[true,false,false,false,false,false,false,false,false,false,false,false,false,false,false] rfl rfl (any_of HT_.out (by kernel_rfl)) (fun _ _ _ h=>h) (Or.inl ⟨by rfl,?_⟩) ?_ ?_
          rotate_left;(intro w';go_simp;with_reducible rfl);rotate_left;(simp only [Act.put,List.setIfInBounds_toArray,List.set_cons_zero,List.set_cons_succ,i64_w,i32_w];rfl)
          refine pure_ (i:=1) (N:=some 25) (v:=?_) (a':=?_) #[true,true,false,false,false,false,false,false,false,false,false,false,false,false,false] rfl rfl (any_of HT_.out (by kernel_rfl)) (fun _ _ _ h=>h) (Or.inl ⟨by rfl,?_⟩) ?_ ?_
          rotate_left;(intro w';go_simp;with_reducible rfl);rotate_left;(simp only [Act.put,List.setIfInBounds_toArray,List.set_cons_zero,List.set_cons_succ,i64_w,i32_w];rfl)
          refine pure_ (i:=2) (N:=some 26) (v:=?_) (a':=?_) #[true,true,true,false,false,false,false,false,false,false,false,false,false,false,false] rfl rfl (any_of HT_.out (by kernel_rfl)) (fun _ _ _ h=>h) (Or.inl ⟨by rfl,?_⟩) ?_ ?_
          rotate_left;(intro w';go_simp;with_reducible rfl);rotate_left;(simp only [Act.put,List.setIfInBounds_toArray,List.set_cons_zero,List.set_cons_succ,i64_w,i32_w];rfl)
          refine pure_ (i:=3) (N:=some 27) (v:=undef) (a':=?_) #[true,true,true,true,false,false,false,false,false,false,false,false,false,false,false] rfl rfl (any_of HT_.out (by kernel_rfl)) (fun _ _ _ h=>h) (Or.inr ⟨by rfl,rfl⟩) ?_ ?_
          rotate_left
          ·simp only [Act.put,List.setIfInBounds_toArray,List.set_cons_zero,List.set_cons_succ,i64_w,i32_w]
           rfl
          refine pure_ (i:=4) (N:=some 28) (v:=undef) (a':=?_) #[true,true,true,true,true,false,false,false,false,false,false,false,false,false,false] rfl rfl (any_of HT_.out (by kernel_rfl)) (fun _ _ _ h=>h) (Or.inr ⟨by rfl,rfl⟩) ?_ ?_
          rotate_left
          ·simp only [Act.put,List.setIfInBounds_toArray,List.set_cons_zero,List.set_cons_succ,i64_w,i32_w]
           rfl
          refine pure_ (i:=5) (N:=some 29) (v:=undef) (a':=?_) #[true,true,true,true,true,true,false,false,false,false,false,false,false,false,false] rfl rfl (any_of HT_.out (by kernel_rfl)) (fun _ _ _ h=>h) (Or.inr ⟨by rfl,rfl⟩) ?_ ?_
          rotate_left
          ·simp only [Act.put,List.setIfInBounds_toArray,List.set_cons_zero,List.set_cons_succ,i64_w,i32_w]
           rfl
          refine pure_ (i:=6) (N:=some 30) (v:=undef) (a':=?_) #[true,true,true,true,true,true,true,false,false,false,false,false,false,false,false] rfl rfl (any_of HT_.out (by kernel_rfl)) (fun _ _ _ h=>h) (Or.inr ⟨by rfl,rfl⟩) ?_ ?_
          rotate_left
          ·simp only [Act.put,List.setIfInBounds_toArray,List.set_cons_zero,List.set_cons_succ,i64_w,i32_w]
           rfl
          refine pure_ (i:=7) (N:=some 31) (v:=undef) (a':=?_) #[true,true,true,true,true,true,true,true,false,false,false,false,false,false,false] rfl rfl (any_of HT_.out (by kernel_rfl)) (fun _ _ _ h=>h) (Or.inr ⟨by rfl,rfl⟩) ?_ ?_
          rotate_left
          ·simp only [Act.put,List.setIfInBounds_toArray,List.set_cons_zero,List.set_cons_succ,i64_w,i32_w]
           rfl
          refine pure_ (i:=8) (N:=some 32) (v:=undef) (a':=?_) #[true,true,true,true,true,true,true,true,true,false,false,false,false,false,false] rfl rfl (any_of HT_.out (by kernel_rfl)) (fun _ _ _ h=>h) (Or.inr ⟨by rfl,rfl⟩) ?_ ?_
          rotate_left
          ·simp only [Act.put,List.setIfInBounds_toArray,List.set_cons_zero,List.set_cons_succ,i64_w,i32_w]
           rfl
          refine pure_ (i:=9) (N:=some 33) (v:=undef) (a':=?_) #[true,true,true,true,true,true,true,true,true,true,false,false,false,false,false] rfl rfl (any_of HT_.out (by kernel_rfl)) (fun _ _ _ h=>h) (Or.inr ⟨by rfl,rfl⟩) ?_ ?_
          rotate_left
          ·simp only [Act.put,List.setIfInBounds_toArray,List.set_cons_zero,List.set_cons_succ,i64_w,i32_w]
           rfl
          refine pure_ (i:=10) (N:=some 34) (v:=undef) (a':=?_) #[true,true,true,true,true,true,true,true,true,true,true,false,false,false,false] rfl rfl (any_of HT_.out (by kernel_rfl)) (fun _ _ _ h=>h) (Or.inr ⟨by rfl,rfl⟩) ?_ ?_
          rotate_left
          ·simp only [Act.put,List.setIfInBounds_toArray,List.set_cons_zero,List.set_cons_succ,i64_w,i32_w]
           rfl
          refine pure_ (i:=11) (N:=some 35) (v:=undef) (a':=?_) #[true,true,true,true,true,true,true,true,true,true,true,true,false,false,false] rfl rfl (any_of HT_.out (by kernel_rfl)) (fun _ _ _ h=>h) (Or.inr ⟨by rfl,rfl⟩) ?_ ?_
          rotate_left
          ·simp only [Act.put,List.setIfInBounds_toArray,List.set_cons_zero,List.set_cons_succ,i64_w,i32_w]
           rfl
          refine pure_ (i:=12) (N:=some 36) (v:=undef) (a':=?_) #[true,true,true,true,true,true,true,true,true,true,true,true,true,false,false] rfl rfl (any_of HT_.out (by kernel_rfl)) (fun _ _ _ h=>h) (Or.inr ⟨by rfl,rfl⟩) ?_ ?_
          rotate_left
          ·simp only [Act.put,List.setIfInBounds_toArray,List.set_cons_zero,List.set_cons_succ,i64_w,i32_w]
           rfl
          refine pure_ (i:=13) (N:=some 37) (v:=undef) (a':=?_) #[true,true,true,true,true,true,true,true,true,true,true,true,true,true,false] rfl rfl (any_of HT_.out (by kernel_rfl)) (fun _ _ _ h=>h) (Or.inr ⟨by rfl,rfl⟩) ?_ ?_
          rotate_left
          ·simp only [Act.put,List.setIfInBounds_toArray,List.set_cons_zero,List.set_cons_succ,i64_w,i32_w]
           rfl
          refine pure_ (i:=14) (N:=some 38) (v:=?_) (a':=?_) #[true,true,true,true,true,true,true,true,true,true,true,true,true,true,true] rfl rfl (any_of HT_.out (by kernel_rfl)) (fun _ _ _ h=>h) (Or.inl ⟨by rfl,?_⟩) ?_ ?_
          rotate_left;(intro w';go_simp;with_reducible rfl);rotate_left;(simp only [Act.put,List.setIfInBounds_toArray,List.set_cons_zero,List.set_cons_succ,i64_w,i32_w];rfl)
          refine done_ (done_of HT_.out (by kernel_rfl)) ?_
          (try clear hHeld)
          have p214 : 0≤(x9_2 : Int):=of_decide_eq_true (by first|(with_reducible assumption)|assumption)
          have q214 : x9_2 < (x5_1.length : Int):=of_decide_eq_true (by first|(with_reducible assumption)|assumption)
          obtain ⟨ad214,A214_0,c214_0,e214,hx214_0,hl214_0,hi214_0⟩:=at_L5 (Kd.N_reads' HO_5.out).2.2 x9_2 p214 q214
          cases e214
          obtain ⟨ce214,hce214,hMe214,hcc214⟩:=Kd.N_get HO_5.out [] x9_2 p214 (by first|exact q214|exact of_decide_eq_true (by first|(with_reducible assumption)|assumption)|(have e_:=(Kd.N_reads' HO_5.out).1;omega))
          obtain ⟨ua214_0,uc214_0,rfl,ul214_0,ge214_0⟩:=Kd.FK_slice_open hMe214
          have hv214_0:=hcc214 0 _ rfl
          rw [Nat.add_zero,show ((Kd.slice 45 k45)).sz=1 from rfl,Nat.mul_one] at hv214_0
          replace hv214_0:=Option.some.inj (hv214_0.symm.trans hx214_0)
          injection hv214_0 with hva_ hvn_ hvc_
          rw [hva_] at ge214_0
          rw [hvc_] at ul214_0
          have HL214_0:=Aside0.mk (show Kd.V k45 45 _ w.heap.size _ _ (rd_L5 x5_1 x9_2) from Kd.V_mk ul214_0 ge214_0)
          clear hva_ hvn_ hvc_ ge214_0 ul214_0
          clear hcc214 hce214
          have HR214_0:=Aside0.mk hi214_0
          have HC214_0:=Aside0.mk hl214_0
          clear hi214_0 hl214_0
          replace p214:=eq_true p214
          replace q214:=eq_true q214
          try go_wp2_with (first|((with_reducible refine gate_builtin (b:=.append) (xs:=#[.tmp 46,.tmp 51]) rfl ?_);at_builtin;refine Kd.N_append (Kd.slice 45 k45) (w0:=w) w.heap.size rfl (.tmp 46) (.tmp 51) 25 36 (.slice none 0 0) 24 rfl Try.underlying25 info36 rfl (by decide) (by omega) u7 x7_2 (rd_L5 x5_1 x9_2) [.slice A214_0 (rd_L5 x5_1 x9_2).length c214_0] (fun k_=>(P1_ k_ ∨ w.heap.size≤k_)∧some k_≠(.slice (some ad214) x5_1.length co13 : Value).ownBlock∧k_≠gb204) (fun k_=>((fun k_=>(P1_ k_ ∨ w.heap.size≤k_)∧some k_≠(.slice (some ad214) x5_1.length co13 : Value).ownBlock∧k_≠gb204)) k_∧some k_≠(u7 : Value).ownBlock) rfl rfl ?aP (fun _ hk=>hk) ?aF ?aO ?aB ?aS ?aL ?_;(case aP=>exact (Kd.FK_slice_mk (Kd.V_reads' (Kd.V_mono (ok':=(fun k_=>((fun k_=>(P1_ k_ ∨ w.heap.size≤k_)∧some k_≠(.slice (some ad214) x5_1.length co13 : Value).ownBlock∧k_≠gb204)) k_∧some k_≠(u7 : Value).ownBlock)) (HL214_0.out) (fun k_ hk=>⟨⟨hk.1.1,⟨hk.2,hk.1.2.2⟩⟩,hk.1.2.1⟩))).2.1 (Kd.V_F (Kd.V_mono (ok':=(fun k_=>((fun k_=>(P1_ k_ ∨ w.heap.size≤k_)∧some k_≠(.slice (some ad214) x5_1.length co13 : Value).ownBlock∧k_≠gb204)) k_∧some k_≠(u7 : Value).ownBlock)) (HL214_0.out) (fun k_ hk=>⟨⟨hk.1.1,⟨hk.2,hk.1.2.2⟩⟩,hk.1.2.1⟩)))));(case aB=>exact (by repeat (first|(with_reducible first|exact HB.out|apply below_alloc|apply pw_below_drewN|apply below_drew1|refine below_set ?_ GE204.out)|exact HB.out)));(case aF=>exact (fun k_ hk=>⟨(.inr (Nat.le_trans (below_size (by repeat (first|(with_reducible first|exact HB.out|apply below_alloc|apply pw_below_drewN|apply below_drew1|refine below_set ?_ GE204.out)|exact HB.out))) hk)),Kd.fresh' (Kd.N_lt (by (with_reducible repeat (first|apply Kd.N_alloc|apply Kd.N_drewN|apply Kd.N_drew));exact HO_5.out)) k_ hk,Kd.freshB (g:=gb204) (o:=.cells #[.slice A0_0 l0_0.length c0_0,.int .i64 a0_1,.int .i64 a0_2,.int .i64 a0_3] 29 (0,0)) (by (with_reducible repeat (first|refine blk_drewN ?_ _|refine blk_drew ?_|refine blk_alloc ?_ _));exact BK204.out) k_ hk⟩));(case aO=>exact (by (with_reducible repeat (first|apply Kd.N_alloc|apply Kd.N_drewN|apply Kd.N_drew));exact HO_7.out));(case aS=>exact (below_size (by repeat (first|(with_reducible first|exact HB.out|apply below_alloc|apply pw_below_drewN|apply below_drew1|refine below_set ?_ GE204.out)|exact HB.out))));(case aL=>have:=LMc12.out;omega);intro v216 w15 ho hb hg hat;rw [← Ny215.out] at ho;have n0_:=Aside0.mk (Kd.V_afterv (ok:=(fun k_=>(P1_ k_ ∨ w.heap.size≤k_)∧some k_≠(.slice (some ad214) x5_1.length co13 : Value).ownBlock∧k_≠gb204)) (by (with_reducible repeat (first|apply Kd.V_alloc|apply Kd.V_drewN|apply Kd.V_drew));exact Kd.V_mono HO_1.out (fun _ hk=>⟨⟨hk.1,⟨hk.2.1,hk.2.2.2⟩⟩,hk.2.2.1⟩)) hg hat);have n1_:=Aside0.mk (Kd.N_afterv (ok:=(fun k_=>(P1_ k_ ∨ w.heap.size≤k_)∧k_≠gb204)) (by (with_reducible repeat (first|apply Kd.N_alloc|apply Kd.N_drewN|apply Kd.N_drew));exact Kd.N_mono HO_5.out (fun _ hk=>⟨⟨hk.1,hk.2.2⟩,hk.2.1⟩)) hg hat);have n2_:=Aside0.mk (blk_grown (g:=gb204) (o:=.cells #[.slice A0_0 l0_0.length c0_0,.int .i64 a0_1,.int .i64 a0_2,.int .i64 a0_3] 29 (0,0)) (by (with_reducible repeat (first|refine blk_drewN ?_ _|refine blk_drew ?_|refine blk_alloc ?_ _));exact BK204.out) hg (Kd.N_ne HO_7.out BK204.out (by decide)));have n3_:=Aside0.mk (Kd.V_afterv (ok:=(fun k_=>(P1_ k_ ∨ w.heap.size≤k_)∧some k_≠(.slice (some ad214) x5_1.length co13 : Value).ownBlock∧k_≠gb204)) (by (with_reducible repeat (first|apply Kd.V_alloc|apply Kd.V_drewN|apply Kd.V_drew));exact Kd.V_mono HL214_0.out (fun _ hk=>⟨⟨hk.1.1,⟨hk.2,hk.1.2.2⟩⟩,hk.1.2.1⟩)) hg hat);have n4_:=Aside0.mk (hb);have n5_:=Aside0.mk (ho);clear HO_1;clear HO_5;clear BK204;clear HL214_0;clear HB;clear HO_7;have HO_1:=n0_;have HO_5:=n1_;have BK204:=n2_;have HL214_0:=n3_;have HB:=n4_;have HO217:=n5_;clear n0_ n1_ n2_ n3_ n4_ n5_;clear ho hb hg hat))
          go_roundg k2
          case measure=>have:=HK1.out;have:=HK2.out;omega
          case rel=>exact ⟨(y215),(true),(wrap64 (x9_2 + 1)),(by first|rfl|(simp;done)|(simp [*];done)),(by first|rfl|(simp;done)|(simp [*];done)),(by first|exact H'|(subst_vars;exact H')),⟨by have:=HK1.out;have:=HK2.out;omega⟩,⟨by (with_reducible repeat (first|apply Kd.V_alloc|apply Kd.V_drewN|apply Kd.V_drew));exact Kd.V_mono HO_1.out (fun _ hk=>⟨hk.1.1,⟨hk.1.2.1,⟨hk.2,hk.1.2.2⟩⟩⟩)⟩,⟨by (with_reducible repeat (first|apply Kd.N_alloc|apply Kd.N_drewN|apply Kd.N_drew));exact Kd.N_mono HO_5.out (fun _ hk=>⟨hk.1.1,⟨hk.2,hk.1.2⟩⟩)⟩,⟨by (with_reducible repeat (first|apply Kd.N_alloc|apply Kd.N_drewN|apply Kd.N_drew));exact HO217.out⟩,⟨by (with_reducible repeat (first|refine blk_drewN ?_ _|refine blk_drew ?_|refine blk_alloc ?_ _));exact BK204.out⟩,⟨by repeat (first|(with_reducible first|exact HB.out|apply below_alloc|apply pw_below_drewN|apply below_drew1|refine below_set ?_ GE204.out)|exact HB.out)⟩⟩
         ·rw [if_neg c12] at H
          exact absurd H (by simp)
        ·rw [if_neg c11] at H
         exact absurd H (by simp)
       ·replace c10:=Bool.eq_false_iff.mpr c10
        subst c10
        have H1 : (if 0≤x9_2 then (if 0≤x6_1 then (if x6_1 < (l1.length : Int) then ((thresherref04_Compare.f k2 l0_0 a0_1 a0_2 a0_3 (rd_L5 x5_1 x9_2) (rd_L5 l1 x6_1)).bind fun t213=>(if t213 > 0 then (if x7_2.length < 5864062014805 then ((some (x7_2 ++ [rd_L5 l1 x6_1] : List (List (S45)))).bind fun y219=>(if y219.length < 5864062014805 then (thresherref09_Sort.l1 k2 l1 x5_1 x6_1 (y219 ++ [rd_L5 x5_1 x9_2]) true (wrap64 (x9_2 + 1)) l0_0 a0_1 a0_2 a0_3) else (none))) else (none)) else (if x7_2.length < 5864062014805 then (thresherref09_Sort.l1 k2 l1 x5_1 x6_1 (x7_2 ++ [rd_L5 x5_1 x9_2]) false (wrap64 (x9_2 + 1)) l0_0 a0_1 a0_2 a0_3) else (none)))) else (none)) else (none)) else (none))=some r:=by rw [if_neg (show ¬ (false=true) by decide)] at H;exact H
        clear H
        have H:=H1
        clear H1
        by_cases c16 : 0≤x9_2
        ·rw [if_pos c16] at H
         have c16b0 : decide (0≤x9_2)=true:=decide_eq_true c16
         clear c16
         by_cases c17 : 0≤x6_1
         ·rw [if_pos c17] at H
          have c17b0 : decide (0≤x6_1)=true:=decide_eq_true c17
          clear c17
          by_cases c18 : x6_1 < (l1.length : Int)
          ·rw [if_pos c18] at H
           have c18b0 : decide (x6_1 < (l1.length : Int))=true:=decide_eq_true c18
           clear c18
           replace H:=Option.bind_eq_some_iff.mp H
           obtain ⟨t213,A190,H⟩:=H
           replace H : (if t213 > 0 then (if x7_2.length < 5864062014805 then ((some (x7_2 ++ [rd_L5 l1 x6_1] : List (List (S45)))).bind fun y219=>(if y219.length < 5864062014805 then (thresherref09_Sort.l1 k2 l1 x5_1 x6_1 (y219 ++ [rd_L5 x5_1 x9_2]) true (wrap64 (x9_2 + 1)) l0_0 a0_1 a0_2 a0_3) else (none))) else (none)) else (if x7_2.length < 5864062014805 then (thresherref09_Sort.l1 k2 l1 x5_1 x6_1 (x7_2 ++ [rd_L5 x5_1 x9_2]) false (wrap64 (x9_2 + 1)) l0_0 a0_1 a0_2 a0_3) else (none)))=some r:=H
           have A19:=Aside0.mk A190
           clear A190
           by_cases c20 : t213 > 0
           ·rw [if_pos c20] at H
            have c20b0 : decide (0 < t213)=true:=decide_eq_true c20
            clear c20
            by_cases c21 : x7_2.length < 5864062014805
            ·rw [if_pos c21] at H
             have LMc21:=Aside0.mk c21
             clear c21
             obtain ⟨y219,hy219⟩ : ∃ y_ : List (List (S45)),y_=(x7_2 ++ [rd_L5 l1 x6_1]):=⟨_,rfl⟩
             replace H : (if y219.length < 5864062014805 then (thresherref09_Sort.l1 k2 l1 x5_1 x6_1 (y219 ++ [rd_L5 x5_1 x9_2]) true (wrap64 (x9_2 + 1)) l0_0 a0_1 a0_2 a0_3) else (none))=some r:=by first|(rw [hy219];with_reducible exact H)|(have H2_:=(Option.bind_some _ _).symm.trans H;rw [hy219];with_reducible exact H2_)|(have H2_:=(Option.bind_some _ _).symm.trans H;with_reducible exact H2_)|with_reducible exact H|(rw [hy219];exact H)|exact H
             have Ny219:=Aside0.mk hy219
             clear hy219
             by_cases c22 : y219.length < 5864062014805
             ·rw [if_pos c22] at H
              have LMc22:=Aside0.mk c22
              clear c22
              obtain ⟨y223,hy223⟩ : ∃ y_ : List (List (S45)),y_=(y219 ++ [rd_L5 x5_1 x9_2]):=⟨_,rfl⟩
              replace H : (thresherref09_Sort.l1 k2 l1 x5_1 x6_1 y223 true (wrap64 (x9_2 + 1)) l0_0 a0_1 a0_2 a0_3)=some r:=by first|(rw [hy223];with_reducible exact H)|(have H2_:=(Option.bind_some _ _).symm.trans H;rw [hy223];with_reducible exact H2_)|(have H2_:=(Option.bind_some _ _).symm.trans H;with_reducible exact H2_)|with_reducible exact H|(rw [hy223];exact H)|exact H
              have Ny223:=Aside0.mk hy223
              clear hy223
              have H':=Aside0.mk H
              clear H
              obtain ⟨Ao23,co23,eo23⟩:=Kd.N_slice HO_5.out
              subst eo23
              try go_wp2
              have n0_:=Aside0.mk (Kd.V_drew HO_1.out)
              have n1_:=Aside0.mk (Kd.N_drew HO_5.out)
              have n2_:=Aside0.mk (Kd.N_drew HO_7.out)
              have n3_:=Aside0.mk (blk_drew BK204.out)
              have n4_:=Aside0.mk (below_drew1 HB.out)
              clear HO_1
              clear HO_5
              clear HO_7
              clear BK204
              clear HB
              have HO_1:=n0_
              have HO_5:=n1_
              have HO_7:=n2_
              have BK204:=n3_
              have HB:=n4_
              clear n0_ n1_ n2_ n3_ n4_
              have p211 : 0≤(x9_2 : Int):=of_decide_eq_true (by first|(with_reducible assumption)|assumption)
              have q211 : x9_2 < (x5_1.length : Int):=of_decide_eq_true (by first|(with_reducible assumption)|assumption)
              obtain ⟨ad211,A211_0,c211_0,e211,hx211_0,hl211_0,hi211_0⟩:=at_L5 (Kd.N_reads' HO_5.out).2.2 x9_2 p211 q211
              cases e211
              obtain ⟨ce211,hce211,hMe211,hcc211⟩:=Kd.N_get HO_5.out [] x9_2 p211 (by first|exact q211|exact of_decide_eq_true (by first|(with_reducible assumption)|assumption)|(have e_:=(Kd.N_reads' HO_5.out).1;omega))
              obtain ⟨ua211_0,uc211_0,rfl,ul211_0,ge211_0⟩:=Kd.FK_slice_open hMe211
              have hv211_0:=hcc211 0 _ rfl
              rw [Nat.add_zero,show ((Kd.slice 45 k45)).sz=1 from rfl,Nat.mul_one] at hv211_0
              replace hv211_0:=Option.some.inj (hv211_0.symm.trans hx211_0)
              injection hv211_0 with hva_ hvn_ hvc_
              rw [hva_] at ge211_0
              rw [hvc_] at ul211_0
              have HL211_0:=Aside0.mk (show Kd.V k45 45 _ w.heap.size _ _ (rd_L5 x5_1 x9_2) from Kd.V_mk ul211_0 ge211_0)
              clear hva_ hvn_ hvc_ ge211_0 ul211_0
              clear hcc211 hce211
              have HR211_0:=Aside0.mk hi211_0
              have HC211_0:=Aside0.mk hl211_0
              clear hi211_0 hl211_0
              replace p211:=eq_true p211
              replace q211:=eq_true q211
              have p212 : 0≤(x6_1 : Int):=of_decide_eq_true (by first|(with_reducible assumption)|assumption)
              have q212 : x6_1 < (l1.length : Int):=of_decide_eq_true (by first|(with_reducible assumption)|assumption)
              obtain ⟨ad212,A212_0,c212_0,e212,hx212_0,hl212_0,hi212_0⟩:=at_L5 (Kd.V_reads' HO_1.out).2.2 x6_1 p212 q212
              cases e212
              obtain ⟨ce212,hce212,hMe212,hcc212⟩:=Kd.V_get HO_1.out [] x6_1 p212 (by first|exact q212|exact of_decide_eq_true (by first|(with_reducible assumption)|assumption)|(have e_:=(Kd.V_reads' HO_1.out).1;omega))
              obtain ⟨ua212_0,uc212_0,rfl,ul212_0,ge212_0⟩:=Kd.FK_slice_open hMe212
              have hv212_0:=hcc212 0 _ rfl
              rw [Nat.add_zero,show ((Kd.slice 45 k45)).sz=1 from rfl,Nat.mul_one] at hv212_0
              replace hv212_0:=Option.some.inj (hv212_0.symm.trans hx212_0)
              injection hv212_0 with hva_ hvn_ hvc_
              rw [hva_] at ge212_0
              rw [hvc_] at ul212_0
              have HL212_0:=Aside0.mk (show Kd.V k45 45 _ w.heap.size _ _ (rd_L5 l1 x6_1) from Kd.V_mk ul212_0 ge212_0)
              clear hva_ hvn_ hvc_ ge212_0 ul212_0
              clear hcc212 hce212
              have HR212_0:=Aside0.mk hi212_0
              have HC212_0:=Aside0.mk hl212_0
              clear hi212_0 hl212_0
              replace p212:=eq_true p212
              replace q212:=eq_true q212
              refine start_ (n:=15) (S:=fun w'=>w'.cell? ⟨gb204,0,none⟩=some (.slice A0_0 l0_0.length c0_0)∧w'.cell? ⟨gb204,1,none⟩=some (.int .i64 a0_1)∧w'.cell? ⟨gb204,2,none⟩=some (.int .i64 a0_2)∧w'.cell? ⟨gb204,3,none⟩=some (.int .i64 a0_3)∧w'.cell? (ad211.add (x9_2).toNat)=some (.slice A211_0 (rd_L5 x5_1 x9_2).length c211_0)∧w'.cell? (ad212.add (x6_1).toNat)=some (.slice A212_0 (rd_L5 l1 x6_1).length c212_0)) (ds:=[]) #[false,false,false,false,false,false,false,false,false,false,false,false,false,false,false] (by kernel_rfl) rfl rfl ⟨(blk_cell BK204.out 0).trans rfl,(blk_cell BK204.out 1).trans rfl,(blk_cell BK204.out 2).trans rfl,(blk_cell BK204.out 3).trans rfl,hx211_0,hx212_0⟩ (fun hHeld=>?_);refine with_tabW thresherref09_Sort.tab10 thresherref09_Sort.bits10 (fun HT_ HW_=>?_)
              generalize wr.drew=w24 at HO_1 HO_5 HO_7 BK204 HB HL211_0 HL212_0 HR211_0 HR212_0 hx211_0 hx212_0 hHeld ⊢
              refine pure_ (i:=0) (N:=some 24) (v:=?_) (a':=?_) #[true,false,false,false,false,false,false,false,false,false,false,false,false,false,false] rfl rfl (any_of HT_.out (by kernel_rfl)) (fun _ _ _ h=>h) (Or.inl ⟨by rfl,?_⟩) ?_ ?_
              rotate_left;(intro w';go_simp;with_reducible rfl);rotate_left;(simp only [Act.put,List.setIfInBounds_toArray,List.set_cons_zero,List.set_cons_succ,i64_w,i32_w];rfl)
              refine pure_ (i:=1) (N:=some 25) (v:=?_) (a':=?_) #[true,true,false,false,false,false,false,false,false,false,false,false,false,false,false] rfl rfl (any_of HT_.out (by kernel_rfl)) (fun _ _ _ h=>h) (Or.inl ⟨by rfl,?_⟩) ?_ ?_
              rotate_left;(intro w';go_simp;with_reducible rfl);rotate_left;(simp only [Act.put,List.setIfInBounds_toArray,List.set_cons_zero,List.set_cons_succ,i64_w,i32_w];rfl)
              refine pure_ (i:=2) (N:=some 26) (v:=?_) (a':=?_) #[true,true,true,false,false,false,false,false,false,false,false,false,false,false,false] rfl rfl (any_of HT_.out (by kernel_rfl)) (fun _ _ _ h=>h) (Or.inl ⟨by rfl,?_⟩) ?_ ?_
              rotate_left;(intro w';go_simp;with_reducible rfl);rotate_left;(simp only [Act.put,List.setIfInBounds_toArray,List.set_cons_zero,List.set_cons_succ,i64_w,i32_w];rfl)
              refine pure_ (i:=4) (N:=some 28) (v:=?_) (a':=?_) #[true,true,true,false,true,false,false,false,false,false,false,false,false,false,false] rfl rfl (any_of HT_.out (by kernel_rfl)) (fun _ _ _ h=>h) (Or.inl ⟨by rfl,?_⟩) ?_ ?_
              rotate_left;(intro w';go_simp;with_reducible rfl);rotate_left;(simp only [Act.put,List.setIfInBounds_toArray,List.set_cons_zero,List.set_cons_succ,i64_w,i32_w];rfl)
              refine pure_ (i:=5) (N:=some 29) (v:=?_) (a':=?_) #[true,true,true,false,true,true,false,false,false,false,false,false,false,false,false] rfl rfl (any_of HT_.out (by kernel_rfl)) (fun _ _ _ h=>h) (Or.inl ⟨by rfl,?_⟩) ?_ ?_
              rotate_left;(intro w';go_simp;with_reducible rfl);rotate_left;(simp only [Act.put,List.setIfInBounds_toArray,List.set_cons_zero,List.set_cons_succ,i64_w,i32_w];rfl)
              refine pure_ (i:=6) (N:=some 30) (v:=?_) (a':=?_) #[true,true,true,false,true,true,true,false,false,false,false,false,false,false,false] rfl rfl (any_of HT_.out (by kernel_rfl)) (fun _ _ _ h=>h) (Or.inl ⟨by rfl,?_⟩) ?_ ?_
              rotate_left;(intro w';go_simp;with_reducible rfl);rotate_left;(simp only [Act.put,List.setIfInBounds_toArray,List.set_cons_zero,List.set_cons_succ,i64_w,i32_w];rfl)
              refine pure_ (i:=8) (N:=some 32) (v:=?_) (a':=?_) #[true,true,true,false,true,true,true,false,true,false,false,false,false,false,false] rfl rfl (any_of HT_.out (by kernel_rfl)) (fun _ _ _ h=>h) (Or.inl ⟨by rfl,?_⟩) ?_ ?_
              rotate_left;(intro w';go_simp;with_reducible rfl);rotate_left;(simp only [Act.put,List.setIfInBounds_toArray,List.set_cons_zero,List.set_cons_succ,i64_w,i32_w];rfl)
              refine pure_ (i:=9) (N:=some 33) (v:=?_) (a':=?_) #[true,true,true,false,true,true,true,false,true,true,false,false,false,false,false] rfl rfl (any_of HT_.out (by kernel_rfl)) (fun _ _ _ h=>h) (Or.inl ⟨by rfl,?_⟩) ?_ ?_
              rotate_left;(intro w';go_simp;with_reducible rfl);rotate_left;(simp only [Act.put,List.setIfInBounds_toArray,List.set_cons_zero,List.set_cons_succ,i64_w,i32_w];rfl)
              refine pure_ (i:=10) (N:=some 34) (v:=?_) (a':=?_) #[true,true,true,false,true,true,true,false,true,true,true,false,false,false,false] rfl rfl (any_of HT_.out (by kernel_rfl)) (fun _ _ _ h=>h) (Or.inl ⟨by rfl,?_⟩) ?_ ?_
              rotate_left;(intro w';go_simp;with_reducible rfl);rotate_left;(simp only [Act.put,List.setIfInBounds_toArray,List.set_cons_zero,List.set_cons_succ,i64_w,i32_w];rfl)
              refine take_ (i:=3) (N:=some 27) (v:=?_) (a':=?_) #[true,true,true,true,true,true,true,false,true,true,true,false,false,false,false] rfl rfl (take_ofW HT_.out HW_.out (by kernel_rfl)) (fun _ _ _ h=>h) (Or.inl ⟨by rfl,?_⟩) hHeld ?_ ?_
              rotate_left;(rintro w' ⟨s0,s1,s2,s3,s4,s5⟩;go_simp;with_reducible rfl);rotate_left;(simp only [Act.put,List.setIfInBounds_toArray,List.set_cons_zero,List.set_cons_succ,i64_w,i32_w];rfl)
              refine take_ (i:=7) (N:=some 31) (v:=?_) (a':=?_) #[true,true,true,true,true,true,true,true,true,true,true,false,false,false,false] rfl rfl (take_ofW HT_.out HW_.out (by kernel_rfl)) (fun _ _ _ h=>h) (Or.inl ⟨by rfl,?_⟩) hHeld ?_ ?_
              rotate_left;(rintro w' ⟨s0,s1,s2,s3,s4,s5⟩;go_simp;with_reducible rfl);rotate_left;(simp only [Act.put,List.setIfInBounds_toArray,List.set_cons_zero,List.set_cons_succ,i64_w,i32_w];rfl)
              refine take_ (i:=11) (N:=some 35) (v:=?_) (a':=?_) #[true,true,true,true,true,true,true,true,true,true,true,true,false,false,false] rfl rfl (take_ofW HT_.out HW_.out (by kernel_rfl)) (fun _ _ _ h=>h) (Or.inl ⟨by rfl,?_⟩) hHeld ?_ ?_
              rotate_left;(rintro w' ⟨s0,s1,s2,s3,s4,s5⟩;go_simp;with_reducible rfl);rotate_left;(simp only [Act.put,List.setIfInBounds_toArray,List.set_cons_zero,List.set_cons_succ,i64_w,i32_w];rfl)
              refine one_ (i:=12) (N:=some 36) #[true,true,true,true,true,true,true,true,true,true,true,true,true,false,false] rfl rfl (one_of HT_.out (by kernel_rfl)) (by decide) (fun K hK=>?_)
              refine goes_ Try.func15 (by kernel_rfl) rfl #[.agg #[.slice A0_0 l0_0.length c0_0,.int .i64 a0_1,.int .i64 a0_2,.int .i64 a0_3],.slice A211_0 (rd_L5 x5_1 x9_2).length c211_0,.slice A212_0 (rd_L5 l1 x6_1).length c212_0] (by rfl) rfl rfl (by (try simp only [List.map_toArray,List.map_cons,List.map_nil]);first|done|rfl|(simp only [List.length_drop,List.length_take];rfl)) ?_
              with_reducible refine (thresherref04_Compare.calls k2 _ _ l0_0 a0_1 a0_2 a0_3 _ _ (rd_L5 x5_1 x9_2) _ _ (rd_L5 l1 x6_1) t213 _ ?side1 ?side2 ?side3 ?side4 ?side5 ?side6 A19.out).mono ?_
              (case side1=>repeat (first|exact (Kd.C_below HR0_0.out HB.out)|(with_reducible refine Kd.C_alloc ?_ _)|(with_reducible refine Kd.C_drewN ?_ _)|(with_reducible refine Kd.C_drew ?_)))
              (case side2=>exact HC0_0.out)
              (case side3=>repeat (first|exact (by repeat (first|(with_reducible exact HR211_0.out)|(with_reducible refine Kd.C_alloc ?_ _)|(with_reducible refine Kd.C_drewN ?_ _)|(with_reducible refine Kd.C_drew ?_)|exact HR211_0.out))|(with_reducible refine Kd.C_alloc ?_ _)|(with_reducible refine Kd.C_drewN ?_ _)|(with_reducible refine Kd.C_drew ?_)))
              (case side4=>exact HC211_0.out)
              (case side5=>repeat (first|exact (by repeat (first|(with_reducible exact HR212_0.out)|(with_reducible refine Kd.C_alloc ?_ _)|(with_reducible refine Kd.C_drewN ?_ _)|(with_reducible refine Kd.C_drew ?_)|exact HR212_0.out))|(with_reducible refine Kd.C_alloc ?_ _)|(with_reducible refine Kd.C_drewN ?_ _)|(with_reducible refine Kd.C_drew ?_)))
              (case side6=>exact HC212_0.out)
              rintro e w25 ⟨rfl,hb⟩
              have HS4_:=(hb.cell (World.block_lt_of_cell? _ _ (hHeld.2.2.2.2.1))).trans (hHeld.2.2.2.2.1)
              have HS5_:=(hb.cell (World.block_lt_of_cell? _ _ (hHeld.2.2.2.2.2))).trans (hHeld.2.2.2.2.2)
              refine ⟨_,rfl,?_⟩
              have n0_:=Aside0.mk (Kd.V_below (by (with_reducible repeat (first|apply Kd.V_alloc|apply Kd.V_drewN|apply Kd.V_drew));exact HO_1.out) hb)
              have n1_:=Aside0.mk (Kd.N_below (by (with_reducible repeat (first|apply Kd.N_alloc|apply Kd.N_drewN|apply Kd.N_drew));exact HO_5.out) hb)
              have n2_:=Aside0.mk (Kd.N_below (by (with_reducible repeat (first|apply Kd.N_alloc|apply Kd.N_drewN|apply Kd.N_drew));exact HO_7.out) hb)
              have n3_:=Aside0.mk (Kd.V_below (by (with_reducible repeat (first|apply Kd.V_alloc|apply Kd.V_drewN|apply Kd.V_drew));exact HL211_0.out) hb)
              have n4_:=Aside0.mk (Kd.V_below (by (with_reducible repeat (first|apply Kd.V_alloc|apply Kd.V_drewN|apply Kd.V_drew));exact HL212_0.out) hb)
              have n5_:=Aside0.mk (blk_below (g:=gb204) (o:=.cells #[.slice A0_0 l0_0.length c0_0,.int .i64 a0_1,.int .i64 a0_2,.int .i64 a0_3] 29 (0,0)) (by (with_reducible repeat (first|refine blk_drewN ?_ _|refine blk_drew ?_|refine blk_alloc ?_ _));exact BK204.out) hb)
              have n6_:=Aside0.mk (Kd.C_below (by repeat (first|(with_reducible exact HR211_0.out)|(with_reducible refine Kd.C_alloc ?_ _)|(with_reducible refine Kd.C_drewN ?_ _)|(with_reducible refine Kd.C_drew ?_)|exact HR211_0.out)) hb)
              have n7_:=Aside0.mk (Kd.C_below (by repeat (first|(with_reducible exact HR212_0.out)|(with_reducible refine Kd.C_alloc ?_ _)|(with_reducible refine Kd.C_drewN ?_ _)|(with_reducible refine Kd.C_drew ?_)|exact HR212_0.out)) hb)
              have n8_:=Aside0.mk (below_step (by repeat (first|(with_reducible first|exact HB.out|apply below_alloc|apply pw_below_drewN|apply below_drew1|refine below_set ?_ GE204.out)|exact HB.out)) hb)
              clear HO_1
              clear HO_5
              clear HO_7
              clear HL211_0
              clear HL212_0
              clear BK204
              clear HR211_0
              clear HR212_0
              clear HB
              have HO_1:=n0_
              have HO_5:=n1_
              have HO_7:=n2_
              have HL211_0:=n3_
              have HL212_0:=n4_
              have BK204:=n5_
              have HR211_0:=n6_
              have HR212_0:=n7_
              have HB:=n8_
              clear n0_ n1_ n2_ n3_ n4_ n5_ n6_ n7_ n8_
              (try clear hb)
              (try clear hb2)
              (try clear hk)
              (try clear hi)
              refine hK.out _ _ ⟨(blk_cell BK204.out 0).trans rfl,(blk_cell BK204.out 1).trans rfl,(blk_cell BK204.out 2).trans rfl,(blk_cell BK204.out 3).trans rfl,HS4_,HS5_⟩ (fun hHeld=>?_)
              clear hK K
              refine norm_ (a':=?_) ?_ ?_
              rotate_left
              ·show Act.put _ (some 36) _=_
               simp only [Act.put,List.setIfInBounds_toArray,List.set_cons_zero,List.set_cons_succ,i64_w,i32_w]
               rfl
              refine pure_ (i:=13) (N:=some 37) (v:=?_) (a':=?_) #[true,true,true,true,true,true,true,true,true,true,true,true,true,true,false] rfl rfl (any_of HT_.out (by kernel_rfl)) (fun _ _ _ h=>h) (Or.inl ⟨by rfl,?_⟩) ?_ ?_
              rotate_left;(intro w';go_simp;with_reducible rfl);rotate_left;(simp only [Act.put,List.setIfInBounds_toArray,List.set_cons_zero,List.set_cons_succ,i64_w,i32_w];rfl)
              refine pure_ (i:=14) (N:=some 38) (v:=?_) (a':=?_) #[true,true,true,true,true,true,true,true,true,true,true,true,true,true,true] rfl rfl (any_of HT_.out (by kernel_rfl)) (fun _ _ _ h=>h) (Or.inl ⟨by rfl,?_⟩) ?_ ?_
              rotate_left;(intro w';go_simp;with_reducible rfl);rotate_left;(simp only [Act.put,List.setIfInBounds_toArray,List.set_cons_zero,List.set_cons_succ,i64_w,i32_w];rfl)
              refine done_ (done_of HT_.out (by kernel_rfl)) ?_
              (try clear HS4_);(try clear HS5_);(try clear hHeld)
              have p218 : 0≤(x6_1 : Int):=of_decide_eq_true (by first|(with_reducible assumption)|assumption)
              have q218 : x6_1 < (l1.length : Int):=of_decide_eq_true (by first|(with_reducible assumption)|assumption)
              obtain ⟨ad218,A218_0,c218_0,e218,hx218_0,hl218_0,hi218_0⟩:=at_L5 (Kd.V_reads' HO_1.out).2.2 x6_1 p218 q218
              obtain rfl : ad212=ad218:=(by injection e218)
              obtain ⟨ce218,hce218,hMe218,hcc218⟩:=Kd.V_get HO_1.out [] x6_1 p218 (by first|exact q218|exact of_decide_eq_true (by first|(with_reducible assumption)|assumption)|(have e_:=(Kd.V_reads' HO_1.out).1;omega))
              obtain ⟨ua218_0,uc218_0,rfl,ul218_0,ge218_0⟩:=Kd.FK_slice_open hMe218
              have hv218_0:=hcc218 0 _ rfl
              rw [Nat.add_zero,show ((Kd.slice 45 k45)).sz=1 from rfl,Nat.mul_one] at hv218_0
              replace hv218_0:=Option.some.inj (hv218_0.symm.trans hx218_0)
              injection hv218_0 with hva_ hvn_ hvc_
              rw [hva_] at ge218_0
              rw [hvc_] at ul218_0
              have HL218_0:=Aside0.mk (show Kd.V k45 45 _ w.heap.size _ _ (rd_L5 l1 x6_1) from Kd.V_mk ul218_0 ge218_0)
              clear hva_ hvn_ hvc_ ge218_0 ul218_0
              clear hcc218 hce218
              have HR218_0:=Aside0.mk hi218_0
              have HC218_0:=Aside0.mk hl218_0
              clear hi218_0 hl218_0
              replace p218:=eq_true p218
              replace q218:=eq_true q218
              try go_wp2_with (first|((with_reducible refine gate_builtin (b:=.append) (xs:=#[.tmp 39,.tmp 44]) rfl ?_);at_builtin;refine Kd.N_append (Kd.slice 45 k45) (w0:=w) w.heap.size rfl (.tmp 39) (.tmp 44) 25 36 (.slice none 0 0) 24 rfl Try.underlying25 info36 rfl (by decide) (by omega) u7 x7_2 (rd_L5 l1 x6_1) [.slice A218_0 (rd_L5 l1 x6_1).length c218_0] (fun k_=>(P1_ k_ ∨ w.heap.size≤k_)∧some k_≠(.slice (some ad211) x5_1.length co23 : Value).ownBlock∧k_≠gb204) (fun k_=>((fun k_=>(P1_ k_ ∨ w.heap.size≤k_)∧some k_≠(.slice (some ad211) x5_1.length co23 : Value).ownBlock∧k_≠gb204)) k_∧some k_≠(u7 : Value).ownBlock) rfl rfl ?aP (fun _ hk=>hk) ?aF ?aO ?aB ?aS ?aL ?_;(case aP=>exact (Kd.FK_slice_mk (Kd.V_reads' (Kd.V_mono (ok':=(fun k_=>((fun k_=>(P1_ k_ ∨ w.heap.size≤k_)∧some k_≠(.slice (some ad211) x5_1.length co23 : Value).ownBlock∧k_≠gb204)) k_∧some k_≠(u7 : Value).ownBlock)) (HL218_0.out) (fun k_ hk=>⟨⟨hk.1,⟨hk.2.1,hk.2.2.2⟩⟩,hk.2.2.1⟩))).2.1 (Kd.V_F (Kd.V_mono (ok':=(fun k_=>((fun k_=>(P1_ k_ ∨ w.heap.size≤k_)∧some k_≠(.slice (some ad211) x5_1.length co23 : Value).ownBlock∧k_≠gb204)) k_∧some k_≠(u7 : Value).ownBlock)) (HL218_0.out) (fun k_ hk=>⟨⟨hk.1,⟨hk.2.1,hk.2.2.2⟩⟩,hk.2.2.1⟩)))));(case aB=>exact (by repeat (first|(with_reducible first|exact HB.out|apply below_alloc|apply pw_below_drewN|apply below_drew1|refine below_set ?_ GE204.out)|exact HB.out)));(case aF=>exact (fun k_ hk=>⟨(.inr (Nat.le_trans (below_size (by repeat (first|(with_reducible first|exact HB.out|apply below_alloc|apply pw_below_drewN|apply below_drew1|refine below_set ?_ GE204.out)|exact HB.out))) hk)),Kd.fresh' (Kd.N_lt (by (with_reducible repeat (first|apply Kd.N_alloc|apply Kd.N_drewN|apply Kd.N_drew));exact HO_5.out)) k_ hk,Kd.freshB (g:=gb204) (o:=.cells #[.slice A0_0 l0_0.length c0_0,.int .i64 a0_1,.int .i64 a0_2,.int .i64 a0_3] 29 (0,0)) (by (with_reducible repeat (first|refine blk_drewN ?_ _|refine blk_drew ?_|refine blk_alloc ?_ _));exact BK204.out) k_ hk⟩));(case aO=>exact (by (with_reducible repeat (first|apply Kd.N_alloc|apply Kd.N_drewN|apply Kd.N_drew));exact HO_7.out));(case aS=>exact (below_size (by repeat (first|(with_reducible first|exact HB.out|apply below_alloc|apply pw_below_drewN|apply below_drew1|refine below_set ?_ GE204.out)|exact HB.out))));(case aL=>have:=LMc21.out;omega);intro v220 w26 ho hb hg hat;rw [← Ny219.out] at ho;have n0_:=Aside0.mk (Kd.V_afterv (ok:=(fun k_=>(P1_ k_ ∨ w.heap.size≤k_)∧some k_≠(.slice (some ad211) x5_1.length co23 : Value).ownBlock∧k_≠gb204)) (by (with_reducible repeat (first|apply Kd.V_alloc|apply Kd.V_drewN|apply Kd.V_drew));exact Kd.V_mono HO_1.out (fun _ hk=>⟨⟨hk.1,⟨hk.2.1,hk.2.2.2⟩⟩,hk.2.2.1⟩)) hg hat);have n1_:=Aside0.mk (Kd.N_afterv (ok:=(fun k_=>(P1_ k_ ∨ w.heap.size≤k_)∧k_≠gb204)) (by (with_reducible repeat (first|apply Kd.N_alloc|apply Kd.N_drewN|apply Kd.N_drew));exact Kd.N_mono HO_5.out (fun _ hk=>⟨⟨hk.1,hk.2.2⟩,hk.2.1⟩)) hg hat);have n2_:=Aside0.mk (blk_grown (g:=gb204) (o:=.cells #[.slice A0_0 l0_0.length c0_0,.int .i64 a0_1,.int .i64 a0_2,.int .i64 a0_3] 29 (0,0)) (by (with_reducible repeat (first|refine blk_drewN ?_ _|refine blk_drew ?_|refine blk_alloc ?_ _));exact BK204.out) hg (Kd.N_ne HO_7.out BK204.out (by decide)));have n3_:=Aside0.mk (Kd.V_afterv (ok:=(fun k_=>(P1_ k_ ∨ w.heap.size≤k_)∧some k_≠(.slice (some ad211) x5_1.length co23 : Value).ownBlock∧k_≠gb204)) (by (with_reducible repeat (first|apply Kd.V_alloc|apply Kd.V_drewN|apply Kd.V_drew));exact Kd.V_mono HL211_0.out (fun _ hk=>⟨⟨hk.1.1,⟨hk.2,hk.1.2.2⟩⟩,hk.1.2.1⟩)) hg hat);have n4_:=Aside0.mk (Kd.V_afterv (ok:=(fun k_=>(P1_ k_ ∨ w.heap.size≤k_)∧some k_≠(.slice (some ad211) x5_1.length co23 : Value).ownBlock∧k_≠gb204)) (by (with_reducible repeat (first|apply Kd.V_alloc|apply Kd.V_drewN|apply Kd.V_drew));exact Kd.V_mono HL212_0.out (fun _ hk=>⟨⟨hk.1,⟨hk.2.1,hk.2.2.2⟩⟩,hk.2.2.1⟩)) hg hat);have n5_:=Aside0.mk (Kd.V_afterv (ok:=(fun k_=>(P1_ k_ ∨ w.heap.size≤k_)∧some k_≠(.slice (some ad211) x5_1.length co23 : Value).ownBlock∧k_≠gb204)) (by (with_reducible repeat (first|apply Kd.V_alloc|apply Kd.V_drewN|apply Kd.V_drew));exact Kd.V_mono HL218_0.out (fun _ hk=>⟨⟨hk.1,⟨hk.2.1,hk.2.2.2⟩⟩,hk.2.2.1⟩)) hg hat);have n6_:=Aside0.mk (hb);have n7_:=Aside0.mk (ho);clear HO_1;clear HO_5;clear BK204;clear HL211_0;clear HL212_0;clear HL218_0;clear HB;clear HO_7;have HO_1:=n0_;have HO_5:=n1_;have BK204:=n2_;have HL211_0:=n3_;have HL212_0:=n4_;have HL218_0:=n5_;have HB:=n6_;have HO221:=n7_;clear n0_ n1_ n2_ n3_ n4_ n5_ n6_ n7_;clear ho hb hg hat;have p222 : 0≤(x9_2 : Int):=of_decide_eq_true (by first|(with_reducible assumption)|assumption);have q222 : x9_2 < (x5_1.length : Int):=of_decide_eq_true (by first|(with_reducible assumption)|assumption);obtain ⟨ad222,A222_0,c222_0,e222,hx222_0,hl222_0,hi222_0⟩:=at_L5 (Kd.N_reads' HO_5.out).2.2 x9_2 p222 q222;obtain rfl : ad211=ad222:=(by injection e222);obtain ⟨ce222,hce222,hMe222,hcc222⟩:=Kd.N_get HO_5.out [] x9_2 p222 (by first|exact q222|exact of_decide_eq_true (by first|(with_reducible assumption)|assumption)|(have e_:=(Kd.N_reads' HO_5.out).1;omega));obtain ⟨ua222_0,uc222_0,rfl,ul222_0,ge222_0⟩:=Kd.FK_slice_open hMe222;have hv222_0:=hcc222 0 _ rfl;rw [Nat.add_zero,show ((Kd.slice 45 k45)).sz=1 from rfl,Nat.mul_one] at hv222_0;replace hv222_0:=Option.some.inj (hv222_0.symm.trans hx222_0);injection hv222_0 with hva_ hvn_ hvc_;rw [hva_] at ge222_0;rw [hvc_] at ul222_0;have HL222_0:=Aside0.mk (show Kd.V k45 45 _ w.heap.size _ _ (rd_L5 x5_1 x9_2) from Kd.V_mk ul222_0 ge222_0);clear hva_ hvn_ hvc_ ge222_0 ul222_0;clear hcc222 hce222;have HR222_0:=Aside0.mk hi222_0;have HC222_0:=Aside0.mk hl222_0;clear hi222_0 hl222_0;replace p222:=eq_true p222;replace q222:=eq_true q222)|((with_reducible refine gate_builtin (b:=.append) (xs:=#[.tmp 46,.tmp 51]) rfl ?_);at_builtin;refine Kd.N_append (Kd.slice 45 k45) (w0:=w) w.heap.size rfl (.tmp 46) (.tmp 51) 25 36 (.slice none 0 0) 24 rfl Try.underlying25 info36 rfl (by decide) (by omega) v220 y219 (rd_L5 x5_1 x9_2) [.slice A222_0 (rd_L5 x5_1 x9_2).length c222_0] (fun k_=>(P1_ k_ ∨ w.heap.size≤k_)∧some k_≠(.slice (some ad211) x5_1.length co23 : Value).ownBlock∧k_≠gb204) (fun k_=>((fun k_=>(P1_ k_ ∨ w.heap.size≤k_)∧some k_≠(.slice (some ad211) x5_1.length co23 : Value).ownBlock∧k_≠gb204)) k_∧some k_≠(v220 : Value).ownBlock) rfl rfl ?aP (fun _ hk=>hk) ?aF ?aO ?aB ?aS ?aL ?_;(case aP=>exact (Kd.FK_slice_mk (Kd.V_reads' (Kd.V_mono (ok':=(fun k_=>((fun k_=>(P1_ k_ ∨ w.heap.size≤k_)∧some k_≠(.slice (some ad211) x5_1.length co23 : Value).ownBlock∧k_≠gb204)) k_∧some k_≠(v220 : Value).ownBlock)) (HL222_0.out) (fun k_ hk=>⟨⟨hk.1.1.1,⟨hk.2,hk.1.1.2⟩⟩,hk.1.2⟩))).2.1 (Kd.V_F (Kd.V_mono (ok':=(fun k_=>((fun k_=>(P1_ k_ ∨ w.heap.size≤k_)∧some k_≠(.slice (some ad211) x5_1.length co23 : Value).ownBlock∧k_≠gb204)) k_∧some k_≠(v220 : Value).ownBlock)) (HL222_0.out) (fun k_ hk=>⟨⟨hk.1.1.1,⟨hk.2,hk.1.1.2⟩⟩,hk.1.2⟩)))));(case aB=>exact (by repeat (first|(with_reducible first|exact HB.out|apply below_alloc|apply pw_below_drewN|apply below_drew1|refine below_set ?_ GE204.out)|exact HB.out)));(case aF=>exact (fun k_ hk=>⟨(.inr (Nat.le_trans (below_size (by repeat (first|(with_reducible first|exact HB.out|apply below_alloc|apply pw_below_drewN|apply below_drew1|refine below_set ?_ GE204.out)|exact HB.out))) hk)),Kd.fresh' (Kd.N_lt (by (with_reducible repeat (first|apply Kd.N_alloc|apply Kd.N_drewN|apply Kd.N_drew));exact HO_5.out)) k_ hk,Kd.freshB (g:=gb204) (o:=.cells #[.slice A0_0 l0_0.length c0_0,.int .i64 a0_1,.int .i64 a0_2,.int .i64 a0_3] 29 (0,0)) (by (with_reducible repeat (first|refine blk_drewN ?_ _|refine blk_drew ?_|refine blk_alloc ?_ _));exact BK204.out) k_ hk⟩));(case aO=>exact (by (with_reducible repeat (first|apply Kd.N_alloc|apply Kd.N_drewN|apply Kd.N_drew));exact HO221.out));(case aS=>exact (below_size (by repeat (first|(with_reducible first|exact HB.out|apply below_alloc|apply pw_below_drewN|apply below_drew1|refine below_set ?_ GE204.out)|exact HB.out))));(case aL=>have:=LMc22.out;omega);intro v224 w27 ho hb hg hat;rw [← Ny223.out] at ho;have n0_:=Aside0.mk (Kd.V_afterv (ok:=(fun k_=>(P1_ k_ ∨ w.heap.size≤k_)∧some k_≠(.slice (some ad211) x5_1.length co23 : Value).ownBlock∧k_≠gb204)) (by (with_reducible repeat (first|apply Kd.V_alloc|apply Kd.V_drewN|apply Kd.V_drew));exact HO_1.out) hg hat);have n1_:=Aside0.mk (Kd.N_afterv (ok:=(fun k_=>(P1_ k_ ∨ w.heap.size≤k_)∧k_≠gb204)) (by (with_reducible repeat (first|apply Kd.N_alloc|apply Kd.N_drewN|apply Kd.N_drew));exact HO_5.out) hg hat);have n2_:=Aside0.mk (blk_grown (g:=gb204) (o:=.cells #[.slice A0_0 l0_0.length c0_0,.int .i64 a0_1,.int .i64 a0_2,.int .i64 a0_3] 29 (0,0)) (by (with_reducible repeat (first|refine blk_drewN ?_ _|refine blk_drew ?_|refine blk_alloc ?_ _));exact BK204.out) hg (Kd.N_ne HO221.out BK204.out (by decide)));have n3_:=Aside0.mk (Kd.V_afterv (ok:=(fun k_=>(P1_ k_ ∨ w.heap.size≤k_)∧some k_≠(.slice (some ad211) x5_1.length co23 : Value).ownBlock∧k_≠gb204)) (by (with_reducible repeat (first|apply Kd.V_alloc|apply Kd.V_drewN|apply Kd.V_drew));exact HL211_0.out) hg hat);have n4_:=Aside0.mk (Kd.V_afterv (ok:=(fun k_=>(P1_ k_ ∨ w.heap.size≤k_)∧some k_≠(.slice (some ad211) x5_1.length co23 : Value).ownBlock∧k_≠gb204)) (by (with_reducible repeat (first|apply Kd.V_alloc|apply Kd.V_drewN|apply Kd.V_drew));exact HL212_0.out) hg hat);have n5_:=Aside0.mk (Kd.V_afterv (ok:=(fun k_=>(P1_ k_ ∨ w.heap.size≤k_)∧some k_≠(.slice (some ad211) x5_1.length co23 : Value).ownBlock∧k_≠gb204)) (by (with_reducible repeat (first|apply Kd.V_alloc|apply Kd.V_drewN|apply Kd.V_drew));exact HL218_0.out) hg hat);have n6_:=Aside0.mk (Kd.V_afterv (ok:=(fun k_=>(P1_ k_ ∨ w.heap.size≤k_)∧some k_≠(.slice (some ad211) x5_1.length co23 : Value).ownBlock∧k_≠gb204)) (by (with_reducible repeat (first|apply Kd.V_alloc|apply Kd.V_drewN|apply Kd.V_drew));exact Kd.V_mono HL222_0.out (fun _ hk=>⟨⟨hk.1.1.1,⟨hk.2,hk.1.1.2⟩⟩,hk.1.2⟩)) hg hat);have n7_:=Aside0.mk (hb);have n8_:=Aside0.mk (ho);clear HO_1;clear HO_5;clear BK204;clear HL211_0;clear HL212_0;clear HL218_0;clear HL222_0;clear HB;clear HO221;have HO_1:=n0_;have HO_5:=n1_;have BK204:=n2_;have HL211_0:=n3_;have HL212_0:=n4_;have HL218_0:=n5_;have HL222_0:=n6_;have HB:=n7_;have HO225:=n8_;clear n0_ n1_ n2_ n3_ n4_ n5_ n6_ n7_ n8_;clear ho hb hg hat))
              go_roundg k2
              case measure=>have:=HK1.out;have:=HK2.out;omega
              case rel=>exact ⟨(y223),(true),(wrap64 (x9_2 + 1)),(by first|rfl|(simp;done)|(simp [*];done)),(by first|rfl|(simp;done)|(simp [*];done)),(by first|exact H'|(subst_vars;exact H')),⟨by have:=HK1.out;have:=HK2.out;omega⟩,⟨by (with_reducible repeat (first|apply Kd.V_alloc|apply Kd.V_drewN|apply Kd.V_drew));exact Kd.V_mono HO_1.out (fun _ hk=>⟨hk.1.1,⟨hk.1.2.1,⟨hk.2,hk.1.2.2⟩⟩⟩)⟩,⟨by (with_reducible repeat (first|apply Kd.N_alloc|apply Kd.N_drewN|apply Kd.N_drew));exact Kd.N_mono HO_5.out (fun _ hk=>⟨hk.1.1,⟨hk.2,hk.1.2⟩⟩)⟩,⟨by (with_reducible repeat (first|apply Kd.N_alloc|apply Kd.N_drewN|apply Kd.N_drew));exact HO225.out⟩,⟨by (with_reducible repeat (first|refine blk_drewN ?_ _|refine blk_drew ?_|refine blk_alloc ?_ _));exact BK204.out⟩,⟨by repeat (first|(with_reducible first|exact HB.out|apply below_alloc|apply pw_below_drewN|apply below_drew1|refine below_set ?_ GE204.out)|exact HB.out)⟩⟩
             ·rw [if_neg c22] at H
              exact absurd H (by simp)
            ·rw [if_neg c21] at H
             exact absurd H (by simp)
           ·rw [if_neg c20] at H
            have c20b0 : decide (0 < t213)=false:=decide_eq_false c20
            clear c20
            by_cases c28 : x7_2.length < 5864062014805
            ·rw [if_pos c28] at H
             have LMc28:=Aside0.mk c28
             clear c28
             obtain ⟨y227,hy227⟩ : ∃ y_ : List (List (S45)),y_=(x7_2 ++ [rd_L5 x5_1 x9_2]):=⟨_,rfl⟩
             replace H : (thresherref09_Sort.l1 k2 l1 x5_1 x6_1 y227 false (wrap64 (x9_2 + 1)) l0_0 a0_1 a0_2 a0_3)=some r:=by first|(rw [hy227];with_reducible exact H)|(have H2_:=(Option.bind_some _ _).symm.trans H;rw [hy227];with_reducible exact H2_)|(have H2_:=(Option.bind_some _ _).symm.trans H;with_reducible exact H2_)|with_reducible exact H|(rw [hy227];exact H)|exact H
             have Ny227:=Aside0.mk hy227
             clear hy227
             have H':=Aside0.mk H
             clear H
             obtain ⟨Ao29,co29,eo29⟩:=Kd.N_slice HO_5.out
             subst eo29
             try go_wp2
             have n0_:=Aside0.mk (Kd.V_drew HO_1.out)
             have n1_:=Aside0.mk (Kd.N_drew HO_5.out)
             have n2_:=Aside0.mk (Kd.N_drew HO_7.out)
             have n3_:=Aside0.mk (blk_drew BK204.out)
             have n4_:=Aside0.mk (below_drew1 HB.out)
             clear HO_1
             clear HO_5
             clear HO_7
             clear BK204
             clear HB
             have HO_1:=n0_
             have HO_5:=n1_
             have HO_7:=n2_
             have BK204:=n3_
             have HB:=n4_
             clear n0_ n1_ n2_ n3_ n4_
             have p211 : 0≤(x9_2 : Int):=of_decide_eq_true (by first|(with_reducible assumption)|assumption)
             have q211 : x9_2 < (x5_1.length : Int):=of_decide_eq_true (by first|(with_reducible assumption)|assumption)
             obtain ⟨ad211,A211_0,c211_0,e211,hx211_0,hl211_0,hi211_0⟩:=at_L5 (Kd.N_reads' HO_5.out).2.2 x9_2 p211 q211
             cases e211
             obtain ⟨ce211,hce211,hMe211,hcc211⟩:=Kd.N_get HO_5.out [] x9_2 p211 (by first|exact q211|exact of_decide_eq_true (by first|(with_reducible assumption)|assumption)|(have e_:=(Kd.N_reads' HO_5.out).1;omega))
             obtain ⟨ua211_0,uc211_0,rfl,ul211_0,ge211_0⟩:=Kd.FK_slice_open hMe211
             have hv211_0:=hcc211 0 _ rfl
             rw [Nat.add_zero,show ((Kd.slice 45 k45)).sz=1 from rfl,Nat.mul_one] at hv211_0
             replace hv211_0:=Option.some.inj (hv211_0.symm.trans hx211_0)
             injection hv211_0 with hva_ hvn_ hvc_
             rw [hva_] at ge211_0
             rw [hvc_] at ul211_0
             have HL211_0:=Aside0.mk (show Kd.V k45 45 _ w.heap.size _ _ (rd_L5 x5_1 x9_2) from Kd.V_mk ul211_0 ge211_0)
             clear hva_ hvn_ hvc_ ge211_0 ul211_0
             clear hcc211 hce211
             have HR211_0:=Aside0.mk hi211_0
             have HC211_0:=Aside0.mk hl211_0
             clear hi211_0 hl211_0
             replace p211:=eq_true p211
             replace q211:=eq_true q211
             have p212 : 0≤(x6_1 : Int):=of_decide_eq_true (by first|(with_reducible assumption)|assumption)
             have q212 : x6_1 < (l1.length : Int):=of_decide_eq_true (by first|(with_reducible assumption)|assumption)
             obtain ⟨ad212,A212_0,c212_0,e212,hx212_0,hl212_0,hi212_0⟩:=at_L5 (Kd.V_reads' HO_1.out).2.2 x6_1 p212 q212
             cases e212
             obtain ⟨ce212,hce212,hMe212,hcc212⟩:=Kd.V_get HO_1.out [] x6_1 p212 (by first|exact q212|exact of_decide_eq_true (by first|(with_reducible assumption)|assumption)|(have e_:=(Kd.V_reads' HO_1.out).1;omega))
             obtain ⟨ua212_0,uc212_0,rfl,ul212_0,ge212_0⟩:=Kd.FK_slice_open hMe212
             have hv212_0:=hcc212 0 _ rfl
             rw [Nat.add_zero,show ((Kd.slice 45 k45)).sz=1 from rfl,Nat.mul_one] at hv212_0
             replace hv212_0:=Option.some.inj (hv212_0.symm.trans hx212_0)
             injection hv212_0 with hva_ hvn_ hvc_
             rw [hva_] at ge212_0
             rw [hvc_] at ul212_0
             have HL212_0:=Aside0.mk (show Kd.V k45 45 _ w.heap.size _ _ (rd_L5 l1 x6_1) from Kd.V_mk ul212_0 ge212_0)
             clear hva_ hvn_ hvc_ ge212_0 ul212_0
             clear hcc212 hce212
             have HR212_0:=Aside0.mk hi212_0
             have HC212_0:=Aside0.mk hl212_0
             clear hi212_0 hl212_0
             replace p212:=eq_true p212
             replace q212:=eq_true q212
             refine start_ (n:=15) (S:=fun w'=>w'.cell? ⟨gb204,0,none⟩=some (.slice A0_0 l0_0.length c0_0)∧w'.cell? ⟨gb204,1,none⟩=some (.int .i64 a0_1)∧w'.cell? ⟨gb204,2,none⟩=some (.int .i64 a0_2)∧w'.cell? ⟨gb204,3,none⟩=some (.int .i64 a0_3)∧w'.cell? (ad211.add (x9_2).toNat)=some (.slice A211_0 (rd_L5 x5_1 x9_2).length c211_0)∧w'.cell? (ad212.add (x6_1).toNat)=some (.slice A212_0 (rd_L5 l1 x6_1).length c212_0)) (ds:=[]) #[false,false,false,false,false,false,false,false,false,false,false,false,false,false,false] (by kernel_rfl) rfl rfl ⟨(blk_cell BK204.out 0).trans rfl,(blk_cell BK204.out 1).trans rfl,(blk_cell BK204.out 2).trans rfl,(blk_cell BK204.out 3).trans rfl,hx211_0,hx212_0⟩ (fun hHeld=>?_);refine with_tabW thresherref09_Sort.tab10 thresherref09_Sort.bits10 (fun HT_ HW_=>?_)
             generalize wr.drew=w30 at HO_1 HO_5 HO_7 BK204 HB HL211_0 HL212_0 HR211_0 HR212_0 hx211_0 hx212_0 hHeld ⊢
             refine pure_ (i:=0) (N:=some 24) (v:=?_) (a':=?_) #[true,false,false,false,false,false,false,false,false,false,false,false,false,false,false] rfl rfl (any_of HT_.out (by kernel_rfl)) (fun _ _ _ h=>h) (Or.inl ⟨by rfl,?_⟩) ?_ ?_
             rotate_left;(intro w';go_simp;with_reducible rfl);rotate_left;(simp only [Act.put,List.setIfInBounds_toArray,List.set_cons_zero,List.set_cons_succ,i64_w,i32_w];rfl)
             refine pure_ (i:=1) (N:=some 25) (v:=?_) (a':=?_) #[true,true,false,false,false,false,false,false,false,false,false,false,false,false,false] rfl rfl (any_of HT_.out (by kernel_rfl)) (fun _ _ _ h=>h) (Or.inl ⟨by rfl,?_⟩) ?_ ?_
             rotate_left;(intro w';go_simp;with_reducible rfl);rotate_left;(simp only [Act.put,List.setIfInBounds_toArray,List.set_cons_zero,List.set_cons_succ,i64_w,i32_w];rfl)
             refine pure_ (i:=2) (N:=some 26) (v:=?_) (a':=?_) #[true,true,true,false,false,false,false,false,false,false,false,false,false,false,false] rfl rfl (any_of HT_.out (by kernel_rfl)) (fun _ _ _ h=>h) (Or.inl ⟨by rfl,?_⟩) ?_ ?_
             rotate_left;(intro w';go_simp;with_reducible rfl);rotate_left;(simp only [Act.put,List.setIfInBounds_toArray,List.set_cons_zero,List.set_cons_succ,i64_w,i32_w];rfl)
             refine pure_ (i:=4) (N:=some 28) (v:=?_) (a':=?_) #[true,true,true,false,true,false,false,false,false,false,false,false,false,false,false] rfl rfl (any_of HT_.out (by kernel_rfl)) (fun _ _ _ h=>h) (Or.inl ⟨by rfl,?_⟩) ?_ ?_
             rotate_left;(intro w';go_simp;with_reducible rfl);rotate_left;(simp only [Act.put,List.setIfInBounds_toArray,List.set_cons_zero,List.set_cons_succ,i64_w,i32_w];rfl)
             refine pure_ (i:=5) (N:=some 29) (v:=?_) (a':=?_) #[true,true,true,false,true,true,false,false,false,false,false,false,false,false,false] rfl rfl (any_of HT_.out (by kernel_rfl)) (fun _ _ _ h=>h) (Or.inl ⟨by rfl,?_⟩) ?_ ?_
             rotate_left;(intro w';go_simp;with_reducible rfl);rotate_left;(simp only [Act.put,List.setIfInBounds_toArray,List.set_cons_zero,List.set_cons_succ,i64_w,i32_w];rfl)
             refine pure_ (i:=6) (N:=some 30) (v:=?_) (a':=?_) #[true,true,true,false,true,true,true,false,false,false,false,false,false,false,false] rfl rfl (any_of HT_.out (by kernel_rfl)) (fun _ _ _ h=>h) (Or.inl ⟨by rfl,?_⟩) ?_ ?_
             rotate_left;(intro w';go_simp;with_reducible rfl);rotate_left;(simp only [Act.put,List.setIfInBounds_toArray,List.set_cons_zero,List.set_cons_succ,i64_w,i32_w];rfl)
             refine pure_ (i:=8) (N:=some 32) (v:=?_) (a':=?_) #[true,true,true,false,true,true,true,false,true,false,false,false,false,false,false] rfl rfl (any_of HT_.out (by kernel_rfl)) (fun _ _ _ h=>h) (Or.inl ⟨by rfl,?_⟩) ?_ ?_
             rotate_left;(intro w';go_simp;with_reducible rfl);rotate_left;(simp only [Act.put,List.setIfInBounds_toArray,List.set_cons_zero,List.set_cons_succ,i64_w,i32_w];rfl)
             refine pure_ (i:=9) (N:=some 33) (v:=?_) (a':=?_) #[true,true,true,false,true,true,true,false,true,true,false,false,false,false,false] rfl rfl (any_of HT_.out (by kernel_rfl)) (fun _ _ _ h=>h) (Or.inl ⟨by rfl,?_⟩) ?_ ?_
             rotate_left;(intro w';go_simp;with_reducible rfl);rotate_left;(simp only [Act.put,List.setIfInBounds_toArray,List.set_cons_zero,List.set_cons_succ,i64_w,i32_w];rfl)
             refine pure_ (i:=10) (N:=some 34) (v:=?_) (a':=?_) #[true,true,true,false,true,true,true,false,true,true,true,false,false,false,false] rfl rfl (any_of HT_.out (by kernel_rfl)) (fun _ _ _ h=>h) (Or.inl ⟨by rfl,?_⟩) ?_ ?_
             rotate_left;(intro w';go_simp;with_reducible rfl);rotate_left;(simp only [Act.put,List.setIfInBounds_toArray,List.set_cons_zero,List.set_cons_succ,i64_w,i32_w];rfl)
             refine take_ (i:=3) (N:=some 27) (v:=?_) (a':=?_) #[true,true,true,true,true,true,true,false,true,true,true,false,false,false,false] rfl rfl (take_ofW HT_.out HW_.out (by kernel_rfl)) (fun _ _ _ h=>h) (Or.inl ⟨by rfl,?_⟩) hHeld ?_ ?_
             rotate_left;(rintro w' ⟨s0,s1,s2,s3,s4,s5⟩;go_simp;with_reducible rfl);rotate_left;(simp only [Act.put,List.setIfInBounds_toArray,List.set_cons_zero,List.set_cons_succ,i64_w,i32_w];rfl)
             refine take_ (i:=7) (N:=some 31) (v:=?_) (a':=?_) #[true,true,true,true,true,true,true,true,true,true,true,false,false,false,false] rfl rfl (take_ofW HT_.out HW_.out (by kernel_rfl)) (fun _ _ _ h=>h) (Or.inl ⟨by rfl,?_⟩) hHeld ?_ ?_
             rotate_left;(rintro w' ⟨s0,s1,s2,s3,s4,s5⟩;go_simp;with_reducible rfl);rotate_left;(simp only [Act.put,List.setIfInBounds_toArray,List.set_cons_zero,List.set_cons_succ,i64_w,i32_w];rfl)
             refine take_ (i:=11) (N:=some 35) (v:=?_) (a':=?_) #[true,true,true,true,true,true,true,true,true,true,true,true,false,false,false] rfl rfl (take_ofW HT_.out HW_.out (by kernel_rfl)) (fun _ _ _ h=>h) (Or.inl ⟨by rfl,?_⟩) hHeld ?_ ?_
             rotate_left;(rintro w' ⟨s0,s1,s2,s3,s4,s5⟩;go_simp;with_reducible rfl);rotate_left;(simp only [Act.put,List.setIfInBounds_toArray,List.set_cons_zero,List.set_cons_succ,i64_w,i32_w];rfl)
             refine one_ (i:=12) (N:=some 36) #[true,true,true,true,true,true,true,true,true,true,true,true,true,false,false] rfl rfl (one_of HT_.out (by kernel_rfl)) (by decide) (fun K hK=>?_)
             refine goes_ Try.func15 (by kernel_rfl) rfl #[.agg #[.slice A0_0 l0_0.length c0_0,.int .i64 a0_1,.int .i64 a0_2,.int .i64 a0_3],.slice A211_0 (rd_L5 x5_1 x9_2).length c211_0,.slice A212_0 (rd_L5 l1 x6_1).length c212_0] (by rfl) rfl rfl (by (try simp only [List.map_toArray,List.map_cons,List.map_nil]);first|done|rfl|(simp only [List.length_drop,List.length_take];rfl)) ?_
             with_reducible refine (thresherref04_Compare.calls k2 _ _ l0_0 a0_1 a0_2 a0_3 _ _ (rd_L5 x5_1 x9_2) _ _ (rd_L5 l1 x6_1) t213 _ ?side1 ?side2 ?side3 ?side4 ?side5 ?side6 A19.out).mono ?_
             (case side1=>repeat (first|exact (Kd.C_below HR0_0.out HB.out)|(with_reducible refine Kd.C_alloc ?_ _)|(with_reducible refine Kd.C_drewN ?_ _)|(with_reducible refine Kd.C_drew ?_)))
             (case side2=>exact HC0_0.out)
             (case side3=>repeat (first|exact (by repeat (first|(with_reducible exact HR211_0.out)|(with_reducible refine Kd.C_alloc ?_ _)|(with_reducible refine Kd.C_drewN ?_ _)|(with_reducible refine Kd.C_drew ?_)|exact HR211_0.out))|(with_reducible refine Kd.C_alloc ?_ _)|(with_reducible refine Kd.C_drewN ?_ _)|(with_reducible refine Kd.C_drew ?_)))
             (case side4=>exact HC211_0.out)
             (case side5=>repeat (first|exact (by repeat (first|(with_reducible exact HR212_0.out)|(with_reducible refine Kd.C_alloc ?_ _)|(with_reducible refine Kd.C_drewN ?_ _)|(with_reducible refine Kd.C_drew ?_)|exact HR212_0.out))|(with_reducible refine Kd.C_alloc ?_ _)|(with_reducible refine Kd.C_drewN ?_ _)|(with_reducible refine Kd.C_drew ?_)))
             (case side6=>exact HC212_0.out)
             rintro e w31 ⟨rfl,hb⟩
             have HS4_:=(hb.cell (World.block_lt_of_cell? _ _ (hHeld.2.2.2.2.1))).trans (hHeld.2.2.2.2.1)
             have HS5_:=(hb.cell (World.block_lt_of_cell? _ _ (hHeld.2.2.2.2.2))).trans (hHeld.2.2.2.2.2)
             refine ⟨_,rfl,?_⟩
             have n0_:=Aside0.mk (Kd.V_below (by (with_reducible repeat (first|apply Kd.V_alloc|apply Kd.V_drewN|apply Kd.V_drew));exact HO_1.out) hb)
             have n1_:=Aside0.mk (Kd.N_below (by (with_reducible repeat (first|apply Kd.N_alloc|apply Kd.N_drewN|apply Kd.N_drew));exact HO_5.out) hb)
             have n2_:=Aside0.mk (Kd.N_below (by (with_reducible repeat (first|apply Kd.N_alloc|apply Kd.N_drewN|apply Kd.N_drew));exact HO_7.out) hb)
             have n3_:=Aside0.mk (Kd.V_below (by (with_reducible repeat (first|apply Kd.V_alloc|apply Kd.V_drewN|apply Kd.V_drew));exact HL211_0.out) hb)
             have n4_:=Aside0.mk (Kd.V_below (by (with_reducible repeat (first|apply Kd.V_alloc|apply Kd.V_drewN|apply Kd.V_drew));exact HL212_0.out) hb)
             have n5_:=Aside0.mk (blk_below (g:=gb204) (o:=.cells #[.slice A0_0 l0_0.length c0_0,.int .i64 a0_1,.int .i64 a0_2,.int .i64 a0_3] 29 (0,0)) (by (with_reducible repeat (first|refine blk_drewN ?_ _|refine blk_drew ?_|refine blk_alloc ?_ _));exact BK204.out) hb)
             have n6_:=Aside0.mk (Kd.C_below (by repeat (first|(with_reducible exact HR211_0.out)|(with_reducible refine Kd.C_alloc ?_ _)|(with_reducible refine Kd.C_drewN ?_ _)|(with_reducible refine Kd.C_drew ?_)|exact HR211_0.out)) hb)
             have n7_:=Aside0.mk (Kd.C_below (by repeat (first|(with_reducible exact HR212_0.out)|(with_reducible refine Kd.C_alloc ?_ _)|(with_reducible refine Kd.C_drewN ?_ _)|(with_reducible refine Kd.C_drew ?_)|exact HR212_0.out)) hb)
             have n8_:=Aside0.mk (below_step (by repeat (first|(with_reducible first|exact HB.out|apply below_alloc|apply pw_below_drewN|apply below_drew1|refine below_set ?_ GE204.out)|exact HB.out)) hb)
             clear HO_1
             clear HO_5
             clear HO_7
             clear HL211_0
             clear HL212_0
             clear BK204
             clear HR211_0
             clear HR212_0
             clear HB
             have HO_1:=n0_
             have HO_5:=n1_
             have HO_7:=n2_
             have HL211_0:=n3_
             have HL212_0:=n4_
             have BK204:=n5_
             have HR211_0:=n6_
             have HR212_0:=n7_
             have HB:=n8_
             clear n0_ n1_ n2_ n3_ n4_ n5_ n6_ n7_ n8_
             (try clear hb)
             (try clear hb2)
             (try clear hk)
             (try clear hi)
             refine hK.out _ _ ⟨(blk_cell BK204.out 0).trans rfl,(blk_cell BK204.out 1).trans rfl,(blk_cell BK204.out 2).trans rfl,(blk_cell BK204.out 3).trans rfl,HS4_,HS5_⟩ (fun hHeld=>?_)
             clear hK K
             refine norm_ (a':=?_) ?_ ?_
             rotate_left
             ·show Act.put _ (some 36) _=_
              simp only [Act.put,List.setIfInBounds_toArray,List.set_cons_zero,List.set_cons_succ,i64_w,i32_w]
              rfl
             refine pure_ (i:=13) (N:=some 37) (v:=?_) (a':=?_) #[true,true,true,true,true,true,true,true,true,true,true,true,true,true,false] rfl rfl (any_of HT_.out (by kernel_rfl)) (fun _ _ _ h=>h) (Or.inl ⟨by rfl,?_⟩) ?_ ?_
             rotate_left;(intro w';go_simp;with_reducible rfl);rotate_left;(simp only [Act.put,List.setIfInBounds_toArray,List.set_cons_zero,List.set_cons_succ,i64_w,i32_w];rfl)
             refine pure_ (i:=14) (N:=some 38) (v:=?_) (a':=?_) #[true,true,true,true,true,true,true,true,true,true,true,true,true,true,true] rfl rfl (any_of HT_.out (by kernel_rfl)) (fun _ _ _ h=>h) (Or.inl ⟨by rfl,?_⟩) ?_ ?_
             rotate_left;(intro w';go_simp;with_reducible rfl);rotate_left;(simp only [Act.put,List.setIfInBounds_toArray,List.set_cons_zero,List.set_cons_succ,i64_w,i32_w];rfl)
             refine done_ (done_of HT_.out (by kernel_rfl)) ?_
             (try clear HS4_);(try clear HS5_);(try clear hHeld)
             have p226 : 0≤(x9_2 : Int):=of_decide_eq_true (by first|(with_reducible assumption)|assumption)
             have q226 : x9_2 < (x5_1.length : Int):=of_decide_eq_true (by first|(with_reducible assumption)|assumption)
             obtain ⟨ad226,A226_0,c226_0,e226,hx226_0,hl226_0,hi226_0⟩:=at_L5 (Kd.N_reads' HO_5.out).2.2 x9_2 p226 q226
             obtain rfl : ad211=ad226:=(by injection e226)
             obtain ⟨ce226,hce226,hMe226,hcc226⟩:=Kd.N_get HO_5.out [] x9_2 p226 (by first|exact q226|exact of_decide_eq_true (by first|(with_reducible assumption)|assumption)|(have e_:=(Kd.N_reads' HO_5.out).1;omega))
             obtain ⟨ua226_0,uc226_0,rfl,ul226_0,ge226_0⟩:=Kd.FK_slice_open hMe226
             have hv226_0:=hcc226 0 _ rfl
             rw [Nat.add_zero,show ((Kd.slice 45 k45)).sz=1 from rfl,Nat.mul_one] at hv226_0
             replace hv226_0:=Option.some.inj (hv226_0.symm.trans hx226_0)
             injection hv226_0 with hva_ hvn_ hvc_
             rw [hva_] at ge226_0
             rw [hvc_] at ul226_0
             have HL226_0:=Aside0.mk (show Kd.V k45 45 _ w.heap.size _ _ (rd_L5 x5_1 x9_2) from Kd.V_mk ul226_0 ge226_0)
             clear hva_ hvn_ hvc_ ge226_0 ul226_0
             clear hcc226 hce226
             have HR226_0:=Aside0.mk hi226_0
             have HC226_0:=Aside0.mk hl226_0
             clear hi226_0 hl226_0
             replace p226:=eq_true p226
             replace q226:=eq_true q226
             try go_wp2_with (first|((with_reducible refine gate_builtin (b:=.append) (xs:=#[.tmp 46,.tmp 51]) rfl ?_);at_builtin;refine Kd.N_append (Kd.slice 45 k45) (w0:=w) w.heap.size rfl (.tmp 46) (.tmp 51) 25 36 (.slice none 0 0) 24 rfl Try.underlying25 info36 rfl (by decide) (by omega) u7 x7_2 (rd_L5 x5_1 x9_2) [.slice A226_0 (rd_L5 x5_1 x9_2).length c226_0] (fun k_=>(P1_ k_ ∨ w.heap.size≤k_)∧some k_≠(.slice (some ad211) x5_1.length co29 : Value).ownBlock∧k_≠gb204) (fun k_=>((fun k_=>(P1_ k_ ∨ w.heap.size≤k_)∧some k_≠(.slice (some ad211) x5_1.length co29 : Value).ownBlock∧k_≠gb204)) k_∧some k_≠(u7 : Value).ownBlock) rfl rfl ?aP (fun _ hk=>hk) ?aF ?aO ?aB ?aS ?aL ?_;(case aP=>exact (Kd.FK_slice_mk (Kd.V_reads' (Kd.V_mono (ok':=(fun k_=>((fun k_=>(P1_ k_ ∨ w.heap.size≤k_)∧some k_≠(.slice (some ad211) x5_1.length co29 : Value).ownBlock∧k_≠gb204)) k_∧some k_≠(u7 : Value).ownBlock)) (HL226_0.out) (fun k_ hk=>⟨⟨hk.1.1,⟨hk.2,hk.1.2.2⟩⟩,hk.1.2.1⟩))).2.1 (Kd.V_F (Kd.V_mono (ok':=(fun k_=>((fun k_=>(P1_ k_ ∨ w.heap.size≤k_)∧some k_≠(.slice (some ad211) x5_1.length co29 : Value).ownBlock∧k_≠gb204)) k_∧some k_≠(u7 : Value).ownBlock)) (HL226_0.out) (fun k_ hk=>⟨⟨hk.1.1,⟨hk.2,hk.1.2.2⟩⟩,hk.1.2.1⟩)))));(case aB=>exact (by repeat (first|(with_reducible first|exact HB.out|apply below_alloc|apply pw_below_drewN|apply below_drew1|refine below_set ?_ GE204.out)|exact HB.out)));(case aF=>exact (fun k_ hk=>⟨(.inr (Nat.le_trans (below_size (by repeat (first|(with_reducible first|exact HB.out|apply below_alloc|apply pw_below_drewN|apply below_drew1|refine below_set ?_ GE204.out)|exact HB.out))) hk)),Kd.fresh' (Kd.N_lt (by (with_reducible repeat (first|apply Kd.N_alloc|apply Kd.N_drewN|apply Kd.N_drew));exact HO_5.out)) k_ hk,Kd.freshB (g:=gb204) (o:=.cells #[.slice A0_0 l0_0.length c0_0,.int .i64 a0_1,.int .i64 a0_2,.int .i64 a0_3] 29 (0,0)) (by (with_reducible repeat (first|refine blk_drewN ?_ _|refine blk_drew ?_|refine blk_alloc ?_ _));exact BK204.out) k_ hk⟩));(case aO=>exact (by (with_reducible repeat (first|apply Kd.N_alloc|apply Kd.N_drewN|apply Kd.N_drew));exact HO_7.out));(case aS=>exact (below_size (by repeat (first|(with_reducible first|exact HB.out|apply below_alloc|apply pw_below_drewN|apply below_drew1|refine below_set ?_ GE204.out)|exact HB.out))));(case aL=>have:=LMc28.out;omega);intro v228 w32 ho hb hg hat;rw [← Ny227.out] at ho;have n0_:=Aside0.mk (Kd.V_afterv (ok:=(fun k_=>(P1_ k_ ∨ w.heap.size≤k_)∧some k_≠(.slice (some ad211) x5_1.length co29 : Value).ownBlock∧k_≠gb204)) (by (with_reducible repeat (first|apply Kd.V_alloc|apply Kd.V_drewN|apply Kd.V_drew));exact Kd.V_mono HO_1.out (fun _ hk=>⟨⟨hk.1,⟨hk.2.1,hk.2.2.2⟩⟩,hk.2.2.1⟩)) hg hat);have n1_:=Aside0.mk (Kd.N_afterv (ok:=(fun k_=>(P1_ k_ ∨ w.heap.size≤k_)∧k_≠gb204)) (by (with_reducible repeat (first|apply Kd.N_alloc|apply Kd.N_drewN|apply Kd.N_drew));exact Kd.N_mono HO_5.out (fun _ hk=>⟨⟨hk.1,hk.2.2⟩,hk.2.1⟩)) hg hat);have n2_:=Aside0.mk (blk_grown (g:=gb204) (o:=.cells #[.slice A0_0 l0_0.length c0_0,.int .i64 a0_1,.int .i64 a0_2,.int .i64 a0_3] 29 (0,0)) (by (with_reducible repeat (first|refine blk_drewN ?_ _|refine blk_drew ?_|refine blk_alloc ?_ _));exact BK204.out) hg (Kd.N_ne HO_7.out BK204.out (by decide)));have n3_:=Aside0.mk (Kd.V_afterv (ok:=(fun k_=>(P1_ k_ ∨ w.heap.size≤k_)∧some k_≠(.slice (some ad211) x5_1.length co29 : Value).ownBlock∧k_≠gb204)) (by (with_reducible repeat (first|apply Kd.V_alloc|apply Kd.V_drewN|apply Kd.V_drew));exact Kd.V_mono HL211_0.out (fun _ hk=>⟨⟨hk.1.1,⟨hk.2,hk.1.2.2⟩⟩,hk.1.2.1⟩)) hg hat);have n4_:=Aside0.mk (Kd.V_afterv (ok:=(fun k_=>(P1_ k_ ∨ w.heap.size≤k_)∧some k_≠(.slice (some ad211) x5_1.length co29 : Value).ownBlock∧k_≠gb204)) (by (with_reducible repeat (first|apply Kd.V_alloc|apply Kd.V_drewN|apply Kd.V_drew));exact Kd.V_mono HL212_0.out (fun _ hk=>⟨⟨hk.1,⟨hk.2.1,hk.2.2.2⟩⟩,hk.2.2.1⟩)) hg hat);have n5_:=Aside0.mk (Kd.V_afterv (ok:=(fun k_=>(P1_ k_ ∨ w.heap.size≤k_)∧some k_≠(.slice (some ad211) x5_1.length co29 : Value).ownBlock∧k_≠gb204)) (by (with_reducible repeat (first|apply Kd.V_alloc|apply Kd.V_drewN|apply Kd.V_drew));exact Kd.V_mono HL226_0.out (fun _ hk=>⟨⟨hk.1.1,⟨hk.2,hk.1.2.2⟩⟩,hk.1.2.1⟩)) hg hat);have n6_:=Aside0.mk (hb);have n7_:=Aside0.mk (ho);clear HO_1;clear HO_5;clear BK204;clear HL211_0;clear HL212_0;clear HL226_0;clear HB;clear HO_7;have HO_1:=n0_;have HO_5:=n1_;have BK204:=n2_;have HL211_0:=n3_;have HL212_0:=n4_;have HL226_0:=n5_;have HB:=n6_;have HO229:=n7_;clear n0_ n1_ n2_ n3_ n4_ n5_ n6_ n7_;clear ho hb hg hat))
             go_roundg k2
             case measure=>have:=HK1.out;have:=HK2.out;omega
             case rel=>exact ⟨(y227),(false),(wrap64 (x9_2 + 1)),(by first|rfl|(simp;done)|(simp [*];done)),(by first|rfl|(simp;done)|(simp [*];done)),(by first|exact H'|(subst_vars;exact H')),⟨by have:=HK1.out;have:=HK2.out;omega⟩,⟨by (with_reducible repeat (first|apply Kd.V_alloc|apply Kd.V_drewN|apply Kd.V_drew));exact Kd.V_mono HO_1.out (fun _ hk=>⟨hk.1.1,⟨hk.1.2.1,⟨hk.2,hk.1.2.2⟩⟩⟩)⟩,⟨by (with_reducible repeat (first|apply Kd.N_alloc|apply Kd.N_drewN|apply Kd.N_drew));exact Kd.N_mono HO_5.out (fun _ hk=>⟨hk.1.1,⟨hk.2,hk.1.2⟩⟩)⟩,⟨by (with_reducible repeat (first|apply Kd.N_alloc|apply Kd.N_drewN|apply Kd.N_drew));exact HO229.out⟩,⟨by (with_reducible repeat (first|refine blk_drewN ?_ _|refine blk_drew ?_|refine blk_alloc ?_ _));exact BK204.out⟩,⟨by repeat (first|(with_reducible first|exact HB.out|apply below_alloc|apply pw_below_drewN|apply below_drew1|refine below_set ?_ GE204.out)|exact HB.out)⟩⟩
            ·rw [if_neg c28] at H
             exact absurd H (by simp)
          ·rw [if_neg c18] at H
           exact absurd H (by simp)
         ·rw [if_neg c17] at H
          exact absurd H (by simp)
        ·rw [if_neg c16] at H
         exact absurd H (by simp)
      ·rw [if_neg c9] at H
       have c9b0 : decide (x9_2 < (x5_1.length : Int))=false:=decide_eq_false c9
       clear c9
       by_cases c33 : x8_2=true
       ·subst c33
        have H1 : (thresherref09_Sort.l0 k2 l1 x7_2 (wrap64 (x6_1 + 1)) l0_0 a0_1 a0_2 a0_3)=some r:=by rw [if_pos rfl] at H;exact H
        clear H
        have H:=H1
        clear H1
        have H':=Aside0.mk H
        clear H
        obtain ⟨Ao34,co34,eo34⟩:=Kd.N_slice HO_5.out
        subst eo34
        go_wp2
        go_roundg k2
        case measure=>have:=HK1.out;have:=HK2.out;omega
        case rel=>exact ⟨(x7_2),(wrap64 (x6_1 + 1)),(by first|rfl|(simp;done)|(simp [*];done)),(by first|exact H'|(subst_vars;exact H')),⟨by have:=HK1.out;have:=HK2.out;omega⟩,⟨by (with_reducible repeat (first|apply Kd.V_alloc|apply Kd.V_drewN|apply Kd.V_drew));exact Kd.V_mono HO_1.out (fun _ hk=>⟨hk.1,⟨hk.2.2.1,hk.2.2.2⟩⟩)⟩,⟨by (with_reducible repeat (first|apply Kd.N_alloc|apply Kd.N_drewN|apply Kd.N_drew));exact Kd.N_mono HO_7.out (fun _ hk=>⟨hk.1,hk.2.2⟩)⟩,⟨by (with_reducible repeat (first|refine blk_drewN ?_ _|refine blk_drew ?_|refine blk_alloc ?_ _));exact BK204.out⟩,⟨by repeat (first|(with_reducible first|exact HB.out|apply below_alloc|apply pw_below_drewN|apply below_drew1|refine below_set ?_ GE204.out)|exact HB.out)⟩⟩
       ·replace c33:=Bool.eq_false_iff.mpr c33
        subst c33
        have H1 : (if 0≤x6_1 then (if x6_1 < (l1.length : Int) then (if x7_2.length < 5864062014805 then (thresherref09_Sort.l0 k2 l1 (x7_2 ++ [rd_L5 l1 x6_1]) (wrap64 (x6_1 + 1)) l0_0 a0_1 a0_2 a0_3) else (none)) else (none)) else (none))=some r:=by rw [if_neg (show ¬ (false=true) by decide)] at H;exact H
        clear H
        have H:=H1
        clear H1
        by_cases c35 : 0≤x6_1
        ·rw [if_pos c35] at H
         have c35b0 : decide (0≤x6_1)=true:=decide_eq_true c35
         clear c35
         by_cases c36 : x6_1 < (l1.length : Int)
         ·rw [if_pos c36] at H
          have c36b0 : decide (x6_1 < (l1.length : Int))=true:=decide_eq_true c36
          clear c36
          by_cases c37 : x7_2.length < 5864062014805
          ·rw [if_pos c37] at H
           have LMc37:=Aside0.mk c37
           clear c37
           obtain ⟨y231,hy231⟩ : ∃ y_ : List (List (S45)),y_=(x7_2 ++ [rd_L5 l1 x6_1]):=⟨_,rfl⟩
           replace H : (thresherref09_Sort.l0 k2 l1 y231 (wrap64 (x6_1 + 1)) l0_0 a0_1 a0_2 a0_3)=some r:=by first|(rw [hy231];with_reducible exact H)|(have H2_:=(Option.bind_some _ _).symm.trans H;rw [hy231];with_reducible exact H2_)|(have H2_:=(Option.bind_some _ _).symm.trans H;with_reducible exact H2_)|with_reducible exact H|(rw [hy231];exact H)|exact H
           have Ny231:=Aside0.mk hy231
           clear hy231
           have H':=Aside0.mk H
           clear H
           obtain ⟨Ao38,co38,eo38⟩:=Kd.N_slice HO_5.out
           subst eo38
           have p230 : 0≤(x6_1 : Int):=of_decide_eq_true (by first|(with_reducible assumption)|assumption)
           have q230 : x6_1 < (l1.length : Int):=of_decide_eq_true (by first|(with_reducible assumption)|assumption)
           obtain ⟨ad230,A230_0,c230_0,e230,hx230_0,hl230_0,hi230_0⟩:=at_L5 (Kd.V_reads' HO_1.out).2.2 x6_1 p230 q230
           cases e230
           obtain ⟨ce230,hce230,hMe230,hcc230⟩:=Kd.V_get HO_1.out [] x6_1 p230 (by first|exact q230|exact of_decide_eq_true (by first|(with_reducible assumption)|assumption)|(have e_:=(Kd.V_reads' HO_1.out).1;omega))
           obtain ⟨ua230_0,uc230_0,rfl,ul230_0,ge230_0⟩:=Kd.FK_slice_open hMe230
           have hv230_0:=hcc230 0 _ rfl
           rw [Nat.add_zero,show ((Kd.slice 45 k45)).sz=1 from rfl,Nat.mul_one] at hv230_0
           replace hv230_0:=Option.some.inj (hv230_0.symm.trans hx230_0)
           injection hv230_0 with hva_ hvn_ hvc_
           rw [hva_] at ge230_0
           rw [hvc_] at ul230_0
           have HL230_0:=Aside0.mk (show Kd.V k45 45 _ w.heap.size _ _ (rd_L5 l1 x6_1) from Kd.V_mk ul230_0 ge230_0)
           clear hva_ hvn_ hvc_ ge230_0 ul230_0
           clear hcc230 hce230
           have HR230_0:=Aside0.mk hi230_0
           have HC230_0:=Aside0.mk hl230_0
           clear hi230_0 hl230_0
           replace p230:=eq_true p230
           replace q230:=eq_true q230
           go_wp2_with (first|((with_reducible refine gate_builtin (b:=.append) (xs:=#[.tmp 55,.tmp 60]) rfl ?_);at_builtin;refine Kd.N_append (Kd.slice 45 k45) (w0:=w) w.heap.size rfl (.tmp 55) (.tmp 60) 25 36 (.slice none 0 0) 24 rfl Try.underlying25 info36 rfl (by decide) (by omega) u7 x7_2 (rd_L5 l1 x6_1) [.slice A230_0 (rd_L5 l1 x6_1).length c230_0] (fun k_=>(P1_ k_ ∨ w.heap.size≤k_)∧some k_≠(.slice Ao38 x5_1.length co38 : Value).ownBlock∧k_≠gb204) (fun k_=>((fun k_=>(P1_ k_ ∨ w.heap.size≤k_)∧some k_≠(.slice Ao38 x5_1.length co38 : Value).ownBlock∧k_≠gb204)) k_∧some k_≠(u7 : Value).ownBlock) rfl rfl ?aP (fun _ hk=>hk) ?aF ?aO ?aB ?aS ?aL ?_;(case aP=>exact (Kd.FK_slice_mk (Kd.V_reads' (Kd.V_mono (ok':=(fun k_=>((fun k_=>(P1_ k_ ∨ w.heap.size≤k_)∧some k_≠(.slice Ao38 x5_1.length co38 : Value).ownBlock∧k_≠gb204)) k_∧some k_≠(u7 : Value).ownBlock)) (HL230_0.out) (fun k_ hk=>⟨⟨hk.1,⟨hk.2.1,hk.2.2.2⟩⟩,hk.2.2.1⟩))).2.1 (Kd.V_F (Kd.V_mono (ok':=(fun k_=>((fun k_=>(P1_ k_ ∨ w.heap.size≤k_)∧some k_≠(.slice Ao38 x5_1.length co38 : Value).ownBlock∧k_≠gb204)) k_∧some k_≠(u7 : Value).ownBlock)) (HL230_0.out) (fun k_ hk=>⟨⟨hk.1,⟨hk.2.1,hk.2.2.2⟩⟩,hk.2.2.1⟩)))));(case aB=>exact (by repeat (first|(with_reducible first|exact HB.out|apply below_alloc|apply pw_below_drewN|apply below_drew1|refine below_set ?_ GE204.out)|exact HB.out)));(case aF=>exact (fun k_ hk=>⟨(.inr (Nat.le_trans (below_size (by repeat (first|(with_reducible first|exact HB.out|apply below_alloc|apply pw_below_drewN|apply below_drew1|refine below_set ?_ GE204.out)|exact HB.out))) hk)),Kd.fresh' (Kd.N_lt (by (with_reducible repeat (first|apply Kd.N_alloc|apply Kd.N_drewN|apply Kd.N_drew));exact HO_5.out)) k_ hk,Kd.freshB (g:=gb204) (o:=.cells #[.slice A0_0 l0_0.length c0_0,.int .i64 a0_1,.int .i64 a0_2,.int .i64 a0_3] 29 (0,0)) (by (with_reducible repeat (first|refine blk_drewN ?_ _|refine blk_drew ?_|refine blk_alloc ?_ _));exact BK204.out) k_ hk⟩));(case aO=>exact (by (with_reducible repeat (first|apply Kd.N_alloc|apply Kd.N_drewN|apply Kd.N_drew));exact HO_7.out));(case aS=>exact (below_size (by repeat (first|(with_reducible first|exact HB.out|apply below_alloc|apply pw_below_drewN|apply below_drew1|refine below_set ?_ GE204.out)|exact HB.out))));(case aL=>have:=LMc37.out;omega);intro v232 w39 ho hb hg hat;rw [← Ny231.out] at ho;have n0_:=Aside0.mk (Kd.V_afterv (ok:=(fun k_=>(P1_ k_ ∨ w.heap.size≤k_)∧some k_≠(.slice Ao38 x5_1.length co38 : Value).ownBlock∧k_≠gb204)) (by (with_reducible repeat (first|apply Kd.V_alloc|apply Kd.V_drewN|apply Kd.V_drew));exact Kd.V_mono HO_1.out (fun _ hk=>⟨⟨hk.1,⟨hk.2.1,hk.2.2.2⟩⟩,hk.2.2.1⟩)) hg hat);have n1_:=Aside0.mk (Kd.N_afterv (ok:=(fun k_=>(P1_ k_ ∨ w.heap.size≤k_)∧k_≠gb204)) (by (with_reducible repeat (first|apply Kd.N_alloc|apply Kd.N_drewN|apply Kd.N_drew));exact Kd.N_mono HO_5.out (fun _ hk=>⟨⟨hk.1,hk.2.2⟩,hk.2.1⟩)) hg hat);have n2_:=Aside0.mk (blk_grown (g:=gb204) (o:=.cells #[.slice A0_0 l0_0.length c0_0,.int .i64 a0_1,.int .i64 a0_2,.int .i64 a0_3] 29 (0,0)) (by (with_reducible repeat (first|refine blk_drewN ?_ _|refine blk_drew ?_|refine blk_alloc ?_ _));exact BK204.out) hg (Kd.N_ne HO_7.out BK204.out (by decide)));have n3_:=Aside0.mk (Kd.V_afterv (ok:=(fun k_=>(P1_ k_ ∨ w.heap.size≤k_)∧some k_≠(.slice Ao38 x5_1.length co38 : Value).ownBlock∧k_≠gb204)) (by (with_reducible repeat (first|apply Kd.V_alloc|apply Kd.V_drewN|apply Kd.V_drew));exact Kd.V_mono HL230_0.out (fun _ hk=>⟨⟨hk.1,⟨hk.2.1,hk.2.2.2⟩⟩,hk.2.2.1⟩)) hg hat);have n4_:=Aside0.mk (hb);have n5_:=Aside0.mk (ho);clear HO_1;clear HO_5;clear BK204;clear HL230_0;clear HB;clear HO_7;have HO_1:=n0_;have HO_5:=n1_;have BK204:=n2_;have HL230_0:=n3_;have HB:=n4_;have HO233:=n5_;clear n0_ n1_ n2_ n3_ n4_ n5_;clear ho hb hg hat))
           go_roundg k2
           case measure=>have:=HK1.out;have:=HK2.out;omega
           case rel=>exact ⟨(y231),(wrap64 (x6_1 + 1)),(by first|rfl|(simp;done)|(simp [*];done)),(by first|exact H'|(subst_vars;exact H')),⟨by have:=HK1.out;have:=HK2.out;omega⟩,⟨by (with_reducible repeat (first|apply Kd.V_alloc|apply Kd.V_drewN|apply Kd.V_drew));exact Kd.V_mono HO_1.out (fun _ hk=>⟨hk.1.1,⟨hk.2,hk.1.2.2⟩⟩)⟩,⟨by (with_reducible repeat (first|apply Kd.N_alloc|apply Kd.N_drewN|apply Kd.N_drew));exact Kd.N_mono HO233.out (fun _ hk=>⟨hk.1,hk.2.2⟩)⟩,⟨by (with_reducible repeat (first|refine blk_drewN ?_ _|refine blk_drew ?_|refine blk_alloc ?_ _));exact BK204.out⟩,⟨by repeat (first|(with_reducible first|exact HB.out|apply below_alloc|apply pw_below_drewN|apply below_drew1|refine below_set ?_ GE204.out)|exact HB.out)⟩⟩
          ·rw [if_neg c37] at H
           exact absurd H (by simp)
         ·rw [if_neg c36] at H
          exact absurd H (by simp)
        ·rw [if_neg c35] at H
         exact absurd H (by simp)
   ·rw [if_neg c6] at H
    have c6b0 : decide (x6_1 < (l1.length : Int))=false:=decide_eq_false c6
    clear c6
    obtain rfl:=Option.some.inj H
    go_wp2
    go_ret
    exact ⟨_,by first|rfl|(simp [errW_none,errW_some] <;> rfl)|(simp [*,errW_none,errW_some] <;> rfl),by (with_reducible repeat (first|apply Kd.N_alloc|apply Kd.N_drewN|apply Kd.N_drew));exact Kd.N_mono HO_5.out (fun _ hk=>hk.1),by repeat (first|(with_reducible first|exact HB.out|apply below_alloc|apply pw_below_drewN|apply below_drew1|refine below_set ?_ GE204.out)|exact HB.out)⟩
end Go.Proofs.Ytmanchjamkpklaa.P

