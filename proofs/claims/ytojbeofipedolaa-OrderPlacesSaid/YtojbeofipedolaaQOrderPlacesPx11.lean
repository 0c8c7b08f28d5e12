/- Texts of OrderPlaces. Merged: Px11. -/
import Derived.Test.YtojbeofipedolaaQOrderPlacesPx0
import Derived.Test.YtojbeofipedolaaQOrderPlacesPx7
namespace Go.Proofs.Ytojbeofipedolaa.P
open Go.RowKit Go.Proofs.YtojbeofipedolaaW.PrintWords Go.Proofs.YtojbeofipedolaaW.PrintLast Go.Proofs.YtojbeofipedolaaW.PrintMore
attribute [local go_sem] max2_int min2_int max_two min_two max_three min_three max_four min_four   -- for this text's walks alone
set_option linter.unusedVariables false
set_option linter.unusedSimpArgs false
mutual
def thresherref09_Sort.l0 : Nat→List (List (S41))→List (List (S41))→Int→List Int→Int→Int→Int→Option ((List (List (S41))))
 | 0,_,_,_,_,_,_,_=>none
 | k + 1,x1,x5,x6,x274000,x274001,x274002,x274003=>if x6 < (x1.length : Int) then (thresherref09_Sort.l1 k x1 x5 x6 (([] : List (List (S41)))) false 0 x274000 x274001 x274002 x274003) else (some x5)
def thresherref09_Sort.l1 : Nat→List (List (S41))→List (List (S41))→Int→List (List (S41))→Bool→Int→List Int→Int→Int→Int→Option ((List (List (S41))))
 | 0,_,_,_,_,_,_,_,_,_,_=>none
 | k + 1,x1,x5,x6,x7,x8,x9,x274000,x274001,x274002,x274003=>if x9 < (x5.length : Int) then (if x8=true then (if 0≤x9 then (if x7.length < 5864062014805 then (thresherref09_Sort.l1 k x1 x5 x6 (x7 ++ [rd_L5 x5 x9]) x8 (wrap64 (x9 + 1)) x274000 x274001 x274002 x274003) else (none)) else (none)) else (if 0≤x9 then (if 0≤x6 then (if x6 < (x1.length : Int) then ((thresherref04_Compare.f k x274000 x274001 x274002 x274003 (rd_L5 x5 x9) (rd_L5 x1 x6)).bind fun t282=>(if t282 > 0 then (if x7.length < 5864062014805 then ((some (x7 ++ [rd_L5 x1 x6] : List (List (S41)))).bind fun y288=>(if y288.length < 5864062014805 then (thresherref09_Sort.l1 k x1 x5 x6 (y288 ++ [rd_L5 x5 x9]) true (wrap64 (x9 + 1)) x274000 x274001 x274002 x274003) else (none))) else (none)) else (if x7.length < 5864062014805 then (thresherref09_Sort.l1 k x1 x5 x6 (x7 ++ [rd_L5 x5 x9]) x8 (wrap64 (x9 + 1)) x274000 x274001 x274002 x274003) else (none)))) else (none)) else (none)) else (none))) else (if x8=true then (thresherref09_Sort.l0 k x1 x7 (wrap64 (x6 + 1)) x274000 x274001 x274002 x274003) else (if 0≤x6 then (if x6 < (x1.length : Int) then (if x7.length < 5864062014805 then (thresherref09_Sort.l0 k x1 (x7 ++ [rd_L5 x1 x6]) (wrap64 (x6 + 1)) x274000 x274001 x274002 x274003) else (none)) else (none)) else (none)))
end
def thresherref09_Sort.f (k : Nat) (l0_0 : List Int) (a0_1 : Int) (a0_2 : Int) (a0_3 : Int) (l1 : List (List (S41))) : Option ((List (List (S41)))):=thresherref09_Sort.l0 k l1 (([] : List (List (S41)))) 0 l0_0 a0_1 a0_2 a0_3
theorem thresherref09_Sort.mono_l : ∀ k,(∀ y0 y1 y2 y3 y4 y5 y6,LeO (thresherref09_Sort.l0 k y0 y1 y2 y3 y4 y5 y6) (thresherref09_Sort.l0 (k + 1) y0 y1 y2 y3 y4 y5 y6))∧(∀ y0 y1 y2 y3 y4 y5 y6 y7 y8 y9,LeO (thresherref09_Sort.l1 k y0 y1 y2 y3 y4 y5 y6 y7 y8 y9) (thresherref09_Sort.l1 (k + 1) y0 y1 y2 y3 y4 y5 y6 y7 y8 y9))
 | 0=>⟨fun _ _ _ _ _ _ _ r h=>by simp [thresherref09_Sort.l0] at h,fun _ _ _ _ _ _ _ _ _ _ r h=>by simp [thresherref09_Sort.l1] at h⟩
 | k + 1=>by
  obtain ⟨ih0,ih1⟩:=thresherref09_Sort.mono_l k
  refine ⟨?_,?_⟩
  ·intro y0 y1 y2 y3 y4 y5 y6
   unfold thresherref09_Sort.l0
   repeat' first
   | (with_reducible exact ih0 _ _ _ _ _ _ _)
   | (with_reducible exact ih1 _ _ _ _ _ _ _ _ _ _)
   | (with_reducible exact thresherref04_Compare.mono _ _ _ _ _ _ _)
   | (with_reducible exact LeO.refl _)
   | (with_reducible exact LeO.none _)
   | (with_reducible refine LeO.ite ?_ ?_)
   | (with_reducible refine LeO.bind ?_ (fun _=>?_))
   | exact ih0 _ _ _ _ _ _ _
   | exact ih1 _ _ _ _ _ _ _ _ _ _
   | exact thresherref04_Compare.mono _ _ _ _ _ _ _
   | exact LeO.none _
   | refine LeO.ite ?_ ?_
   | refine LeO.bind ?_ (fun _=>?_)
  ·intro y0 y1 y2 y3 y4 y5 y6 y7 y8 y9
   unfold thresherref09_Sort.l1
   repeat' first
   | (with_reducible exact ih0 _ _ _ _ _ _ _)
   | (with_reducible exact ih1 _ _ _ _ _ _ _ _ _ _)
   | (with_reducible exact thresherref04_Compare.mono _ _ _ _ _ _ _)
   | (with_reducible exact LeO.refl _)
   | (with_reducible exact LeO.none _)
   | (with_reducible refine LeO.ite ?_ ?_)
   | (with_reducible refine LeO.bind ?_ (fun _=>?_))
   | exact ih0 _ _ _ _ _ _ _
   | exact ih1 _ _ _ _ _ _ _ _ _ _
   | exact thresherref04_Compare.mono _ _ _ _ _ _ _
   | exact LeO.none _
   | refine LeO.ite ?_ ?_
   | refine LeO.bind ?_ (fun _=>?_)
theorem thresherref09_Sort.mono : ∀ a0 a1 a2 a3 a4 k,LeO (thresherref09_Sort.f k a0 a1 a2 a3 a4) (thresherref09_Sort.f (k + 1) a0 a1 a2 a3 a4):=by
 intro a0 a1 a2 a3 a4 k
 obtain ⟨ih0,ih1⟩:=thresherref09_Sort.mono_l k
 unfold thresherref09_Sort.f
 repeat' first
   | (with_reducible exact ih0 _ _ _ _ _ _ _)
   | (with_reducible exact ih1 _ _ _ _ _ _ _ _ _ _)
   | (with_reducible exact thresherref04_Compare.mono _ _ _ _ _ _ _)
   | (with_reducible exact LeO.refl _)
   | (with_reducible exact LeO.none _)
   | (with_reducible refine LeO.ite ?_ ?_)
   | (with_reducible refine LeO.bind ?_ (fun _=>?_))
   | exact ih0 _ _ _ _ _ _ _
   | exact ih1 _ _ _ _ _ _ _ _ _ _
   | exact thresherref04_Compare.mono _ _ _ _ _ _ _
   | exact LeO.none _
   | refine LeO.ite ?_ ?_
   | refine LeO.bind ?_ (fun _=>?_)
def thresherref09_Sort.T10 : Bool × List (List Nat × List Nat):=(true,[([],[]),([0],[0]),([1],[1]),([2],[2]),([2],[2]),([2],[2]),([4,5,2],[2,4,5]),([6,2],[2,6]),([2],[2]),([2],[2]),([8,9,2],[2,8,9]),([10,2],[2,10]),([3,7,11,2,2],[2,3,7,11]),([12,2],[2,12]),([2,13],[2,13])])
def thresherref09_Sort.B10 : List Nat:=[0,1,3,7,7,7,55,119,7,7,775,1799,4095,8191,16383]
theorem thresherref09_Sort.tab10 : rtab .any (opsOf Try.f17 10)=thresherref09_Sort.T10:=by kernel_rfl
theorem thresherref09_Sort.bits10 : waitsOk thresherref09_Sort.T10.2 thresherref09_Sort.B10=true:=by kernel_rfl
set_option maxHeartbeats 8000000 in
set_option maxRecDepth 100000 in
theorem thresherref09_Sort.calls (k : Nat) (A0_0 : Option Addr) (c0_0 : Nat) (l0_0 : List Int) (a0_1 : Int) (a0_2 : Int) (a0_3 : Int) (P1_ : Nat→Prop) (A1 : Option Addr) (c1 : Nat) (l1 : List (List (S41))) (r : List (List (S41))) (w : World) (hr0_0 : Kd.C (Kd.int .i64) w A0_0 l0_0.length l0_0) (hc0_0 : l0_0.length≤c0_0) (hs1 : Kd.V (Kd.slice 41 k41) 27 w w.heap.size (fun k_=>P1_ k_) (.slice A1 l1.length c1) l1) (h : thresherref09_Sort.f k l0_0 a0_1 a0_2 a0_3 l1=some r) :
  Calls Try.prog 17 #[.agg #[.slice A0_0 l0_0.length c0_0,.int .i64 a0_1,.int .i64 a0_2,.int .i64 a0_3],.slice A1 l1.length c1] w fun e w'=>∃ v0_ : Value,e=.returned (v0_)∧Kd.N (Kd.slice 41 k41) 27 w' w.heap.size (fun k_=>(P1_ k_ ∨ w.heap.size≤k_)) v0_ r∧Below w.heap.size w w':=by
 have hu31:=Try.underlying31
 have HR0_0:=Aside0.mk hr0_0
 have HC0_0:=Aside0.mk hc0_0
 clear hr0_0 hc0_0
 have HO1:=Aside0.mk (show Kd.V (Kd.slice 41 k41) 27 w w.heap.size (fun k_=>(P1_ k_ ∨ w.heap.size≤k_)) (.slice A1 l1.length c1) l1 from Kd.V_mono hs1 (fun k_ hk=>.inl hk))
 have HB:=Aside0.mk (Below.refl w.heap.size w)
 have H : (thresherref09_Sort.l0 k l1 (([] : List (List (S41)))) 0 l0_0 a0_1 a0_2 a0_3)=some r:=h
 clear h
 obtain ⟨y274,hy274⟩ : ∃ y_ : List (List (S41)),y_=(([] : List (List (S41)))):=⟨_,rfl⟩
 replace H : (thresherref09_Sort.l0 k l1 y274 0 l0_0 a0_1 a0_2 a0_3)=some r:=by first|(rw [hy274];with_reducible exact H)|(have H2_:=(Option.bind_some _ _).symm.trans H;rw [hy274];with_reducible exact H2_)|(have H2_:=(Option.bind_some _ _).symm.trans H;with_reducible exact H2_)|with_reducible exact H|(rw [hy274];exact H)|exact H
 have Ny274:=Aside0.mk hy274
 clear hy274
 have H':=Aside0.mk H
 clear H
 go_enter Try.func17,Try.ntmps17
 go_wp2_with (first|((with_reducible refine gate_dst (N:=2) rfl ?_);refine box_event ?hg (N:=2) ?hd (cs:=#[.slice A0_0 l0_0.length c0_0,.int .i64 a0_1,.int .i64 a0_2,.int .i64 a0_3]) (t:=31) ?hr ?_;(case hd=>rfl);(case hg=>rfl);(case hr=>first|(go_simp;done)|(go_simp;rfl));intro gb273 hg w3 hbox hb;have n0_:=Aside0.mk (Kd.V_below (Kd.V_elderB (V_up HO1.out) gb273 (Nat.le_of_eq hg.symm)) hb);have n1_:=Aside0.mk (below_step (below_up HB.out) hb);have n2_:=Aside0.mk (hbox);have n3_:=Aside0.mk ((by rw [hg];exact (below_size (below_up HB.out)) : w.heap.size≤gb273));have n4_:=Aside0.mk ((by rw [hg];exact (below_size (below_up HB.out)) : w.heap.size≤gb273));clear HO1;clear HB;have HO1:=n0_;have HB:=n1_;have BK273:=n2_;have GW273:=n3_;have GE273:=n4_;clear n0_ n1_ n2_ n3_ n4_;clear hb hbox hg)|((with_reducible refine gate_dst (N:=10) rfl ?_);refine Kd.N_lit (Kd.slice 41 k41) _ 27 ?hg (N':=10) ?hd (xs:=([] : List (List (S41)))) (inner:=[]) (ok:=(fun k_=>(P1_ k_ ∨ w.heap.size≤k_)∧k_≠gb273)) (okp:=(fun k_=>(P1_ k_ ∨ w.heap.size≤k_)∧k_≠gb273)) ?hr ?hp (fun _ hk=>hk) ((show ∀ k_,w3.heap.size≤k_→(fun k_=>(P1_ k_ ∨ w.heap.size≤k_)∧k_≠gb273) k_ from fun k_ hk=>⟨(.inr (Nat.le_trans (below_size (below_go HB.out)) hk)),Kd.freshB (blk_up BK273.out) k_ hk⟩) _ (Nat.le_refl _)) (Below.refl _ _) (Nat.le_refl _) (by simp) ?_;(case hd=>rfl);(case hg=>rfl);(case hr=>first|(go_simp;done)|(go_simp;rfl));(case hp=>exact (Reps.none _ _));intro v275 w4 ho5 hb hg_ hnew_;clear hg_ hnew_;(first|rw [← Ny274.out] at ho5|(simp only [Int.reduceToNat] at ho5;rw [← Ny274.out] at ho5));have n0_:=Aside0.mk (Kd.V_elder' (V_up HO1.out) (Kd.N_base ho5) hb);have n1_:=Aside0.mk (Kd.N_lower ho5 (below_size (below_go HB.out)));have n2_:=Aside0.mk (blk_below (blk_up BK273.out) hb);have n3_:=Aside0.mk (below_step (below_go HB.out) hb);clear HO1;clear BK273;clear HB;have HO1:=n0_;have HO276:=n1_;have BK273:=n2_;have HB:=n3_;clear n0_ n1_ n2_ n3_;clear hb ho5))
 go_loopg [5,6] k (fun kq v5 v6 w'=>∃ (x5_1 : List (List (S41))) (x6_1 : Int),v6=.int .i64 x6_1∧Aside0 (thresherref09_Sort.l0 kq l1 x5_1 x6_1 l0_0 a0_1 a0_2 a0_3=some r)∧Aside0 (kq≤k)∧Aside0 (Kd.V (Kd.slice 41 k41) 27 w' w.heap.size (fun k_=>(P1_ k_ ∨ w.heap.size≤k_)∧some k_≠(v5 : Value).ownBlock∧k_≠gb273) (.slice A1 l1.length c1) l1)∧Aside0 (Kd.N (Kd.slice 41 k41) 27 w' w.heap.size (fun k_=>(P1_ k_ ∨ w.heap.size≤k_)∧k_≠gb273) v5 x5_1)∧Aside0 (w'.heap[gb273]?=some (.cells #[(.slice A0_0 l0_0.length c0_0),.int .i64 a0_1,.int .i64 a0_2,.int .i64 a0_3] 31 (0,0)))∧Aside0 (Below w.heap.size w w'))
 case atStart=>exact ⟨(y274),(0),(by first|rfl|(simp;done)|(simp [*];done)),H',⟨Nat.le_refl _⟩,⟨by (with_reducible repeat (first|apply Kd.V_alloc|apply Kd.V_drewN|apply Kd.V_drew));exact Kd.V_mono HO1.out (fun _ hk=>⟨hk.1.1,⟨hk.2,hk.1.2⟩⟩)⟩,⟨by (with_reducible repeat (first|apply Kd.N_alloc|apply Kd.N_drewN|apply Kd.N_drew));exact HO276.out⟩,⟨by (with_reducible repeat (first|refine blk_drewN ?_ _|refine blk_drew ?_|refine blk_alloc ?_ _));exact BK273.out⟩,⟨by repeat (first|(with_reducible first|exact HB.out|apply below_alloc|apply pw_below_drewN|apply below_drew1|refine below_set ?_ GE273.out)|exact HB.out)⟩⟩
 case round =>
  clear H'
  try clear c1
  try clear p2
  obtain ⟨x5_1,x6_1,rfl,HA,HK1,HO_1,HO_5,BK273,HB⟩:=hrel
  cases gk with
  | zero=>exact absurd HA.out (by simp [thresherref09_Sort.l0])
  | succ k1 =>
   have H:=HA.out
   clear HA
   simp only [thresherref09_Sort.l0] at H
   by_cases c6 : x6_1 < (l1.length : Int)
   ·rw [if_pos c6] at H
    have c6b0 : decide (x6_1 < (l1.length : Int))=true:=decide_eq_true c6
    clear c6
    obtain ⟨y277,hy277⟩ : ∃ y_ : List (List (S41)),y_=(([] : List (List (S41)))):=⟨_,rfl⟩
    replace H : (thresherref09_Sort.l1 k1 l1 x5_1 x6_1 y277 false 0 l0_0 a0_1 a0_2 a0_3)=some r:=by first|(rw [hy277];with_reducible exact H)|(have H2_:=(Option.bind_some _ _).symm.trans H;rw [hy277];with_reducible exact H2_)|(have H2_:=(Option.bind_some _ _).symm.trans H;with_reducible exact H2_)|with_reducible exact H|(rw [hy277];exact H)|exact H
    have Ny277:=Aside0.mk hy277
    clear hy277
    have H':=Aside0.mk H
    clear H
    go_wp2_with (first|((with_reducible refine gate_dst (N:=17) rfl ?_);refine Kd.N_lit (Kd.slice 41 k41) _ 27 ?hg (N':=17) ?hd (xs:=([] : List (List (S41)))) (inner:=[]) (ok:=(fun k_=>(P1_ k_ ∨ w.heap.size≤k_)∧some k_≠(u5 : Value).ownBlock∧k_≠gb273)) (okp:=(fun k_=>(P1_ k_ ∨ w.heap.size≤k_)∧some k_≠(u5 : Value).ownBlock∧k_≠gb273)) ?hr ?hp (fun _ hk=>hk) ((show ∀ k_,wr.heap.size≤k_→(fun k_=>(P1_ k_ ∨ w.heap.size≤k_)∧some k_≠(u5 : Value).ownBlock∧k_≠gb273) k_ from fun k_ hk=>⟨(.inr (Nat.le_trans (below_size (below_go HB.out)) hk)),Kd.fresh' (Kd.N_lt (N_up HO_5.out)) k_ hk,Kd.freshB (blk_up BK273.out) k_ hk⟩) _ (Nat.le_refl _)) (Below.refl _ _) (Nat.le_refl _) (by simp) ?_;(case hd=>rfl);(case hg=>rfl);(case hr=>first|(go_simp;done)|(go_simp;rfl));(case hp=>exact (Reps.none _ _));intro v278 w7 ho8 hb hg_ hnew_;clear hg_ hnew_;(first|rw [← Ny277.out] at ho8|(simp only [Int.reduceToNat] at ho8;rw [← Ny277.out] at ho8));have n0_:=Aside0.mk (Kd.V_elder' (V_up HO_1.out) (Kd.N_base ho8) hb);have n1_:=Aside0.mk (Kd.N_elder' (N_up HO_5.out) (Kd.N_base ho8) hb);have n2_:=Aside0.mk (Kd.N_lower ho8 (below_size (below_go HB.out)));have n3_:=Aside0.mk (blk_below (blk_up BK273.out) hb);have n4_:=Aside0.mk (below_step (below_go HB.out) hb);clear HO_1;clear HO_5;clear BK273;clear HB;have HO_1:=n0_;have HO_5:=n1_;have HO279:=n2_;have BK273:=n3_;have HB:=n4_;clear n0_ n1_ n2_ n3_ n4_;clear hb ho8))
    go_loopg [7,8,9] k1 (fun kq v7 v8 v9 w'=>∃ (x7_2 : List (List (S41))) (x8_2 : Bool) (x9_2 : Int),v8=.bool x8_2∧v9=.int .i64 x9_2∧Aside0 (thresherref09_Sort.l1 kq l1 x5_1 x6_1 x7_2 x8_2 x9_2 l0_0 a0_1 a0_2 a0_3=some r)∧Aside0 (kq≤k1)∧Aside0 (Kd.V (Kd.slice 41 k41) 27 w' w.heap.size (fun k_=>(P1_ k_ ∨ w.heap.size≤k_)∧some k_≠(u5 : Value).ownBlock∧some k_≠(v7 : Value).ownBlock∧k_≠gb273) (.slice A1 l1.length c1) l1)∧Aside0 (Kd.N (Kd.slice 41 k41) 27 w' w.heap.size (fun k_=>(P1_ k_ ∨ w.heap.size≤k_)∧some k_≠(v7 : Value).ownBlock∧k_≠gb273) u5 x5_1)∧Aside0 (Kd.N (Kd.slice 41 k41) 27 w' w.heap.size (fun k_=>(P1_ k_ ∨ w.heap.size≤k_)∧some k_≠(u5 : Value).ownBlock∧k_≠gb273) v7 x7_2)∧Aside0 (w'.heap[gb273]?=some (.cells #[(.slice A0_0 l0_0.length c0_0),.int .i64 a0_1,.int .i64 a0_2,.int .i64 a0_3] 31 (0,0)))∧Aside0 (Below w.heap.size w w'))
    case atStart=>exact ⟨(y277),(false),(0),(by first|rfl|(simp;done)|(simp [*];done)),(by first|rfl|(simp;done)|(simp [*];done)),H',⟨Nat.le_refl _⟩,⟨by (with_reducible repeat (first|apply Kd.V_alloc|apply Kd.V_drewN|apply Kd.V_drew));exact Kd.V_mono HO_1.out (fun _ hk=>⟨hk.1.1,⟨hk.1.2.1,⟨hk.2,hk.1.2.2⟩⟩⟩)⟩,⟨by (with_reducible repeat (first|apply Kd.N_alloc|apply Kd.N_drewN|apply Kd.N_drew));exact Kd.N_mono HO_5.out (fun _ hk=>⟨hk.1.1,⟨hk.2,hk.1.2⟩⟩)⟩,⟨by (with_reducible repeat (first|apply Kd.N_alloc|apply Kd.N_drewN|apply Kd.N_drew));exact HO279.out⟩,⟨by (with_reducible repeat (first|refine blk_drewN ?_ _|refine blk_drew ?_|refine blk_alloc ?_ _));exact BK273.out⟩,⟨by repeat (first|(with_reducible first|exact HB.out|apply below_alloc|apply pw_below_drewN|apply below_drew1|refine below_set ?_ GE273.out)|exact HB.out)⟩⟩
    case round =>
     clear H'
     try clear c1
     try clear p2
     try clear c6
     try clear c6b0
     try clear p2
     obtain ⟨x7_2,x8_2,x9_2,rfl,rfl,HA,HK2,HO_1,HO_5,HO_7,BK273,HB⟩:=hrel
     cases gk with
     | zero=>exact absurd HA.out (by simp [thresherref09_Sort.l1])
     | succ k2 =>
      have H:=HA.out
      clear HA
      simp only [thresherref09_Sort.l1] at H
      by_cases c9 : x9_2 < (x5_1.length : Int)
      ·rw [if_pos c9] at H
       have c9b0 : decide (x9_2 < (x5_1.length : Int))=true:=decide_eq_true c9
       clear c9
       by_cases c10 : x8_2=true
       ·subst c10
        have H1 : (if 0≤x9_2 then (if x7_2.length < 5864062014805 then (thresherref09_Sort.l1 k2 l1 x5_1 x6_1 (x7_2 ++ [rd_L5 x5_1 x9_2]) true (wrap64 (x9_2 + 1)) l0_0 a0_1 a0_2 a0_3) else (none)) else (none))=some r:=by rw [if_pos rfl] at H;exact H
        clear H
        have H:=H1
        clear H1
        by_cases c11 : 0≤x9_2
        ·rw [if_pos c11] at H
         have c11b0 : decide (0≤x9_2)=true:=decide_eq_true c11
         clear c11
         by_cases c12 : x7_2.length < 5864062014805
         ·rw [if_pos c12] at H
          have LMc12:=Aside0.mk c12
          clear c12
          obtain ⟨y284,hy284⟩ : ∃ y_ : List (List (S41)),y_=(x7_2 ++ [rd_L5 x5_1 x9_2]):=⟨_,rfl⟩
          replace H : (thresherref09_Sort.l1 k2 l1 x5_1 x6_1 y284 true (wrap64 (x9_2 + 1)) l0_0 a0_1 a0_2 a0_3)=some r:=by first|(rw [hy284];with_reducible exact H)|(have H2_:=(Option.bind_some _ _).symm.trans H;rw [hy284];with_reducible exact H2_)|(have H2_:=(Option.bind_some _ _).symm.trans H;with_reducible exact H2_)|with_reducible exact H|(rw [hy284];exact H)|exact H
          have Ny284:=Aside0.mk hy284
          clear hy284
          have H':=Aside0.mk H
          clear H
          obtain ⟨Ao13,co13,eo13⟩:=Kd.N_slice HO_5.out
          subst eo13
          try go_wp2
          have n0_:=Aside0.mk (Kd.V_drew HO_1.out)
          have n1_:=Aside0.mk (Kd.N_drew HO_5.out)
          have n2_:=Aside0.mk (Kd.N_drew HO_7.out)
          have n3_:=Aside0.mk (blk_drew BK273.out)
          have n4_:=Aside0.mk (below_drew1 HB.out)
          clear HO_1
          clear HO_5
          clear HO_7
          clear BK273
          clear HB
          have HO_1:=n0_
          have HO_5:=n1_
          have HO_7:=n2_
          have BK273:=n3_
          have HB:=n4_
          clear n0_ n1_ n2_ n3_ n4_
          refine start_ (n:=15) (S:=fun w'=>True) (ds:=[]) #[false,false,false,false,false,false,false,false,false,false,false,false,false,false,false] (by kernel_rfl) rfl rfl trivial (fun hHeld=>?_);refine with_tabW thresherref09_Sort.tab10 thresherref09_Sort.bits10 (fun HT_ HW_=>?_)
          generalize wr.drew=w14 at HO_1 HO_5 HO_7 BK273 HB hHeld ⊢
          refine pure_ (i:=0) (N:=some 24) (v:=?_) (a':=?_) #[true,false,false,false,false,false,false,false,false,false,false,false,false,false,false] rfl rfl (any_of HT_.out (by kernel_rfl)) (fun _ _ _ h=>h) (Or.inl ⟨by rfl,?_⟩) ?_ ?_
          rotate_left;(intro w';go_simp;with_reducible rfl);rotate_left;(simp only [Act.put,List.setIfInBounds_toArray,List.set_cons_zero,List.set_cons_succ,i64_w,i32_w];rfl)
          refine pure_ (i:=1) (N:=some 25) (v:=?_) (a':=?_) #[true,true,false,false,false,false,false,false,false,false,false,false,false,false,false] rfl rfl (any_of HT_.out (by kernel_rfl)) (fun _ _ _ h=>h) (Or.inl ⟨by rfl,?_⟩) ?_ ?_
          rotate_left;(intro w';go_simp;with_reducible rfl);rotate_left;(simp only [Act.put,List.setIfInBounds_toArray,List.set_cons_zero,List.set_cons_succ,i64_w,i32_w];rfl)
          refine pure_ (i:=2) (N:=some 26) (v:=?_) (a':=?_) #[true,true,true,false,false,false,false,false,false,false,false,false,false,false,false] rfl rfl (any_of HT_.out (by kernel_rfl)) (fun _ _ _ h=>h) (Or.inl ⟨by rfl,?_⟩) ?_ ?_
          rotate_left;(intro w';go_simp;with_reducible rfl);rotate_left;(simp only [Act.put,List.setIfInBounds_toArray,List.set_cons_zero,List.set_cons_succ,i64_w,i32_w];rfl)
          refine pure_ (i:=3) (N:=some 27) (v:=undef) (a':=?_) #[true,true,true,true,false,false,false,false,false,false,false,false,false,false,false] rfl rfl (any_of HT_.out (by kernel_rfl)) (fun _ _ _ h=>h) (Or.inr ⟨by rfl,rfl⟩) ?_ ?_
          rotate_left
          ·simp only [Act.put,List.setIfInBounds_toArray,List.set_cons_zero,List.set_cons_succ,i64_w,i32_w]
           rfl
          refine pure_ (i:=4) (N:=some 28) (v:=undef) (a':=?_) #[true,true,true,true,true,false,false,false,false,false,false,false,false,false,false] rfl rfl (any_of HT_.out (by kernel_rfl)) (fun _ _ _ h=>h) (Or.inr ⟨by rfl,rfl⟩) ?_ ?_
          rotate_left
          ·simp only [Act.put,List.setIfInBounds_toArray,List.set_cons_zero,List.set_cons_succ,i64_w,i32_w]
           rfl
          refine pure_ (i:=5) (N:=some 29) (v:=undef) (a':=?_) #[true,true,true,true,true,true,false,false,false,false,false,false,false,false,false] rfl rfl (any_of HT_.out (by kernel_rfl)) (fun _ _ _ h=>h) (Or.inr ⟨by rfl,rfl⟩) ?_ ?_
          rotate_left
          ·simp only [Act.put,List.setIfInBounds_toArray,List.set_cons_zero,List.set_cons_succ,i64_w,i32_w]
           rfl
          refine pure_ (i:=6) (N:=some 30) (v:=undef) (a':=?_) #[true,true,true,true,true,true,true,false,false,false,false,false,false,false,false] rfl rfl (any_of HT_.out (by kernel_rfl)) (fun _ _ _ h=>h) (Or.inr ⟨by rfl,rfl⟩) ?_ ?_
          rotate_left
          ·simp only [Act.put,List.setIfInBounds_toArray,List.set_cons_zero,List.set_cons_succ,i64_w,i32_w]
           rfl
          refine pure_ (i:=7) (N:=some 31) (v:=undef) (a':=?_) #[true,true,true,true,true,true,true,true,false,false,false,false,false,false,false] rfl rfl (any_of HT_.out (by kernel_rfl)) (fun _ _ _ h=>h) (Or.inr ⟨by rfl,rfl⟩) ?_ ?_
          rotate_left
          ·simp only [Act.put,List.setIfInBounds_toArray,List.set_cons_zero,List.set_cons_succ,i64_w,i32_w]
           rfl
          refine pure_ (i:=8) (N:=some 32) (v:=undef) (a':=?_) #[true,true,true,true,true,true,true,true,true,false,false,false,false,false,false] rfl rfl (any_of HT_.out (by kernel_rfl)) (fun _ _ _ h=>h) (Or.inr ⟨by rfl,rfl⟩) ?_ ?_
          rotate_left
          ·simp only [Act.put,List.setIfInBounds_toArray,List.set_cons_zero,List.set_cons_succ,i64_w,i32_w]
           rfl
          refine pure_ (i:=9) (N:=some 33) (v:=undef) (a':=?_) #[true,true,true,true,true,true,true,true,true,true,false,false,false,false,false] rfl rfl (any_of HT_.out (by kernel_rfl)) (fun _ _ _ h=>h) (Or.inr ⟨by rfl,rfl⟩) ?_ ?_
          rotate_left
          ·simp only [Act.put,List.setIfInBounds_toArray,List.set_cons_zero,List.set_cons_succ,i64_w,i32_w]
           rfl
          refine pure_ (i:=10) (N:=some 34) (v:=undef) (a':=?_) #[true,true,true,true,true,true,true,true,true,true,true,false,false,false,false] rfl rfl (any_of HT_.out (by kernel_rfl)) (fun _ _ _ h=>h) (Or.inr ⟨by rfl,rfl⟩) ?_ ?_
          rotate_left
          ·simp only [Act.put,List.setIfInBounds_toArray,List.set_cons_zero,List.set_cons_succ,i64_w,i32_w]
           rfl
          refine pure_ (i:=11) (N:=some 35) (v:=undef) (a':=?_) #[true,true,true,true,true,true,true,true,true,true,true,true,false,false,false] rfl rfl (any_of HT_.out (by kernel_rfl)) (fun _ _ _ h=>h) (Or.inr ⟨by rfl,rfl⟩) ?_ ?_
          rotate_left
          ·simp only [Act.put,List.setIfInBounds_toArray,List.set_cons_zero,List.set_cons_succ,i64_w,i32_w]
           rfl
          refine pure_ (i:=12) (N:=some 36) (v:=undef) (a':=?_) #[true,true,true,true,true,true,true,true,true,true,true,true,true,false,false] rfl rfl (any_of HT_.out (by kernel_rfl)) (fun _ _ _ h=>h) (Or.inr ⟨by rfl,rfl⟩) ?_ ?_
          rotate_left
          ·simp only [Act.put,List.setIfInBounds_toArray,List.set_cons_zero,List.set_cons_succ,i64_w,i32_w]
           rfl
          refine pure_ (i:=13) (N:=some 37) (v:=undef) (a':=?_) #[true,true,true,true,true,true,true,true,true,true,true,true,true,true,false] rfl rfl (any_of HT_.out (by kernel_rfl)) (fun _ _ _ h=>h) (Or.inr ⟨by rfl,rfl⟩) ?_ ?_
          rotate_left
          ·simp only [Act.put,List.setIfInBounds_toArray,List.set_cons_zero,List.set_cons_succ,i64_w,i32_w]
           rfl
          refine pure_ (i:=14) (N:=some 38) (v:=?_) (a':=?_) #[true,true,true,true,true,true,true,true,true,true,true,true,true,true,true] rfl rfl (any_of HT_.out (by kernel_rfl)) (fun _ _ _ h=>h) (Or.inl ⟨by rfl,?_⟩) ?_ ?_
          rotate_left;(intro w';go_simp;with_reducible rfl);rotate_left;(simp only [Act.put,List.setIfInBounds_toArray,List.set_cons_zero,List.set_cons_succ,i64_w,i32_w];rfl)
          refine done_ (done_of HT_.out (by kernel_rfl)) ?_
          (try clear hHeld)
          have p283 : 0≤(x9_2 : Int):=of_decide_eq_true (by first|(with_reducible assumption)|assumption)
          have q283 : x9_2 < (x5_1.length : Int):=of_decide_eq_true (by first|(with_reducible assumption)|assumption)
          obtain ⟨ad283,A283_0,c283_0,e283,hx283_0,hl283_0,hi283_0⟩:=at_L5 (Kd.N_reads' HO_5.out).2.2 x9_2 p283 q283
          cases e283
          obtain ⟨ce283,hce283,hMe283,hcc283⟩:=Kd.N_get HO_5.out [] x9_2 p283 (by first|exact q283|exact of_decide_eq_true (by first|(with_reducible assumption)|assumption)|(have e_:=(Kd.N_reads' HO_5.out).1;omega))
          obtain ⟨ua283_0,uc283_0,rfl,ul283_0,ge283_0⟩:=Kd.FK_slice_open hMe283
          have hv283_0:=hcc283 0 _ rfl
          rw [Nat.add_zero,show ((Kd.slice 41 k41)).sz=1 from rfl,Nat.mul_one] at hv283_0
          replace hv283_0:=Option.some.inj (hv283_0.symm.trans hx283_0)
          injection hv283_0 with hva_ hvn_ hvc_
          rw [hva_] at ge283_0
          rw [hvc_] at ul283_0
          have HL283_0:=Aside0.mk (show Kd.V k41 41 _ w.heap.size _ _ (rd_L5 x5_1 x9_2) from Kd.V_mk ul283_0 ge283_0)
          clear hva_ hvn_ hvc_ ge283_0 ul283_0
          clear hcc283 hce283
          have HR283_0:=Aside0.mk hi283_0
          have HC283_0:=Aside0.mk hl283_0
          clear hi283_0 hl283_0
          replace p283:=eq_true p283
          replace q283:=eq_true q283
          try go_wp2_with (first|((with_reducible refine gate_builtin (b:=.append) (xs:=#[.tmp 46,.tmp 51]) rfl ?_);at_builtin;refine Kd.N_append (Kd.slice 41 k41) (w0:=w) w.heap.size rfl (.tmp 46) (.tmp 51) 25 27 (.slice none 0 0) 24 rfl Try.underlying25 info27 rfl (by decide) (by omega) u7 x7_2 (rd_L5 x5_1 x9_2) [.slice A283_0 (rd_L5 x5_1 x9_2).length c283_0] (fun k_=>(P1_ k_ ∨ w.heap.size≤k_)∧some k_≠(.slice (some ad283) x5_1.length co13 : Value).ownBlock∧k_≠gb273) (fun k_=>((fun k_=>(P1_ k_ ∨ w.heap.size≤k_)∧some k_≠(.slice (some ad283) x5_1.length co13 : Value).ownBlock∧k_≠gb273)) k_∧some k_≠(u7 : Value).ownBlock) rfl rfl ?aP (fun _ hk=>hk) ?aF ?aO ?aB ?aS ?aL ?_;(case aP=>exact (Kd.FK_slice_mk (Kd.V_reads' (Kd.V_mono (ok':=(fun k_=>((fun k_=>(P1_ k_ ∨ w.heap.size≤k_)∧some k_≠(.slice (some ad283) x5_1.length co13 : Value).ownBlock∧k_≠gb273)) k_∧some k_≠(u7 : Value).ownBlock)) (HL283_0.out) (fun k_ hk=>⟨⟨hk.1.1,⟨hk.2,hk.1.2.2⟩⟩,hk.1.2.1⟩))).2.1 (Kd.V_F (Kd.V_mono (ok':=(fun k_=>((fun k_=>(P1_ k_ ∨ w.heap.size≤k_)∧some k_≠(.slice (some ad283) x5_1.length co13 : Value).ownBlock∧k_≠gb273)) k_∧some k_≠(u7 : Value).ownBlock)) (HL283_0.out) (fun k_ hk=>⟨⟨hk.1.1,⟨hk.2,hk.1.2.2⟩⟩,hk.1.2.1⟩)))));(case aB=>exact (below_go HB.out));(case aF=>exact (fun k_ hk=>⟨(.inr (Nat.le_trans (below_size (below_go HB.out)) hk)),Kd.fresh' (Kd.N_lt (N_up HO_5.out)) k_ hk,Kd.freshB (blk_up BK273.out) k_ hk⟩));(case aO=>exact (N_up HO_7.out));(case aS=>exact (below_size (below_go HB.out)));(case aL=>have:=LMc12.out;omega);intro v285 w15 ho hb hg hat;rw [← Ny284.out] at ho;have n0_:=Aside0.mk (Kd.V_afterv (ok:=(fun k_=>(P1_ k_ ∨ w.heap.size≤k_)∧some k_≠(.slice (some ad283) x5_1.length co13 : Value).ownBlock∧k_≠gb273)) (V_upm HO_1.out (fun _ hk=>⟨⟨hk.1,⟨hk.2.1,hk.2.2.2⟩⟩,hk.2.2.1⟩)) hg hat);have n1_:=Aside0.mk (Kd.N_afterv (ok:=(fun k_=>(P1_ k_ ∨ w.heap.size≤k_)∧k_≠gb273)) (N_upm HO_5.out (fun _ hk=>⟨⟨hk.1,hk.2.2⟩,hk.2.1⟩)) hg hat);have n2_:=Aside0.mk (blk_grown (blk_up BK273.out) hg (Kd.N_ne HO_7.out BK273.out (by decide)));have n3_:=Aside0.mk (Kd.V_afterv (ok:=(fun k_=>(P1_ k_ ∨ w.heap.size≤k_)∧some k_≠(.slice (some ad283) x5_1.length co13 : Value).ownBlock∧k_≠gb273)) (V_upm HL283_0.out (fun _ hk=>⟨⟨hk.1.1,⟨hk.2,hk.1.2.2⟩⟩,hk.1.2.1⟩)) hg hat);have n4_:=Aside0.mk (hb);have n5_:=Aside0.mk (ho);clear HO_1;clear HO_5;clear BK273;clear HL283_0;clear HB;clear HO_7;have HO_1:=n0_;have HO_5:=n1_;have BK273:=n2_;have HL283_0:=n3_;have HB:=n4_;have HO286:=n5_;clear n0_ n1_ n2_ n3_ n4_ n5_;clear ho hb hg hat))
          go_roundg k2
          case measure=>have:=HK1.out;have:=HK2.out;omega
          case rel=>exact ⟨(y284),(true),(wrap64 (x9_2 + 1)),(by first|rfl|(simp;done)|(simp [*];done)),(by first|rfl|(simp;done)|(simp [*];done)),(by first|exact H'|(subst_vars;exact H')),⟨by have:=HK1.out;have:=HK2.out;omega⟩,⟨by (with_reducible repeat (first|apply Kd.V_alloc|apply Kd.V_drewN|apply Kd.V_drew));exact Kd.V_mono HO_1.out (fun _ hk=>⟨hk.1.1,⟨hk.1.2.1,⟨hk.2,hk.1.2.2⟩⟩⟩)⟩,⟨by (with_reducible repeat (first|apply Kd.N_alloc|apply Kd.N_drewN|apply Kd.N_drew));exact Kd.N_mono HO_5.out (fun _ hk=>⟨hk.1.1,⟨hk.2,hk.1.2⟩⟩)⟩,⟨by (with_reducible repeat (first|apply Kd.N_alloc|apply Kd.N_drewN|apply Kd.N_drew));exact HO286.out⟩,⟨by (with_reducible repeat (first|refine blk_drewN ?_ _|refine blk_drew ?_|refine blk_alloc ?_ _));exact BK273.out⟩,⟨by repeat (first|(with_reducible first|exact HB.out|apply below_alloc|apply pw_below_drewN|apply below_drew1|refine below_set ?_ GE273.out)|exact HB.out)⟩⟩
         ·rw [if_neg c12] at H
          exact absurd H (by simp)
        ·rw [if_neg c11] at H
         exact absurd H (by simp)
       ·replace c10:=Bool.eq_false_iff.mpr c10
        subst c10
        have H1 : (if 0≤x9_2 then (if 0≤x6_1 then (if x6_1 < (l1.length : Int) then ((thresherref04_Compare.f k2 l0_0 a0_1 a0_2 a0_3 (rd_L5 x5_1 x9_2) (rd_L5 l1 x6_1)).bind fun t282=>(if t282 > 0 then (if x7_2.length < 5864062014805 then ((some (x7_2 ++ [rd_L5 l1 x6_1] : List (List (S41)))).bind fun y288=>(if y288.length < 5864062014805 then (thresherref09_Sort.l1 k2 l1 x5_1 x6_1 (y288 ++ [rd_L5 x5_1 x9_2]) true (wrap64 (x9_2 + 1)) l0_0 a0_1 a0_2 a0_3) else (none))) else (none)) else (if x7_2.length < 5864062014805 then (thresherref09_Sort.l1 k2 l1 x5_1 x6_1 (x7_2 ++ [rd_L5 x5_1 x9_2]) false (wrap64 (x9_2 + 1)) l0_0 a0_1 a0_2 a0_3) else (none)))) else (none)) else (none)) else (none))=some r:=by rw [if_neg (show ¬ (false=true) by decide)] at H;exact H
        clear H
        have H:=H1
        clear H1
        by_cases c16 : 0≤x9_2
        ·rw [if_pos c16] at H
         have c16b0 : decide (0≤x9_2)=true:=decide_eq_true c16
         clear c16
         by_cases c17 : 0≤x6_1
         ·rw [if_pos c17] at H
          have c17b0 : decide (0≤x6_1)=true:=decide_eq_true c17
          clear c17
          by_cases c18 : x6_1 < (l1.length : Int)
          ·rw [if_pos c18] at H
           have c18b0 : decide (x6_1 < (l1.length : Int))=true:=decide_eq_true c18
           clear c18
           replace H:=Option.bind_eq_some_iff.mp H
           obtain ⟨t282,A190,H⟩:=H
           replace H : (if t282 > 0 then (if x7_2.length < 5864062014805 then ((some (x7_2 ++ [rd_L5 l1 x6_1] : List (List (S41)))).bind fun y288=>(if y288.length < 5864062014805 then (thresherref09_Sort.l1 k2 l1 x5_1 x6_1 (y288 ++ [rd_L5 x5_1 x9_2]) true (wrap64 (x9_2 + 1)) l0_0 a0_1 a0_2 a0_3) else (none))) else (none)) else (if x7_2.length < 5864062014805 then (thresherref09_Sort.l1 k2 l1 x5_1 x6_1 (x7_2 ++ [rd_L5 x5_1 x9_2]) false (wrap64 (x9_2 + 1)) l0_0 a0_1 a0_2 a0_3) else (none)))=some r:=H
           have A19:=Aside0.mk A190
           clear A190
           by_cases c20 : t282 > 0
           ·rw [if_pos c20] at H
            have c20b0 : decide (0 < t282)=true:=decide_eq_true c20
            clear c20
            by_cases c21 : x7_2.length < 5864062014805
            ·rw [if_pos c21] at H
             have LMc21:=Aside0.mk c21
             clear c21
             obtain ⟨y288,hy288⟩ : ∃ y_ : List (List (S41)),y_=(x7_2 ++ [rd_L5 l1 x6_1]):=⟨_,rfl⟩
             replace H : (if y288.length < 5864062014805 then (thresherref09_Sort.l1 k2 l1 x5_1 x6_1 (y288 ++ [rd_L5 x5_1 x9_2]) true (wrap64 (x9_2 + 1)) l0_0 a0_1 a0_2 a0_3) else (none))=some r:=by first|(rw [hy288];with_reducible exact H)|(have H2_:=(Option.bind_some _ _).symm.trans H;rw [hy288];with_reducible exact H2_)|(have H2_:=(Option.bind_some _ _).symm.trans H;with_reducible exact H2_)|with_reducible exact H|(rw [hy288];exact H)|exact H
             have Ny288:=Aside0.mk hy288
             clear hy288
             by_cases c22 : y288.length < 5864062014805
             ·rw [if_pos c22] at H
              have LMc22:=Aside0.mk c22
              clear c22
              obtain ⟨y292,hy292⟩ : ∃ y_ : List (List (S41)),y_=(y288 ++ [rd_L5 x5_1 x9_2]):=⟨_,rfl⟩
              replace H : (thresherref09_Sort.l1 k2 l1 x5_1 x6_1 y292 true (wrap64 (x9_2 + 1)) l0_0 a0_1 a0_2 a0_3)=some r:=by first|(rw [hy292];with_reducible exact H)|(have H2_:=(Option.bind_some _ _).symm.trans H;rw [hy292];with_reducible exact H2_)|(have H2_:=(Option.bind_some _ _).symm.trans H;with_reducible exact H2_)|with_reducible exact H|(rw [hy292];exact H)|exact H
              have Ny292:=Aside0.mk hy292
              clear hy292
              have H':=Aside0.mk H
              clear H
              obtain ⟨Ao23,co23,eo23⟩:=Kd.N_slice HO_5.out
              subst eo23
              try go_wp2
              have n0_:=Aside0.mk (Kd.V_drew HO_1.out)
              have n1_:=Aside0.mk (Kd.N_drew HO_5.out)
              have n2_:=Aside0.mk (Kd.N_drew HO_7.out)
              have n3_:=Aside0.mk (blk_drew BK273.out)
              have n4_:=Aside0.mk (below_drew1 HB.out)
              clear HO_1
              clear HO_5
              clear HO_7
              clear BK273
              clear HB
              have HO_1:=n0_
              have HO_5:=n1_
              have HO_7:=n2_
              have BK273:=n3_
              have HB:=n4_
              clear n0_ n1_ n2_ n3_ n4_
              have p280 : 0≤(x9_2 : Int):=of_decide_eq_true (by first|(with_reducible assumption)|assumption)
              have q280 : x9_2 < (x5_1.length : Int):=of_decide_eq_true (by first|(with_reducible assumption)|assumption)
              obtain ⟨ad280,A280_0,c280_0,e280,hx280_0,hl280_0,hi280_0⟩:=at_L5 (Kd.N_reads' HO_5.out).2.2 x9_2 p280 q280
              cases e280
              obtain ⟨ce280,hce280,hMe280,hcc280⟩:=Kd.N_get HO_5.out [] x9_2 p280 (by first|exact q280|exact of_decide_eq_true (by first|(with_reducible assumption)|assumption)|(have e_:=(Kd.N_reads' HO_5.out).1;omega))
              obtain ⟨ua280_0,uc280_0,rfl,ul280_0,ge280_0⟩:=Kd.FK_slice_open hMe280
              have hv280_0:=hcc280 0 _ rfl
              rw [Nat.add_zero,show ((Kd.slice 41 k41)).sz=1 from rfl,Nat.mul_one] at hv280_0
              replace hv280_0:=Option.some.inj (hv280_0.symm.trans hx280_0)
              injection hv280_0 with hva_ hvn_ hvc_
              rw [hva_] at ge280_0
              rw [hvc_] at ul280_0
              have HL280_0:=Aside0.mk (show Kd.V k41 41 _ w.heap.size _ _ (rd_L5 x5_1 x9_2) from Kd.V_mk ul280_0 ge280_0)
              clear hva_ hvn_ hvc_ ge280_0 ul280_0
              clear hcc280 hce280
              have HR280_0:=Aside0.mk hi280_0
              have HC280_0:=Aside0.mk hl280_0
              clear hi280_0 hl280_0
              replace p280:=eq_true p280
              replace q280:=eq_true q280
              have p281 : 0≤(x6_1 : Int):=of_decide_eq_true (by first|(with_reducible assumption)|assumption)
              have q281 : x6_1 < (l1.length : Int):=of_decide_eq_true (by first|(with_reducible assumption)|assumption)
              obtain ⟨ad281,A281_0,c281_0,e281,hx281_0,hl281_0,hi281_0⟩:=at_L5 (Kd.V_reads' HO_1.out).2.2 x6_1 p281 q281
              cases e281
              obtain ⟨ce281,hce281,hMe281,hcc281⟩:=Kd.V_get HO_1.out [] x6_1 p281 (by first|exact q281|exact of_decide_eq_true (by first|(with_reducible assumption)|assumption)|(have e_:=(Kd.V_reads' HO_1.out).1;omega))
              obtain ⟨ua281_0,uc281_0,rfl,ul281_0,ge281_0⟩:=Kd.FK_slice_open hMe281
              have hv281_0:=hcc281 0 _ rfl
              rw [Nat.add_zero,show ((Kd.slice 41 k41)).sz=1 from rfl,Nat.mul_one] at hv281_0
              replace hv281_0:=Option.some.inj (hv281_0.symm.trans hx281_0)
              injection hv281_0 with hva_ hvn_ hvc_
              rw [hva_] at ge281_0
              rw [hvc_] at ul281_0
              have HL281_0:=Aside0.mk (show Kd.V k41 41 _ w.heap.size _ _ (rd_L5 l1 x6_1) from Kd.V_mk ul281_0 ge281_0)
              clear hva_ hvn_ hvc_ ge281_0 ul281_0
              clear hcc281 hce281
              have HR281_0:=Aside0.mk hi281_0
              have HC281_0:=Aside0.mk hl281_0
              clear hi281_0 hl281_0
              replace p281:=eq_true p281
              replace q281:=eq_true q281
              refine start_ (n:=15) (S:=fun w'=>w'.cell? ⟨gb273,0,none⟩=some (.slice A0_0 l0_0.length c0_0)∧w'.cell? ⟨gb273,1,none⟩=some (.int .i64 a0_1)∧w'.cell? ⟨gb273,2,none⟩=some (.int .i64 a0_2)∧w'.cell? ⟨gb273,3,none⟩=some (.int .i64 a0_3)∧w'.cell? (ad280.add (x9_2).toNat)=some (.slice A280_0 (rd_L5 x5_1 x9_2).length c280_0)∧w'.cell? (ad281.add (x6_1).toNat)=some (.slice A281_0 (rd_L5 l1 x6_1).length c281_0)) (ds:=[]) #[false,false,false,false,false,false,false,false,false,false,false,false,false,false,false] (by kernel_rfl) rfl rfl ⟨(blk_cell BK273.out 0).trans rfl,(blk_cell BK273.out 1).trans rfl,(blk_cell BK273.out 2).trans rfl,(blk_cell BK273.out 3).trans rfl,hx280_0,hx281_0⟩ (fun hHeld=>?_);refine with_tabW thresherref09_Sort.tab10 thresherref09_Sort.bits10 (fun HT_ HW_=>?_)
              generalize wr.drew=w24 at HO_1 HO_5 HO_7 BK273 HB HL280_0 HL281_0 HR280_0 HR281_0 hx280_0 hx281_0 hHeld ⊢
              refine pure_ (i:=0) (N:=some 24) (v:=?_) (a':=?_) #[true,false,false,false,false,false,false,false,false,false,false,false,false,false,false] rfl rfl (any_of HT_.out (by kernel_rfl)) (fun _ _ _ h=>h) (Or.inl ⟨by rfl,?_⟩) ?_ ?_
              rotate_left;(intro w';go_simp;with_reducible rfl);rotate_left;(simp only [Act.put,List.setIfInBounds_toArray,List.set_cons_zero,List.set_cons_succ,i64_w,i32_w];rfl)
              refine pure_ (i:=1) (N:=some 25) (v:=?_) (a':=?_) #[true,true,false,false,false,false,false,false,false,false,false,false,false,false,false] rfl rfl (any_of HT_.out (by kernel_rfl)) (fun _ _ _ h=>h) (Or.inl ⟨by rfl,?_⟩) ?_ ?_
              rotate_left;(intro w';go_simp;with_reducible rfl);rotate_left;(simp only [Act.put,List.setIfInBounds_toArray,List.set_cons_zero,List.set_cons_succ,i64_w,i32_w];rfl)
              refine pure_ (i:=2) (N:=some 26) (v:=?_) (a':=?_) #[true,true,true,false,false,false,false,false,false,false,false,false,false,false,false] rfl rfl (any_of HT_.out (by kernel_rfl)) (fun _ _ _ h=>h) (Or.inl ⟨by rfl,?_⟩) ?_ ?_
              rotate_left;(intro w';go_simp;with_reducible rfl);rotate_left;(simp only [Act.put,List.setIfInBounds_toArray,List.set_cons_zero,List.set_cons_succ,i64_w,i32_w];rfl)
              refine pure_ (i:=4) (N:=some 28) (v:=?_) (a':=?_) #[true,true,true,false,true,false,false,false,false,false,false,false,false,false,false] rfl rfl (any_of HT_.out (by kernel_rfl)) (fun _ _ _ h=>h) (Or.inl ⟨by rfl,?_⟩) ?_ ?_
              rotate_left;(intro w';go_simp;with_reducible rfl);rotate_left;(simp only [Act.put,List.setIfInBounds_toArray,List.set_cons_zero,List.set_cons_succ,i64_w,i32_w];rfl)
              refine pure_ (i:=5) (N:=some 29) (v:=?_) (a':=?_) #[true,true,true,false,true,true,false,false,false,false,false,false,false,false,false] rfl rfl (any_of HT_.out (by kernel_rfl)) (fun _ _ _ h=>h) (Or.inl ⟨by rfl,?_⟩) ?_ ?_
              rotate_left;(intro w';go_simp;with_reducible rfl);rotate_left;(simp only [Act.put,List.setIfInBounds_toArray,List.set_cons_zero,List.set_cons_succ,i64_w,i32_w];rfl)
              refine pure_ (i:=6) (N:=some 30) (v:=?_) (a':=?_) #[true,true,true,false,true,true,true,false,false,false,false,false,false,false,false] rfl rfl (any_of HT_.out (by kernel_rfl)) (fun _ _ _ h=>h) (Or.inl ⟨by rfl,?_⟩) ?_ ?_
              rotate_left;(intro w';go_simp;with_reducible rfl);rotate_left;(simp only [Act.put,List.setIfInBounds_toArray,List.set_cons_zero,List.set_cons_succ,i64_w,i32_w];rfl)
              refine pure_ (i:=8) (N:=some 32) (v:=?_) (a':=?_) #[true,true,true,false,true,true,true,false,true,false,false,false,false,false,false] rfl rfl (any_of HT_.out (by kernel_rfl)) (fun _ _ _ h=>h) (Or.inl ⟨by rfl,?_⟩) ?_ ?_
              rotate_left;(intro w';go_simp;with_reducible rfl);rotate_left;(simp only [Act.put,List.setIfInBounds_toArray,List.set_cons_zero,List.set_cons_succ,i64_w,i32_w];rfl)
              refine pure_ (i:=9) (N:=some 33) (v:=?_) (a':=?_) #[true,true,true,false,true,true,true,false,true,true,false,false,false,false,false] rfl rfl (any_of HT_.out (by kernel_rfl)) (fun _ _ _ h=>h) (Or.inl ⟨by rfl,?_⟩) ?_ ?_
              rotate_left;(intro w';go_simp;with_reducible rfl);rotate_left;(simp only [Act.put,List.setIfInBounds_toArray,List.set_cons_zero,List.set_cons_succ,i64_w,i32_w];rfl)
              refine pure_ (i:=10) (N:=some 34) (v:=?_) (a':=?_) #[true,true,true,false,true,true,true,false,true,true,true,false,false,false,false] rfl rfl (any_of HT_.out (by kernel_rfl)) (fun _ _ _ h=>h) (Or.inl ⟨by rfl,?_⟩) ?_ ?_
              rotate_left;(intro w';go_simp;with_reducible rfl);rotate_left;(simp only [Act.put,List.setIfInBounds_toArray,List.set_cons_zero,List.set_cons_succ,i64_w,i32_w];rfl)
              refine take_ (i:=3) (N:=some 27) (v:=?_) (a':=?_) #[true,true,true,true,true,true,true,false,true,true,true,false,false,false,false] rfl rfl (take_ofW HT_.out HW_.out (by kernel_rfl)) (fun _ _ _ h=>h) (Or.inl ⟨by rfl,?_⟩) hHeld ?_ ?_
              rotate_left;(rintro w' ⟨s0,s1,s2,s3,s4,s5⟩;go_simp;with_reducible rfl);rotate_left;(simp only [Act.put,List.setIfInBounds_toArray,List.set_cons_zero,List.set_cons_succ,i64_w,i32_w];rfl)
              refine take_ (i:=7) (N:=some 31) (v:=?_) (a':=?_) #[true,true,true,true,true,true,true,true,true,true,true,false,false,false,false] rfl rfl (take_ofW HT_.out HW_.out (by kernel_rfl)) (fun _ _ _ h=>h) (Or.inl ⟨by rfl,?_⟩) hHeld ?_ ?_
              rotate_left;(rintro w' ⟨s0,s1,s2,s3,s4,s5⟩;go_simp;with_reducible rfl);rotate_left;(simp only [Act.put,List.setIfInBounds_toArray,List.set_cons_zero,List.set_cons_succ,i64_w,i32_w];rfl)
              refine take_ (i:=11) (N:=some 35) (v:=?_) (a':=?_) #[true,true,true,true,true,true,true,true,true,true,true,true,false,false,false] rfl rfl (take_ofW HT_.out HW_.out (by kernel_rfl)) (fun _ _ _ h=>h) (Or.inl ⟨by rfl,?_⟩) hHeld ?_ ?_
              rotate_left;(rintro w' ⟨s0,s1,s2,s3,s4,s5⟩;go_simp;with_reducible rfl);rotate_left;(simp only [Act.put,List.setIfInBounds_toArray,List.set_cons_zero,List.set_cons_succ,i64_w,i32_w];rfl)
              refine one_ (i:=12) (N:=some 36) #[true,true,true,true,true,true,true,true,true,true,true,true,true,false,false] rfl rfl (one_of HT_.out (by kernel_rfl)) (by decide) (fun K hK=>?_)
              refine goes_ Try.func15 (by kernel_rfl) rfl #[.agg #[.slice A0_0 l0_0.length c0_0,.int .i64 a0_1,.int .i64 a0_2,.int .i64 a0_3],.slice A280_0 (rd_L5 x5_1 x9_2).length c280_0,.slice A281_0 (rd_L5 l1 x6_1).length c281_0] (by rfl) rfl rfl (by (try simp only [List.map_toArray,List.map_cons,List.map_nil]);first|done|rfl|(simp only [List.length_drop,List.length_take];rfl)) ?_
              with_reducible refine (thresherref04_Compare.calls k2 _ _ l0_0 a0_1 a0_2 a0_3 _ _ (rd_L5 x5_1 x9_2) _ _ (rd_L5 l1 x6_1) t282 _ ?side1 ?side2 ?side3 ?side4 ?side5 ?side6 A19.out).mono ?_
              (case side1=>repeat (first|exact (Kd.C_below HR0_0.out HB.out)|(with_reducible refine Kd.C_alloc ?_ _)|(with_reducible refine Kd.C_drewN ?_ _)|(with_reducible refine Kd.C_drew ?_)))
              (case side2=>exact HC0_0.out)
              (case side3=>repeat (first|exact (by repeat (first|(with_reducible exact HR280_0.out)|(with_reducible refine Kd.C_alloc ?_ _)|(with_reducible refine Kd.C_drewN ?_ _)|(with_reducible refine Kd.C_drew ?_)|exact HR280_0.out))|(with_reducible refine Kd.C_alloc ?_ _)|(with_reducible refine Kd.C_drewN ?_ _)|(with_reducible refine Kd.C_drew ?_)))
              (case side4=>exact HC280_0.out)
              (case side5=>repeat (first|exact (by repeat (first|(with_reducible exact HR281_0.out)|(with_reducible refine Kd.C_alloc ?_ _)|(with_reducible refine Kd.C_drewN ?_ _)|(with_reducible refine Kd.C_drew ?_)|exact HR281_0.out))|(with_reducible refine Kd.C_alloc ?_ _)|(with_reducible refine Kd.C_drewN ?_ _)|(with_reducible refine Kd.C_drew ?_)))
              (case side6=>exact HC281_0.out)
              rintro e w25 ⟨rfl,hb⟩
              have HS4_:=(hb.cell (World.block_lt_of_cell? _ _ (hHeld.2.2.2.2.1))).trans (hHeld.2.2.2.2.1)
              have HS5_:=(hb.cell (World.block_lt_of_cell? _ _ (hHeld.2.2.2.2.2))).trans (hHeld.2.2.2.2.2)
              refine ⟨_,rfl,?_⟩
              have n0_:=Aside0.mk (Kd.V_below (V_up HO_1.out) hb)
              have n1_:=Aside0.mk (Kd.N_below (N_up HO_5.out) hb)
              have n2_:=Aside0.mk (Kd.N_below (N_up HO_7.out) hb)
              have n3_:=Aside0.mk (Kd.V_below (by (with_reducible repeat (first|apply Kd.V_alloc|apply Kd.V_drewN|apply Kd.V_drew));exact HL280_0.out) hb)
              have n4_:=Aside0.mk (Kd.V_below (by (with_reducible repeat (first|apply Kd.V_alloc|apply Kd.V_drewN|apply Kd.V_drew));exact HL281_0.out) hb)
              have n5_:=Aside0.mk (blk_below (blk_up BK273.out) hb)
              have n6_:=Aside0.mk (Kd.C_below (by repeat (first|(with_reducible exact HR280_0.out)|(with_reducible refine Kd.C_alloc ?_ _)|(with_reducible refine Kd.C_drewN ?_ _)|(with_reducible refine Kd.C_drew ?_)|exact HR280_0.out)) hb)
              have n7_:=Aside0.mk (Kd.C_below (by repeat (first|(with_reducible exact HR281_0.out)|(with_reducible refine Kd.C_alloc ?_ _)|(with_reducible refine Kd.C_drewN ?_ _)|(with_reducible refine Kd.C_drew ?_)|exact HR281_0.out)) hb)
              have n8_:=Aside0.mk (below_step (below_go HB.out) hb)
              clear HO_1
              clear HO_5
              clear HO_7
              clear HL280_0
              clear HL281_0
              clear BK273
              clear HR280_0
              clear HR281_0
              clear HB
              have HO_1:=n0_
              have HO_5:=n1_
              have HO_7:=n2_
              have HL280_0:=n3_
              have HL281_0:=n4_
              have BK273:=n5_
              have HR280_0:=n6_
              have HR281_0:=n7_
              have HB:=n8_
              clear n0_ n1_ n2_ n3_ n4_ n5_ n6_ n7_ n8_
              (try clear hb)
              (try clear hb2)
              (try clear hk)
              (try clear hi)
              refine hK.out _ _ ⟨(blk_cell BK273.out 0).trans rfl,(blk_cell BK273.out 1).trans rfl,(blk_cell BK273.out 2).trans rfl,(blk_cell BK273.out 3).trans rfl,HS4_,HS5_⟩ (fun hHeld=>?_)
              clear hK K
              refine norm_ (a':=?_) ?_ ?_
              rotate_left
              ·show Act.put _ (some 36) _=_
               simp only [Act.put,List.setIfInBounds_toArray,List.set_cons_zero,List.set_cons_succ,i64_w,i32_w]
               rfl
              refine pure_ (i:=13) (N:=some 37) (v:=?_) (a':=?_) #[true,true,true,true,true,true,true,true,true,true,true,true,true,true,false] rfl rfl (any_of HT_.out (by kernel_rfl)) (fun _ _ _ h=>h) (Or.inl ⟨by rfl,?_⟩) ?_ ?_
              rotate_left;(intro w';go_simp;with_reducible rfl);rotate_left;(simp only [Act.put,List.setIfInBounds_toArray,List.set_cons_zero,List.set_cons_succ,i64_w,i32_w];rfl)
              refine pure_ (i:=14) (N:=some 38) (v:=?_) (a':=?_) #[true,true,true,true,true,true,true,true,true,true,true,true,true,true,true] rfl rfl (any_of HT_.out (by kernel_rfl)) (fun _ _ _ h=>h) (Or.inl ⟨by rfl,?_⟩) ?_ ?_
              rotate_left;(intro w';go_simp;with_reducible rfl);rotate_left;(simp only [Act.put,List.setIfInBounds_toArray,List.set_cons_zero,List.set_cons_succ,i64_w,i32_w];rfl)
              refine done_ (done_of HT_.out (by kernel_rfl)) ?_
              (try clear HS4_);(try clear HS5_);(try clear hHeld)
              have p287 : 0≤(x6_1 : Int):=of_decide_eq_true (by first|(with_reducible assumption)|assumption)
              have q287 : x6_1 < (l1.length : Int):=of_decide_eq_true (by first|(with_reducible assumption)|assumption)
              obtain ⟨ad287,A287_0,c287_0,e287,hx287_0,hl287_0,hi287_0⟩:=at_L5 (Kd.V_reads' HO_1.out).2.2 x6_1 p287 q287
              obtain rfl : ad281=ad287:=(by injection e287)
              obtain ⟨ce287,hce287,hMe287,hcc287⟩:=Kd.V_get HO_1.out [] x6_1 p287 (by first|exact q287|exact of_decide_eq_true (by first|(with_reducible assumption)|assumption)|(have e_:=(Kd.V_reads' HO_1.out).1;omega))
              obtain ⟨ua287_0,uc287_0,rfl,ul287_0,ge287_0⟩:=Kd.FK_slice_open hMe287
              have hv287_0:=hcc287 0 _ rfl
              rw [Nat.add_zero,show ((Kd.slice 41 k41)).sz=1 from rfl,Nat.mul_one] at hv287_0
              replace hv287_0:=Option.some.inj (hv287_0.symm.trans hx287_0)
              injection hv287_0 with hva_ hvn_ hvc_
              rw [hva_] at ge287_0
              rw [hvc_] at ul287_0
              have HL287_0:=Aside0.mk (show Kd.V k41 41 _ w.heap.size _ _ (rd_L5 l1 x6_1) from Kd.V_mk ul287_0 ge287_0)
              clear hva_ hvn_ hvc_ ge287_0 ul287_0
              clear hcc287 hce287
              have HR287_0:=Aside0.mk hi287_0
              have HC287_0:=Aside0.mk hl287_0
              clear hi287_0 hl287_0
              replace p287:=eq_true p287
              replace q287:=eq_true q287
              try go_wp2_with (first|((with_reducible refine gate_builtin (b:=.append) (xs:=#[.tmp 39,.tmp 44]) rfl ?_);at_builtin;refine Kd.N_append (Kd.slice 41 k41) (w0:=w) w.heap.size rfl (.tmp 39) (.tmp 44) 25 27 (.slice none 0 0) 24 rfl Try.underlying25 info27 rfl (by decide) (by omega) u7 x7_2 (rd_L5 l1 x6_1) [.slice A287_0 (rd_L5 l1 x6_1).length c287_0] (fun k_=>(P1_ k_ ∨ w.heap.size≤k_)∧some k_≠(.slice (some ad280) x5_1.length co23 : Value).ownBlock∧k_≠gb273) (fun k_=>((fun k_=>(P1_ k_ ∨ w.heap.size≤k_)∧some k_≠(.slice (some ad280) x5_1.length co23 : Value).ownBlock∧k_≠gb273)) k_∧some k_≠(u7 : Value).ownBlock) rfl rfl ?aP (fun _ hk=>hk) ?aF ?aO ?aB ?aS ?aL ?_;(case aP=>exact (Kd.FK_slice_mk (Kd.V_reads' (Kd.V_mono (ok':=(fun k_=>((fun k_=>(P1_ k_ ∨ w.heap.size≤k_)∧some k_≠(.slice (some ad280) x5_1.length co23 : Value).ownBlock∧k_≠gb273)) k_∧some k_≠(u7 : Value).ownBlock)) (HL287_0.out) (fun k_ hk=>⟨⟨hk.1,⟨hk.2.1,hk.2.2.2⟩⟩,hk.2.2.1⟩))).2.1 (Kd.V_F (Kd.V_mono (ok':=(fun k_=>((fun k_=>(P1_ k_ ∨ w.heap.size≤k_)∧some k_≠(.slice (some ad280) x5_1.length co23 : Value).ownBlock∧k_≠gb273)) k_∧some k_≠(u7 : Value).ownBlock)) (HL287_0.out) (fun k_ hk=>⟨⟨hk.1,⟨hk.2.1,hk.2.2.2⟩⟩,hk.2.2.1⟩)))));(case aB=>exact (below_go HB.out));(case aF=>exact (fun k_ hk=>⟨(.inr (Nat.le_trans (below_size (below_go HB.out)) hk)),Kd.fresh' (Kd.N_lt (N_up HO_5.out)) k_ hk,Kd.freshB (blk_up BK273.out) k_ hk⟩));(case aO=>exact (N_up HO_7.out));(case aS=>exact (below_size (below_go HB.out)));(case aL=>have:=LMc21.out;omega);intro v289 w26 ho hb hg hat;rw [← Ny288.out] at ho;have n0_:=Aside0.mk (Kd.V_afterv (ok:=(fun k_=>(P1_ k_ ∨ w.heap.size≤k_)∧some k_≠(.slice (some ad280) x5_1.length co23 : Value).ownBlock∧k_≠gb273)) (V_upm HO_1.out (fun _ hk=>⟨⟨hk.1,⟨hk.2.1,hk.2.2.2⟩⟩,hk.2.2.1⟩)) hg hat);have n1_:=Aside0.mk (Kd.N_afterv (ok:=(fun k_=>(P1_ k_ ∨ w.heap.size≤k_)∧k_≠gb273)) (N_upm HO_5.out (fun _ hk=>⟨⟨hk.1,hk.2.2⟩,hk.2.1⟩)) hg hat);have n2_:=Aside0.mk (blk_grown (blk_up BK273.out) hg (Kd.N_ne HO_7.out BK273.out (by decide)));have n3_:=Aside0.mk (Kd.V_afterv (ok:=(fun k_=>(P1_ k_ ∨ w.heap.size≤k_)∧some k_≠(.slice (some ad280) x5_1.length co23 : Value).ownBlock∧k_≠gb273)) (V_upm HL280_0.out (fun _ hk=>⟨⟨hk.1.1,⟨hk.2,hk.1.2.2⟩⟩,hk.1.2.1⟩)) hg hat);have n4_:=Aside0.mk (Kd.V_afterv (ok:=(fun k_=>(P1_ k_ ∨ w.heap.size≤k_)∧some k_≠(.slice (some ad280) x5_1.length co23 : Value).ownBlock∧k_≠gb273)) (V_upm HL281_0.out (fun _ hk=>⟨⟨hk.1,⟨hk.2.1,hk.2.2.2⟩⟩,hk.2.2.1⟩)) hg hat);have n5_:=Aside0.mk (Kd.V_afterv (ok:=(fun k_=>(P1_ k_ ∨ w.heap.size≤k_)∧some k_≠(.slice (some ad280) x5_1.length co23 : Value).ownBlock∧k_≠gb273)) (V_upm HL287_0.out (fun _ hk=>⟨⟨hk.1,⟨hk.2.1,hk.2.2.2⟩⟩,hk.2.2.1⟩)) hg hat);have n6_:=Aside0.mk (hb);have n7_:=Aside0.mk (ho);clear HO_1;clear HO_5;clear BK273;clear HL280_0;clear HL281_0;clear HL287_0;clear HB;clear HO_7;have HO_1:=n0_;have HO_5:=n1_;have BK273:=n2_;have HL280_0:=n3_;have HL281_0:=n4_;have HL287_0:=n5_;have HB:=n6_;have HO290:=n7_;clear n0_ n1_ n2_ n3_ n4_ n5_ n6_ n7_;clear ho hb hg hat;have p291 : 0≤(x9_2 : Int):=of_decide_eq_true (by first|(with_reducible assumption)|assumption);have q291 : x9_2 < (x5_1.length : Int):=of_decide_eq_true (by first|(with_reducible assumption)|assumption);obtain ⟨ad291,A291_0,c291_0,e291,hx291_0,hl291_0,hi291_0⟩:=at_L5 (Kd.N_reads' HO_5.out).2.2 x9_2 p291 q291;obtain rfl : ad280=ad291:=(by injection e291);obtain ⟨ce291,hce291,hMe291,hcc291⟩:=Kd.N_get HO_5.out [] x9_2 p291 (by first|exact q291|exact of_decide_eq_true (by first|(with_reducible assumption)|assumption)|(have e_:=(Kd.N_reads' HO_5.out).1;omega));obtain ⟨ua291_0,uc291_0,rfl,ul291_0,ge291_0⟩:=Kd.FK_slice_open hMe291;have hv291_0:=hcc291 0 _ rfl;rw [Nat.add_zero,show ((Kd.slice 41 k41)).sz=1 from rfl,Nat.mul_one] at hv291_0;replace hv291_0:=Option.some.inj (hv291_0.symm.trans hx291_0);injection hv291_0 with hva_ hvn_ hvc_;rw [hva_] at ge291_0;rw [hvc_] at ul291_0;have HL291_0:=Aside0.mk (show Kd.V k41 41 _ w.heap.size _ _ (rd_L5 x5_1 x9_2) from Kd.V_mk ul291_0 ge291_0);clear hva_ hvn_ hvc_ ge291_0 ul291_0;clear hcc291 hce291;have HR291_0:=Aside0.mk hi291_0;have HC291_0:=Aside0.mk hl291_0;clear hi291_0 hl291_0;replace p291:=eq_true p291;replace q291:=eq_true q291)|((with_reducible refine gate_builtin (b:=.append) (xs:=#[.tmp 46,.tmp 51]) rfl ?_);at_builtin;refine Kd.N_append (Kd.slice 41 k41) (w0:=w) w.heap.size rfl (.tmp 46) (.tmp 51) 25 27 (.slice none 0 0) 24 rfl Try.underlying25 info27 rfl (by decide) (by omega) v289 y288 (rd_L5 x5_1 x9_2) [.slice A291_0 (rd_L5 x5_1 x9_2).length c291_0] (fun k_=>(P1_ k_ ∨ w.heap.size≤k_)∧some k_≠(.slice (some ad280) x5_1.length co23 : Value).ownBlock∧k_≠gb273) (fun k_=>((fun k_=>(P1_ k_ ∨ w.heap.size≤k_)∧some k_≠(.slice (some ad280) x5_1.length co23 : Value).ownBlock∧k_≠gb273)) k_∧some k_≠(v289 : Value).ownBlock) rfl rfl ?aP (fun _ hk=>hk) ?aF ?aO ?aB ?aS ?aL ?_;(case aP=>exact (Kd.FK_slice_mk (Kd.V_reads' (Kd.V_mono (ok':=(fun k_=>((fun k_=>(P1_ k_ ∨ w.heap.size≤k_)∧some k_≠(.slice (some ad280) x5_1.length co23 : Value).ownBlock∧k_≠gb273)) k_∧some k_≠(v289 : Value).ownBlock)) (HL291_0.out) (fun k_ hk=>⟨⟨hk.1.1.1,⟨hk.2,hk.1.1.2⟩⟩,hk.1.2⟩))).2.1 (Kd.V_F (Kd.V_mono (ok':=(fun k_=>((fun k_=>(P1_ k_ ∨ w.heap.size≤k_)∧some k_≠(.slice (some ad280) x5_1.length co23 : Value).ownBlock∧k_≠gb273)) k_∧some k_≠(v289 : Value).ownBlock)) (HL291_0.out) (fun k_ hk=>⟨⟨hk.1.1.1,⟨hk.2,hk.1.1.2⟩⟩,hk.1.2⟩)))));(case aB=>exact (below_go HB.out));(case aF=>exact (fun k_ hk=>⟨(.inr (Nat.le_trans (below_size (below_go HB.out)) hk)),Kd.fresh' (Kd.N_lt (N_up HO_5.out)) k_ hk,Kd.freshB (blk_up BK273.out) k_ hk⟩));(case aO=>exact (N_up HO290.out));(case aS=>exact (below_size (below_go HB.out)));(case aL=>have:=LMc22.out;omega);intro v293 w27 ho hb hg hat;rw [← Ny292.out] at ho;have n0_:=Aside0.mk (Kd.V_afterv (ok:=(fun k_=>(P1_ k_ ∨ w.heap.size≤k_)∧some k_≠(.slice (some ad280) x5_1.length co23 : Value).ownBlock∧k_≠gb273)) (V_up HO_1.out) hg hat);have n1_:=Aside0.mk (Kd.N_afterv (ok:=(fun k_=>(P1_ k_ ∨ w.heap.size≤k_)∧k_≠gb273)) (N_up HO_5.out) hg hat);have n2_:=Aside0.mk (blk_grown (blk_up BK273.out) hg (Kd.N_ne HO290.out BK273.out (by decide)));have n3_:=Aside0.mk (Kd.V_afterv (ok:=(fun k_=>(P1_ k_ ∨ w.heap.size≤k_)∧some k_≠(.slice (some ad280) x5_1.length co23 : Value).ownBlock∧k_≠gb273)) (by (with_reducible repeat (first|apply Kd.V_alloc|apply Kd.V_drewN|apply Kd.V_drew));exact HL280_0.out) hg hat);have n4_:=Aside0.mk (Kd.V_afterv (ok:=(fun k_=>(P1_ k_ ∨ w.heap.size≤k_)∧some k_≠(.slice (some ad280) x5_1.length co23 : Value).ownBlock∧k_≠gb273)) (by (with_reducible repeat (first|apply Kd.V_alloc|apply Kd.V_drewN|apply Kd.V_drew));exact HL281_0.out) hg hat);have n5_:=Aside0.mk (Kd.V_afterv (ok:=(fun k_=>(P1_ k_ ∨ w.heap.size≤k_)∧some k_≠(.slice (some ad280) x5_1.length co23 : Value).ownBlock∧k_≠gb273)) (by (with_reducible repeat (first|apply Kd.V_alloc|apply Kd.V_drewN|apply Kd.V_drew));exact HL287_0.out) hg hat);have n6_:=Aside0.mk (Kd.V_afterv (ok:=(fun k_=>(P1_ k_ ∨ w.heap.size≤k_)∧some k_≠(.slice (some ad280) x5_1.length co23 : Value).ownBlock∧k_≠gb273)) (V_upm HL291_0.out (fun _ hk=>⟨⟨hk.1.1.1,⟨hk.2,hk.1.1.2⟩⟩,hk.1.2⟩)) hg hat);have n7_:=Aside0.mk (hb);have n8_:=Aside0.mk (ho);clear HO_1;clear HO_5;clear BK273;clear HL280_0;clear HL281_0;clear HL287_0;clear HL291_0;clear HB;clear HO290;have HO_1:=n0_;have HO_5:=n1_;have BK273:=n2_;have HL280_0:=n3_;have HL281_0:=n4_;have HL287_0:=n5_;have HL291_0:=n6_;have HB:=n7_;have HO294:=n8_;clear n0_ n1_ n2_ n3_ n4_ n5_ n6_ n7_ n8_;clear ho hb hg hat))
              go_roundg k2
              case measure=>have:=HK1.out;have:=HK2.out;omega
              case rel=>exact ⟨(y292),(true),(wrap64 (x9_2 + 1)),(by first|rfl|(simp;done)|(simp [*];done)),(by first|rfl|(simp;done)|(simp [*];done)),(by first|exact H'|(subst_vars;exact H')),⟨by have:=HK1.out;have:=HK2.out;omega⟩,⟨by (with_reducible repeat (first|apply Kd.V_alloc|apply Kd.V_drewN|apply Kd.V_drew));exact Kd.V_mono HO_1.out (fun _ hk=>⟨hk.1.1,⟨hk.1.2.1,⟨hk.2,hk.1.2.2⟩⟩⟩)⟩,⟨by (with_reducible repeat (first|apply Kd.N_alloc|apply Kd.N_drewN|apply Kd.N_drew));exact Kd.N_mono HO_5.out (fun _ hk=>⟨hk.1.1,⟨hk.2,hk.1.2⟩⟩)⟩,⟨by (with_reducible repeat (first|apply Kd.N_alloc|apply Kd.N_drewN|apply Kd.N_drew));exact HO294.out⟩,⟨by (with_reducible repeat (first|refine blk_drewN ?_ _|refine blk_drew ?_|refine blk_alloc ?_ _));exact BK273.out⟩,⟨by repeat (first|(with_reducible first|exact HB.out|apply below_alloc|apply pw_below_drewN|apply below_drew1|refine below_set ?_ GE273.out)|exact HB.out)⟩⟩
             ·rw [if_neg c22] at H
              exact absurd H (by simp)
            ·rw [if_neg c21] at H
             exact absurd H (by simp)
           ·rw [if_neg c20] at H
            have c20b0 : decide (0 < t282)=false:=decide_eq_false c20
            clear c20
            by_cases c28 : x7_2.length < 5864062014805
            ·rw [if_pos c28] at H
             have LMc28:=Aside0.mk c28
             clear c28
             obtain ⟨y296,hy296⟩ : ∃ y_ : List (List (S41)),y_=(x7_2 ++ [rd_L5 x5_1 x9_2]):=⟨_,rfl⟩
             replace H : (thresherref09_Sort.l1 k2 l1 x5_1 x6_1 y296 false (wrap64 (x9_2 + 1)) l0_0 a0_1 a0_2 a0_3)=some r:=by first|(rw [hy296];with_reducible exact H)|(have H2_:=(Option.bind_some _ _).symm.trans H;rw [hy296];with_reducible exact H2_)|(have H2_:=(Option.bind_some _ _).symm.trans H;with_reducible exact H2_)|with_reducible exact H|(rw [hy296];exact H)|exact H
             have Ny296:=Aside0.mk hy296
             clear hy296
             have H':=Aside0.mk H
             clear H
             obtain ⟨Ao29,co29,eo29⟩:=Kd.N_slice HO_5.out
             subst eo29
             try go_wp2
             have n0_:=Aside0.mk (Kd.V_drew HO_1.out)
             have n1_:=Aside0.mk (Kd.N_drew HO_5.out)
             have n2_:=Aside0.mk (Kd.N_drew HO_7.out)
             have n3_:=Aside0.mk (blk_drew BK273.out)
             have n4_:=Aside0.mk (below_drew1 HB.out)
             clear HO_1
             clear HO_5
             clear HO_7
             clear BK273
             clear HB
             have HO_1:=n0_
             have HO_5:=n1_
             have HO_7:=n2_
             have BK273:=n3_
             have HB:=n4_
             clear n0_ n1_ n2_ n3_ n4_
             have p280 : 0≤(x9_2 : Int):=of_decide_eq_true (by first|(with_reducible assumption)|assumption)
             have q280 : x9_2 < (x5_1.length : Int):=of_decide_eq_true (by first|(with_reducible assumption)|assumption)
             obtain ⟨ad280,A280_0,c280_0,e280,hx280_0,hl280_0,hi280_0⟩:=at_L5 (Kd.N_reads' HO_5.out).2.2 x9_2 p280 q280
             cases e280
             obtain ⟨ce280,hce280,hMe280,hcc280⟩:=Kd.N_get HO_5.out [] x9_2 p280 (by first|exact q280|exact of_decide_eq_true (by first|(with_reducible assumption)|assumption)|(have e_:=(Kd.N_reads' HO_5.out).1;omega))
             obtain ⟨ua280_0,uc280_0,rfl,ul280_0,ge280_0⟩:=Kd.FK_slice_open hMe280
             have hv280_0:=hcc280 0 _ rfl
             rw [Nat.add_zero,show ((Kd.slice 41 k41)).sz=1 from rfl,Nat.mul_one] at hv280_0
             replace hv280_0:=Option.some.inj (hv280_0.symm.trans hx280_0)
             injection hv280_0 with hva_ hvn_ hvc_
             rw [hva_] at ge280_0
             rw [hvc_] at ul280_0
             have HL280_0:=Aside0.mk (show Kd.V k41 41 _ w.heap.size _ _ (rd_L5 x5_1 x9_2) from Kd.V_mk ul280_0 ge280_0)
             clear hva_ hvn_ hvc_ ge280_0 ul280_0
             clear hcc280 hce280
             have HR280_0:=Aside0.mk hi280_0
             have HC280_0:=Aside0.mk hl280_0
             clear hi280_0 hl280_0
             replace p280:=eq_true p280
             replace q280:=eq_true q280
             have p281 : 0≤(x6_1 : Int):=of_decide_eq_true (by first|(with_reducible assumption)|assumption)
             have q281 : x6_1 < (l1.length : Int):=of_decide_eq_true (by first|(with_reducible assumption)|assumption)
             obtain ⟨ad281,A281_0,c281_0,e281,hx281_0,hl281_0,hi281_0⟩:=at_L5 (Kd.V_reads' HO_1.out).2.2 x6_1 p281 q281
             cases e281
             obtain ⟨ce281,hce281,hMe281,hcc281⟩:=Kd.V_get HO_1.out [] x6_1 p281 (by first|exact q281|exact of_decide_eq_true (by first|(with_reducible assumption)|assumption)|(have e_:=(Kd.V_reads' HO_1.out).1;omega))
             obtain ⟨ua281_0,uc281_0,rfl,ul281_0,ge281_0⟩:=Kd.FK_slice_open hMe281
             have hv281_0:=hcc281 0 _ rfl
             rw [Nat.add_zero,show ((Kd.slice 41 k41)).sz=1 from rfl,Nat.mul_one] at hv281_0
             replace hv281_0:=Option.some.inj (hv281_0.symm.trans hx281_0)
             injection hv281_0 with hva_ hvn_ hvc_
             rw [hva_] at ge281_0
             rw [hvc_] at ul281_0
             have HL281_0:=Aside0.mk (show Kd.V k41 41 _ w.heap.size _ _ (rd_L5 l1 x6_1) from Kd.V_mk ul281_0 ge281_0)
             clear hva_ hvn_ hvc_ ge281_0 ul281_0
             clear hcc281 hce281
             have HR281_0:=Aside0.mk hi281_0
             have HC281_0:=Aside0.mk hl281_0
             clear hi281_0 hl281_0
             replace p281:=eq_true p281
             replace q281:=eq_true q281
             refine start_ (n:=15) (S:=fun w'=>w'.cell? ⟨gb273,0,none⟩=some (.slice A0_0 l0_0.length c0_0)∧w'.cell? ⟨gb273,1,none⟩=some (.int .i64 a0_1)∧w'.cell? ⟨gb273,2,none⟩=some (.int .i64 a0_2)∧w'.cell? ⟨gb273,3,none⟩=some (.int .i64 a0_3)∧w'.cell? (ad280.add (x9_2).toNat)=some (.slice A280_0 (rd_L5 x5_1 x9_2).length c280_0)∧w'.cell? (ad281.add (x6_1).toNat)=some (.slice A281_0 (rd_L5 l1 x6_1).length c281_0)) (ds:=[]) #[false,false,false,false,false,false,false,false,false,false,false,false,false,false,false] (by kernel_rfl) rfl rfl ⟨(blk_cell BK273.out 0).trans rfl,(blk_cell BK273.out 1).trans rfl,(blk_cell BK273.out 2).trans rfl,(blk_cell BK273.out 3).trans rfl,hx280_0,hx281_0⟩ (fun hHeld=>?_);refine with_tabW thresherref09_Sort.tab10 thresherref09_Sort.bits10 (fun HT_ HW_=>?_)
             generalize wr.drew=w30 at HO_1 HO_5 HO_7 BK273 HB HL280_0 HL281_0 HR280_0 HR281_0 hx280_0 hx281_0 hHeld ⊢
             refine pure_ (i:=0) (N:=some 24) (v:=?_) (a':=?_) #[true,false,false,false,false,false,false,false,false,false,false,false,false,false,false] rfl rfl (any_of HT_.out (by kernel_rfl)) (fun _ _ _ h=>h) (Or.inl ⟨by rfl,?_⟩) ?_ ?_
             rotate_left;(intro w';go_simp;with_reducible rfl);rotate_left;(simp only [Act.put,List.setIfInBounds_toArray,List.set_cons_zero,List.set_cons_succ,i64_w,i32_w];rfl)
             refine pure_ (i:=1) (N:=some 25) (v:=?_) (a':=?_) #[true,true,false,false,false,false,false,false,false,false,false,false,false,false,false] rfl rfl (any_of HT_.out (by kernel_rfl)) (fun _ _ _ h=>h) (Or.inl ⟨by rfl,?_⟩) ?_ ?_
             rotate_left;(intro w';go_simp;with_reducible rfl);rotate_left;(simp only [Act.put,List.setIfInBounds_toArray,List.set_cons_zero,List.set_cons_succ,i64_w,i32_w];rfl)
             refine pure_ (i:=2) (N:=some 26) (v:=?_) (a':=?_) #[true,true,true,false,false,false,false,false,false,false,false,false,false,false,false] rfl rfl (any_of HT_.out (by kernel_rfl)) (fun _ _ _ h=>h) (Or.inl ⟨by rfl,?_⟩) ?_ ?_
             rotate_left;(intro w';go_simp;with_reducible rfl);rotate_left;(simp only [Act.put,List.setIfInBounds_toArray,List.set_cons_zero,List.set_cons_succ,i64_w,i32_w];rfl)
             refine pure_ (i:=4) (N:=some 28) (v:=?_) (a':=?_) #[true,true,true,false,true,false,false,false,false,false,false,false,false,false,false] rfl rfl (any_of HT_.out (by kernel_rfl)) (fun _ _ _ h=>h) (Or.inl ⟨by rfl,?_⟩) ?_ ?_
             rotate_left;(intro w';go_simp;with_reducible rfl);rotate_left;(simp only [Act.put,List.setIfInBounds_toArray,List.set_cons_zero,List.set_cons_succ,i64_w,i32_w];rfl)
             refine pure_ (i:=5) (N:=some 29) (v:=?_) (a':=?_) #[true,true,true,false,true,true,false,false,false,false,false,false,false,false,false] rfl rfl (any_of HT_.out (by kernel_rfl)) (fun _ _ _ h=>h) (Or.inl ⟨by rfl,?_⟩) ?_ ?_
             rotate_left;(intro w';go_simp;with_reducible rfl);rotate_left;(simp only [Act.put,List.setIfInBounds_toArray,List.set_cons_zero,List.set_cons_succ,i64_w,i32_w];rfl)
             refine pure_ (i:=6) (N:=some 30) (v:=?_) (a':=?_) #[true,true,true,false,true,true,true,false,false,false,false,false,false,false,false] rfl rfl (any_of HT_.out (by kernel_rfl)) (fun _ _ _ h=>h) (Or.inl ⟨by rfl,?_⟩) ?_ ?_
             rotate_left;(intro w';go_simp;with_reducible rfl);rotate_left;(simp only [Act.put,List.setIfInBounds_toArray,List.set_cons_zero,List.set_cons_succ,i64_w,i32_w];rfl)
             refine pure_ (i:=8) (N:=some 32) (v:=?_) (a':=?_) #[true,true,true,false,true,true,true,false,true,false,false,false,false,false,false] rfl rfl (any_of HT_.out (by kernel_rfl)) (fun _ _ _ h=>h) (Or.inl ⟨by rfl,?_⟩) ?_ ?_
             rotate_left;(intro w';go_simp;with_reducible rfl);rotate_left;(simp only [Act.put,List.setIfInBounds_toArray,List.set_cons_zero,List.set_cons_succ,i64_w,i32_w];rfl)
             refine pure_ (i:=9) (N:=some 33) (v:=?_) (a':=?_) #[true,true,true,false,true,true,true,false,true,true,false,false,false,false,false] rfl rfl (any_of HT_.out (by kernel_rfl)) (fun _ _ _ h=>h) (Or.inl ⟨by rfl,?_⟩) ?_ ?_
             rotate_left;(intro w';go_simp;with_reducible rfl);rotate_left;(simp only [Act.put,List.setIfInBounds_toArray,List.set_cons_zero,List.set_cons_succ,i64_w,i32_w];rfl)
             refine pure_ (i:=10) (N:=some 34) (v:=?_) (a':=?_) #[true,true,true,false,true,true,true,false,true,true,true,false,false,false,false] rfl rfl (any_of HT_.out (by kernel_rfl)) (fun _ _ _ h=>h) (Or.inl ⟨by rfl,?_⟩) ?_ ?_
             rotate_left;(intro w';go_simp;with_reducible rfl);rotate_left;(simp only [Act.put,List.setIfInBounds_toArray,List.set_cons_zero,List.set_cons_succ,i64_w,i32_w];rfl)
             refine take_ (i:=3) (N:=some 27) (v:=?_) (a':=?_) #[true,true,true,true,true,true,true,false,true,true,true,false,false,false,false] rfl rfl (take_ofW HT_.out HW_.out (by kernel_rfl)) (fun _ _ _ h=>h) (Or.inl ⟨by rfl,?_⟩) hHeld ?_ ?_
             rotate_left;(rintro w' ⟨s0,s1,s2,s3,s4,s5⟩;go_simp;with_reducible rfl);rotate_left;(simp only [Act.put,List.setIfInBounds_toArray,List.set_cons_zero,List.set_cons_succ,i64_w,i32_w];rfl)
             refine take_ (i:=7) (N:=some 31) (v:=?_) (a':=?_) #[true,true,true,true,true,true,true,true,true,true,true,false,false,false,false] rfl rfl (take_ofW HT_.out HW_.out (by kernel_rfl)) (fun _ _ _ h=>h) (Or.inl ⟨by rfl,?_⟩) hHeld ?_ ?_
             rotate_left;(rintro w' ⟨s0,s1,s2,s3,s4,s5⟩;go_simp;with_reducible rfl);rotate_left;(simp only [Act.put,List.setIfInBounds_toArray,List.set_cons_zero,List.set_cons_succ,i64_w,i32_w];rfl)
             refine take_ (i:=11) (N:=some 35) (v:=?_) (a':=?_) #[true,true,true,true,true,true,true,true,true,true,true,true,false,false,false] rfl rfl (take_ofW HT_.out HW_.out (by kernel_rfl)) (fun _ _ _ h=>h) (Or.inl ⟨by rfl,?_⟩) hHeld ?_ ?_
             rotate_left;(rintro w' ⟨s0,s1,s2,s3,s4,s5⟩;go_simp;with_reducible rfl);rotate_left;(simp only [Act.put,List.setIfInBounds_toArray,List.set_cons_zero,List.set_cons_succ,i64_w,i32_w];rfl)
             refine one_ (i:=12) (N:=some 36) #[true,true,true,true,true,true,true,true,true,true,true,true,true,false,false] rfl rfl (one_of HT_.out (by kernel_rfl)) (by decide) (fun K hK=>?_)
             refine goes_ Try.func15 (by kernel_rfl) rfl #[.agg #[.slice A0_0 l0_0.length c0_0,.int .i64 a0_1,.int .i64 a0_2,.int .i64 a0_3],.slice A280_0 (rd_L5 x5_1 x9_2).length c280_0,.slice A281_0 (rd_L5 l1 x6_1).length c281_0] (by rfl) rfl rfl (by (try simp only [List.map_toArray,List.map_cons,List.map_nil]);first|done|rfl|(simp only [List.length_drop,List.length_take];rfl)) ?_
             with_reducible refine (thresherref04_Compare.calls k2 _ _ l0_0 a0_1 a0_2 a0_3 _ _ (rd_L5 x5_1 x9_2) _ _ (rd_L5 l1 x6_1) t282 _ ?side1 ?side2 ?side3 ?side4 ?side5 ?side6 A19.out).mono ?_
             (case side1=>repeat (first|exact (Kd.C_below HR0_0.out HB.out)|(with_reducible refine Kd.C_alloc ?_ _)|(with_reducible refine Kd.C_drewN ?_ _)|(with_reducible refine Kd.C_drew ?_)))
             (case side2=>exact HC0_0.out)
             (case side3=>repeat (first|exact (by repeat (first|(with_reducible exact HR280_0.out)|(with_reducible refine Kd.C_alloc ?_ _)|(with_reducible refine Kd.C_drewN ?_ _)|(with_reducible refine Kd.C_drew ?_)|exact HR280_0.out))|(with_reducible refine Kd.C_alloc ?_ _)|(with_reducible refine Kd.C_drewN ?_ _)|(with_reducible refine Kd.C_drew ?_)))
             (case side4=>exact HC280_0.out)
             (case side5=>repeat (first|exact (by repeat (first|(with_reducible exact HR281_0.out)|(with_reducible refine Kd.C_alloc ?_ _)|(with_reducible refine Kd.C_drewN ?_ _)|(with_reducible refine Kd.C_drew ?_)|exact HR281_0.out))|(with_reducible refine Kd.C_alloc ?_ _)|(with_reducible refine Kd.C_drewN ?_ _)|(with_reducible refine Kd.C_drew ?_)))
             (case side6=>exact HC281_0.out)
             rintro e w31 ⟨rfl,hb⟩
             have HS4_:=(hb.cell (World.block_lt_of_cell? _ _ (hHeld.2.2.2.2.1))).trans (hHeld.2.2.2.2.1)
             have HS5_:=(hb.cell (World.block_lt_of_cell? _ _ (hHeld.2.2.2.2.2))).trans (hHeld.2.2.2.2.2)
             refine ⟨_,rfl,?_⟩
             have n0_:=Aside0.mk (Kd.V_below (V_up HO_1.out) hb)
             have n1_:=Aside0.mk (Kd.N_below (N_up HO_5.out) hb)
             have n2_:=Aside0.mk (Kd.N_below (N_up HO_7.out) hb)
             have n3_:=Aside0.mk (Kd.V_below (by (with_reducible repeat (first|apply Kd.V_alloc|apply Kd.V_drewN|apply Kd.V_drew));exact HL280_0.out) hb)
             have n4_:=Aside0.mk (Kd.V_below (by (with_reducible repeat (first|apply Kd.V_alloc|apply Kd.V_drewN|apply Kd.V_drew));exact HL281_0.out) hb)
             have n5_:=Aside0.mk (blk_below (blk_up BK273.out) hb)
             have n6_:=Aside0.mk (Kd.C_below (by repeat (first|(with_reducible exact HR280_0.out)|(with_reducible refine Kd.C_alloc ?_ _)|(with_reducible refine Kd.C_drewN ?_ _)|(with_reducible refine Kd.C_drew ?_)|exact HR280_0.out)) hb)
             have n7_:=Aside0.mk (Kd.C_below (by repeat (first|(with_reducible exact HR281_0.out)|(with_reducible refine Kd.C_alloc ?_ _)|(with_reducible refine Kd.C_drewN ?_ _)|(with_reducible refine Kd.C_drew ?_)|exact HR281_0.out)) hb)
             have n8_:=Aside0.mk (below_step (below_go HB.out) hb)
             clear HO_1
             clear HO_5
             clear HO_7
             clear HL280_0
             clear HL281_0
             clear BK273
             clear HR280_0
             clear HR281_0
             clear HB
             have HO_1:=n0_
             have HO_5:=n1_
             have HO_7:=n2_
             have HL280_0:=n3_
             have HL281_0:=n4_
             have BK273:=n5_
             have HR280_0:=n6_
             have HR281_0:=n7_
             have HB:=n8_
             clear n0_ n1_ n2_ n3_ n4_ n5_ n6_ n7_ n8_
             (try clear hb)
             (try clear hb2)
             (try clear hk)
             (try clear hi)
             refine hK.out _ _ ⟨(blk_cell BK273.out 0).trans rfl,(blk_cell BK273.out 1).trans rfl,(blk_cell BK273.out 2).trans rfl,(blk_cell BK273.out 3).trans rfl,HS4_,HS5_⟩ (fun hHeld=>?_)
             clear hK K
             refine norm_ (a':=?_) ?_ ?_
             rotate_left
             ·show Act.put _ (some 36) _=_
              simp only [Act.put,List.setIfInBounds_toArray,List.set_cons_zero,List.set_cons_succ,i64_w,i32_w]
              rfl
             refine pure_ (i:=13) (N:=some 37) (v:=?_) (a':=?_) #[true,true,true,true,true,true,true,true,true,true,true,true,true,true,false] rfl rfl (any_of HT_.out (by kernel_rfl)) (fun _ _ _ h=>h) (Or.inl ⟨by rfl,?_⟩) ?_ ?_
             rotate_left;(intro w';go_simp;with_reducible rfl);rotate_left;(simp only [Act.put,List.setIfInBounds_toArray,List.set_cons_zero,List.set_cons_succ,i64_w,i32_w];rfl)
             refine pure_ (i:=14) (N:=some 38) (v:=?_) (a':=?_) #[true,true,true,true,true,true,true,true,true,true,true,true,true,true,true] rfl rfl (any_of HT_.out (by kernel_rfl)) (fun _ _ _ h=>h) (Or.inl ⟨by rfl,?_⟩) ?_ ?_
             rotate_left;(intro w';go_simp;with_reducible rfl);rotate_left;(simp only [Act.put,List.setIfInBounds_toArray,List.set_cons_zero,List.set_cons_succ,i64_w,i32_w];rfl)
             refine done_ (done_of HT_.out (by kernel_rfl)) ?_
             (try clear HS4_);(try clear HS5_);(try clear hHeld)
             have p295 : 0≤(x9_2 : Int):=of_decide_eq_true (by first|(with_reducible assumption)|assumption)
             have q295 : x9_2 < (x5_1.length : Int):=of_decide_eq_true (by first|(with_reducible assumption)|assumption)
             obtain ⟨ad295,A295_0,c295_0,e295,hx295_0,hl295_0,hi295_0⟩:=at_L5 (Kd.N_reads' HO_5.out).2.2 x9_2 p295 q295
             obtain rfl : ad280=ad295:=(by injection e295)
             obtain ⟨ce295,hce295,hMe295,hcc295⟩:=Kd.N_get HO_5.out [] x9_2 p295 (by first|exact q295|exact of_decide_eq_true (by first|(with_reducible assumption)|assumption)|(have e_:=(Kd.N_reads' HO_5.out).1;omega))
             obtain ⟨ua295_0,uc295_0,rfl,ul295_0,ge295_0⟩:=Kd.FK_slice_open hMe295
             have hv295_0:=hcc295 0 _ rfl
             rw [Nat.add_zero,show ((Kd.slice 41 k41)).sz=1 from rfl,Nat.mul_one] at hv295_0
             replace hv295_0:=Option.some.inj (hv295_0.symm.trans hx295_0)
             injection hv295_0 with hva_ hvn_ hvc_
             rw [hva_] at ge295_0
             rw [hvc_] at ul295_0
             have HL295_0:=Aside0.mk (show Kd.V k41 41 _ w.heap.size _ _ (rd_L5 x5_1 x9_2) from Kd.V_mk ul295_0 ge295_0)
             clear hva_ hvn_ hvc_ ge295_0 ul295_0
             clear hcc295 hce295
             have HR295_0:=Aside0.mk hi295_0
             have HC295_0:=Aside0.mk hl295_0
             clear hi295_0 hl295_0
             replace p295:=eq_true p295
             replace q295:=eq_true q295
             try go_wp2_with (first|((with_reducible refine gate_builtin (b:=.append) (xs:=#[.tmp 46,.tmp 51]) rfl ?_);at_builtin;refine Kd.N_append (Kd.slice 41 k41) (w0:=w) w.heap.size rfl (.tmp 46) (.tmp 51) 25 27 (.slice none 0 0) 24 rfl Try.underlying25 info27 rfl (by decide) (by omega) u7 x7_2 (rd_L5 x5_1 x9_2) [.slice A295_0 (rd_L5 x5_1 x9_2).length c295_0] (fun k_=>(P1_ k_ ∨ w.heap.size≤k_)∧some k_≠(.slice (some ad280) x5_1.length co29 : Value).ownBlock∧k_≠gb273) (fun k_=>((fun k_=>(P1_ k_ ∨ w.heap.size≤k_)∧some k_≠(.slice (some ad280) x5_1.length co29 : Value).ownBlock∧k_≠gb273)) k_∧some k_≠(u7 : Value).ownBlock) rfl rfl ?aP (fun _ hk=>hk) ?aF ?aO ?aB ?aS ?aL ?_;(case aP=>exact (Kd.FK_slice_mk (Kd.V_reads' (Kd.V_mono (ok':=(fun k_=>((fun k_=>(P1_ k_ ∨ w.heap.size≤k_)∧some k_≠(.slice (some ad280) x5_1.length co29 : Value).ownBlock∧k_≠gb273)) k_∧some k_≠(u7 : Value).ownBlock)) (HL295_0.out) (fun k_ hk=>⟨⟨hk.1.1,⟨hk.2,hk.1.2.2⟩⟩,hk.1.2.1⟩))).2.1 (Kd.V_F (Kd.V_mono (ok':=(fun k_=>((fun k_=>(P1_ k_ ∨ w.heap.size≤k_)∧some k_≠(.slice (some ad280) x5_1.length co29 : Value).ownBlock∧k_≠gb273)) k_∧some k_≠(u7 : Value).ownBlock)) (HL295_0.out) (fun k_ hk=>⟨⟨hk.1.1,⟨hk.2,hk.1.2.2⟩⟩,hk.1.2.1⟩)))));(case aB=>exact (below_go HB.out));(case aF=>exact (fun k_ hk=>⟨(.inr (Nat.le_trans (below_size (below_go HB.out)) hk)),Kd.fresh' (Kd.N_lt (N_up HO_5.out)) k_ hk,Kd.freshB (blk_up BK273.out) k_ hk⟩));(case aO=>exact (N_up HO_7.out));(case aS=>exact (below_size (below_go HB.out)));(case aL=>have:=LMc28.out;omega);intro v297 w32 ho hb hg hat;rw [← Ny296.out] at ho;have n0_:=Aside0.mk (Kd.V_afterv (ok:=(fun k_=>(P1_ k_ ∨ w.heap.size≤k_)∧some k_≠(.slice (some ad280) x5_1.length co29 : Value).ownBlock∧k_≠gb273)) (V_upm HO_1.out (fun _ hk=>⟨⟨hk.1,⟨hk.2.1,hk.2.2.2⟩⟩,hk.2.2.1⟩)) hg hat);have n1_:=Aside0.mk (Kd.N_afterv (ok:=(fun k_=>(P1_ k_ ∨ w.heap.size≤k_)∧k_≠gb273)) (N_upm HO_5.out (fun _ hk=>⟨⟨hk.1,hk.2.2⟩,hk.2.1⟩)) hg hat);have n2_:=Aside0.mk (blk_grown (blk_up BK273.out) hg (Kd.N_ne HO_7.out BK273.out (by decide)));have n3_:=Aside0.mk (Kd.V_afterv (ok:=(fun k_=>(P1_ k_ ∨ w.heap.size≤k_)∧some k_≠(.slice (some ad280) x5_1.length co29 : Value).ownBlock∧k_≠gb273)) (V_upm HL280_0.out (fun _ hk=>⟨⟨hk.1.1,⟨hk.2,hk.1.2.2⟩⟩,hk.1.2.1⟩)) hg hat);have n4_:=Aside0.mk (Kd.V_afterv (ok:=(fun k_=>(P1_ k_ ∨ w.heap.size≤k_)∧some k_≠(.slice (some ad280) x5_1.length co29 : Value).ownBlock∧k_≠gb273)) (V_upm HL281_0.out (fun _ hk=>⟨⟨hk.1,⟨hk.2.1,hk.2.2.2⟩⟩,hk.2.2.1⟩)) hg hat);have n5_:=Aside0.mk (Kd.V_afterv (ok:=(fun k_=>(P1_ k_ ∨ w.heap.size≤k_)∧some k_≠(.slice (some ad280) x5_1.length co29 : Value).ownBlock∧k_≠gb273)) (V_upm HL295_0.out (fun _ hk=>⟨⟨hk.1.1,⟨hk.2,hk.1.2.2⟩⟩,hk.1.2.1⟩)) hg hat);have n6_:=Aside0.mk (hb);have n7_:=Aside0.mk (ho);clear HO_1;clear HO_5;clear BK273;clear HL280_0;clear HL281_0;clear HL295_0;clear HB;clear HO_7;have HO_1:=n0_;have HO_5:=n1_;have BK273:=n2_;have HL280_0:=n3_;have HL281_0:=n4_;have HL295_0:=n5_;have HB:=n6_;have HO298:=n7_;clear n0_ n1_ n2_ n3_ n4_ n5_ n6_ n7_;clear ho hb hg hat))
             go_roundg k2
             case measure=>have:=HK1.out;have:=HK2.out;omega
             case rel=>exact ⟨(y296),(false),(wrap64 (x9_2 + 1)),(by first|rfl|(simp;done)|(simp [*];done)),(by first|rfl|(simp;done)|(simp [*];done)),(by first|exact H'|(subst_vars;exact H')),⟨by have:=HK1.out;have:=HK2.out;omega⟩,⟨by (with_reducible repeat (first|apply Kd.V_alloc|apply Kd.V_drewN|apply Kd.V_drew));exact Kd.V_mono HO_1.out (fun _ hk=>⟨hk.1.1,⟨hk.1.2.1,⟨hk.2,hk.1.2.2⟩⟩⟩)⟩,⟨by (with_reducible repeat (first|apply Kd.N_alloc|apply Kd.N_drewN|apply Kd.N_drew));exact Kd.N_mono HO_5.out (fun _ hk=>⟨hk.1.1,⟨hk.2,hk.1.2⟩⟩)⟩,⟨by (with_reducible repeat (first|apply Kd.N_alloc|apply Kd.N_drewN|apply Kd.N_drew));exact HO298.out⟩,⟨by (with_reducible repeat (first|refine blk_drewN ?_ _|refine blk_drew ?_|refine blk_alloc ?_ _));exact BK273.out⟩,⟨by repeat (first|(with_reducible first|exact HB.out|apply below_alloc|apply pw_below_drewN|apply below_drew1|refine below_set ?_ GE273.out)|exact HB.out)⟩⟩
            ·rw [if_neg c28] at H
             exact absurd H (by simp)
          ·rw [if_neg c18] at H
           exact absurd H (by simp)
         ·rw [if_neg c17] at H
          exact absurd H (by simp)
        ·rw [if_neg c16] at H
         exact absurd H (by simp)
      ·rw [if_neg c9] at H
       have c9b0 : decide (x9_2 < (x5_1.length : Int))=false:=decide_eq_false c9
       clear c9
       by_cases c33 : x8_2=true
       ·subst c33
        have H1 : (thresherref09_Sort.l0 k2 l1 x7_2 (wrap64 (x6_1 + 1)) l0_0 a0_1 a0_2 a0_3)=some r:=by rw [if_pos rfl] at H;exact H
        clear H
        have H:=H1
        clear H1
        have H':=Aside0.mk H
        clear H
        obtain ⟨Ao34,co34,eo34⟩:=Kd.N_slice HO_5.out
        subst eo34
        go_wp2
        go_roundg k2
        case measure=>have:=HK1.out;have:=HK2.out;omega
        case rel=>exact ⟨(x7_2),(wrap64 (x6_1 + 1)),(by first|rfl|(simp;done)|(simp [*];done)),(by first|exact H'|(subst_vars;exact H')),⟨by have:=HK1.out;have:=HK2.out;omega⟩,⟨by (with_reducible repeat (first|apply Kd.V_alloc|apply Kd.V_drewN|apply Kd.V_drew));exact Kd.V_mono HO_1.out (fun _ hk=>⟨hk.1,⟨hk.2.2.1,hk.2.2.2⟩⟩)⟩,⟨by (with_reducible repeat (first|apply Kd.N_alloc|apply Kd.N_drewN|apply Kd.N_drew));exact Kd.N_mono HO_7.out (fun _ hk=>⟨hk.1,hk.2.2⟩)⟩,⟨by (with_reducible repeat (first|refine blk_drewN ?_ _|refine blk_drew ?_|refine blk_alloc ?_ _));exact BK273.out⟩,⟨by repeat (first|(with_reducible first|exact HB.out|apply below_alloc|apply pw_below_drewN|apply below_drew1|refine below_set ?_ GE273.out)|exact HB.out)⟩⟩
       ·replace c33:=Bool.eq_false_iff.mpr c33
        subst c33
        have H1 : (if 0≤x6_1 then (if x6_1 < (l1.length : Int) then (if x7_2.length < 5864062014805 then (thresherref09_Sort.l0 k2 l1 (x7_2 ++ [rd_L5 l1 x6_1]) (wrap64 (x6_1 + 1)) l0_0 a0_1 a0_2 a0_3) else (none)) else (none)) else (none))=some r:=by rw [if_neg (show ¬ (false=true) by decide)] at H;exact H
        clear H
        have H:=H1
        clear H1
        by_cases c35 : 0≤x6_1
        ·rw [if_pos c35] at H
         have c35b0 : decide (0≤x6_1)=true:=decide_eq_true c35
         clear c35
         by_cases c36 : x6_1 < (l1.length : Int)
         ·rw [if_pos c36] at H
          have c36b0 : decide (x6_1 < (l1.length : Int))=true:=decide_eq_true c36
          clear c36
          by_cases c37 : x7_2.length < 5864062014805
          ·rw [if_pos c37] at H
           have LMc37:=Aside0.mk c37
           clear c37
           obtain ⟨y300,hy300⟩ : ∃ y_ : List (List (S41)),y_=(x7_2 ++ [rd_L5 l1 x6_1]):=⟨_,rfl⟩
           replace H : (thresherref09_Sort.l0 k2 l1 y300 (wrap64 (x6_1 + 1)) l0_0 a0_1 a0_2 a0_3)=some r:=by first|(rw [hy300];with_reducible exact H)|(have H2_:=(Option.bind_some _ _).symm.trans H;rw [hy300];with_reducible exact H2_)|(have H2_:=(Option.bind_some _ _).symm.trans H;with_reducible exact H2_)|with_reducible exact H|(rw [hy300];exact H)|exact H
           have Ny300:=Aside0.mk hy300
           clear hy300
           have H':=Aside0.mk H
           clear H
           obtain ⟨Ao38,co38,eo38⟩:=Kd.N_slice HO_5.out
           subst eo38
           have p299 : 0≤(x6_1 : Int):=of_decide_eq_true (by first|(with_reducible assumption)|assumption)
           have q299 : x6_1 < (l1.length : Int):=of_decide_eq_true (by first|(with_reducible assumption)|assumption)
           obtain ⟨ad299,A299_0,c299_0,e299,hx299_0,hl299_0,hi299_0⟩:=at_L5 (Kd.V_reads' HO_1.out).2.2 x6_1 p299 q299
           cases e299
           obtain ⟨ce299,hce299,hMe299,hcc299⟩:=Kd.V_get HO_1.out [] x6_1 p299 (by first|exact q299|exact of_decide_eq_true (by first|(with_reducible assumption)|assumption)|(have e_:=(Kd.V_reads' HO_1.out).1;omega))
           obtain ⟨ua299_0,uc299_0,rfl,ul299_0,ge299_0⟩:=Kd.FK_slice_open hMe299
           have hv299_0:=hcc299 0 _ rfl
           rw [Nat.add_zero,show ((Kd.slice 41 k41)).sz=1 from rfl,Nat.mul_one] at hv299_0
           replace hv299_0:=Option.some.inj (hv299_0.symm.trans hx299_0)
           injection hv299_0 with hva_ hvn_ hvc_
           rw [hva_] at ge299_0
           rw [hvc_] at ul299_0
           have HL299_0:=Aside0.mk (show Kd.V k41 41 _ w.heap.size _ _ (rd_L5 l1 x6_1) from Kd.V_mk ul299_0 ge299_0)
           clear hva_ hvn_ hvc_ ge299_0 ul299_0
           clear hcc299 hce299
           have HR299_0:=Aside0.mk hi299_0
           have HC299_0:=Aside0.mk hl299_0
           clear hi299_0 hl299_0
           replace p299:=eq_true p299
           replace q299:=eq_true q299
           go_wp2_with (first|((with_reducible refine gate_builtin (b:=.append) (xs:=#[.tmp 55,.tmp 60]) rfl ?_);at_builtin;refine Kd.N_append (Kd.slice 41 k41) (w0:=w) w.heap.size rfl (.tmp 55) (.tmp 60) 25 27 (.slice none 0 0) 24 rfl Try.underlying25 info27 rfl (by decide) (by omega) u7 x7_2 (rd_L5 l1 x6_1) [.slice A299_0 (rd_L5 l1 x6_1).length c299_0] (fun k_=>(P1_ k_ ∨ w.heap.size≤k_)∧some k_≠(.slice Ao38 x5_1.length co38 : Value).ownBlock∧k_≠gb273) (fun k_=>((fun k_=>(P1_ k_ ∨ w.heap.size≤k_)∧some k_≠(.slice Ao38 x5_1.length co38 : Value).ownBlock∧k_≠gb273)) k_∧some k_≠(u7 : Value).ownBlock) rfl rfl ?aP (fun _ hk=>hk) ?aF ?aO ?aB ?aS ?aL ?_;(case aP=>exact (Kd.FK_slice_mk (Kd.V_reads' (Kd.V_mono (ok':=(fun k_=>((fun k_=>(P1_ k_ ∨ w.heap.size≤k_)∧some k_≠(.slice Ao38 x5_1.length co38 : Value).ownBlock∧k_≠gb273)) k_∧some k_≠(u7 : Value).ownBlock)) (HL299_0.out) (fun k_ hk=>⟨⟨hk.1,⟨hk.2.1,hk.2.2.2⟩⟩,hk.2.2.1⟩))).2.1 (Kd.V_F (Kd.V_mono (ok':=(fun k_=>((fun k_=>(P1_ k_ ∨ w.heap.size≤k_)∧some k_≠(.slice Ao38 x5_1.length co38 : Value).ownBlock∧k_≠gb273)) k_∧some k_≠(u7 : Value).ownBlock)) (HL299_0.out) (fun k_ hk=>⟨⟨hk.1,⟨hk.2.1,hk.2.2.2⟩⟩,hk.2.2.1⟩)))));(case aB=>exact (below_go HB.out));(case aF=>exact (fun k_ hk=>⟨(.inr (Nat.le_trans (below_size (below_go HB.out)) hk)),Kd.fresh' (Kd.N_lt (N_up HO_5.out)) k_ hk,Kd.freshB (blk_up BK273.out) k_ hk⟩));(case aO=>exact (N_up HO_7.out));(case aS=>exact (below_size (below_go HB.out)));(case aL=>have:=LMc37.out;omega);intro v301 w39 ho hb hg hat;rw [← Ny300.out] at ho;have n0_:=Aside0.mk (Kd.V_afterv (ok:=(fun k_=>(P1_ k_ ∨ w.heap.size≤k_)∧some k_≠(.slice Ao38 x5_1.length co38 : Value).ownBlock∧k_≠gb273)) (V_upm HO_1.out (fun _ hk=>⟨⟨hk.1,⟨hk.2.1,hk.2.2.2⟩⟩,hk.2.2.1⟩)) hg hat);have n1_:=Aside0.mk (Kd.N_afterv (ok:=(fun k_=>(P1_ k_ ∨ w.heap.size≤k_)∧k_≠gb273)) (N_upm HO_5.out (fun _ hk=>⟨⟨hk.1,hk.2.2⟩,hk.2.1⟩)) hg hat);have n2_:=Aside0.mk (blk_grown (blk_up BK273.out) hg (Kd.N_ne HO_7.out BK273.out (by decide)));have n3_:=Aside0.mk (Kd.V_afterv (ok:=(fun k_=>(P1_ k_ ∨ w.heap.size≤k_)∧some k_≠(.slice Ao38 x5_1.length co38 : Value).ownBlock∧k_≠gb273)) (V_upm HL299_0.out (fun _ hk=>⟨⟨hk.1,⟨hk.2.1,hk.2.2.2⟩⟩,hk.2.2.1⟩)) hg hat);have n4_:=Aside0.mk (hb);have n5_:=Aside0.mk (ho);clear HO_1;clear HO_5;clear BK273;clear HL299_0;clear HB;clear HO_7;have HO_1:=n0_;have HO_5:=n1_;have BK273:=n2_;have HL299_0:=n3_;have HB:=n4_;have HO302:=n5_;clear n0_ n1_ n2_ n3_ n4_ n5_;clear ho hb hg hat))
           go_roundg k2
           case measure=>have:=HK1.out;have:=HK2.out;omega
           case rel=>exact ⟨(y300),(wrap64 (x6_1 + 1)),(by first|rfl|(simp;done)|(simp [*];done)),(by first|exact H'|(subst_vars;exact H')),⟨by have:=HK1.out;have:=HK2.out;omega⟩,⟨by (with_reducible repeat (first|apply Kd.V_alloc|apply Kd.V_drewN|apply Kd.V_drew));exact Kd.V_mono HO_1.out (fun _ hk=>⟨hk.1.1,⟨hk.2,hk.1.2.2⟩⟩)⟩,⟨by (with_reducible repeat (first|apply Kd.N_alloc|apply Kd.N_drewN|apply Kd.N_drew));exact Kd.N_mono HO302.out (fun _ hk=>⟨hk.1,hk.2.2⟩)⟩,⟨by (with_reducible repeat (first|refine blk_drewN ?_ _|refine blk_drew ?_|refine blk_alloc ?_ _));exact BK273.out⟩,⟨by repeat (first|(with_reducible first|exact HB.out|apply below_alloc|apply pw_below_drewN|apply below_drew1|refine below_set ?_ GE273.out)|exact HB.out)⟩⟩
          ·rw [if_neg c37] at H
           exact absurd H (by simp)
         ·rw [if_neg c36] at H
          exact absurd H (by simp)
        ·rw [if_neg c35] at H
         exact absurd H (by simp)
   ·rw [if_neg c6] at H
    have c6b0 : decide (x6_1 < (l1.length : Int))=false:=decide_eq_false c6
    clear c6
    obtain rfl:=Option.some.inj H
    go_wp2
    go_ret
    exact ⟨_,by first|rfl|(simp [errW_none,errW_some] <;> rfl)|(simp [*,errW_none,errW_some] <;> rfl),by (with_reducible repeat (first|apply Kd.N_alloc|apply Kd.N_drewN|apply Kd.N_drew));exact Kd.N_mono HO_5.out (fun _ hk=>hk.1),by repeat (first|(with_reducible first|exact HB.out|apply below_alloc|apply pw_below_drewN|apply below_drew1|refine below_set ?_ GE273.out)|exact HB.out)⟩
end Go.Proofs.Ytojbeofipedolaa.P

