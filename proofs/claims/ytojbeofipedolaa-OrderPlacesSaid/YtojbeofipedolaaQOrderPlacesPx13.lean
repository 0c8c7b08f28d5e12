/- Texts of OrderPlaces. Merged: Px13. -/
import Derived.Test.YtojbeofipedolaaQOrderPlacesPx0
import Derived.Test.YtojbeofipedolaaQOrderPlacesPx7
namespace Go.Proofs.Ytojbeofipedolaa.P
open Go.RowKit Go.Proofs.YtojbeofipedolaaW.PrintWords Go.Proofs.YtojbeofipedolaaW.PrintLast Go.Proofs.YtojbeofipedolaaW.PrintMore
attribute [local go_sem] max2_int min2_int max_two min_two max_three min_three max_four min_four   -- for this text's walks alone
set_option linter.unusedVariables false
set_option linter.unusedSimpArgs false
def thresherref09_Upto.l0 : Nat→List (List (S41))→List (S41)→Int→Int→List Int→Int→Int→Int→Option (Int)
 | 0,_,_,_,_,_,_,_,_=>none
 | k + 1,x1,x2,x7,x8,x311000,x311001,x311002,x311003=>if x8 < (x1.length : Int) then (if 0≤x8 then ((thresherref04_Compare.f k x311000 x311001 x311002 x311003 (rd_L5 x1 x8) x2).bind fun t312=>(if t312≤0 then (thresherref09_Upto.l0 k x1 x2 (wrap64 (x7 + 1)) (wrap64 (x8 + 1)) x311000 x311001 x311002 x311003) else (thresherref09_Upto.l0 k x1 x2 x7 (wrap64 (x8 + 1)) x311000 x311001 x311002 x311003))) else (none)) else (some x7)
def thresherref09_Upto.f (k : Nat) (l0_0 : List Int) (a0_1 : Int) (a0_2 : Int) (a0_3 : Int) (l1 : List (List (S41))) (l2 : List (S41)) : Option (Int):=thresherref09_Upto.l0 k l1 l2 0 0 l0_0 a0_1 a0_2 a0_3
theorem thresherref09_Upto.mono_l : ∀ k,(∀ y0 y1 y2 y3 y4 y5 y6 y7,LeO (thresherref09_Upto.l0 k y0 y1 y2 y3 y4 y5 y6 y7) (thresherref09_Upto.l0 (k + 1) y0 y1 y2 y3 y4 y5 y6 y7))
 | 0=>fun _ _ _ _ _ _ _ _ r h=>by simp [thresherref09_Upto.l0] at h
 | k + 1=>by
  have ih0:=thresherref09_Upto.mono_l k
  ·intro y0 y1 y2 y3 y4 y5 y6 y7
   unfold thresherref09_Upto.l0
   repeat' first
   | (with_reducible exact ih0 _ _ _ _ _ _ _ _)
   | (with_reducible exact thresherref04_Compare.mono _ _ _ _ _ _ _)
   | (with_reducible exact LeO.refl _)
   | (with_reducible exact LeO.none _)
   | (with_reducible refine LeO.ite ?_ ?_)
   | (with_reducible refine LeO.bind ?_ (fun _=>?_))
   | exact ih0 _ _ _ _ _ _ _ _
   | exact thresherref04_Compare.mono _ _ _ _ _ _ _
   | exact LeO.none _
   | refine LeO.ite ?_ ?_
   | refine LeO.bind ?_ (fun _=>?_)
theorem thresherref09_Upto.mono : ∀ a0 a1 a2 a3 a4 a5 k,LeO (thresherref09_Upto.f k a0 a1 a2 a3 a4 a5) (thresherref09_Upto.f (k + 1) a0 a1 a2 a3 a4 a5):=by
 intro a0 a1 a2 a3 a4 a5 k
 have ih0:=thresherref09_Upto.mono_l k
 unfold thresherref09_Upto.f
 repeat' first
   | (with_reducible exact ih0 _ _ _ _ _ _ _ _)
   | (with_reducible exact thresherref04_Compare.mono _ _ _ _ _ _ _)
   | (with_reducible exact LeO.refl _)
   | (with_reducible exact LeO.none _)
   | (with_reducible refine LeO.ite ?_ ?_)
   | (with_reducible refine LeO.bind ?_ (fun _=>?_))
   | exact ih0 _ _ _ _ _ _ _ _
   | exact thresherref04_Compare.mono _ _ _ _ _ _ _
   | exact LeO.none _
   | refine LeO.ite ?_ ?_
   | refine LeO.bind ?_ (fun _=>?_)
def thresherref09_Upto.T5 : Bool × List (List Nat × List Nat):=(true,[([],[]),([],[]),([],[]),([1,2],[1,2]),([3],[3]),([],[]),([0,4,5],[0,4,5]),([6],[6])])
def thresherref09_Upto.B5 : List Nat:=[0,0,0,6,14,0,63,127]
theorem thresherref09_Upto.tab5 : rtab .any (opsOf Try.f21 5)=thresherref09_Upto.T5:=by kernel_rfl
theorem thresherref09_Upto.bits5 : waitsOk thresherref09_Upto.T5.2 thresherref09_Upto.B5=true:=by kernel_rfl
set_option maxHeartbeats 8000000 in
set_option maxRecDepth 100000 in
theorem thresherref09_Upto.calls (k : Nat) (A0_0 : Option Addr) (c0_0 : Nat) (l0_0 : List Int) (a0_1 : Int) (a0_2 : Int) (a0_3 : Int) (A1 : Option Addr) (c1 : Nat) (l1 : List (List (S41))) (A2 : Option Addr) (c2 : Nat) (l2 : List (S41)) (r : Int) (w : World) (hr0_0 : Kd.C (Kd.int .i64) w A0_0 l0_0.length l0_0) (hc0_0 : l0_0.length≤c0_0) (hr1 : Kd.C (Kd.slice 41 k41) w A1 l1.length l1) (hc1 : l1.length≤c1) (hr2 : Kd.C k41 w A2 l2.length l2) (hc2 : l2.length≤c2) (h : thresherref09_Upto.f k l0_0 a0_1 a0_2 a0_3 l1 l2=some r) :
  Calls Try.prog 21 #[.agg #[.slice A0_0 l0_0.length c0_0,.int .i64 a0_1,.int .i64 a0_2,.int .i64 a0_3],.slice A1 l1.length c1,.slice A2 l2.length c2] w fun e w'=>e=.returned (.int .i64 r)∧Below w.heap.size w w':=by
 have hu31:=Try.underlying31
 have HR0_0:=Aside0.mk hr0_0
 have HC0_0:=Aside0.mk hc0_0
 clear hr0_0 hc0_0
 have HR1:=Aside0.mk hr1
 have HC1:=Aside0.mk hc1
 clear hr1 hc1
 have HR2:=Aside0.mk hr2
 have HC2:=Aside0.mk hc2
 clear hr2 hc2
 have HB:=Aside0.mk (Below.refl w.heap.size w)
 have H : (thresherref09_Upto.l0 k l1 l2 0 0 l0_0 a0_1 a0_2 a0_3)=some r:=h
 clear h
 have H':=Aside0.mk H
 clear H
 go_enter Try.func21,Try.ntmps21
 go_wp2_with (first|((with_reducible refine gate_dst (N:=3) rfl ?_);refine box_event ?hg (N:=3) ?hd (cs:=#[.slice A0_0 l0_0.length c0_0,.int .i64 a0_1,.int .i64 a0_2,.int .i64 a0_3]) (t:=31) ?hr ?_;(case hd=>rfl);(case hg=>rfl);(case hr=>first|(go_simp;done)|(go_simp;rfl));intro gb310 hg w4 hbox hb;have n0_:=Aside0.mk (below_step (below_up HB.out) hb);have n1_:=Aside0.mk (hbox);have n2_:=Aside0.mk ((by rw [hg];exact (below_size (below_up HB.out)) : w.heap.size≤gb310));have n3_:=Aside0.mk ((by rw [hg];exact (below_size (below_up HB.out)) : w.heap.size≤gb310));clear HB;have HB:=n0_;have BK310:=n1_;have GW310:=n2_;have GE310:=n3_;clear n0_ n1_ n2_ n3_;clear hb hbox hg))
 go_loopg [7,8] k (fun kq v7 v8 w'=>∃ (x7_1 : Int) (x8_1 : Int),v7=.int .i64 x7_1∧v8=.int .i64 x8_1∧Aside0 (thresherref09_Upto.l0 kq l1 l2 x7_1 x8_1 l0_0 a0_1 a0_2 a0_3=some r)∧Aside0 (kq≤k)∧Aside0 (w'.heap[gb310]?=some (.cells #[(.slice A0_0 l0_0.length c0_0),.int .i64 a0_1,.int .i64 a0_2,.int .i64 a0_3] 31 (0,0)))∧Aside0 (Below w.heap.size w w'))
 case atStart=>exact ⟨(0),(0),(by first|rfl|(simp;done)|(simp [*];done)),(by first|rfl|(simp;done)|(simp [*];done)),H',⟨Nat.le_refl _⟩,⟨by (with_reducible repeat (first|refine blk_drewN ?_ _|refine blk_drew ?_|refine blk_alloc ?_ _));exact BK310.out⟩,⟨by repeat (first|(with_reducible first|exact HB.out|apply below_alloc|apply pw_below_drewN|apply below_drew1|refine below_set ?_ GE310.out)|exact HB.out)⟩⟩
 case round =>
  clear H'
  try clear c1
  try clear c2
  try clear p2
  obtain ⟨x7_1,x8_1,rfl,rfl,HA,HK1,BK310,HB⟩:=hrel
  cases gk with
  | zero=>exact absurd HA.out (by simp [thresherref09_Upto.l0])
  | succ k1 =>
   have H:=HA.out
   clear HA
   simp only [thresherref09_Upto.l0] at H
   by_cases c5 : x8_1 < (l1.length : Int)
   ·rw [if_pos c5] at H
    have c5b0 : decide (x8_1 < (l1.length : Int))=true:=decide_eq_true c5
    clear c5
    by_cases c6 : 0≤x8_1
    ·rw [if_pos c6] at H
     have c6b0 : decide (0≤x8_1)=true:=decide_eq_true c6
     clear c6
     replace H:=Option.bind_eq_some_iff.mp H
     obtain ⟨t312,A70,H⟩:=H
     replace H : (if t312≤0 then (thresherref09_Upto.l0 k1 l1 l2 (wrap64 (x7_1 + 1)) (wrap64 (x8_1 + 1)) l0_0 a0_1 a0_2 a0_3) else (thresherref09_Upto.l0 k1 l1 l2 x7_1 (wrap64 (x8_1 + 1)) l0_0 a0_1 a0_2 a0_3))=some r:=H
     have A7:=Aside0.mk A70
     clear A70
     by_cases c8 : t312≤0
     ·rw [if_pos c8] at H
      have c8b0 : decide (t312≤0)=true:=decide_eq_true c8
      clear c8
      have H':=Aside0.mk H
      clear H
      try go_wp2
      have n0_:=Aside0.mk (blk_drew BK310.out)
      have n1_:=Aside0.mk (below_drew1 HB.out)
      clear BK310
      clear HB
      have BK310:=n0_
      have HB:=n1_
      clear n0_ n1_
      have p311 : 0≤(x8_1 : Int):=of_decide_eq_true (by first|(with_reducible assumption)|assumption)
      have q311 : x8_1 < (l1.length : Int):=of_decide_eq_true (by first|(with_reducible assumption)|assumption)
      obtain ⟨ad311,A311_0,c311_0,e311,hx311_0,hl311_0,hi311_0⟩:=at_L5 HR1.out x8_1 p311 q311
      have hw311_0:=hx311_0
      cases e311
      replace hx311_0:=(HB.out.cell (World.block_lt_of_cell? w _ hx311_0)).trans hx311_0
      have HR311_0:=Aside0.mk hi311_0
      have HC311_0:=Aside0.mk hl311_0
      clear hi311_0 hl311_0
      replace p311:=eq_true p311
      replace q311:=eq_true q311
      refine start_ (n:=8) (S:=fun w'=>w'.cell? ⟨gb310,0,none⟩=some (.slice A0_0 l0_0.length c0_0)∧w'.cell? ⟨gb310,1,none⟩=some (.int .i64 a0_1)∧w'.cell? ⟨gb310,2,none⟩=some (.int .i64 a0_2)∧w'.cell? ⟨gb310,3,none⟩=some (.int .i64 a0_3)∧w'.cell? (ad311.add (x8_1).toNat)=some (.slice A311_0 (rd_L5 l1 x8_1).length c311_0)) (ds:=[]) #[false,false,false,false,false,false,false,false] (by kernel_rfl) rfl rfl ⟨(blk_cell BK310.out 0).trans rfl,(blk_cell BK310.out 1).trans rfl,(blk_cell BK310.out 2).trans rfl,(blk_cell BK310.out 3).trans rfl,((HB.out.cell (World.block_lt_of_cell? w _ hw311_0)).trans hw311_0)⟩ (fun hHeld=>?_);refine with_tabW thresherref09_Upto.tab5 thresherref09_Upto.bits5 (fun HT_ HW_=>?_)
      generalize wr.drew=w9 at BK310 HB HR311_0 hx311_0 hHeld ⊢
      refine pure_ (i:=1) (N:=some 16) (v:=?_) (a':=?_) #[false,true,false,false,false,false,false,false] rfl rfl (any_of HT_.out (by kernel_rfl)) (fun _ _ _ h=>h) (Or.inl ⟨by rfl,?_⟩) ?_ ?_
      rotate_left;(intro w';go_simp;with_reducible rfl);rotate_left;(simp only [Act.put,List.setIfInBounds_toArray,List.set_cons_zero,List.set_cons_succ,i64_w,i32_w];rfl)
      refine pure_ (i:=2) (N:=some 17) (v:=?_) (a':=?_) #[false,true,true,false,false,false,false,false] rfl rfl (any_of HT_.out (by kernel_rfl)) (fun _ _ _ h=>h) (Or.inl ⟨by rfl,?_⟩) ?_ ?_
      rotate_left;(intro w';go_simp;with_reducible rfl);rotate_left;(simp only [Act.put,List.setIfInBounds_toArray,List.set_cons_zero,List.set_cons_succ,i64_w,i32_w];rfl)
      refine pure_ (i:=3) (N:=some 18) (v:=?_) (a':=?_) #[false,true,true,true,false,false,false,false] rfl rfl (any_of HT_.out (by kernel_rfl)) (fun _ _ _ h=>h) (Or.inl ⟨by rfl,?_⟩) ?_ ?_
      rotate_left;(intro w';go_simp;with_reducible rfl);rotate_left;(simp only [Act.put,List.setIfInBounds_toArray,List.set_cons_zero,List.set_cons_succ,i64_w,i32_w];rfl)
      refine pure_ (i:=5) (N:=some 20) (v:=?_) (a':=?_) #[false,true,true,true,false,true,false,false] rfl rfl (any_of HT_.out (by kernel_rfl)) (fun _ _ _ h=>h) (Or.inl ⟨by rfl,?_⟩) ?_ ?_
      rotate_left;(intro w';go_simp;with_reducible rfl);rotate_left;(simp only [Act.put,List.setIfInBounds_toArray,List.set_cons_zero,List.set_cons_succ,i64_w,i32_w];rfl)
      refine take_ (i:=0) (N:=some 15) (v:=?_) (a':=?_) #[true,true,true,true,false,true,false,false] rfl rfl (take_ofW HT_.out HW_.out (by kernel_rfl)) (fun _ _ _ h=>h) (Or.inl ⟨by rfl,?_⟩) hHeld ?_ ?_
      rotate_left;(rintro w' ⟨s0,s1,s2,s3,s4⟩;go_simp;with_reducible rfl);rotate_left;(simp only [Act.put,List.setIfInBounds_toArray,List.set_cons_zero,List.set_cons_succ,i64_w,i32_w];rfl)
      refine take_ (i:=4) (N:=some 19) (v:=?_) (a':=?_) #[true,true,true,true,true,true,false,false] rfl rfl (take_ofW HT_.out HW_.out (by kernel_rfl)) (fun _ _ _ h=>h) (Or.inl ⟨by rfl,?_⟩) hHeld ?_ ?_
      rotate_left;(rintro w' ⟨s0,s1,s2,s3,s4⟩;go_simp;with_reducible rfl);rotate_left;(simp only [Act.put,List.setIfInBounds_toArray,List.set_cons_zero,List.set_cons_succ,i64_w,i32_w];rfl)
      refine one_ (i:=6) (N:=some 21) #[true,true,true,true,true,true,true,false] rfl rfl (one_of HT_.out (by kernel_rfl)) (by decide) (fun K hK=>?_)
      refine goes_ Try.func15 (by kernel_rfl) rfl #[.agg #[.slice A0_0 l0_0.length c0_0,.int .i64 a0_1,.int .i64 a0_2,.int .i64 a0_3],.slice A311_0 (rd_L5 l1 x8_1).length c311_0,.slice A2 l2.length c2] (by rfl) rfl rfl (by (try simp only [List.map_toArray,List.map_cons,List.map_nil]);first|done|rfl|(simp only [List.length_drop,List.length_take];rfl)) ?_
      with_reducible refine (thresherref04_Compare.calls k1 _ _ l0_0 a0_1 a0_2 a0_3 _ _ (rd_L5 l1 x8_1) _ _ l2 t312 _ ?side1 ?side2 ?side3 ?side4 ?side5 ?side6 A7.out).mono ?_
      (case side1=>repeat (first|exact (Kd.C_below HR0_0.out HB.out)|(with_reducible refine Kd.C_alloc ?_ _)|(with_reducible refine Kd.C_drewN ?_ _)|(with_reducible refine Kd.C_drew ?_)))
      (case side2=>exact HC0_0.out)
      (case side3=>repeat (first|exact (Kd.C_below HR311_0.out HB.out)|(with_reducible refine Kd.C_alloc ?_ _)|(with_reducible refine Kd.C_drewN ?_ _)|(with_reducible refine Kd.C_drew ?_)))
      (case side4=>exact HC311_0.out)
      (case side5=>repeat (first|exact (Kd.C_below HR2.out HB.out)|(with_reducible refine Kd.C_alloc ?_ _)|(with_reducible refine Kd.C_drewN ?_ _)|(with_reducible refine Kd.C_drew ?_)))
      (case side6=>exact HC2.out)
      rintro e w10 ⟨rfl,hb⟩
      refine ⟨_,rfl,?_⟩
      have n0_:=Aside0.mk (blk_below (blk_up BK310.out) hb)
      have n1_:=Aside0.mk (below_step (below_go HB.out) hb)
      clear BK310
      clear HB
      have BK310:=n0_
      have HB:=n1_
      clear n0_ n1_
      (try clear hb)
      (try clear hb2)
      (try clear hk)
      (try clear hi)
      refine hK.out _ _ ⟨(blk_cell BK310.out 0).trans rfl,(blk_cell BK310.out 1).trans rfl,(blk_cell BK310.out 2).trans rfl,(blk_cell BK310.out 3).trans rfl,((HB.out.cell (World.block_lt_of_cell? w _ hw311_0)).trans hw311_0)⟩ (fun hHeld=>?_)
      clear hK K
      refine norm_ (a':=?_) ?_ ?_
      rotate_left
      ·show Act.put _ (some 21) _=_
       simp only [Act.put,List.setIfInBounds_toArray,List.set_cons_zero,List.set_cons_succ,i64_w,i32_w]
       rfl
      refine pure_ (i:=7) (N:=some 22) (v:=?_) (a':=?_) #[true,true,true,true,true,true,true,true] rfl rfl (any_of HT_.out (by kernel_rfl)) (fun _ _ _ h=>h) (Or.inl ⟨by rfl,?_⟩) ?_ ?_
      rotate_left;(intro w';go_simp;with_reducible rfl);rotate_left;(simp only [Act.put,List.setIfInBounds_toArray,List.set_cons_zero,List.set_cons_succ,i64_w,i32_w];rfl)
      refine done_ (done_of HT_.out (by kernel_rfl)) ?_
      (try clear hHeld)
      try go_wp2
      go_roundg k1
      case measure=>have:=HK1.out;omega
      case rel=>exact ⟨(wrap64 (x7_1 + 1)),(wrap64 (x8_1 + 1)),(by first|rfl|(simp;done)|(simp [*];done)),(by first|rfl|(simp;done)|(simp [*];done)),(by first|exact H'|(subst_vars;exact H')),⟨by have:=HK1.out;omega⟩,⟨by (with_reducible repeat (first|refine blk_drewN ?_ _|refine blk_drew ?_|refine blk_alloc ?_ _));exact BK310.out⟩,⟨by repeat (first|(with_reducible first|exact HB.out|apply below_alloc|apply pw_below_drewN|apply below_drew1|refine below_set ?_ GE310.out)|exact HB.out)⟩⟩
     ·rw [if_neg c8] at H
      have c8b0 : decide (t312≤0)=false:=decide_eq_false c8
      clear c8
      have H':=Aside0.mk H
      clear H
      try go_wp2
      have n0_:=Aside0.mk (blk_drew BK310.out)
      have n1_:=Aside0.mk (below_drew1 HB.out)
      clear BK310
      clear HB
      have BK310:=n0_
      have HB:=n1_
      clear n0_ n1_
      have p311 : 0≤(x8_1 : Int):=of_decide_eq_true (by first|(with_reducible assumption)|assumption)
      have q311 : x8_1 < (l1.length : Int):=of_decide_eq_true (by first|(with_reducible assumption)|assumption)
      obtain ⟨ad311,A311_0,c311_0,e311,hx311_0,hl311_0,hi311_0⟩:=at_L5 HR1.out x8_1 p311 q311
      have hw311_0:=hx311_0
      cases e311
      replace hx311_0:=(HB.out.cell (World.block_lt_of_cell? w _ hx311_0)).trans hx311_0
      have HR311_0:=Aside0.mk hi311_0
      have HC311_0:=Aside0.mk hl311_0
      clear hi311_0 hl311_0
      replace p311:=eq_true p311
      replace q311:=eq_true q311
      refine start_ (n:=8) (S:=fun w'=>w'.cell? ⟨gb310,0,none⟩=some (.slice A0_0 l0_0.length c0_0)∧w'.cell? ⟨gb310,1,none⟩=some (.int .i64 a0_1)∧w'.cell? ⟨gb310,2,none⟩=some (.int .i64 a0_2)∧w'.cell? ⟨gb310,3,none⟩=some (.int .i64 a0_3)∧w'.cell? (ad311.add (x8_1).toNat)=some (.slice A311_0 (rd_L5 l1 x8_1).length c311_0)) (ds:=[]) #[false,false,false,false,false,false,false,false] (by kernel_rfl) rfl rfl ⟨(blk_cell BK310.out 0).trans rfl,(blk_cell BK310.out 1).trans rfl,(blk_cell BK310.out 2).trans rfl,(blk_cell BK310.out 3).trans rfl,((HB.out.cell (World.block_lt_of_cell? w _ hw311_0)).trans hw311_0)⟩ (fun hHeld=>?_);refine with_tabW thresherref09_Upto.tab5 thresherref09_Upto.bits5 (fun HT_ HW_=>?_)
      generalize wr.drew=w11 at BK310 HB HR311_0 hx311_0 hHeld ⊢
      refine pure_ (i:=1) (N:=some 16) (v:=?_) (a':=?_) #[false,true,false,false,false,false,false,false] rfl rfl (any_of HT_.out (by kernel_rfl)) (fun _ _ _ h=>h) (Or.inl ⟨by rfl,?_⟩) ?_ ?_
      rotate_left;(intro w';go_simp;with_reducible rfl);rotate_left;(simp only [Act.put,List.setIfInBounds_toArray,List.set_cons_zero,List.set_cons_succ,i64_w,i32_w];rfl)
      refine pure_ (i:=2) (N:=some 17) (v:=?_) (a':=?_) #[false,true,true,false,false,false,false,false] rfl rfl (any_of HT_.out (by kernel_rfl)) (fun _ _ _ h=>h) (Or.inl ⟨by rfl,?_⟩) ?_ ?_
      rotate_left;(intro w';go_simp;with_reducible rfl);rotate_left;(simp only [Act.put,List.setIfInBounds_toArray,List.set_cons_zero,List.set_cons_succ,i64_w,i32_w];rfl)
      refine pure_ (i:=3) (N:=some 18) (v:=?_) (a':=?_) #[false,true,true,true,false,false,false,false] rfl rfl (any_of HT_.out (by kernel_rfl)) (fun _ _ _ h=>h) (Or.inl ⟨by rfl,?_⟩) ?_ ?_
      rotate_left;(intro w';go_simp;with_reducible rfl);rotate_left;(simp only [Act.put,List.setIfInBounds_toArray,List.set_cons_zero,List.set_cons_succ,i64_w,i32_w];rfl)
      refine pure_ (i:=5) (N:=some 20) (v:=?_) (a':=?_) #[false,true,true,true,false,true,false,false] rfl rfl (any_of HT_.out (by kernel_rfl)) (fun _ _ _ h=>h) (Or.inl ⟨by rfl,?_⟩) ?_ ?_
      rotate_left;(intro w';go_simp;with_reducible rfl);rotate_left;(simp only [Act.put,List.setIfInBounds_toArray,List.set_cons_zero,List.set_cons_succ,i64_w,i32_w];rfl)
      refine take_ (i:=0) (N:=some 15) (v:=?_) (a':=?_) #[true,true,true,true,false,true,false,false] rfl rfl (take_ofW HT_.out HW_.out (by kernel_rfl)) (fun _ _ _ h=>h) (Or.inl ⟨by rfl,?_⟩) hHeld ?_ ?_
      rotate_left;(rintro w' ⟨s0,s1,s2,s3,s4⟩;go_simp;with_reducible rfl);rotate_left;(simp only [Act.put,List.setIfInBounds_toArray,List.set_cons_zero,List.set_cons_succ,i64_w,i32_w];rfl)
      refine take_ (i:=4) (N:=some 19) (v:=?_) (a':=?_) #[true,true,true,true,true,true,false,false] rfl rfl (take_ofW HT_.out HW_.out (by kernel_rfl)) (fun _ _ _ h=>h) (Or.inl ⟨by rfl,?_⟩) hHeld ?_ ?_
      rotate_left;(rintro w' ⟨s0,s1,s2,s3,s4⟩;go_simp;with_reducible rfl);rotate_left;(simp only [Act.put,List.setIfInBounds_toArray,List.set_cons_zero,List.set_cons_succ,i64_w,i32_w];rfl)
      refine one_ (i:=6) (N:=some 21) #[true,true,true,true,true,true,true,false] rfl rfl (one_of HT_.out (by kernel_rfl)) (by decide) (fun K hK=>?_)
      refine goes_ Try.func15 (by kernel_rfl) rfl #[.agg #[.slice A0_0 l0_0.length c0_0,.int .i64 a0_1,.int .i64 a0_2,.int .i64 a0_3],.slice A311_0 (rd_L5 l1 x8_1).length c311_0,.slice A2 l2.length c2] (by rfl) rfl rfl (by (try simp only [List.map_toArray,List.map_cons,List.map_nil]);first|done|rfl|(simp only [List.length_drop,List.length_take];rfl)) ?_
      with_reducible refine (thresherref04_Compare.calls k1 _ _ l0_0 a0_1 a0_2 a0_3 _ _ (rd_L5 l1 x8_1) _ _ l2 t312 _ ?side1 ?side2 ?side3 ?side4 ?side5 ?side6 A7.out).mono ?_
      (case side1=>repeat (first|exact (Kd.C_below HR0_0.out HB.out)|(with_reducible refine Kd.C_alloc ?_ _)|(with_reducible refine Kd.C_drewN ?_ _)|(with_reducible refine Kd.C_drew ?_)))
      (case side2=>exact HC0_0.out)
      (case side3=>repeat (first|exact (Kd.C_below HR311_0.out HB.out)|(with_reducible refine Kd.C_alloc ?_ _)|(with_reducible refine Kd.C_drewN ?_ _)|(with_reducible refine Kd.C_drew ?_)))
      (case side4=>exact HC311_0.out)
      (case side5=>repeat (first|exact (Kd.C_below HR2.out HB.out)|(with_reducible refine Kd.C_alloc ?_ _)|(with_reducible refine Kd.C_drewN ?_ _)|(with_reducible refine Kd.C_drew ?_)))
      (case side6=>exact HC2.out)
      rintro e w12 ⟨rfl,hb⟩
      refine ⟨_,rfl,?_⟩
      have n0_:=Aside0.mk (blk_below (blk_up BK310.out) hb)
      have n1_:=Aside0.mk (below_step (below_go HB.out) hb)
      clear BK310
      clear HB
      have BK310:=n0_
      have HB:=n1_
      clear n0_ n1_
      (try clear hb)
      (try clear hb2)
      (try clear hk)
      (try clear hi)
      refine hK.out _ _ ⟨(blk_cell BK310.out 0).trans rfl,(blk_cell BK310.out 1).trans rfl,(blk_cell BK310.out 2).trans rfl,(blk_cell BK310.out 3).trans rfl,((HB.out.cell (World.block_lt_of_cell? w _ hw311_0)).trans hw311_0)⟩ (fun hHeld=>?_)
      clear hK K
      refine norm_ (a':=?_) ?_ ?_
      rotate_left
      ·show Act.put _ (some 21) _=_
       simp only [Act.put,List.setIfInBounds_toArray,List.set_cons_zero,List.set_cons_succ,i64_w,i32_w]
       rfl
      refine pure_ (i:=7) (N:=some 22) (v:=?_) (a':=?_) #[true,true,true,true,true,true,true,true] rfl rfl (any_of HT_.out (by kernel_rfl)) (fun _ _ _ h=>h) (Or.inl ⟨by rfl,?_⟩) ?_ ?_
      rotate_left;(intro w';go_simp;with_reducible rfl);rotate_left;(simp only [Act.put,List.setIfInBounds_toArray,List.set_cons_zero,List.set_cons_succ,i64_w,i32_w];rfl)
      refine done_ (done_of HT_.out (by kernel_rfl)) ?_
      (try clear hHeld)
      try go_wp2
      go_roundg k1
      case measure=>have:=HK1.out;omega
      case rel=>exact ⟨(x7_1),(wrap64 (x8_1 + 1)),(by first|rfl|(simp;done)|(simp [*];done)),(by first|rfl|(simp;done)|(simp [*];done)),(by first|exact H'|(subst_vars;exact H')),⟨by have:=HK1.out;omega⟩,⟨by (with_reducible repeat (first|refine blk_drewN ?_ _|refine blk_drew ?_|refine blk_alloc ?_ _));exact BK310.out⟩,⟨by repeat (first|(with_reducible first|exact HB.out|apply below_alloc|apply pw_below_drewN|apply below_drew1|refine below_set ?_ GE310.out)|exact HB.out)⟩⟩
    ·rw [if_neg c6] at H
     exact absurd H (by simp)
   ·rw [if_neg c5] at H
    have c5b0 : decide (x8_1 < (l1.length : Int))=false:=decide_eq_false c5
    clear c5
    obtain rfl:=Option.some.inj H
    go_wp2
    go_ret
    exact ⟨by first|rfl|(simp [errW_none,errW_some] <;> rfl)|(simp [*,errW_none,errW_some] <;> rfl),by repeat (first|(with_reducible first|exact HB.out|apply below_alloc|apply pw_below_drewN|apply below_drew1|refine below_set ?_ GE310.out)|exact HB.out)⟩
end Go.Proofs.Ytojbeofipedolaa.P

