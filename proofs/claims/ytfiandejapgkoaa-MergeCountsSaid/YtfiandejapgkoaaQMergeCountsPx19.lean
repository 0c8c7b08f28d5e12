/- Texts of MergeCounts. Merged: Px19. -/
import Derived.Test.YtfiandejapgkoaaQMergeCountsPx0
import Derived.Test.YtfiandejapgkoaaQMergeCountsPx7
namespace Go.Proofs.Ytfiandejapgkoaa.P
open Go.RowKit Go.Proofs.YtfiandejapgkoaaW.PrintWords Go.Proofs.YtfiandejapgkoaaW.PrintLast Go.Proofs.YtfiandejapgkoaaW.PrintMore
attribute [local go_sem] max2_int min2_int max_two min_two max_three min_three max_four min_four   -- for this text's walks alone
set_option linter.unusedVariables false
set_option linter.unusedSimpArgs false
def thresherref09_Sorted.l0 : Nat→List (List (S31))→Int→List Int→Int→Int→Int→Option (Bool)
 | 0,_,_,_,_,_,_=>none
 | k + 1,x1,x5,x507000,x507001,x507002,x507003=>if x5 < (x1.length : Int) then (if 0≤(wrap64 (x5 - 1)) then (if (wrap64 (x5 - 1)) < (x1.length : Int) then (if 0≤x5 then ((thresherref04_Compare.f k x507000 x507001 x507002 x507003 (rd_L3 x1 (wrap64 (x5 - 1))) (rd_L3 x1 x5)).bind fun t509=>(if t509 > 0 then (some false) else (thresherref09_Sorted.l0 k x1 (wrap64 (x5 + 1)) x507000 x507001 x507002 x507003))) else (none)) else (none)) else (none)) else (some true)
def thresherref09_Sorted.f (k : Nat) (l0_0 : List Int) (a0_1 : Int) (a0_2 : Int) (a0_3 : Int) (l1 : List (List (S31))) : Option (Bool):=thresherref09_Sorted.l0 k l1 1 l0_0 a0_1 a0_2 a0_3
theorem thresherref09_Sorted.mono_l : ∀ k,(∀ y0 y1 y2 y3 y4 y5,LeO (thresherref09_Sorted.l0 k y0 y1 y2 y3 y4 y5) (thresherref09_Sorted.l0 (k + 1) y0 y1 y2 y3 y4 y5))
 | 0=>fun _ _ _ _ _ _ r h=>by simp [thresherref09_Sorted.l0] at h
 | k + 1=>by
  have ih0:=thresherref09_Sorted.mono_l k
  ·intro y0 y1 y2 y3 y4 y5
   unfold thresherref09_Sorted.l0
   repeat' first
   | (with_reducible exact ih0 _ _ _ _ _ _)
   | (with_reducible exact thresherref04_Compare.mono _ _ _ _ _ _ _)
   | (with_reducible exact LeO.refl _)
   | (with_reducible exact LeO.none _)
   | (with_reducible refine LeO.ite ?_ ?_)
   | (with_reducible refine LeO.bind ?_ (fun _=>?_))
   | exact ih0 _ _ _ _ _ _
   | exact thresherref04_Compare.mono _ _ _ _ _ _ _
   | exact LeO.none _
   | refine LeO.ite ?_ ?_
   | refine LeO.bind ?_ (fun _=>?_)
theorem thresherref09_Sorted.mono : ∀ a0 a1 a2 a3 a4 k,LeO (thresherref09_Sorted.f k a0 a1 a2 a3 a4) (thresherref09_Sorted.f (k + 1) a0 a1 a2 a3 a4):=by
 intro a0 a1 a2 a3 a4 k
 have ih0:=thresherref09_Sorted.mono_l k
 unfold thresherref09_Sorted.f
 repeat' first
   | (with_reducible exact ih0 _ _ _ _ _ _)
   | (with_reducible exact thresherref04_Compare.mono _ _ _ _ _ _ _)
   | (with_reducible exact LeO.refl _)
   | (with_reducible exact LeO.none _)
   | (with_reducible refine LeO.ite ?_ ?_)
   | (with_reducible refine LeO.bind ?_ (fun _=>?_))
   | exact ih0 _ _ _ _ _ _
   | exact thresherref04_Compare.mono _ _ _ _ _ _ _
   | exact LeO.none _
   | refine LeO.ite ?_ ?_
   | refine LeO.bind ?_ (fun _=>?_)
def thresherref09_Sorted.T4 : Bool × List (List Nat × List Nat):=(true,[([],[]),([],[]),([],[]),([2],[2]),([1,3],[1,3]),([4],[4]),([],[]),([],[]),([6,7],[6,7]),([8],[8]),([0,5,9],[0,5,9]),([10],[10])])
def thresherref09_Sorted.B4 : List Nat:=[0,0,0,4,14,30,0,0,192,448,1023,2047]
theorem thresherref09_Sorted.tab4 : rtab .any (opsOf Try.f16 4)=thresherref09_Sorted.T4:=by kernel_rfl
theorem thresherref09_Sorted.bits4 : waitsOk thresherref09_Sorted.T4.2 thresherref09_Sorted.B4=true:=by kernel_rfl
set_option maxHeartbeats 8000000 in
set_option maxRecDepth 100000 in
theorem thresherref09_Sorted.calls (k : Nat) (A0_0 : Option Addr) (c0_0 : Nat) (l0_0 : List Int) (a0_1 : Int) (a0_2 : Int) (a0_3 : Int) (A1 : Option Addr) (c1 : Nat) (l1 : List (List (S31))) (r : Bool) (w : World) (hr0_0 : Kd.C (Kd.int .i64) w A0_0 l0_0.length l0_0) (hc0_0 : l0_0.length≤c0_0) (hr1 : Kd.C (Kd.slice 31 k31) w A1 l1.length l1) (hc1 : l1.length≤c1) (h : thresherref09_Sorted.f k l0_0 a0_1 a0_2 a0_3 l1=some r) :
  Calls Try.prog 16 #[.agg #[.slice A0_0 l0_0.length c0_0,.int .i64 a0_1,.int .i64 a0_2,.int .i64 a0_3],.slice A1 l1.length c1] w fun e w'=>e=.returned (.bool r)∧Below w.heap.size w w':=by
 have hu26:=Try.underlying26
 have HR0_0:=Aside0.mk hr0_0
 have HC0_0:=Aside0.mk hc0_0
 clear hr0_0 hc0_0
 have HR1:=Aside0.mk hr1
 have HC1:=Aside0.mk hc1
 clear hr1 hc1
 have HB:=Aside0.mk (Below.refl w.heap.size w)
 have H : (thresherref09_Sorted.l0 k l1 1 l0_0 a0_1 a0_2 a0_3)=some r:=h
 clear h
 have H':=Aside0.mk H
 clear H
 go_enter Try.func16,Try.ntmps16
 go_wp2_with (first|((with_reducible refine gate_dst (N:=2) rfl ?_);refine box_event ?hg (N:=2) ?hd (cs:=#[.slice A0_0 l0_0.length c0_0,.int .i64 a0_1,.int .i64 a0_2,.int .i64 a0_3]) (t:=26) ?hr ?_;(case hd=>rfl);(case hg=>rfl);(case hr=>first|(go_simp;done)|(go_simp;rfl));intro gb506 hg w3 hbox hb;have n0_:=Aside0.mk (below_step (below_up HB.out) hb);have n1_:=Aside0.mk (hbox);have n2_:=Aside0.mk ((by rw [hg];exact (below_size (below_up HB.out)) : w.heap.size≤gb506));have n3_:=Aside0.mk ((by rw [hg];exact (below_size (below_up HB.out)) : w.heap.size≤gb506));clear HB;have HB:=n0_;have BK506:=n1_;have GW506:=n2_;have GE506:=n3_;clear n0_ n1_ n2_ n3_;clear hb hbox hg))
 go_loopg [5] k (fun kq v5 w'=>∃ (x5_1 : Int),v5=.int .i64 x5_1∧Aside0 (thresherref09_Sorted.l0 kq l1 x5_1 l0_0 a0_1 a0_2 a0_3=some r)∧Aside0 (kq≤k)∧Aside0 (w'.heap[gb506]?=some (.cells #[(.slice A0_0 l0_0.length c0_0),.int .i64 a0_1,.int .i64 a0_2,.int .i64 a0_3] 26 (0,0)))∧Aside0 (Below w.heap.size w w'))
 case atStart=>exact ⟨(1),(by first|rfl|(simp;done)|(simp [*];done)),H',⟨Nat.le_refl _⟩,⟨by (with_reducible repeat (first|refine blk_drewN ?_ _|refine blk_drew ?_|refine blk_alloc ?_ _));exact BK506.out⟩,⟨by repeat (first|(with_reducible first|exact HB.out|apply below_alloc|apply pw_below_drewN|apply below_drew1|refine below_set ?_ GE506.out)|exact HB.out)⟩⟩
 case round =>
  clear H'
  try clear c1
  try clear p2
  obtain ⟨x5_1,rfl,HA,HK1,BK506,HB⟩:=hrel
  cases gk with
  | zero=>exact absurd HA.out (by simp [thresherref09_Sorted.l0])
  | succ k1 =>
   have H:=HA.out
   clear HA
   simp only [thresherref09_Sorted.l0] at H
   by_cases c4 : x5_1 < (l1.length : Int)
   ·rw [if_pos c4] at H
    have c4b0 : decide (x5_1 < (l1.length : Int))=true:=decide_eq_true c4
    clear c4
    obtain ⟨ji5,hji5⟩ : ∃ j_ : Int,(wrap64 (x5_1 - 1))=j_:=⟨_,rfl⟩
    replace H : (if 0≤(ji5) then (if (ji5) < (l1.length : Int) then (if 0≤x5_1 then ((thresherref04_Compare.f k1 l0_0 a0_1 a0_2 a0_3 (rd_L3 l1 (ji5)) (rd_L3 l1 x5_1)).bind fun t509=>(if t509 > 0 then (some false) else (thresherref09_Sorted.l0 k1 l1 (wrap64 (x5_1 + 1)) l0_0 a0_1 a0_2 a0_3))) else (none)) else (none)) else (none))=some r:=by first|(rw [hji5] at H;exact H)|(simp only [hji5] at H ⊢;exact H)
    have hji5w : (IntKind.i64.wrap (x5_1 - 1))=ji5:=(i64_w _).trans hji5
    by_cases c6 : 0≤(ji5)
    ·rw [if_pos c6] at H
     have c6b0 : decide (0≤(ji5))=true:=decide_eq_true c6
     clear c6
     by_cases c7 : (ji5) < (l1.length : Int)
     ·rw [if_pos c7] at H
      have c7b0 : decide ((ji5) < (l1.length : Int))=true:=decide_eq_true c7
      clear c7
      by_cases c8 : 0≤x5_1
      ·rw [if_pos c8] at H
       have c8b0 : decide (0≤x5_1)=true:=decide_eq_true c8
       clear c8
       replace H:=Option.bind_eq_some_iff.mp H
       obtain ⟨t509,A90,H⟩:=H
       replace H : (if t509 > 0 then (some false) else (thresherref09_Sorted.l0 k1 l1 (wrap64 (x5_1 + 1)) l0_0 a0_1 a0_2 a0_3))=some r:=H
       have A9:=Aside0.mk A90
       clear A90
       by_cases c10 : t509 > 0
       ·rw [if_pos c10] at H
        have c10b0 : decide (0 < t509)=true:=decide_eq_true c10
        clear c10
        obtain rfl:=Option.some.inj H
        try go_wp2
        have n0_:=Aside0.mk (blk_drew BK506.out)
        have n1_:=Aside0.mk (below_drew1 HB.out)
        clear BK506
        clear HB
        have BK506:=n0_
        have HB:=n1_
        clear n0_ n1_
        have p507 : 0≤((ji5) : Int):=of_decide_eq_true (by first|(with_reducible assumption)|assumption)
        have q507 : (ji5) < (l1.length : Int):=of_decide_eq_true (by first|(with_reducible assumption)|assumption)
        obtain ⟨ad507,A507_0,c507_0,e507,hx507_0,hl507_0,hi507_0⟩:=at_L3 HR1.out (ji5) p507 q507
        have hw507_0:=hx507_0
        cases e507
        replace hx507_0:=(HB.out.cell (World.block_lt_of_cell? w _ hx507_0)).trans hx507_0
        have HR507_0:=Aside0.mk hi507_0
        have HC507_0:=Aside0.mk hl507_0
        clear hi507_0 hl507_0
        replace p507:=eq_true p507
        replace q507:=eq_true q507
        have p508 : 0≤(x5_1 : Int):=of_decide_eq_true (by first|(with_reducible assumption)|assumption)
        have q508 : x5_1 < (l1.length : Int):=of_decide_eq_true (by first|(with_reducible assumption)|assumption)
        obtain ⟨ad508,A508_0,c508_0,e508,hx508_0,hl508_0,hi508_0⟩:=at_L3 HR1.out x5_1 p508 q508
        have hw508_0:=hx508_0
        obtain rfl : ad507=ad508:=(by injection e508)
        replace hx508_0:=(HB.out.cell (World.block_lt_of_cell? w _ hx508_0)).trans hx508_0
        have HR508_0:=Aside0.mk hi508_0
        have HC508_0:=Aside0.mk hl508_0
        clear hi508_0 hl508_0
        replace p508:=eq_true p508
        replace q508:=eq_true q508
        refine start_ (n:=12) (S:=fun w'=>w'.cell? ⟨gb506,0,none⟩=some (.slice A0_0 l0_0.length c0_0)∧w'.cell? ⟨gb506,1,none⟩=some (.int .i64 a0_1)∧w'.cell? ⟨gb506,2,none⟩=some (.int .i64 a0_2)∧w'.cell? ⟨gb506,3,none⟩=some (.int .i64 a0_3)∧w'.cell? (ad507.add ((ji5)).toNat)=some (.slice A507_0 (rd_L3 l1 (ji5)).length c507_0)∧w'.cell? (ad507.add (x5_1).toNat)=some (.slice A508_0 (rd_L3 l1 x5_1).length c508_0)) (ds:=[]) #[false,false,false,false,false,false,false,false,false,false,false,false] (by kernel_rfl) rfl rfl ⟨(blk_cell BK506.out 0).trans rfl,(blk_cell BK506.out 1).trans rfl,(blk_cell BK506.out 2).trans rfl,(blk_cell BK506.out 3).trans rfl,((HB.out.cell (World.block_lt_of_cell? w _ hw507_0)).trans hw507_0),((HB.out.cell (World.block_lt_of_cell? w _ hw508_0)).trans hw508_0)⟩ (fun hHeld=>?_);refine with_tabW thresherref09_Sorted.tab4 thresherref09_Sorted.bits4 (fun HT_ HW_=>?_)
        generalize wr.drew=w11 at BK506 HB HR507_0 HR508_0 hx507_0 hx508_0 hHeld ⊢
        refine pure_ (i:=1) (N:=some 13) (v:=?_) (a':=?_) #[false,true,false,false,false,false,false,false,false,false,false,false] rfl rfl (any_of HT_.out (by kernel_rfl)) (fun _ _ _ h=>h) (Or.inl ⟨by rfl,?_⟩) ?_ ?_
        rotate_left;(intro w';go_simp;with_reducible rfl);rotate_left;(simp only [Act.put,List.setIfInBounds_toArray,List.set_cons_zero,List.set_cons_succ,i64_w,i32_w];rfl)
        refine pure_ (i:=2) (N:=some 14) (v:=?_) (a':=?_) #[false,true,true,false,false,false,false,false,false,false,false,false] rfl rfl (any_of HT_.out (by kernel_rfl)) (fun _ _ _ h=>h) (Or.inl ⟨by rfl,?_⟩) ?_ ?_
        rotate_left;(intro w';go_simp;with_reducible rfl);rotate_left;(simp only [Act.put,List.setIfInBounds_toArray,List.set_cons_zero,List.set_cons_succ,i64_w,i32_w];rfl)
        refine pure_ (i:=3) (N:=some 15) (v:=?_) (a':=?_) #[false,true,true,true,false,false,false,false,false,false,false,false] rfl rfl (any_of HT_.out (by kernel_rfl)) (fun _ _ _ h=>h) (Or.inl ⟨by rfl,?_⟩) ?_ ?_
        rotate_left;(intro w';go_simp;with_reducible rfl);rotate_left;(simp only [Act.put,List.setIfInBounds_toArray,List.set_cons_zero,List.set_cons_succ,i64_w,i32_w];rfl)
        refine pure_ (i:=4) (N:=some 16) (v:=?_) (a':=?_) #[false,true,true,true,true,false,false,false,false,false,false,false] rfl rfl (any_of HT_.out (by kernel_rfl)) (fun _ _ _ h=>h) (Or.inl ⟨by rfl,?_⟩) ?_ ?_
        rotate_left;(intro w';go_simp;with_reducible rfl);rotate_left;(simp only [Act.put,List.setIfInBounds_toArray,List.set_cons_zero,List.set_cons_succ,i64_w,i32_w];rfl)
        refine pure_ (i:=6) (N:=some 18) (v:=?_) (a':=?_) #[false,true,true,true,true,false,true,false,false,false,false,false] rfl rfl (any_of HT_.out (by kernel_rfl)) (fun _ _ _ h=>h) (Or.inl ⟨by rfl,?_⟩) ?_ ?_
        rotate_left;(intro w';go_simp;with_reducible rfl);rotate_left;(simp only [Act.put,List.setIfInBounds_toArray,List.set_cons_zero,List.set_cons_succ,i64_w,i32_w];rfl)
        refine pure_ (i:=7) (N:=some 19) (v:=?_) (a':=?_) #[false,true,true,true,true,false,true,true,false,false,false,false] rfl rfl (any_of HT_.out (by kernel_rfl)) (fun _ _ _ h=>h) (Or.inl ⟨by rfl,?_⟩) ?_ ?_
        rotate_left;(intro w';go_simp;with_reducible rfl);rotate_left;(simp only [Act.put,List.setIfInBounds_toArray,List.set_cons_zero,List.set_cons_succ,i64_w,i32_w];rfl)
        refine pure_ (i:=8) (N:=some 20) (v:=?_) (a':=?_) #[false,true,true,true,true,false,true,true,true,false,false,false] rfl rfl (any_of HT_.out (by kernel_rfl)) (fun _ _ _ h=>h) (Or.inl ⟨by rfl,?_⟩) ?_ ?_
        rotate_left;(intro w';go_simp;with_reducible rfl);rotate_left;(simp only [Act.put,List.setIfInBounds_toArray,List.set_cons_zero,List.set_cons_succ,i64_w,i32_w];rfl)
        refine take_ (i:=0) (N:=some 12) (v:=?_) (a':=?_) #[true,true,true,true,true,false,true,true,true,false,false,false] rfl rfl (take_ofW HT_.out HW_.out (by kernel_rfl)) (fun _ _ _ h=>h) (Or.inl ⟨by rfl,?_⟩) hHeld ?_ ?_
        rotate_left;(rintro w' ⟨s0,s1,s2,s3,s4,s5⟩;go_simp;with_reducible rfl);rotate_left;(simp only [Act.put,List.setIfInBounds_toArray,List.set_cons_zero,List.set_cons_succ,i64_w,i32_w];rfl)
        refine take_ (i:=5) (N:=some 17) (v:=?_) (a':=?_) #[true,true,true,true,true,true,true,true,true,false,false,false] rfl rfl (take_ofW HT_.out HW_.out (by kernel_rfl)) (fun _ _ _ h=>h) (Or.inl ⟨by rfl,?_⟩) hHeld ?_ ?_
        rotate_left;(rintro w' ⟨s0,s1,s2,s3,s4,s5⟩;go_simp;with_reducible rfl);rotate_left;(simp only [Act.put,List.setIfInBounds_toArray,List.set_cons_zero,List.set_cons_succ,i64_w,i32_w];rfl)
        refine take_ (i:=9) (N:=some 21) (v:=?_) (a':=?_) #[true,true,true,true,true,true,true,true,true,true,false,false] rfl rfl (take_ofW HT_.out HW_.out (by kernel_rfl)) (fun _ _ _ h=>h) (Or.inl ⟨by rfl,?_⟩) hHeld ?_ ?_
        rotate_left;(rintro w' ⟨s0,s1,s2,s3,s4,s5⟩;go_simp;with_reducible rfl);rotate_left;(simp only [Act.put,List.setIfInBounds_toArray,List.set_cons_zero,List.set_cons_succ,i64_w,i32_w];rfl)
        refine one_ (i:=10) (N:=some 22) #[true,true,true,true,true,true,true,true,true,true,true,false] rfl rfl (one_of HT_.out (by kernel_rfl)) (by decide) (fun K hK=>?_)
        refine goes_ Try.func27 (by kernel_rfl) rfl #[.agg #[.slice A0_0 l0_0.length c0_0,.int .i64 a0_1,.int .i64 a0_2,.int .i64 a0_3],.slice A507_0 (rd_L3 l1 (ji5)).length c507_0,.slice A508_0 (rd_L3 l1 x5_1).length c508_0] (by rfl) rfl rfl (by (try simp only [List.map_toArray,List.map_cons,List.map_nil]);first|done|(simp only [hji5];rfl)|rfl|(simp only [List.length_drop,List.length_take];rfl)) ?_
        with_reducible refine (thresherref04_Compare.calls k1 _ _ l0_0 a0_1 a0_2 a0_3 _ _ (rd_L3 l1 (ji5)) _ _ (rd_L3 l1 x5_1) t509 _ ?side1 ?side2 ?side3 ?side4 ?side5 ?side6 A9.out).mono ?_
        (case side1=>repeat (first|exact (Kd.C_below HR0_0.out HB.out)|(with_reducible refine Kd.C_alloc ?_ _)|(with_reducible refine Kd.C_drewN ?_ _)|(with_reducible refine Kd.C_drew ?_)))
        (case side2=>exact HC0_0.out)
        (case side3=>repeat (first|exact (Kd.C_below HR507_0.out HB.out)|(with_reducible refine Kd.C_alloc ?_ _)|(with_reducible refine Kd.C_drewN ?_ _)|(with_reducible refine Kd.C_drew ?_)))
        (case side4=>exact HC507_0.out)
        (case side5=>repeat (first|exact (Kd.C_below HR508_0.out HB.out)|(with_reducible refine Kd.C_alloc ?_ _)|(with_reducible refine Kd.C_drewN ?_ _)|(with_reducible refine Kd.C_drew ?_)))
        (case side6=>exact HC508_0.out)
        rintro e w12 ⟨rfl,hb⟩
        refine ⟨_,rfl,?_⟩
        have n0_:=Aside0.mk (blk_below (blk_up BK506.out) hb)
        have n1_:=Aside0.mk (below_step (below_go HB.out) hb)
        clear BK506
        clear HB
        have BK506:=n0_
        have HB:=n1_
        clear n0_ n1_
        (try clear hb)
        (try clear hb2)
        (try clear hk)
        (try clear hi)
        refine hK.out _ _ ⟨(blk_cell BK506.out 0).trans rfl,(blk_cell BK506.out 1).trans rfl,(blk_cell BK506.out 2).trans rfl,(blk_cell BK506.out 3).trans rfl,((HB.out.cell (World.block_lt_of_cell? w _ hw507_0)).trans hw507_0),((HB.out.cell (World.block_lt_of_cell? w _ hw508_0)).trans hw508_0)⟩ (fun hHeld=>?_)
        clear hK K
        refine norm_ (a':=?_) ?_ ?_
        rotate_left
        ·show Act.put _ (some 22) _=_
         simp only [Act.put,List.setIfInBounds_toArray,List.set_cons_zero,List.set_cons_succ,i64_w,i32_w]
         rfl
        refine pure_ (i:=11) (N:=some 23) (v:=?_) (a':=?_) #[true,true,true,true,true,true,true,true,true,true,true,true] rfl rfl (any_of HT_.out (by kernel_rfl)) (fun _ _ _ h=>h) (Or.inl ⟨by rfl,?_⟩) ?_ ?_
        rotate_left;(intro w';go_simp;with_reducible rfl);rotate_left;(simp only [Act.put,List.setIfInBounds_toArray,List.set_cons_zero,List.set_cons_succ,i64_w,i32_w];rfl)
        refine done_ (done_of HT_.out (by kernel_rfl)) ?_
        (try clear hHeld)
        try go_wp2
        go_ret
        exact ⟨by first|rfl|(simp [errW_none,errW_some] <;> rfl)|(simp only [← hji5];first|rfl|(simp [errW_none,errW_some] <;> rfl))|(simp [*,errW_none,errW_some] <;> rfl),by repeat (first|(with_reducible first|exact HB.out|apply below_alloc|apply pw_below_drewN|apply below_drew1|refine below_set ?_ GE506.out)|exact HB.out)⟩
       ·rw [if_neg c10] at H
        have c10b0 : decide (0 < t509)=false:=decide_eq_false c10
        clear c10
        have H':=Aside0.mk H
        clear H
        try go_wp2
        have n0_:=Aside0.mk (blk_drew BK506.out)
        have n1_:=Aside0.mk (below_drew1 HB.out)
        clear BK506
        clear HB
        have BK506:=n0_
        have HB:=n1_
        clear n0_ n1_
        have p507 : 0≤((ji5) : Int):=of_decide_eq_true (by first|(with_reducible assumption)|assumption)
        have q507 : (ji5) < (l1.length : Int):=of_decide_eq_true (by first|(with_reducible assumption)|assumption)
        obtain ⟨ad507,A507_0,c507_0,e507,hx507_0,hl507_0,hi507_0⟩:=at_L3 HR1.out (ji5) p507 q507
        have hw507_0:=hx507_0
        cases e507
        replace hx507_0:=(HB.out.cell (World.block_lt_of_cell? w _ hx507_0)).trans hx507_0
        have HR507_0:=Aside0.mk hi507_0
        have HC507_0:=Aside0.mk hl507_0
        clear hi507_0 hl507_0
        replace p507:=eq_true p507
        replace q507:=eq_true q507
        have p508 : 0≤(x5_1 : Int):=of_decide_eq_true (by first|(with_reducible assumption)|assumption)
        have q508 : x5_1 < (l1.length : Int):=of_decide_eq_true (by first|(with_reducible assumption)|assumption)
        obtain ⟨ad508,A508_0,c508_0,e508,hx508_0,hl508_0,hi508_0⟩:=at_L3 HR1.out x5_1 p508 q508
        have hw508_0:=hx508_0
        obtain rfl : ad507=ad508:=(by injection e508)
        replace hx508_0:=(HB.out.cell (World.block_lt_of_cell? w _ hx508_0)).trans hx508_0
        have HR508_0:=Aside0.mk hi508_0
        have HC508_0:=Aside0.mk hl508_0
        clear hi508_0 hl508_0
        replace p508:=eq_true p508
        replace q508:=eq_true q508
        refine start_ (n:=12) (S:=fun w'=>w'.cell? ⟨gb506,0,none⟩=some (.slice A0_0 l0_0.length c0_0)∧w'.cell? ⟨gb506,1,none⟩=some (.int .i64 a0_1)∧w'.cell? ⟨gb506,2,none⟩=some (.int .i64 a0_2)∧w'.cell? ⟨gb506,3,none⟩=some (.int .i64 a0_3)∧w'.cell? (ad507.add ((ji5)).toNat)=some (.slice A507_0 (rd_L3 l1 (ji5)).length c507_0)∧w'.cell? (ad507.add (x5_1).toNat)=some (.slice A508_0 (rd_L3 l1 x5_1).length c508_0)) (ds:=[]) #[false,false,false,false,false,false,false,false,false,false,false,false] (by kernel_rfl) rfl rfl ⟨(blk_cell BK506.out 0).trans rfl,(blk_cell BK506.out 1).trans rfl,(blk_cell BK506.out 2).trans rfl,(blk_cell BK506.out 3).trans rfl,((HB.out.cell (World.block_lt_of_cell? w _ hw507_0)).trans hw507_0),((HB.out.cell (World.block_lt_of_cell? w _ hw508_0)).trans hw508_0)⟩ (fun hHeld=>?_);refine with_tabW thresherref09_Sorted.tab4 thresherref09_Sorted.bits4 (fun HT_ HW_=>?_)
        generalize wr.drew=w13 at BK506 HB HR507_0 HR508_0 hx507_0 hx508_0 hHeld ⊢
        refine pure_ (i:=1) (N:=some 13) (v:=?_) (a':=?_) #[false,true,false,false,false,false,false,false,false,false,false,false] rfl rfl (any_of HT_.out (by kernel_rfl)) (fun _ _ _ h=>h) (Or.inl ⟨by rfl,?_⟩) ?_ ?_
        rotate_left;(intro w';go_simp;with_reducible rfl);rotate_left;(simp only [Act.put,List.setIfInBounds_toArray,List.set_cons_zero,List.set_cons_succ,i64_w,i32_w];rfl)
        refine pure_ (i:=2) (N:=some 14) (v:=?_) (a':=?_) #[false,true,true,false,false,false,false,false,false,false,false,false] rfl rfl (any_of HT_.out (by kernel_rfl)) (fun _ _ _ h=>h) (Or.inl ⟨by rfl,?_⟩) ?_ ?_
        rotate_left;(intro w';go_simp;with_reducible rfl);rotate_left;(simp only [Act.put,List.setIfInBounds_toArray,List.set_cons_zero,List.set_cons_succ,i64_w,i32_w];rfl)
        refine pure_ (i:=3) (N:=some 15) (v:=?_) (a':=?_) #[false,true,true,true,false,false,false,false,false,false,false,false] rfl rfl (any_of HT_.out (by kernel_rfl)) (fun _ _ _ h=>h) (Or.inl ⟨by rfl,?_⟩) ?_ ?_
        rotate_left;(intro w';go_simp;with_reducible rfl);rotate_left;(simp only [Act.put,List.setIfInBounds_toArray,List.set_cons_zero,List.set_cons_succ,i64_w,i32_w];rfl)
        refine pure_ (i:=4) (N:=some 16) (v:=?_) (a':=?_) #[false,true,true,true,true,false,false,false,false,false,false,false] rfl rfl (any_of HT_.out (by kernel_rfl)) (fun _ _ _ h=>h) (Or.inl ⟨by rfl,?_⟩) ?_ ?_
        rotate_left;(intro w';go_simp;with_reducible rfl);rotate_left;(simp only [Act.put,List.setIfInBounds_toArray,List.set_cons_zero,List.set_cons_succ,i64_w,i32_w];rfl)
        refine pure_ (i:=6) (N:=some 18) (v:=?_) (a':=?_) #[false,true,true,true,true,false,true,false,false,false,false,false] rfl rfl (any_of HT_.out (by kernel_rfl)) (fun _ _ _ h=>h) (Or.inl ⟨by rfl,?_⟩) ?_ ?_
        rotate_left;(intro w';go_simp;with_reducible rfl);rotate_left;(simp only [Act.put,List.setIfInBounds_toArray,List.set_cons_zero,List.set_cons_succ,i64_w,i32_w];rfl)
        refine pure_ (i:=7) (N:=some 19) (v:=?_) (a':=?_) #[false,true,true,true,true,false,true,true,false,false,false,false] rfl rfl (any_of HT_.out (by kernel_rfl)) (fun _ _ _ h=>h) (Or.inl ⟨by rfl,?_⟩) ?_ ?_
        rotate_left;(intro w';go_simp;with_reducible rfl);rotate_left;(simp only [Act.put,List.setIfInBounds_toArray,List.set_cons_zero,List.set_cons_succ,i64_w,i32_w];rfl)
        refine pure_ (i:=8) (N:=some 20) (v:=?_) (a':=?_) #[false,true,true,true,true,false,true,true,true,false,false,false] rfl rfl (any_of HT_.out (by kernel_rfl)) (fun _ _ _ h=>h) (Or.inl ⟨by rfl,?_⟩) ?_ ?_
        rotate_left;(intro w';go_simp;with_reducible rfl);rotate_left;(simp only [Act.put,List.setIfInBounds_toArray,List.set_cons_zero,List.set_cons_succ,i64_w,i32_w];rfl)
        refine take_ (i:=0) (N:=some 12) (v:=?_) (a':=?_) #[true,true,true,true,true,false,true,true,true,false,false,false] rfl rfl (take_ofW HT_.out HW_.out (by kernel_rfl)) (fun _ _ _ h=>h) (Or.inl ⟨by rfl,?_⟩) hHeld ?_ ?_
        rotate_left;(rintro w' ⟨s0,s1,s2,s3,s4,s5⟩;go_simp;with_reducible rfl);rotate_left;(simp only [Act.put,List.setIfInBounds_toArray,List.set_cons_zero,List.set_cons_succ,i64_w,i32_w];rfl)
        refine take_ (i:=5) (N:=some 17) (v:=?_) (a':=?_) #[true,true,true,true,true,true,true,true,true,false,false,false] rfl rfl (take_ofW HT_.out HW_.out (by kernel_rfl)) (fun _ _ _ h=>h) (Or.inl ⟨by rfl,?_⟩) hHeld ?_ ?_
        rotate_left;(rintro w' ⟨s0,s1,s2,s3,s4,s5⟩;go_simp;with_reducible rfl);rotate_left;(simp only [Act.put,List.setIfInBounds_toArray,List.set_cons_zero,List.set_cons_succ,i64_w,i32_w];rfl)
        refine take_ (i:=9) (N:=some 21) (v:=?_) (a':=?_) #[true,true,true,true,true,true,true,true,true,true,false,false] rfl rfl (take_ofW HT_.out HW_.out (by kernel_rfl)) (fun _ _ _ h=>h) (Or.inl ⟨by rfl,?_⟩) hHeld ?_ ?_
        rotate_left;(rintro w' ⟨s0,s1,s2,s3,s4,s5⟩;go_simp;with_reducible rfl);rotate_left;(simp only [Act.put,List.setIfInBounds_toArray,List.set_cons_zero,List.set_cons_succ,i64_w,i32_w];rfl)
        refine one_ (i:=10) (N:=some 22) #[true,true,true,true,true,true,true,true,true,true,true,false] rfl rfl (one_of HT_.out (by kernel_rfl)) (by decide) (fun K hK=>?_)
        refine goes_ Try.func27 (by kernel_rfl) rfl #[.agg #[.slice A0_0 l0_0.length c0_0,.int .i64 a0_1,.int .i64 a0_2,.int .i64 a0_3],.slice A507_0 (rd_L3 l1 (ji5)).length c507_0,.slice A508_0 (rd_L3 l1 x5_1).length c508_0] (by rfl) rfl rfl (by (try simp only [List.map_toArray,List.map_cons,List.map_nil]);first|done|(simp only [hji5];rfl)|rfl|(simp only [List.length_drop,List.length_take];rfl)) ?_
        with_reducible refine (thresherref04_Compare.calls k1 _ _ l0_0 a0_1 a0_2 a0_3 _ _ (rd_L3 l1 (ji5)) _ _ (rd_L3 l1 x5_1) t509 _ ?side1 ?side2 ?side3 ?side4 ?side5 ?side6 A9.out).mono ?_
        (case side1=>repeat (first|exact (Kd.C_below HR0_0.out HB.out)|(with_reducible refine Kd.C_alloc ?_ _)|(with_reducible refine Kd.C_drewN ?_ _)|(with_reducible refine Kd.C_drew ?_)))
        (case side2=>exact HC0_0.out)
        (case side3=>repeat (first|exact (Kd.C_below HR507_0.out HB.out)|(with_reducible refine Kd.C_alloc ?_ _)|(with_reducible refine Kd.C_drewN ?_ _)|(with_reducible refine Kd.C_drew ?_)))
        (case side4=>exact HC507_0.out)
        (case side5=>repeat (first|exact (Kd.C_below HR508_0.out HB.out)|(with_reducible refine Kd.C_alloc ?_ _)|(with_reducible refine Kd.C_drewN ?_ _)|(with_reducible refine Kd.C_drew ?_)))
        (case side6=>exact HC508_0.out)
        rintro e w14 ⟨rfl,hb⟩
        refine ⟨_,rfl,?_⟩
        have n0_:=Aside0.mk (blk_below (blk_up BK506.out) hb)
        have n1_:=Aside0.mk (below_step (below_go HB.out) hb)
        clear BK506
        clear HB
        have BK506:=n0_
        have HB:=n1_
        clear n0_ n1_
        (try clear hb)
        (try clear hb2)
        (try clear hk)
        (try clear hi)
        refine hK.out _ _ ⟨(blk_cell BK506.out 0).trans rfl,(blk_cell BK506.out 1).trans rfl,(blk_cell BK506.out 2).trans rfl,(blk_cell BK506.out 3).trans rfl,((HB.out.cell (World.block_lt_of_cell? w _ hw507_0)).trans hw507_0),((HB.out.cell (World.block_lt_of_cell? w _ hw508_0)).trans hw508_0)⟩ (fun hHeld=>?_)
        clear hK K
        refine norm_ (a':=?_) ?_ ?_
        rotate_left
        ·show Act.put _ (some 22) _=_
         simp only [Act.put,List.setIfInBounds_toArray,List.set_cons_zero,List.set_cons_succ,i64_w,i32_w]
         rfl
        refine pure_ (i:=11) (N:=some 23) (v:=?_) (a':=?_) #[true,true,true,true,true,true,true,true,true,true,true,true] rfl rfl (any_of HT_.out (by kernel_rfl)) (fun _ _ _ h=>h) (Or.inl ⟨by rfl,?_⟩) ?_ ?_
        rotate_left;(intro w';go_simp;with_reducible rfl);rotate_left;(simp only [Act.put,List.setIfInBounds_toArray,List.set_cons_zero,List.set_cons_succ,i64_w,i32_w];rfl)
        refine done_ (done_of HT_.out (by kernel_rfl)) ?_
        (try clear hHeld)
        try go_wp2
        go_roundg k1
        case measure=>have:=HK1.out;omega
        case rel=>exact ⟨(wrap64 (x5_1 + 1)),(by first|rfl|(simp;done)|(simp [*];done)),(by first|exact H'|(subst_vars;exact H')),⟨by have:=HK1.out;omega⟩,⟨by (with_reducible repeat (first|refine blk_drewN ?_ _|refine blk_drew ?_|refine blk_alloc ?_ _));exact BK506.out⟩,⟨by repeat (first|(with_reducible first|exact HB.out|apply below_alloc|apply pw_below_drewN|apply below_drew1|refine below_set ?_ GE506.out)|exact HB.out)⟩⟩
      ·rw [if_neg c8] at H
       exact absurd H (by simp)
     ·rw [if_neg c7] at H
      exact absurd H (by simp)
    ·rw [if_neg c6] at H
     exact absurd H (by simp)
   ·rw [if_neg c4] at H
    have c4b0 : decide (x5_1 < (l1.length : Int))=false:=decide_eq_false c4
    clear c4
    obtain rfl:=Option.some.inj H
    go_wp2
    go_ret
    exact ⟨by first|rfl|(simp [errW_none,errW_some] <;> rfl)|(simp [*,errW_none,errW_some] <;> rfl),by repeat (first|(with_reducible first|exact HB.out|apply below_alloc|apply pw_below_drewN|apply below_drew1|refine below_set ?_ GE506.out)|exact HB.out)⟩
end Go.Proofs.Ytfiandejapgkoaa.P

