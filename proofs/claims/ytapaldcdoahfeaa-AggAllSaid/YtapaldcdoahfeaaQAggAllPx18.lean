/- Texts of AggAll. Merged: Px18. -/
import Derived.Test.YtapaldcdoahfeaaQAggAllPx0
import Derived.Test.YtapaldcdoahfeaaQAggAllPx17
-- Written by wip/tools/myprint.py over the kit's print (a program's print; Lean checks it).
namespace Go.Proofs.Ytapaldcdoahfeaa.P
open Go.RowKit Go.Proofs.YtapaldcdoahfeaaW.PrintWords Go.Proofs.YtapaldcdoahfeaaW.PrintLast Go.Proofs.YtapaldcdoahfeaaW.PrintMore
attribute [local go_sem] max2_int min2_int max_two min_two max_three min_three max_four min_four   -- for this text's walks alone
set_option linter.unusedVariables false
set_option linter.unusedSimpArgs false

/-! ### thresherref20_Rows: function 18 -/
def thresherref20_Rows.l0 : Nat→List (S33)→List (List (S40))→List (S42)→Int→List Int→Int→Int→Int→Option ((List (S42)))
 | 0,_,_,_,_,_,_,_,_=>none
 | k + 1,x1,x2,x7,x8,x401000,x401001,x401002,x401003=>if x8 < (x1.length : Int) then (if 0≤x8 then ((thresherref20_one.f k x401000 x401001 x401002 x401003 ((rd_T33 x1 x8).f0) ((rd_T33 x1 x8).f1) x2).bind fun bt405=>(if x7.length < 4398046511104 then (thresherref20_Rows.l0 k x1 x2 (x7 ++ [(⟨bt405.1,(⟨bt405.2.1,bt405.2.2⟩ : S40)⟩ : S42)]) (wrap64 (x8 + 1)) x401000 x401001 x401002 x401003) else (none))) else (none)) else (some x7)
def thresherref20_Rows.f (k : Nat) (l0_0 : List Int) (a0_1 : Int) (a0_2 : Int) (a0_3 : Int) (l1 : List (S33)) (l2 : List (List (S40))) : Option ((List (S42))):=thresherref20_Rows.l0 k l1 l2 (([] : List (S42))) 0 l0_0 a0_1 a0_2 a0_3
theorem thresherref20_Rows.mono_l : ∀ k,(∀ y0 y1 y2 y3 y4 y5 y6 y7,LeO (thresherref20_Rows.l0 k y0 y1 y2 y3 y4 y5 y6 y7) (thresherref20_Rows.l0 (k + 1) y0 y1 y2 y3 y4 y5 y6 y7))
 | 0=>fun _ _ _ _ _ _ _ _ r h=>by simp [thresherref20_Rows.l0] at h
 | k + 1=>by
  have ih0:=thresherref20_Rows.mono_l k
  ·intro y0 y1 y2 y3 y4 y5 y6 y7
   unfold thresherref20_Rows.l0
   repeat' first
   | (with_reducible exact ih0 _ _ _ _ _ _ _ _)
   | (with_reducible exact thresherref20_one.mono _ _ _ _ _ _ _ _)
   | (with_reducible exact LeO.refl _)
   | (with_reducible exact LeO.none _)
   | (with_reducible refine LeO.ite ?_ ?_)
   | (with_reducible refine LeO.bind ?_ (fun _=>?_))
   | exact ih0 _ _ _ _ _ _ _ _
   | exact thresherref20_one.mono _ _ _ _ _ _ _ _
   | exact LeO.none _
   | refine LeO.ite ?_ ?_
   | refine LeO.bind ?_ (fun _=>?_)
theorem thresherref20_Rows.mono : ∀ a0 a1 a2 a3 a4 a5 k,LeO (thresherref20_Rows.f k a0 a1 a2 a3 a4 a5) (thresherref20_Rows.f (k + 1) a0 a1 a2 a3 a4 a5):=by
 intro a0 a1 a2 a3 a4 a5 k
 have ih0:=thresherref20_Rows.mono_l k
 unfold thresherref20_Rows.f
 repeat' first
   | (with_reducible exact ih0 _ _ _ _ _ _ _ _)
   | (with_reducible exact thresherref20_one.mono _ _ _ _ _ _ _ _)
   | (with_reducible exact LeO.refl _)
   | (with_reducible exact LeO.none _)
   | (with_reducible refine LeO.ite ?_ ?_)
   | (with_reducible refine LeO.bind ?_ (fun _=>?_))
   | exact ih0 _ _ _ _ _ _ _ _
   | exact thresherref20_one.mono _ _ _ _ _ _ _ _
   | exact LeO.none _
   | refine LeO.ite ?_ ?_
   | refine LeO.bind ?_ (fun _=>?_)
def thresherref20_Rows.T5 : Bool × List (List Nat × List Nat):=(true,[([],[]),([],[]),([],[]),([],[]),([2,3],[2,3]),([4],[4]),([],[]),([1,5,6],[1,5,6]),([7],[7]),([0,8,7],[0,8]),([9,9,0,1,2,3,4,5,6,7,8,9],[0,9])])
def thresherref20_Rows.B5 : List Nat:=[0,0,0,0,12,28,0,126,254,511,1023]
theorem thresherref20_Rows.tab5 : rtab .any (opsOf Try.f18 5)=thresherref20_Rows.T5:=by kernel_rfl
theorem thresherref20_Rows.bits5 : waitsOk thresherref20_Rows.T5.2 thresherref20_Rows.B5=true:=by kernel_rfl
set_option maxHeartbeats 8000000 in
set_option maxRecDepth 100000 in
theorem thresherref20_Rows.calls (k : Nat) (A0_0 : Option Addr) (c0_0 : Nat) (l0_0 : List Int) (a0_1 : Int) (a0_2 : Int) (a0_3 : Int) (A1 : Option Addr) (c1 : Nat) (l1 : List (S33)) (A2 : Option Addr) (c2 : Nat) (l2 : List (List (S40))) (r : List (S42)) (w : World) (hr0_0 : Kd.C (Kd.int .i64) w A0_0 l0_0.length l0_0) (hc0_0 : l0_0.length≤c0_0) (hr1 : Kd.C k33 w A1 l1.length l1) (hc1 : l1.length≤c1) (hr2 : Kd.C (Kd.slice 40 k40) w A2 l2.length l2) (hc2 : l2.length≤c2) (h : thresherref20_Rows.f k l0_0 a0_1 a0_2 a0_3 l1 l2=some r) :
  Calls Try.prog 18 #[.agg #[.slice A0_0 l0_0.length c0_0,.int .i64 a0_1,.int .i64 a0_2,.int .i64 a0_3],.slice A1 l1.length c1,.slice A2 l2.length c2] w fun e w'=>∃ v0_ : Value,e=.returned (v0_)∧Kd.R k42 42 w' w.heap.size (fun _=>True) v0_ r∧Below w.heap.size w w':=by
 have hu29:=Try.underlying29
 have hu33:=Try.underlying33
 have HR0_0:=Aside0.mk hr0_0
 have HC0_0:=Aside0.mk hc0_0
 clear hr0_0 hc0_0
 have HR1:=Aside0.mk hr1
 have HC1:=Aside0.mk hc1
 clear hr1 hc1
 have HR2:=Aside0.mk hr2
 have HC2:=Aside0.mk hc2
 clear hr2 hc2
 have HB:=Aside0.mk (Below.refl w.heap.size w)
 have H : (thresherref20_Rows.l0 k l1 l2 (([] : List (S42))) 0 l0_0 a0_1 a0_2 a0_3)=some r:=h
 clear h
 obtain ⟨y401,hy401⟩ : ∃ y_ : List (S42),y_=(([] : List (S42))):=⟨_,rfl⟩
 replace H : (thresherref20_Rows.l0 k l1 l2 y401 0 l0_0 a0_1 a0_2 a0_3)=some r:=by first|(rw [hy401];with_reducible exact H)|(have H2_:=(Option.bind_some _ _).symm.trans H;rw [hy401];with_reducible exact H2_)|(have H2_:=(Option.bind_some _ _).symm.trans H;with_reducible exact H2_)|with_reducible exact H|(rw [hy401];exact H)|exact H
 have Ny401:=Aside0.mk hy401
 clear hy401
 have H':=Aside0.mk H
 clear H
 go_enter Try.func18,Try.ntmps18
 go_wp2_with (first|((with_reducible refine gate_dst (N:=3) rfl ?_);refine box_event ?hg (N:=3) ?hd (cs:=#[.slice A0_0 l0_0.length c0_0,.int .i64 a0_1,.int .i64 a0_2,.int .i64 a0_3]) (t:=29) ?hr ?_;(case hd=>rfl);(case hg=>rfl);(case hr=>first|(go_simp;done)|(go_simp;rfl));intro gb400 hg w4 hbox hb;have n0_:=Aside0.mk (below_step (by repeat (first|(with_reducible first|exact HB.out|apply below_alloc|apply pw_below_drewN|apply below_drew1)|exact HB.out)) hb);have n1_:=Aside0.mk (hbox);have n2_:=Aside0.mk ((by rw [hg];exact (below_size (by repeat (first|(with_reducible first|exact HB.out|apply below_alloc|apply pw_below_drewN|apply below_drew1)|exact HB.out))) : w.heap.size≤gb400));have n3_:=Aside0.mk ((by rw [hg];exact (below_size (by repeat (first|(with_reducible first|exact HB.out|apply below_alloc|apply pw_below_drewN|apply below_drew1)|exact HB.out))) : w.heap.size≤gb400));clear HB;have HB:=n0_;have BK400:=n1_;have GW400:=n2_;have GE400:=n3_;clear n0_ n1_ n2_ n3_;clear hb hbox hg)|((with_reducible refine gate_dst (N:=9) rfl ?_);refine Kd.R_lit k42 _ 42 ?hg (N:=9) ?hd (xs:=([] : List (S42))) (inner:=[]) (ok:=fun _=>True) (okp:=fun _=>True) ?hr ?hp (fun _ hk=>hk) trivial (Below.refl _ _) (Nat.le_refl _) (by simp) ?_;(case hd=>rfl);(case hg=>rfl);(case hr=>first|(go_simp;done)|(go_simp;rfl));(case hp=>exact (Reps.none _ _));intro v402 w5 ho6 hb hg_ hnew_;clear hg_ hnew_;(first|rw [← Ny401.out] at ho6|(simp only [Int.reduceToNat] at ho6;rw [← Ny401.out] at ho6));have n0_:=Aside0.mk (Kd.R_lower ho6 (below_size (by repeat (first|(with_reducible first|exact HB.out|apply below_alloc|apply pw_below_drewN|apply below_drew1|refine below_set ?_ GE400.out)|exact HB.out))));have n1_:=Aside0.mk (blk_below (g:=gb400) (o:=.cells #[.slice A0_0 l0_0.length c0_0,.int .i64 a0_1,.int .i64 a0_2,.int .i64 a0_3] 29 (0,0)) (by (with_reducible repeat (first|refine blk_drewN ?_ _|refine blk_drew ?_|refine blk_alloc ?_ _));exact BK400.out) hb);have n2_:=Aside0.mk (below_step (by repeat (first|(with_reducible first|exact HB.out|apply below_alloc|apply pw_below_drewN|apply below_drew1|refine below_set ?_ GE400.out)|exact HB.out)) hb);clear BK400;clear HB;have HO403:=n0_;have BK400:=n1_;have HB:=n2_;clear n0_ n1_ n2_;clear hb ho6))
 go_loopg [7,8] k (fun kq v7 v8 w'=>∃ (x7_1 : List (S42)) (x8_1 : Int),v8=.int .i64 x8_1∧Aside0 (thresherref20_Rows.l0 kq l1 l2 x7_1 x8_1 l0_0 a0_1 a0_2 a0_3=some r)∧Aside0 (kq≤k)∧Aside0 (Kd.R k42 42 w' w.heap.size (fun _=>True) v7 x7_1)∧Aside0 (w'.heap[gb400]?=some (.cells #[(.slice A0_0 l0_0.length c0_0),.int .i64 a0_1,.int .i64 a0_2,.int .i64 a0_3] 29 (0,0)))∧Aside0 (Below w.heap.size w w'))
 case atStart=>exact ⟨(y401),(0),(by first|rfl|(simp;done)|(simp [*];done)),H',⟨Nat.le_refl _⟩,⟨by (with_reducible repeat (first|apply Kd.R_alloc|apply Kd.R_drewN|apply Kd.R_drew));exact HO403.out⟩,⟨by (with_reducible repeat (first|refine blk_drewN ?_ _|refine blk_drew ?_|refine blk_alloc ?_ _));exact BK400.out⟩,⟨by repeat (first|(with_reducible first|exact HB.out|apply below_alloc|apply pw_below_drewN|apply below_drew1|refine below_set ?_ GE400.out)|exact HB.out)⟩⟩
 case round =>
  clear H'
  try clear c1
  try clear c2
  try clear p2
  obtain ⟨x7_1,x8_1,rfl,HA,HK1,HO_7,BK400,HB⟩:=hrel
  cases gk with
  | zero=>exact absurd HA.out (by simp [thresherref20_Rows.l0])
  | succ k1 =>
   have H:=HA.out
   clear HA
   simp only [thresherref20_Rows.l0] at H
   by_cases c7 : x8_1 < (l1.length : Int)
   ·rw [if_pos c7] at H
    have c7b0 : decide (x8_1 < (l1.length : Int))=true:=decide_eq_true c7
    clear c7
    by_cases c8 : 0≤x8_1
    ·rw [if_pos c8] at H
     have c8b0 : decide (0≤x8_1)=true:=decide_eq_true c8
     clear c8
     replace H:=Option.bind_eq_some_iff.mp H
     obtain ⟨⟨t405,t406,t407⟩,A90,H⟩:=H
     replace H : (if x7_1.length < 4398046511104 then (thresherref20_Rows.l0 k1 l1 l2 (x7_1 ++ [(⟨t405,(⟨t406,t407⟩ : S40)⟩ : S42)]) (wrap64 (x8_1 + 1)) l0_0 a0_1 a0_2 a0_3) else (none))=some r:=H
     have A9:=Aside0.mk A90
     clear A90
     by_cases c10 : x7_1.length < 4398046511104
     ·rw [if_pos c10] at H
      have LMc10:=Aside0.mk c10
      clear c10
      obtain ⟨y408,hy408⟩ : ∃ y_ : List (S42),y_=(x7_1 ++ [(⟨t405,(⟨t406,t407⟩ : S40)⟩ : S42)]):=⟨_,rfl⟩
      replace H : (thresherref20_Rows.l0 k1 l1 l2 y408 (wrap64 (x8_1 + 1)) l0_0 a0_1 a0_2 a0_3)=some r:=by first|(rw [hy408];with_reducible exact H)|(have H2_:=(Option.bind_some _ _).symm.trans H;rw [hy408];with_reducible exact H2_)|(have H2_:=(Option.bind_some _ _).symm.trans H;with_reducible exact H2_)|with_reducible exact H|(rw [hy408];exact H)|exact H
      have Ny408:=Aside0.mk hy408
      clear hy408
      have H':=Aside0.mk H
      clear H
      try go_wp2
      have n0_:=Aside0.mk (Kd.R_drew HO_7.out)
      have n1_:=Aside0.mk (blk_drew BK400.out)
      have n2_:=Aside0.mk (below_drew1 HB.out)
      clear HO_7
      clear BK400
      clear HB
      have HO_7:=n0_
      have BK400:=n1_
      have HB:=n2_
      clear n0_ n1_ n2_
      have p404 : 0≤(x8_1 : Int):=of_decide_eq_true (by first|(with_reducible assumption)|assumption)
      have q404 : x8_1 < (l1.length : Int):=of_decide_eq_true (by first|(with_reducible assumption)|assumption)
      obtain ⟨ad404,e404,hx404_0,hx404_1⟩:=at_T33 HR1.out x8_1 p404 q404
      have hw404_1:=hx404_1
      have hw404_0:=hx404_0
      cases e404
      replace hx404_0:=(HB.out.cell (World.block_lt_of_cell? w _ hx404_0)).trans hx404_0
      replace hx404_1:=(HB.out.cell (World.block_lt_of_cell? w _ hx404_1)).trans hx404_1
      replace p404:=eq_true p404
      replace q404:=eq_true q404
      refine start_ (n:=11) (S:=fun w'=>w'.cell? ⟨gb400,0,none⟩=some (.slice A0_0 l0_0.length c0_0)∧w'.cell? ⟨gb400,1,none⟩=some (.int .i64 a0_1)∧w'.cell? ⟨gb400,2,none⟩=some (.int .i64 a0_2)∧w'.cell? ⟨gb400,3,none⟩=some (.int .i64 a0_3)∧w'.cell? (ad404.add ((x8_1).toNat * 2))=some (.int .i64 ((rd_T33 l1 x8_1).f0))∧w'.cell? ⟨(ad404.add ((x8_1).toNat * 2)).block,(ad404.add ((x8_1).toNat * 2)).off + 1,none⟩=some (.int .i64 ((rd_T33 l1 x8_1).f1))) (ds:=[]) #[false,false,false,false,false,false,false,false,false,false,false] (by kernel_rfl) rfl rfl ⟨(blk_cell BK400.out 0).trans rfl,(blk_cell BK400.out 1).trans rfl,(blk_cell BK400.out 2).trans rfl,(blk_cell BK400.out 3).trans rfl,((HB.out.cell (World.block_lt_of_cell? w _ hw404_0)).trans hw404_0),((HB.out.cell (World.block_lt_of_cell? w _ hw404_1)).trans hw404_1)⟩ (fun hHeld=>?_);refine with_tabW thresherref20_Rows.tab5 thresherref20_Rows.bits5 (fun HT_ HW_=>?_)
      generalize wr.drew=w11 at HO_7 BK400 HB hx404_0 hx404_1 hHeld ⊢
      refine pure_ (i:=0) (N:=some 16) (v:=?_) (a':=?_) #[true,false,false,false,false,false,false,false,false,false,false] rfl rfl (any_of HT_.out (by kernel_rfl)) (fun _ _ _ h=>h) (Or.inl ⟨by rfl,?_⟩) ?_ ?_
      rotate_left;(intro w';go_simp;with_reducible rfl);rotate_left;(simp only [Act.put,List.setIfInBounds_toArray,List.set_cons_zero,List.set_cons_succ,i64_w,i32_w];rfl)
      refine pure_ (i:=2) (N:=some 18) (v:=?_) (a':=?_) #[true,false,true,false,false,false,false,false,false,false,false] rfl rfl (any_of HT_.out (by kernel_rfl)) (fun _ _ _ h=>h) (Or.inl ⟨by rfl,?_⟩) ?_ ?_
      rotate_left;(intro w';go_simp;with_reducible rfl);rotate_left;(simp only [Act.put,List.setIfInBounds_toArray,List.set_cons_zero,List.set_cons_succ,i64_w,i32_w];rfl)
      refine pure_ (i:=3) (N:=some 19) (v:=?_) (a':=?_) #[true,false,true,true,false,false,false,false,false,false,false] rfl rfl (any_of HT_.out (by kernel_rfl)) (fun _ _ _ h=>h) (Or.inl ⟨by rfl,?_⟩) ?_ ?_
      rotate_left;(intro w';go_simp;with_reducible rfl);rotate_left;(simp only [Act.put,List.setIfInBounds_toArray,List.set_cons_zero,List.set_cons_succ,i64_w,i32_w];rfl)
      refine pure_ (i:=4) (N:=some 20) (v:=?_) (a':=?_) #[true,false,true,true,true,false,false,false,false,false,false] rfl rfl (any_of HT_.out (by kernel_rfl)) (fun _ _ _ h=>h) (Or.inl ⟨by rfl,?_⟩) ?_ ?_
      rotate_left;(intro w';go_simp;with_reducible rfl);rotate_left;(simp only [Act.put,List.setIfInBounds_toArray,List.set_cons_zero,List.set_cons_succ,i64_w,i32_w];rfl)
      refine pure_ (i:=6) (N:=some 22) (v:=?_) (a':=?_) #[true,false,true,true,true,false,true,false,false,false,false] rfl rfl (any_of HT_.out (by kernel_rfl)) (fun _ _ _ h=>h) (Or.inl ⟨by rfl,?_⟩) ?_ ?_
      rotate_left;(intro w';go_simp;with_reducible rfl);rotate_left;(simp only [Act.put,List.setIfInBounds_toArray,List.set_cons_zero,List.set_cons_succ,i64_w,i32_w];rfl)
      refine take_ (i:=1) (N:=some 17) (v:=?_) (a':=?_) #[true,true,true,true,true,false,true,false,false,false,false] rfl rfl (take_ofW HT_.out HW_.out (by kernel_rfl)) (fun _ _ _ h=>h) (Or.inl ⟨by rfl,?_⟩) hHeld ?_ ?_
      rotate_left;(rintro w' ⟨s0,s1,s2,s3,s4,s5⟩;go_simp;with_reducible rfl);rotate_left;(simp only [Act.put,List.setIfInBounds_toArray,List.set_cons_zero,List.set_cons_succ,i64_w,i32_w];rfl)
      refine take_ (i:=5) (N:=some 21) (v:=?_) (a':=?_) #[true,true,true,true,true,true,true,false,false,false,false] rfl rfl (take_ofW HT_.out HW_.out (by kernel_rfl)) (fun _ _ _ h=>h) (Or.inl ⟨by rfl,?_⟩) hHeld ?_ ?_
      rotate_left;(rintro w' ⟨s0,s1,s2,s3,s4,s5⟩;go_simp;with_reducible rfl);rotate_left;(simp only [Act.put,List.setIfInBounds_toArray,List.set_cons_zero,List.set_cons_succ,i64_w,i32_w];rfl)
      refine one_ (i:=7) (N:=some 23) #[true,true,true,true,true,true,true,true,false,false,false] rfl rfl (one_of HT_.out (by kernel_rfl)) (by decide) (fun K hK=>?_)
      refine goes_ Try.func24 (by kernel_rfl) rfl #[.agg #[.slice A0_0 l0_0.length c0_0,.int .i64 a0_1,.int .i64 a0_2,.int .i64 a0_3],.agg #[.int .i64 ((rd_T33 l1 x8_1).f0),.int .i64 ((rd_T33 l1 x8_1).f1)],.slice A2 l2.length c2] (by rfl) rfl rfl (by (try simp only [List.map_toArray,List.map_cons,List.map_nil]);first|done|rfl|(simp only [List.length_drop,List.length_take];rfl)) ?_
      with_reducible refine (thresherref20_one.calls k1 _ _ l0_0 a0_1 a0_2 a0_3 ((rd_T33 l1 x8_1).f0) ((rd_T33 l1 x8_1).f1) _ _ l2 t405 t406 t407 _ ?side1 ?side2 ?side3 ?side4 A9.out).mono ?_
      (case side1=>repeat (first|exact (Kd.C_below HR0_0.out HB.out)|(with_reducible refine Kd.C_alloc ?_ _)|(with_reducible refine Kd.C_drewN ?_ _)|(with_reducible refine Kd.C_drew ?_)))
      (case side2=>exact HC0_0.out)
      (case side3=>repeat (first|exact (Kd.C_below HR2.out HB.out)|(with_reducible refine Kd.C_alloc ?_ _)|(with_reducible refine Kd.C_drewN ?_ _)|(with_reducible refine Kd.C_drew ?_)))
      (case side4=>exact HC2.out)
      rintro e w12 ⟨rfl,hb⟩
      refine ⟨_,rfl,?_⟩
      have n0_:=Aside0.mk (Kd.R_below (by (with_reducible repeat (first|apply Kd.R_alloc|apply Kd.R_drewN|apply Kd.R_drew));exact HO_7.out) hb)
      have n1_:=Aside0.mk (blk_below (g:=gb400) (o:=.cells #[.slice A0_0 l0_0.length c0_0,.int .i64 a0_1,.int .i64 a0_2,.int .i64 a0_3] 29 (0,0)) (by (with_reducible repeat (first|refine blk_drewN ?_ _|refine blk_drew ?_|refine blk_alloc ?_ _));exact BK400.out) hb)
      have n2_:=Aside0.mk (below_step (by repeat (first|(with_reducible first|exact HB.out|apply below_alloc|apply pw_below_drewN|apply below_drew1|refine below_set ?_ GE400.out)|exact HB.out)) hb)
      clear HO_7
      clear BK400
      clear HB
      have HO_7:=n0_
      have BK400:=n1_
      have HB:=n2_
      clear n0_ n1_ n2_
      (try clear hb)
      (try clear hb2)
      (try clear hk)
      (try clear hi)
      refine hK.out _ _ ⟨(blk_cell BK400.out 0).trans rfl,(blk_cell BK400.out 1).trans rfl,(blk_cell BK400.out 2).trans rfl,(blk_cell BK400.out 3).trans rfl,((HB.out.cell (World.block_lt_of_cell? w _ hw404_0)).trans hw404_0),((HB.out.cell (World.block_lt_of_cell? w _ hw404_1)).trans hw404_1)⟩ (fun hHeld=>?_)
      clear hK K
      refine norm_ (a':=?_) ?_ ?_
      rotate_left
      ·show Act.put _ (some 23) _=_
       simp only [Act.put,List.setIfInBounds_toArray,List.set_cons_zero,List.set_cons_succ,i64_w,i32_w]
       rfl
      refine one_ (i:=8) (N:=some 24) #[true,true,true,true,true,true,true,true,true,false,false] rfl rfl (one_of HT_.out (by kernel_rfl)) (by decide) (fun K hK=>?_)
      refine value_ (w1:=?_) (v:=?_) (by rfl) rfl ?_ ?_
      rotate_left 2
      ·go_simp
       constructor
       ·rfl
       ·rfl
      refine hK.out _ _ ⟨(blk_cell (blk_alloc BK400.out _) 0).trans rfl,(blk_cell (blk_alloc BK400.out _) 1).trans rfl,(blk_cell (blk_alloc BK400.out _) 2).trans rfl,(blk_cell (blk_alloc BK400.out _) 3).trans rfl,(World.cell?_alloc_lt _ _ _ (World.block_lt_of_cell? _ _ (((HB.out.cell (World.block_lt_of_cell? w _ hw404_0)).trans hw404_0)))).trans (((HB.out.cell (World.block_lt_of_cell? w _ hw404_0)).trans hw404_0)),(World.cell?_alloc_lt _ _ _ (World.block_lt_of_cell? _ _ (((HB.out.cell (World.block_lt_of_cell? w _ hw404_1)).trans hw404_1)))).trans (((HB.out.cell (World.block_lt_of_cell? w _ hw404_1)).trans hw404_1))⟩ (fun hHeld=>?_)
      clear hK K
      refine norm_ (a':=?_) ?_ ?_
      rotate_left
      ·show Act.put _ (some 24) _=_
       simp only [Act.put,List.setIfInBounds_toArray,List.set_cons_zero,List.set_cons_succ,i64_w,i32_w]
       rfl
      refine one_ (i:=9) (N:=some 25) #[true,true,true,true,true,true,true,true,true,true,false] rfl rfl (one_of HT_.out (by kernel_rfl)) (by decide) (fun K hK=>?_)
      refine Kd.R_append_step k42 (w0:=w) w.heap.size (by rfl) (.tmp 16) (.tmp 24) 35 42 (.agg #[(.bool false),(.int .i64 0),(.string ⟨#[]⟩)]) 32 rfl Try.underlying35 info42 rfl (by decide) (by omega) u7 x7_1 (⟨t405,(⟨t406,t407⟩ : S40)⟩ : S42) [.bool t405,.int .i64 t406,.string t407] (fun _=>True) (fun _=>False) rfl rfl ?aP (fun _ hk=>hk.elim) ?aF ?aO ?aB ?aS ?aL ?_
      (case aP=>exact k42_mkM _ _ _ (⟨t405,(⟨t406,t407⟩ : S40)⟩ : S42))
      (case aB=>exact (by repeat (first|(with_reducible first|exact HB.out|apply below_alloc|apply pw_below_drewN|apply below_drew1|refine below_set ?_ GE400.out)|exact HB.out)))
      (case aF=>exact (fun _ _=>trivial))
      (case aO=>exact (by (with_reducible repeat (first|apply Kd.R_alloc|apply Kd.R_drewN|apply Kd.R_drew));exact HO_7.out))
      (case aS=>exact (below_size (by repeat (first|(with_reducible first|exact HB.out|apply below_alloc|apply pw_below_drewN|apply below_drew1|refine below_set ?_ GE400.out)|exact HB.out))))
      (case aL=>have:=LMc10.out;omega)
      intro v409 w13 ho hb hg hat
      rw [← Ny408.out] at ho
      have n0_:=Aside0.mk (blk_grown (g:=gb400) (o:=.cells #[.slice A0_0 l0_0.length c0_0,.int .i64 a0_1,.int .i64 a0_2,.int .i64 a0_3] 29 (0,0)) (by (with_reducible repeat (first|refine blk_drewN ?_ _|refine blk_drew ?_|refine blk_alloc ?_ _));exact BK400.out) hg (Kd.R_ne HO_7.out BK400.out (by decide)))
      have n1_:=Aside0.mk (hb)
      have n2_:=Aside0.mk (ho)
      clear BK400
      clear HB
      clear HO_7
      have BK400:=n0_
      have HB:=n1_
      have HO410:=n2_
      clear n0_ n1_ n2_
      clear ho hb hg hat
      refine hK.out _ _ ⟨(blk_cell BK400.out 0).trans rfl,(blk_cell BK400.out 1).trans rfl,(blk_cell BK400.out 2).trans rfl,(blk_cell BK400.out 3).trans rfl,((HB.out.cell (World.block_lt_of_cell? w _ hw404_0)).trans hw404_0),((HB.out.cell (World.block_lt_of_cell? w _ hw404_1)).trans hw404_1)⟩ (fun hHeld=>?_)
      clear hK K
      refine norm_ (a':=?_) ?_ ?_
      rotate_left
      ·show Act.put _ (some 25) _=_
       simp only [Act.put,List.setIfInBounds_toArray,List.set_cons_zero,List.set_cons_succ,i64_w,i32_w]
       rfl
      refine pure_ (i:=10) (N:=some 7) (v:=?_) (a':=?_) #[true,true,true,true,true,true,true,true,true,true,true] rfl rfl (any_of HT_.out (by kernel_rfl)) (fun _ _ _ h=>h) (Or.inl ⟨by rfl,?_⟩) ?_ ?_
      rotate_left;(intro w';go_simp;with_reducible rfl);rotate_left;(simp only [Act.put,List.setIfInBounds_toArray,List.set_cons_zero,List.set_cons_succ,i64_w,i32_w];rfl)
      refine done_ (done_of HT_.out (by kernel_rfl)) ?_
      (try clear hHeld)
      try go_wp2
      go_roundg k1
      case measure=>have:=HK1.out;omega
      case rel=>exact ⟨(y408),(wrap64 (x8_1 + 1)),(by first|rfl|(simp;done)|(simp [*];done)),(by first|exact H'|(subst_vars;exact H')),⟨by have:=HK1.out;omega⟩,⟨by (with_reducible repeat (first|apply Kd.R_alloc|apply Kd.R_drewN|apply Kd.R_drew));exact HO410.out⟩,⟨by (with_reducible repeat (first|refine blk_drewN ?_ _|refine blk_drew ?_|refine blk_alloc ?_ _));exact BK400.out⟩,⟨by repeat (first|(with_reducible first|exact HB.out|apply below_alloc|apply pw_below_drewN|apply below_drew1|refine below_set ?_ GE400.out)|exact HB.out)⟩⟩
     ·rw [if_neg c10] at H
      exact absurd H (by simp)
    ·rw [if_neg c8] at H
     exact absurd H (by simp)
   ·rw [if_neg c7] at H
    have c7b0 : decide (x8_1 < (l1.length : Int))=false:=decide_eq_false c7
    clear c7
    obtain rfl:=Option.some.inj H
    go_wp2
    go_ret
    exact ⟨_,by first|rfl|(simp [errW_none,errW_some] <;> rfl)|(simp [*,errW_none,errW_some] <;> rfl),by (with_reducible repeat (first|apply Kd.R_alloc|apply Kd.R_drewN|apply Kd.R_drew));exact HO_7.out,by repeat (first|(with_reducible first|exact HB.out|apply below_alloc|apply pw_below_drewN|apply below_drew1|refine below_set ?_ GE400.out)|exact HB.out)⟩

end Go.Proofs.Ytapaldcdoahfeaa.P

