/- Texts of MergeFirst. Merged: Px10. -/
import Derived.Test.YtfiandejapgkoaaQMergeFirstPx0
import Derived.Test.YtfiandejapgkoaaQMergeFirstPx1
import Derived.Test.YtfiandejapgkoaaQMergeFirstPx8
import Derived.Test.YtfiandejapgkoaaQMergeFirstPx9
namespace Go.Proofs.Ytfiandejapgkoaa.P
open Go.RowKit Go.Proofs.YtfiandejapgkoaaW.PrintWords Go.Proofs.YtfiandejapgkoaaW.PrintLast Go.Proofs.YtfiandejapgkoaaW.PrintMore
attribute [local go_sem] max2_int min2_int max_two min_two max_three min_three max_four min_four   -- for this text's walks alone
set_option linter.unusedVariables false
set_option linter.unusedSimpArgs false
attribute [local go_sem high] eqA31
mutual
def thresherlaw14_parts.l0 : Nat→List (List (List (S31)))→List (List (List (S31)))→Int→List Int→Int→Int→Int→Option ((List (List (List (S31)))))
 | 0,_,_,_,_,_,_,_=>none
 | k + 1,x1,x5,x6,x269000,x269001,x269002,x269003=>if x6 < (x1.length : Int) then (thresherlaw14_parts.j1 k x1 x5 x6 (decide (x6 < 8)) x269000 x269001 x269002 x269003) else (thresherlaw14_parts.j1 k x1 x5 x6 false x269000 x269001 x269002 x269003)
def thresherlaw14_parts.j1 : Nat→List (List (List (S31)))→List (List (List (S31)))→Int→Bool→List Int→Int→Int→Int→Option ((List (List (List (S31)))))
 | 0,_,_,_,_,_,_,_,_=>none
 | k + 1,x1,x5,x6,x15,x269000,x269001,x269002,x269003=>if x15=true then (if 0≤x6 then (if x6 < (x1.length : Int) then ((thresherref04_Fits.f k x269000 x269001 x269002 x269003 (rd_L4 x1 x6) 20).bind fun t273=>((thresherref09_Sort.f k x269000 x269001 x269002 x269003 t273).bind fun t276=>(if x5.length < 5864062014805 then (thresherlaw14_parts.l0 k x1 (x5 ++ [t276]) (wrap64 (x6 + 1)) x269000 x269001 x269002 x269003) else (none)))) else (none)) else (none)) else (some x5)
end
def thresherlaw14_parts.f (k : Nat) (l0_0 : List Int) (a0_1 : Int) (a0_2 : Int) (a0_3 : Int) (l1 : List (List (List (S31)))) : Option ((List (List (List (S31))))):=thresherlaw14_parts.l0 k l1 (([] : List (List (List (S31))))) 0 l0_0 a0_1 a0_2 a0_3
theorem thresherlaw14_parts.mono_l : ∀ k,(∀ y0 y1 y2 y3 y4 y5 y6,LeO (thresherlaw14_parts.l0 k y0 y1 y2 y3 y4 y5 y6) (thresherlaw14_parts.l0 (k + 1) y0 y1 y2 y3 y4 y5 y6))∧(∀ y0 y1 y2 y3 y4 y5 y6 y7,LeO (thresherlaw14_parts.j1 k y0 y1 y2 y3 y4 y5 y6 y7) (thresherlaw14_parts.j1 (k + 1) y0 y1 y2 y3 y4 y5 y6 y7))
 | 0=>⟨fun _ _ _ _ _ _ _ r h=>by simp [thresherlaw14_parts.l0] at h,fun _ _ _ _ _ _ _ _ r h=>by simp [thresherlaw14_parts.j1] at h⟩
 | k + 1=>by
  obtain ⟨ih0,ih1⟩:=thresherlaw14_parts.mono_l k
  refine ⟨?_,?_⟩
  ·intro y0 y1 y2 y3 y4 y5 y6
   unfold thresherlaw14_parts.l0
   repeat' first
   | (with_reducible exact ih0 _ _ _ _ _ _ _)
   | (with_reducible exact ih1 _ _ _ _ _ _ _ _)
   | (with_reducible exact thresherref04_Fits.mono _ _ _ _ _ _ _)
   | (with_reducible exact thresherref09_Sort.mono _ _ _ _ _ _)
   | (with_reducible exact LeO.refl _)
   | (with_reducible exact LeO.none _)
   | (with_reducible refine LeO.ite ?_ ?_)
   | (with_reducible refine LeO.bind ?_ (fun _=>?_))
   | exact ih0 _ _ _ _ _ _ _
   | exact ih1 _ _ _ _ _ _ _ _
   | exact thresherref04_Fits.mono _ _ _ _ _ _ _
   | exact thresherref09_Sort.mono _ _ _ _ _ _
   | exact LeO.none _
   | refine LeO.ite ?_ ?_
   | refine LeO.bind ?_ (fun _=>?_)
  ·intro y0 y1 y2 y3 y4 y5 y6 y7
   unfold thresherlaw14_parts.j1
   repeat' first
   | (with_reducible exact ih0 _ _ _ _ _ _ _)
   | (with_reducible exact ih1 _ _ _ _ _ _ _ _)
   | (with_reducible exact thresherref04_Fits.mono _ _ _ _ _ _ _)
   | (with_reducible exact thresherref09_Sort.mono _ _ _ _ _ _)
   | (with_reducible exact LeO.refl _)
   | (with_reducible exact LeO.none _)
   | (with_reducible refine LeO.ite ?_ ?_)
   | (with_reducible refine LeO.bind ?_ (fun _=>?_))
   | exact ih0 _ _ _ _ _ _ _
   | exact ih1 _ _ _ _ _ _ _ _
   | exact thresherref04_Fits.mono _ _ _ _ _ _ _
   | exact thresherref09_Sort.mono _ _ _ _ _ _
   | exact LeO.none _
   | refine LeO.ite ?_ ?_
   | refine LeO.bind ?_ (fun _=>?_)
theorem thresherlaw14_parts.mono : ∀ a0 a1 a2 a3 a4 k,LeO (thresherlaw14_parts.f k a0 a1 a2 a3 a4) (thresherlaw14_parts.f (k + 1) a0 a1 a2 a3 a4):=by
 intro a0 a1 a2 a3 a4 k
 obtain ⟨ih0,ih1⟩:=thresherlaw14_parts.mono_l k
 unfold thresherlaw14_parts.f
 repeat' first
   | (with_reducible exact ih0 _ _ _ _ _ _ _)
   | (with_reducible exact ih1 _ _ _ _ _ _ _ _)
   | (with_reducible exact thresherref04_Fits.mono _ _ _ _ _ _ _)
   | (with_reducible exact thresherref09_Sort.mono _ _ _ _ _ _)
   | (with_reducible exact LeO.refl _)
   | (with_reducible exact LeO.none _)
   | (with_reducible refine LeO.ite ?_ ?_)
   | (with_reducible refine LeO.bind ?_ (fun _=>?_))
   | exact ih0 _ _ _ _ _ _ _
   | exact ih1 _ _ _ _ _ _ _ _
   | exact thresherref04_Fits.mono _ _ _ _ _ _ _
   | exact thresherref09_Sort.mono _ _ _ _ _ _
   | exact LeO.none _
   | refine LeO.ite ?_ ?_
   | refine LeO.bind ?_ (fun _=>?_)
def thresherlaw14_parts.T5 : Bool × List (List Nat × List Nat):=(true,[([],[]),([],[]),([],[]),([],[]),([],[]),([3,4],[3,4]),([5],[5]),([2,6],[2,6]),([1,7,7],[1,7]),([8],[8]),([0,9,8],[0,9]),([10,10,0,1,2,3,4,5,6,7,8,9,10],[0,10])])
def thresherlaw14_parts.B5 : List Nat:=[0,0,0,0,0,24,56,124,254,510,1023,2047]
theorem thresherlaw14_parts.tab5 : rtab .any (opsOf Try.f11 5)=thresherlaw14_parts.T5:=by kernel_rfl
theorem thresherlaw14_parts.bits5 : waitsOk thresherlaw14_parts.T5.2 thresherlaw14_parts.B5=true:=by kernel_rfl
set_option maxHeartbeats 8000000 in
set_option maxRecDepth 100000 in
theorem thresherlaw14_parts.calls (k : Nat) (A0_0 : Option Addr) (c0_0 : Nat) (l0_0 : List Int) (a0_1 : Int) (a0_2 : Int) (a0_3 : Int) (A1 : Option Addr) (c1 : Nat) (l1 : List (List (List (S31)))) (r : List (List (List (S31)))) (w : World) (hr0_0 : Kd.C (Kd.int .i64) w A0_0 l0_0.length l0_0) (hc0_0 : l0_0.length≤c0_0) (hr1 : Kd.C (Kd.slice 33 (Kd.slice 31 k31)) w A1 l1.length l1) (hc1 : l1.length≤c1) (h : thresherlaw14_parts.f k l0_0 a0_1 a0_2 a0_3 l1=some r) :
  Calls Try.prog 11 #[.agg #[.slice A0_0 l0_0.length c0_0,.int .i64 a0_1,.int .i64 a0_2,.int .i64 a0_3],.slice A1 l1.length c1] w fun e w'=>∃ v0_ : Value,e=.returned (v0_)∧Kd.N (Kd.slice 33 (Kd.slice 31 k31)) 28 w' w.heap.size (fun k_=>(w.heap.size≤k_)) v0_ r∧Below w.heap.size w w':=by
 have hu26:=Try.underlying26
 have HR0_0:=Aside0.mk hr0_0
 have HC0_0:=Aside0.mk hc0_0
 clear hr0_0 hc0_0
 have HR1:=Aside0.mk hr1
 have HC1:=Aside0.mk hc1
 clear hr1 hc1
 have HB:=Aside0.mk (Below.refl w.heap.size w)
 have H : (thresherlaw14_parts.l0 k l1 (([] : List (List (List (S31))))) 0 l0_0 a0_1 a0_2 a0_3)=some r:=h
 clear h
 obtain ⟨y269,hy269⟩ : ∃ y_ : List (List (List (S31))),y_=(([] : List (List (List (S31))))):=⟨_,rfl⟩
 replace H : (thresherlaw14_parts.l0 k l1 y269 0 l0_0 a0_1 a0_2 a0_3)=some r:=by first|(rw [hy269];with_reducible exact H)|(have H2_:=(Option.bind_some _ _).symm.trans H;rw [hy269];with_reducible exact H2_)|(have H2_:=(Option.bind_some _ _).symm.trans H;with_reducible exact H2_)|with_reducible exact H|(rw [hy269];exact H)|exact H
 have Ny269:=Aside0.mk hy269
 clear hy269
 have H':=Aside0.mk H
 clear H
 go_enter Try.func11,Try.ntmps11
 go_wp2_with (first|((with_reducible refine gate_dst (N:=2) rfl ?_);refine box_event ?hg (N:=2) ?hd (cs:=#[.slice A0_0 l0_0.length c0_0,.int .i64 a0_1,.int .i64 a0_2,.int .i64 a0_3]) (t:=26) ?hr ?_;(case hd=>rfl);(case hg=>rfl);(case hr=>first|(go_simp;done)|(go_simp;rfl));intro gb268 hg w3 hbox hb;have n0_:=Aside0.mk (below_step (below_up HB.out) hb);have n1_:=Aside0.mk (hbox);have n2_:=Aside0.mk ((by rw [hg];exact (below_size (below_up HB.out)) : w.heap.size≤gb268));have n3_:=Aside0.mk ((by rw [hg];exact (below_size (below_up HB.out)) : w.heap.size≤gb268));clear HB;have HB:=n0_;have BK268:=n1_;have GW268:=n2_;have GE268:=n3_;clear n0_ n1_ n2_ n3_;clear hb hbox hg)|((with_reducible refine gate_dst (N:=7) rfl ?_);refine Kd.N_lit (Kd.slice 33 (Kd.slice 31 k31)) _ 28 ?hg (N':=7) ?hd (xs:=([] : List (List (List (S31))))) (inner:=[]) (ok:=(fun k_=>(w.heap.size≤k_)∧k_≠gb268)) (okp:=(fun k_=>(w.heap.size≤k_)∧k_≠gb268)) ?hr ?hp (fun _ hk=>hk) ((show ∀ k_,w3.heap.size≤k_→(fun k_=>(w.heap.size≤k_)∧k_≠gb268) k_ from fun k_ hk=>⟨(Nat.le_trans (below_size (below_go HB.out)) hk),Kd.freshB (blk_up BK268.out) k_ hk⟩) _ (Nat.le_refl _)) (Below.refl _ _) (Nat.le_refl _) (by simp) ?_;(case hd=>rfl);(case hg=>rfl);(case hr=>first|(go_simp;done)|(go_simp;rfl));(case hp=>exact (Reps.none _ _));intro v270 w4 ho5 hb hg_ hnew_;clear hg_ hnew_;(first|rw [← Ny269.out] at ho5|(simp only [Int.reduceToNat] at ho5;rw [← Ny269.out] at ho5));have n0_:=Aside0.mk (Kd.N_lower ho5 (below_size (below_go HB.out)));have n1_:=Aside0.mk (blk_below (blk_up BK268.out) hb);have n2_:=Aside0.mk (below_step (below_go HB.out) hb);clear BK268;clear HB;have HO271:=n0_;have BK268:=n1_;have HB:=n2_;clear n0_ n1_ n2_;clear hb ho5))
 go_loopg [5,6] k (fun kq v5 v6 w'=>∃ (x5_1 : List (List (List (S31)))) (x6_1 : Int),v6=.int .i64 x6_1∧Aside0 (thresherlaw14_parts.l0 kq l1 x5_1 x6_1 l0_0 a0_1 a0_2 a0_3=some r)∧Aside0 (kq≤k)∧Aside0 (Kd.N (Kd.slice 33 (Kd.slice 31 k31)) 28 w' w.heap.size (fun k_=>(w.heap.size≤k_)∧k_≠gb268) v5 x5_1)∧Aside0 (w'.heap[gb268]?=some (.cells #[(.slice A0_0 l0_0.length c0_0),.int .i64 a0_1,.int .i64 a0_2,.int .i64 a0_3] 26 (0,0)))∧Aside0 (Below w.heap.size w w'))
 case atStart=>exact ⟨(y269),(0),(by first|rfl|(simp;done)|(simp [*];done)),H',⟨Nat.le_refl _⟩,⟨by (with_reducible repeat (first|apply Kd.N_alloc|apply Kd.N_drewN|apply Kd.N_drew));exact HO271.out⟩,⟨by (with_reducible repeat (first|refine blk_drewN ?_ _|refine blk_drew ?_|refine blk_alloc ?_ _));exact BK268.out⟩,⟨by repeat (first|(with_reducible first|exact HB.out|apply below_alloc|apply pw_below_drewN|apply below_drew1|refine below_set ?_ GE268.out)|exact HB.out)⟩⟩
 case round =>
  clear H'
  try clear c1
  try clear p2
  obtain ⟨x5_1,x6_1,rfl,HA,HK1,HO_5,BK268,HB⟩:=hrel
  cases gk with
  | zero=>exact absurd HA.out (by simp [thresherlaw14_parts.l0])
  | succ k1 =>
   have H:=HA.out
   clear HA
   simp only [thresherlaw14_parts.l0] at H
   have HC6:=Aside0.mk H
   clear H
   go_upto_region 3 with (fail)
   go_cut [15] (fun v15 wc=>∃ (kq : Nat) (x15_5 : Bool),v15=.bool x15_5∧Aside0 (thresherlaw14_parts.j1 kq l1 x5_1 x6_1 x15_5 l0_0 a0_1 a0_2 a0_3=some r)∧Aside0 (kq≤k1)∧Aside0 (Kd.N (Kd.slice 33 (Kd.slice 31 k31)) 28 wc w.heap.size (fun k_=>(w.heap.size≤k_)∧k_≠gb268) u5 x5_1)∧Aside0 (wc.heap[gb268]?=some (.cells #[(.slice A0_0 l0_0.length c0_0),.int .i64 a0_1,.int .i64 a0_2,.int .i64 a0_3] 26 (0,0)))∧Aside0 (Below w.heap.size w wc))
   case first =>
    have H:=HC6.out
    clear HC6
    by_cases c7 : x6_1 < (l1.length : Int)
    ·rw [if_pos c7] at H
     have c7b0 : decide (x6_1 < (l1.length : Int))=true:=decide_eq_true c7
     clear c7
     (first|rw [c7b0]|(simp only [i64_w,i32_w];rw [c7b0])|skip)
     have H':=Aside0.mk H
     clear H
     go_wp2
     go_meet
     case rel=>exact ⟨_,(decide (x6_1 < 8)),(by first|rfl|(simp;done)|(simp [*];done)),(by first|exact H'|(subst_vars;exact H')),⟨by have:=HK1.out;first|omega|exact Nat.le_refl _⟩,⟨by (with_reducible repeat (first|apply Kd.N_alloc|apply Kd.N_drewN|apply Kd.N_drew));exact HO_5.out⟩,⟨by (with_reducible repeat (first|refine blk_drewN ?_ _|refine blk_drew ?_|refine blk_alloc ?_ _));exact BK268.out⟩,⟨by repeat (first|(with_reducible first|exact HB.out|apply below_alloc|apply pw_below_drewN|apply below_drew1|refine below_set ?_ GE268.out)|exact HB.out)⟩⟩
    ·rw [if_neg c7] at H
     have c7b0 : decide (x6_1 < (l1.length : Int))=false:=decide_eq_false c7
     clear c7
     (first|rw [c7b0]|(simp only [i64_w,i32_w];rw [c7b0])|skip)
     have H':=Aside0.mk H
     clear H
     go_wp2
     go_meet
     case rel=>exact ⟨_,(false),(by first|rfl|(simp;done)|(simp [*];done)),(by first|exact H'|(subst_vars;exact H')),⟨by have:=HK1.out;first|omega|exact Nat.le_refl _⟩,⟨by (with_reducible repeat (first|apply Kd.N_alloc|apply Kd.N_drewN|apply Kd.N_drew));exact HO_5.out⟩,⟨by (with_reducible repeat (first|refine blk_drewN ?_ _|refine blk_drew ?_|refine blk_alloc ?_ _));exact BK268.out⟩,⟨by repeat (first|(with_reducible first|exact HB.out|apply below_alloc|apply pw_below_drewN|apply below_drew1|refine below_set ?_ GE268.out)|exact HB.out)⟩⟩
   case rest =>
    clear HC6
    try clear c1
    try clear p2
    try clear c7
    try clear c7b0
    try clear p2
    obtain ⟨kq,x15_5,rfl,HA,HJ5,HO_5,BK268,HB⟩:=hcut
    cases kq with
    | zero=>exact absurd HA.out (by simp [thresherlaw14_parts.j1])
    | succ kj5 =>
     have H:=HA.out
     clear HA
     simp only [thresherlaw14_parts.j1] at H
     by_cases c8 : x15_5=true
     ·subst c8
      have H1 : (if 0≤x6_1 then (if x6_1 < (l1.length : Int) then ((thresherref04_Fits.f kj5 l0_0 a0_1 a0_2 a0_3 (rd_L4 l1 x6_1) 20).bind fun t273=>((thresherref09_Sort.f kj5 l0_0 a0_1 a0_2 a0_3 t273).bind fun t276=>(if x5_1.length < 5864062014805 then (thresherlaw14_parts.l0 kj5 l1 (x5_1 ++ [t276]) (wrap64 (x6_1 + 1)) l0_0 a0_1 a0_2 a0_3) else (none)))) else (none)) else (none))=some r:=by rw [if_pos rfl] at H;exact H
      clear H
      have H:=H1
      clear H1
      by_cases c9 : 0≤x6_1
      ·rw [if_pos c9] at H
       have c9b0 : decide (0≤x6_1)=true:=decide_eq_true c9
       clear c9
       by_cases c10 : x6_1 < (l1.length : Int)
       ·rw [if_pos c10] at H
        have c10b0 : decide (x6_1 < (l1.length : Int))=true:=decide_eq_true c10
        clear c10
        replace H:=Option.bind_eq_some_iff.mp H
        obtain ⟨t273,A110,H⟩:=H
        replace H : ((thresherref09_Sort.f kj5 l0_0 a0_1 a0_2 a0_3 t273).bind fun t276=>(if x5_1.length < 5864062014805 then (thresherlaw14_parts.l0 kj5 l1 (x5_1 ++ [t276]) (wrap64 (x6_1 + 1)) l0_0 a0_1 a0_2 a0_3) else (none)))=some r:=H
        have A11:=Aside0.mk A110
        clear A110
        replace H:=Option.bind_eq_some_iff.mp H
        obtain ⟨t276,A120,H⟩:=H
        replace H : (if x5_1.length < 5864062014805 then (thresherlaw14_parts.l0 kj5 l1 (x5_1 ++ [t276]) (wrap64 (x6_1 + 1)) l0_0 a0_1 a0_2 a0_3) else (none))=some r:=H
        have A12:=Aside0.mk A120
        clear A120
        by_cases c13 : x5_1.length < 5864062014805
        ·rw [if_pos c13] at H
         have LMc13:=Aside0.mk c13
         clear c13
         obtain ⟨y279,hy279⟩ : ∃ y_ : List (List (List (S31))),y_=(x5_1 ++ [t276]):=⟨_,rfl⟩
         replace H : (thresherlaw14_parts.l0 kj5 l1 y279 (wrap64 (x6_1 + 1)) l0_0 a0_1 a0_2 a0_3)=some r:=by first|(rw [hy279];with_reducible exact H)|(have H2_:=(Option.bind_some _ _).symm.trans H;rw [hy279];with_reducible exact H2_)|(have H2_:=(Option.bind_some _ _).symm.trans H;with_reducible exact H2_)|with_reducible exact H|(rw [hy279];exact H)|exact H
         have Ny279:=Aside0.mk hy279
         clear hy279
         have H':=Aside0.mk H
         clear H
         try go_wp2
         have n0_:=Aside0.mk (Kd.N_drew HO_5.out)
         have n1_:=Aside0.mk (blk_drew BK268.out)
         have n2_:=Aside0.mk (below_drew1 HB.out)
         clear HO_5
         clear BK268
         clear HB
         have HO_5:=n0_
         have BK268:=n1_
         have HB:=n2_
         clear n0_ n1_ n2_
         have p272 : 0≤(x6_1 : Int):=of_decide_eq_true (by first|(with_reducible assumption)|assumption)
         have q272 : x6_1 < (l1.length : Int):=of_decide_eq_true (by first|(with_reducible assumption)|assumption)
         obtain ⟨ad272,A272_0,c272_0,e272,hx272_0,hl272_0,hi272_0⟩:=at_L4 HR1.out x6_1 p272 q272
         have hw272_0:=hx272_0
         cases e272
         replace hx272_0:=(HB.out.cell (World.block_lt_of_cell? w _ hx272_0)).trans hx272_0
         have HR272_0:=Aside0.mk hi272_0
         have HC272_0:=Aside0.mk hl272_0
         clear hi272_0 hl272_0
         replace p272:=eq_true p272
         replace q272:=eq_true q272
         refine start_ (n:=12) (S:=fun w'=>w'.cell? ⟨gb268,0,none⟩=some (.slice A0_0 l0_0.length c0_0)∧w'.cell? ⟨gb268,1,none⟩=some (.int .i64 a0_1)∧w'.cell? ⟨gb268,2,none⟩=some (.int .i64 a0_2)∧w'.cell? ⟨gb268,3,none⟩=some (.int .i64 a0_3)∧w'.cell? (ad272.add (x6_1).toNat)=some (.slice A272_0 (rd_L4 l1 x6_1).length c272_0)) (ds:=[]) #[false,false,false,false,false,false,false,false,false,false,false,false] (by kernel_rfl) rfl rfl ⟨(blk_cell BK268.out 0).trans rfl,(blk_cell BK268.out 1).trans rfl,(blk_cell BK268.out 2).trans rfl,(blk_cell BK268.out 3).trans rfl,((HB.out.cell (World.block_lt_of_cell? w _ hw272_0)).trans hw272_0)⟩ (fun hHeld=>?_);refine with_tabW thresherlaw14_parts.tab5 thresherlaw14_parts.bits5 (fun HT_ HW_=>?_)
         generalize wc.drew=w14 at HO_5 BK268 HB HR272_0 hx272_0 hHeld ⊢
         refine pure_ (i:=0) (N:=some 18) (v:=?_) (a':=?_) #[true,false,false,false,false,false,false,false,false,false,false,false] rfl rfl (any_of HT_.out (by kernel_rfl)) (fun _ _ _ h=>h) (Or.inl ⟨by rfl,?_⟩) ?_ ?_
         rotate_left;(intro w';go_simp;with_reducible rfl);rotate_left;(simp only [Act.put,List.setIfInBounds_toArray,List.set_cons_zero,List.set_cons_succ,i64_w,i32_w];rfl)
         refine pure_ (i:=3) (N:=some 21) (v:=?_) (a':=?_) #[true,false,false,true,false,false,false,false,false,false,false,false] rfl rfl (any_of HT_.out (by kernel_rfl)) (fun _ _ _ h=>h) (Or.inl ⟨by rfl,?_⟩) ?_ ?_
         rotate_left;(intro w';go_simp;with_reducible rfl);rotate_left;(simp only [Act.put,List.setIfInBounds_toArray,List.set_cons_zero,List.set_cons_succ,i64_w,i32_w];rfl)
         refine pure_ (i:=4) (N:=some 22) (v:=?_) (a':=?_) #[true,false,false,true,true,false,false,false,false,false,false,false] rfl rfl (any_of HT_.out (by kernel_rfl)) (fun _ _ _ h=>h) (Or.inl ⟨by rfl,?_⟩) ?_ ?_
         rotate_left;(intro w';go_simp;with_reducible rfl);rotate_left;(simp only [Act.put,List.setIfInBounds_toArray,List.set_cons_zero,List.set_cons_succ,i64_w,i32_w];rfl)
         refine pure_ (i:=5) (N:=some 23) (v:=?_) (a':=?_) #[true,false,false,true,true,true,false,false,false,false,false,false] rfl rfl (any_of HT_.out (by kernel_rfl)) (fun _ _ _ h=>h) (Or.inl ⟨by rfl,?_⟩) ?_ ?_
         rotate_left;(intro w';go_simp;with_reducible rfl);rotate_left;(simp only [Act.put,List.setIfInBounds_toArray,List.set_cons_zero,List.set_cons_succ,i64_w,i32_w];rfl)
         refine take_ (i:=1) (N:=some 19) (v:=?_) (a':=?_) #[true,true,false,true,true,true,false,false,false,false,false,false] rfl rfl (take_ofW HT_.out HW_.out (by kernel_rfl)) (fun _ _ _ h=>h) (Or.inl ⟨by rfl,?_⟩) hHeld ?_ ?_
         rotate_left;(rintro w' ⟨s0,s1,s2,s3,s4⟩;go_simp;with_reducible rfl);rotate_left;(simp only [Act.put,List.setIfInBounds_toArray,List.set_cons_zero,List.set_cons_succ,i64_w,i32_w];rfl)
         refine take_ (i:=2) (N:=some 20) (v:=?_) (a':=?_) #[true,true,true,true,true,true,false,false,false,false,false,false] rfl rfl (take_ofW HT_.out HW_.out (by kernel_rfl)) (fun _ _ _ h=>h) (Or.inl ⟨by rfl,?_⟩) hHeld ?_ ?_
         rotate_left;(rintro w' ⟨s0,s1,s2,s3,s4⟩;go_simp;with_reducible rfl);rotate_left;(simp only [Act.put,List.setIfInBounds_toArray,List.set_cons_zero,List.set_cons_succ,i64_w,i32_w];rfl)
         refine take_ (i:=6) (N:=some 24) (v:=?_) (a':=?_) #[true,true,true,true,true,true,true,false,false,false,false,false] rfl rfl (take_ofW HT_.out HW_.out (by kernel_rfl)) (fun _ _ _ h=>h) (Or.inl ⟨by rfl,?_⟩) hHeld ?_ ?_
         rotate_left;(rintro w' ⟨s0,s1,s2,s3,s4⟩;go_simp;with_reducible rfl);rotate_left;(simp only [Act.put,List.setIfInBounds_toArray,List.set_cons_zero,List.set_cons_succ,i64_w,i32_w];rfl)
         refine one_ (i:=7) (N:=some 25) #[true,true,true,true,true,true,true,true,false,false,false,false] rfl rfl (one_of HT_.out (by kernel_rfl)) (by decide) (fun K hK=>?_)
         refine goes_ Try.func18 (by kernel_rfl) rfl #[.agg #[.slice A0_0 l0_0.length c0_0,.int .i64 a0_1,.int .i64 a0_2,.int .i64 a0_3],.slice A272_0 (rd_L4 l1 x6_1).length c272_0,.int .i64 20] (by rfl) rfl rfl (by (try simp only [List.map_toArray,List.map_cons,List.map_nil]);first|done|rfl|(simp only [List.length_drop,List.length_take];rfl)) ?_
         with_reducible refine (thresherref04_Fits.calls kj5 _ _ l0_0 a0_1 a0_2 a0_3 _ _ (rd_L4 l1 x6_1) 20 t273 _ ?side1 ?side2 ?side3 ?side4 A11.out).mono ?_
         (case side1=>repeat (first|exact (Kd.C_below HR0_0.out HB.out)|(with_reducible refine Kd.C_alloc ?_ _)|(with_reducible refine Kd.C_drewN ?_ _)|(with_reducible refine Kd.C_drew ?_)))
         (case side2=>exact HC0_0.out)
         (case side3=>repeat (first|exact (Kd.C_below HR272_0.out HB.out)|(with_reducible refine Kd.C_alloc ?_ _)|(with_reducible refine Kd.C_drewN ?_ _)|(with_reducible refine Kd.C_drew ?_)))
         (case side4=>exact HC272_0.out)
         rintro e w15 ⟨v274,rfl,ho0,hb⟩
         refine ⟨_,rfl,?_⟩
         have n0_:=Aside0.mk (Kd.N_elder' (N_up HO_5.out) (by first|exact Kd.N_base ho0|exact Kd.S_base ho0) hb)
         have n1_:=Aside0.mk (Kd.N_lower (Kd.N_mono (ok':=fun k_=>(w.heap.size≤k_)∧some k_≠(u5 : Value).ownBlock∧k_≠gb268) (Kd.S_N (Kd.S_bound ho0)) (fun k_ hk_=>⟨(Nat.le_trans (below_size (below_go HB.out)) hk_.2.1),(Kd.fresh' (Kd.N_lt (N_up HO_5.out)) k_ hk_.2.1),(Kd.freshB (blk_up BK268.out) k_ hk_.2.1)⟩)) (below_size (below_go HB.out)))
         have n2_:=Aside0.mk (blk_below (blk_up BK268.out) hb)
         have n3_:=Aside0.mk (below_step (below_go HB.out) hb)
         clear HO_5
         clear BK268
         clear HB
         have HO_5:=n0_
         have HO275:=n1_
         have BK268:=n2_
         have HB:=n3_
         clear n0_ n1_ n2_ n3_
         (try clear hb)
         (try clear hb2)
         (try clear hk)
         (try clear hi)
         (try clear ho0)
         obtain ⟨Ao16,co16,eo16⟩:=Kd.N_slice HO275.out
         (first|subst eo16|(injection eo16 with f1_ f2_ f3_;have f4_:=f1_.symm;have f5_:=f3_.symm;clear f1_ f2_ f3_;subst f4_;subst f5_))
         refine hK.out _ _ ⟨(blk_cell BK268.out 0).trans rfl,(blk_cell BK268.out 1).trans rfl,(blk_cell BK268.out 2).trans rfl,(blk_cell BK268.out 3).trans rfl,((HB.out.cell (World.block_lt_of_cell? w _ hw272_0)).trans hw272_0)⟩ (fun hHeld=>?_)
         clear hK K
         refine norm_ (a':=?_) ?_ ?_
         rotate_left
         ·show Act.put _ (some 25) _=_
          simp only [Act.put,List.setIfInBounds_toArray,List.set_cons_zero,List.set_cons_succ,i64_w,i32_w]
          rfl
         refine one_ (i:=8) (N:=some 26) #[true,true,true,true,true,true,true,true,true,false,false,false] rfl rfl (one_of HT_.out (by kernel_rfl)) (by decide) (fun K hK=>?_)
         refine goes_ Try.func17 (by kernel_rfl) rfl #[.agg #[.slice A0_0 l0_0.length c0_0,.int .i64 a0_1,.int .i64 a0_2,.int .i64 a0_3],.slice Ao16 t273.length co16] (by rfl) rfl rfl (by (try simp only [List.map_toArray,List.map_cons,List.map_nil]);first|done|rfl|(simp only [List.length_drop,List.length_take];rfl)) ?_
         with_reducible refine (thresherref09_Sort.calls kj5 _ _ l0_0 a0_1 a0_2 a0_3 (fun k_=>((w.heap.size≤k_)∧(some k_≠(u5 : Value).ownBlock∧k_≠gb268))) _ _ t273 t276 _ ?side1 ?side2 ?side3 A12.out).mono ?_
         (case side1=>repeat (first|exact (Kd.C_below HR0_0.out HB.out)|(with_reducible refine Kd.C_alloc ?_ _)|(with_reducible refine Kd.C_drewN ?_ _)|(with_reducible refine Kd.C_drew ?_)))
         (case side2=>exact HC0_0.out)
         (case side3=>exact Kd.N_V (HO275.out))
         rintro e w17 ⟨v277,rfl,ho0,hb⟩
         refine ⟨_,rfl,?_⟩
         have n0_:=Aside0.mk (Kd.N_elder' (N_up HO_5.out) (by first|exact Kd.N_base ho0|exact Kd.S_base ho0) hb)
         have n1_:=Aside0.mk (Kd.N_elder' (N_up HO275.out) (by first|exact Kd.N_base ho0|exact Kd.S_base ho0) hb)
         have n2_:=Aside0.mk (Kd.N_lower (Kd.N_mono (ok':=fun k_=>(w.heap.size≤k_)∧some k_≠(u5 : Value).ownBlock∧k_≠gb268) ho0 (fun k_ hk_=>⟨Or.elim hk_ (fun hs_=>hs_.1) (fun hn_=>(Nat.le_trans (below_size (below_go HB.out)) hn_)),Or.elim hk_ (fun hs_=>hs_.2.1) (fun hn_=>(Kd.fresh' (Kd.N_lt (N_up HO_5.out)) k_ hn_)),Or.elim hk_ (fun hs_=>hs_.2.2) (fun hn_=>(Kd.freshB (blk_up BK268.out) k_ hn_))⟩)) (below_size (below_go HB.out)))
         have n3_:=Aside0.mk (blk_below (blk_up BK268.out) hb)
         have n4_:=Aside0.mk (below_step (below_go HB.out) hb)
         clear HO_5
         clear HO275
         clear BK268
         clear HB
         have HO_5:=n0_
         have HO275:=n1_
         have HO278:=n2_
         have BK268:=n3_
         have HB:=n4_
         clear n0_ n1_ n2_ n3_ n4_
         (try clear hb)
         (try clear hb2)
         (try clear hk)
         (try clear hi)
         (try clear ho0)
         obtain ⟨Ao19,co19,eo19⟩:=Kd.N_slice HO278.out
         (first|subst eo19|(injection eo19 with f1_ f2_ f3_;have f4_:=f1_.symm;have f5_:=f3_.symm;clear f1_ f2_ f3_;subst f4_;subst f5_))
         refine hK.out _ _ ⟨(blk_cell BK268.out 0).trans rfl,(blk_cell BK268.out 1).trans rfl,(blk_cell BK268.out 2).trans rfl,(blk_cell BK268.out 3).trans rfl,((HB.out.cell (World.block_lt_of_cell? w _ hw272_0)).trans hw272_0)⟩ (fun hHeld=>?_)
         clear hK K
         refine norm_ (a':=?_) ?_ ?_
         rotate_left
         ·show Act.put _ (some 26) _=_
          simp only [Act.put,List.setIfInBounds_toArray,List.set_cons_zero,List.set_cons_succ,i64_w,i32_w]
          rfl
         refine one_ (i:=9) (N:=some 27) #[true,true,true,true,true,true,true,true,true,true,false,false] rfl rfl (one_of HT_.out (by kernel_rfl)) (by decide) (fun K hK=>?_)
         refine value_ (w1:=?_) (v:=?_) (by rfl) rfl ?_ ?_
         rotate_left 2
         ·go_simp
          constructor
          ·rfl
          ·rfl
         refine hK.out _ _ ⟨(blk_cell (blk_alloc BK268.out _) 0).trans rfl,(blk_cell (blk_alloc BK268.out _) 1).trans rfl,(blk_cell (blk_alloc BK268.out _) 2).trans rfl,(blk_cell (blk_alloc BK268.out _) 3).trans rfl,(World.cell?_alloc_lt _ _ _ (World.block_lt_of_cell? _ _ (((HB.out.cell (World.block_lt_of_cell? w _ hw272_0)).trans hw272_0)))).trans (((HB.out.cell (World.block_lt_of_cell? w _ hw272_0)).trans hw272_0))⟩ (fun hHeld=>?_)
         clear hK K
         refine norm_ (a':=?_) ?_ ?_
         rotate_left
         ·show Act.put _ (some 27) _=_
          simp only [Act.put,List.setIfInBounds_toArray,List.set_cons_zero,List.set_cons_succ,i64_w,i32_w]
          rfl
         refine one_ (i:=10) (N:=some 28) #[true,true,true,true,true,true,true,true,true,true,true,false] rfl rfl (one_of HT_.out (by kernel_rfl)) (by decide) (fun K hK=>?_)
         refine Kd.N_append_step (Kd.slice 33 (Kd.slice 31 k31)) (w0:=w) w.heap.size (by rfl) (.tmp 18) (.tmp 27) 27 28 (.slice none 0 0) 24 rfl Try.underlying27 info28 rfl (by decide) (by omega) u5 x5_1 t276 [.slice Ao19 t276.length co19] (fun k_=>(w.heap.size≤k_)∧k_≠gb268) (fun k_=>((fun k_=>(w.heap.size≤k_)∧k_≠gb268)) k_∧some k_≠(u5 : Value).ownBlock) rfl rfl ?aP (fun _ hk=>hk) ?aF ?aO ?aB ?aS ?aL ?_
         (case aP=>exact (Kd.FK_slice_mk (Kd.N_reads' (Kd.N_mono (ok':=(fun k_=>((fun k_=>(w.heap.size≤k_)∧k_≠gb268)) k_∧some k_≠(u5 : Value).ownBlock)) (HO278.out) (fun k_ hk=>⟨⟨hk.1,hk.2.2⟩,hk.2.1⟩))).2.1 (Kd.N_F (Kd.N_mono (ok':=(fun k_=>((fun k_=>(w.heap.size≤k_)∧k_≠gb268)) k_∧some k_≠(u5 : Value).ownBlock)) (HO278.out) (fun k_ hk=>⟨⟨hk.1,hk.2.2⟩,hk.2.1⟩)))))
         (case aB=>exact (below_go HB.out))
         (case aF=>exact (fun k_ hk=>⟨(Nat.le_trans (below_size (below_go HB.out)) hk),Kd.freshB (blk_up BK268.out) k_ hk⟩))
         (case aO=>exact (N_upm HO_5.out (fun _ hk=>⟨hk.1.1.1,hk.1.1.2⟩)))
         (case aS=>exact (below_size (below_go HB.out)))
         (case aL=>have:=LMc13.out;omega)
         intro v280 w18 ho hb hg hat
         rw [← Ny279.out] at ho
         have n0_:=Aside0.mk (blk_grown (blk_up BK268.out) hg (Kd.N_ne HO_5.out BK268.out (by decide)))
         have n1_:=Aside0.mk (Kd.N_afterv (ok:=(fun k_=>(w.heap.size≤k_)∧some k_≠(.slice Ao19 t276.length co19 : Value).ownBlock∧k_≠gb268)) (N_upm HO275.out (fun _ hk=>⟨⟨hk.1.1,⟨hk.2,hk.1.2.2⟩⟩,hk.1.2.1⟩)) hg hat)
         have n2_:=Aside0.mk (hb)
         have n3_:=Aside0.mk (ho)
         clear BK268
         clear HO275
         clear HB
         clear HO_5
         clear HO278
         have BK268:=n0_
         have HO275:=n1_
         have HB:=n2_
         have HO281:=n3_
         clear n0_ n1_ n2_ n3_
         clear ho hb hg hat
         refine hK.out _ _ ⟨(blk_cell BK268.out 0).trans rfl,(blk_cell BK268.out 1).trans rfl,(blk_cell BK268.out 2).trans rfl,(blk_cell BK268.out 3).trans rfl,((HB.out.cell (World.block_lt_of_cell? w _ hw272_0)).trans hw272_0)⟩ (fun hHeld=>?_)
         clear hK K
         refine norm_ (a':=?_) ?_ ?_
         rotate_left
         ·show Act.put _ (some 28) _=_
          simp only [Act.put,List.setIfInBounds_toArray,List.set_cons_zero,List.set_cons_succ,i64_w,i32_w]
          rfl
         refine pure_ (i:=11) (N:=some 5) (v:=?_) (a':=?_) #[true,true,true,true,true,true,true,true,true,true,true,true] rfl rfl (any_of HT_.out (by kernel_rfl)) (fun _ _ _ h=>h) (Or.inl ⟨by rfl,?_⟩) ?_ ?_
         rotate_left;(intro w';go_simp;with_reducible rfl);rotate_left;(simp only [Act.put,List.setIfInBounds_toArray,List.set_cons_zero,List.set_cons_succ,i64_w,i32_w];rfl)
         refine done_ (done_of HT_.out (by kernel_rfl)) ?_
         (try clear hHeld)
         try go_wp2
         go_roundg kj5
         case measure=>have:=HK1.out;have:=HJ5.out;omega
         case rel=>exact ⟨(y279),(wrap64 (x6_1 + 1)),(by first|rfl|(simp;done)|(simp [*];done)),(by first|exact H'|(subst_vars;exact H')),⟨by have:=HK1.out;have:=HJ5.out;omega⟩,⟨by (with_reducible repeat (first|apply Kd.N_alloc|apply Kd.N_drewN|apply Kd.N_drew));exact HO281.out⟩,⟨by (with_reducible repeat (first|refine blk_drewN ?_ _|refine blk_drew ?_|refine blk_alloc ?_ _));exact BK268.out⟩,⟨by repeat (first|(with_reducible first|exact HB.out|apply below_alloc|apply pw_below_drewN|apply below_drew1|refine below_set ?_ GE268.out)|exact HB.out)⟩⟩
        ·rw [if_neg c13] at H
         exact absurd H (by simp)
       ·rw [if_neg c10] at H
        exact absurd H (by simp)
      ·rw [if_neg c9] at H
       exact absurd H (by simp)
     ·replace c8:=Bool.eq_false_iff.mpr c8
      subst c8
      have H1 : (some x5_1)=some r:=by rw [if_neg (show ¬ (false=true) by decide)] at H;exact H
      clear H
      have H:=H1
      clear H1
      obtain rfl:=Option.some.inj H
      go_wp2
      go_ret
      exact ⟨_,by first|rfl|(simp [errW_none,errW_some] <;> rfl)|(simp [*,errW_none,errW_some] <;> rfl),by (with_reducible repeat (first|apply Kd.N_alloc|apply Kd.N_drewN|apply Kd.N_drew));exact Kd.N_mono HO_5.out (fun _ hk=>hk.1),by repeat (first|(with_reducible first|exact HB.out|apply below_alloc|apply pw_below_drewN|apply below_drew1|refine below_set ?_ GE268.out)|exact HB.out)⟩
def thresherref04_One.l0 : Nat→List (S31)→List (S31)→Int→Option (Bool)
 | 0,_,_,_=>none
 | k + 1,x0,x1,x5=>if x5 < (x0.length : Int) then (if 0≤x5 then (if x5 < (x1.length : Int) then (if (!(((rd_T31 x0 x5).f0) == ((rd_T31 x1 x5).f0)) || (!((((rd_T31 x0 x5).f1).toList) == (((rd_T31 x1 x5).f1).toList))))=true then (some false) else (thresherref04_One.l0 k x0 x1 (wrap64 (x5 + 1)))) else (none)) else (none)) else (some true)
def thresherref04_One.f (k : Nat) (l0 : List (S31)) (l1 : List (S31)) : Option (Bool):=if (l0.length : Int)=(l1.length : Int) then (thresherref04_One.l0 k l0 l1 0) else (some false)
theorem thresherref04_One.mono_l : ∀ k,(∀ y0 y1 y2,LeO (thresherref04_One.l0 k y0 y1 y2) (thresherref04_One.l0 (k + 1) y0 y1 y2))
 | 0=>fun _ _ _ r h=>by simp [thresherref04_One.l0] at h
 | k + 1=>by
  have ih0:=thresherref04_One.mono_l k
  ·intro y0 y1 y2
   unfold thresherref04_One.l0
   repeat' first
   | (with_reducible exact ih0 _ _ _)
   | (with_reducible exact LeO.refl _)
   | (with_reducible exact LeO.none _)
   | (with_reducible refine LeO.ite ?_ ?_)
   | (with_reducible refine LeO.bind ?_ (fun _=>?_))
   | exact ih0 _ _ _
   | exact LeO.none _
   | refine LeO.ite ?_ ?_
   | refine LeO.bind ?_ (fun _=>?_)
theorem thresherref04_One.mono : ∀ a0 a1 k,LeO (thresherref04_One.f k a0 a1) (thresherref04_One.f (k + 1) a0 a1):=by
 intro a0 a1 k
 have ih0:=thresherref04_One.mono_l k
 unfold thresherref04_One.f
 repeat' first
   | (with_reducible exact ih0 _ _ _)
   | (with_reducible exact LeO.refl _)
   | (with_reducible exact LeO.none _)
   | (with_reducible refine LeO.ite ?_ ?_)
   | (with_reducible refine LeO.bind ?_ (fun _=>?_))
   | exact ih0 _ _ _
   | exact LeO.none _
   | refine LeO.ite ?_ ?_
   | refine LeO.bind ?_ (fun _=>?_)
set_option maxHeartbeats 8000000 in
set_option maxRecDepth 100000 in
theorem thresherref04_One.calls (k : Nat) (A0 : Option Addr) (c0 : Nat) (l0 : List (S31)) (A1 : Option Addr) (c1 : Nat) (l1 : List (S31)) (r : Bool) (w : World) (hr0 : Kd.C k31 w A0 l0.length l0) (hc0 : l0.length≤c0) (hr1 : Kd.C k31 w A1 l1.length l1) (hc1 : l1.length≤c1) (h : thresherref04_One.f k l0 l1=some r) :
  Calls Try.prog 24 #[.slice A0 l0.length c0,.slice A1 l1.length c1] w fun e w'=>e=.returned (.bool r)∧Drawn0 w w':=by
 have hu31:=Try.underlying31
 have HR0:=Aside0.mk hr0
 have HC0:=Aside0.mk hc0
 clear hr0 hc0
 have HR1:=Aside0.mk hr1
 have HC1:=Aside0.mk hc1
 clear hr1 hc1
 have H : (if (l0.length : Int)=(l1.length : Int) then (thresherref04_One.l0 k l0 l1 0) else (some false))=some r:=h
 clear h
 by_cases c3 : (l0.length : Int)=(l1.length : Int)
 ·rw [if_pos c3] at H
  have c3b0 : ((l0.length : Int) == (l1.length : Int))=true:=beq_iff_eq.mpr c3
  have c3b1 : ((l0.length : Int) != (l1.length : Int))=false:=bne_eq_false_iff_eq.mpr c3
  have c3b2 : (l0.length == l1.length)=true:=by first|simpa using c3|(simp at c3 ⊢;omega)
  clear c3
  have H':=Aside0.mk H
  clear H
  go_enter Try.func24,Try.ntmps24
  go_wp2
  repeat (go_quiet (fail);try go_wp2)
  go_loopg [5] k (fun kq v5 w'=>∃ (x5_1 : Int),v5=.int .i64 x5_1∧Aside0 (thresherref04_One.l0 kq l0 l1 x5_1=some r)∧Aside0 (kq≤k)∧Drawn0 w w')
  case atStart=>exact ⟨(0),(by first|rfl|(simp;done)|(simp [*];done)),H',⟨Nat.le_refl _⟩,by repeat (first|exact Drawn0.refl _|apply Drawn0.step)⟩
  case round =>
   clear H'
   try clear c1
   try clear c2
   try clear p2
   try clear c3
   try clear c3b0
   try clear c3b1
   try clear c3b2
   obtain ⟨x5_1,rfl,HA,HK1,⟨m1,rfl⟩⟩:=hrel
   cases gk with
   | zero=>exact absurd HA.out (by simp [thresherref04_One.l0])
   | succ k1 =>
    have H:=HA.out
    clear HA
    simp only [thresherref04_One.l0] at H
    by_cases c4 : x5_1 < (l0.length : Int)
    ·rw [if_pos c4] at H
     have c4b0 : decide (x5_1 < (l0.length : Int))=true:=decide_eq_true c4
     clear c4
     by_cases c5 : 0≤x5_1
     ·rw [if_pos c5] at H
      have c5b0 : decide (0≤x5_1)=true:=decide_eq_true c5
      clear c5
      by_cases c6 : x5_1 < (l1.length : Int)
      ·rw [if_pos c6] at H
       have c6b0 : decide (x5_1 < (l1.length : Int))=true:=decide_eq_true c6
       clear c6
       by_cases c7 : (!(((rd_T31 l0 x5_1).f0) == ((rd_T31 l1 x5_1).f0)) || (!((((rd_T31 l0 x5_1).f1).toList) == (((rd_T31 l1 x5_1).f1).toList))))=true
       ·rw [if_pos c7] at H
        have c7b0 : (!(((rd_T31 l0 x5_1).f0) == ((rd_T31 l1 x5_1).f0)) || (!((((rd_T31 l0 x5_1).f1).toList) == (((rd_T31 l1 x5_1).f1).toList))))=true:=c7
        clear c7
        obtain rfl:=Option.some.inj H
        have p282 : 0≤(x5_1 : Int):=of_decide_eq_true (by first|(with_reducible assumption)|assumption)
        have q282 : x5_1 < (l0.length : Int):=of_decide_eq_true (by first|(with_reducible assumption)|assumption)
        obtain ⟨ad282,e282,hx282_0,hx282_1⟩:=at_T31 HR0.out x5_1 p282 q282
        cases e282
        replace p282:=eq_true p282
        replace q282:=eq_true q282
        have p283 : 0≤(x5_1 : Int):=of_decide_eq_true (by first|(with_reducible assumption)|assumption)
        have q283 : x5_1 < (l1.length : Int):=of_decide_eq_true (by first|(with_reducible assumption)|assumption)
        obtain ⟨ad283,e283,hx283_0,hx283_1⟩:=at_T31 HR1.out x5_1 p283 q283
        cases e283
        replace p283:=eq_true p283
        replace q283:=eq_true q283
        go_wp2
        repeat (go_quiet (fail);try go_wp2)
        go_ret
        exact ⟨by first|rfl|(simp;done)|(simp [*];done),by repeat (first|exact Drawn0.refl _|apply Drawn0.step)⟩
       ·rw [if_neg c7] at H
        have c7b0 : (!(((rd_T31 l0 x5_1).f0) == ((rd_T31 l1 x5_1).f0)) || (!((((rd_T31 l0 x5_1).f1).toList) == (((rd_T31 l1 x5_1).f1).toList))))=false:=by simpa using c7
        clear c7
        have H':=Aside0.mk H
        clear H
        have p282 : 0≤(x5_1 : Int):=of_decide_eq_true (by first|(with_reducible assumption)|assumption)
        have q282 : x5_1 < (l0.length : Int):=of_decide_eq_true (by first|(with_reducible assumption)|assumption)
        obtain ⟨ad282,e282,hx282_0,hx282_1⟩:=at_T31 HR0.out x5_1 p282 q282
        cases e282
        replace p282:=eq_true p282
        replace q282:=eq_true q282
        have p283 : 0≤(x5_1 : Int):=of_decide_eq_true (by first|(with_reducible assumption)|assumption)
        have q283 : x5_1 < (l1.length : Int):=of_decide_eq_true (by first|(with_reducible assumption)|assumption)
        obtain ⟨ad283,e283,hx283_0,hx283_1⟩:=at_T31 HR1.out x5_1 p283 q283
        cases e283
        replace p283:=eq_true p283
        replace q283:=eq_true q283
        go_wp2
        repeat (go_quiet (fail);try go_wp2)
        go_roundg k1
        case measure=>have:=HK1.out;omega
        case rel=>exact ⟨(wrap64 (x5_1 + 1)),(by first|rfl|(simp;done)|(simp [*];done)),(by first|exact H'|(subst_vars;exact H')),⟨by have:=HK1.out;omega⟩,by repeat (first|exact Drawn0.refl _|apply Drawn0.step)⟩
      ·rw [if_neg c6] at H
       exact absurd H (by simp)
     ·rw [if_neg c5] at H
      exact absurd H (by simp)
    ·rw [if_neg c4] at H
     have c4b0 : decide (x5_1 < (l0.length : Int))=false:=decide_eq_false c4
     clear c4
     obtain rfl:=Option.some.inj H
     go_wp2
     repeat (go_quiet (fail);try go_wp2)
     go_ret
     exact ⟨by first|rfl|(simp;done)|(simp [*];done),by repeat (first|exact Drawn0.refl _|apply Drawn0.step)⟩
 ·rw [if_neg c3] at H
  have c3b0 : ((l0.length : Int) == (l1.length : Int))=false:=beq_eq_false_iff_ne.mpr c3
  have c3b1 : ((l0.length : Int) != (l1.length : Int))=true:=bne_iff_ne.mpr c3
  have c3b2 : (l0.length == l1.length)=false:=by first|simpa using c3|(simp at c3 ⊢;omega)
  obtain rfl:=Option.some.inj H
  go_enter Try.func24,Try.ntmps24
  go_wp2
  repeat (go_quiet (fail);try go_wp2)
  go_ret
  exact ⟨by first|rfl|(simp;done)|(simp [*];done),by repeat (first|exact Drawn0.refl _|apply Drawn0.step)⟩
def thresherref04_Rows.l0 : Nat→List (List (S31))→List (List (S31))→Int→Option (Bool)
 | 0,_,_,_=>none
 | k + 1,x0,x1,x5=>if x5 < (x0.length : Int) then (if 0≤x5 then (if x5 < (x1.length : Int) then ((thresherref04_One.f k (rd_L3 x0 x5) (rd_L3 x1 x5)).bind fun t286=>(if t286=true then (thresherref04_Rows.l0 k x0 x1 (wrap64 (x5 + 1))) else (some false))) else (none)) else (none)) else (some true)
def thresherref04_Rows.f (k : Nat) (l0 : List (List (S31))) (l1 : List (List (S31))) : Option (Bool):=if (l0.length : Int)=(l1.length : Int) then (thresherref04_Rows.l0 k l0 l1 0) else (some false)
theorem thresherref04_Rows.mono_l : ∀ k,(∀ y0 y1 y2,LeO (thresherref04_Rows.l0 k y0 y1 y2) (thresherref04_Rows.l0 (k + 1) y0 y1 y2))
 | 0=>fun _ _ _ r h=>by simp [thresherref04_Rows.l0] at h
 | k + 1=>by
  have ih0:=thresherref04_Rows.mono_l k
  ·intro y0 y1 y2
   unfold thresherref04_Rows.l0
   repeat' first
   | (with_reducible exact ih0 _ _ _)
   | (with_reducible exact thresherref04_One.mono _ _ _)
   | (with_reducible exact LeO.refl _)
   | (with_reducible exact LeO.none _)
   | (with_reducible refine LeO.ite ?_ ?_)
   | (with_reducible refine LeO.bind ?_ (fun _=>?_))
   | exact ih0 _ _ _
   | exact thresherref04_One.mono _ _ _
   | exact LeO.none _
   | refine LeO.ite ?_ ?_
   | refine LeO.bind ?_ (fun _=>?_)
theorem thresherref04_Rows.mono : ∀ a0 a1 k,LeO (thresherref04_Rows.f k a0 a1) (thresherref04_Rows.f (k + 1) a0 a1):=by
 intro a0 a1 k
 have ih0:=thresherref04_Rows.mono_l k
 unfold thresherref04_Rows.f
 repeat' first
   | (with_reducible exact ih0 _ _ _)
   | (with_reducible exact thresherref04_One.mono _ _ _)
   | (with_reducible exact LeO.refl _)
   | (with_reducible exact LeO.none _)
   | (with_reducible refine LeO.ite ?_ ?_)
   | (with_reducible refine LeO.bind ?_ (fun _=>?_))
   | exact ih0 _ _ _
   | exact thresherref04_One.mono _ _ _
   | exact LeO.none _
   | refine LeO.ite ?_ ?_
   | refine LeO.bind ?_ (fun _=>?_)
set_option maxHeartbeats 8000000 in
set_option maxRecDepth 100000 in
theorem thresherref04_Rows.calls (k : Nat) (A0 : Option Addr) (c0 : Nat) (l0 : List (List (S31))) (A1 : Option Addr) (c1 : Nat) (l1 : List (List (S31))) (r : Bool) (w : World) (hr0 : Kd.C (Kd.slice 31 k31) w A0 l0.length l0) (hc0 : l0.length≤c0) (hr1 : Kd.C (Kd.slice 31 k31) w A1 l1.length l1) (hc1 : l1.length≤c1) (h : thresherref04_Rows.f k l0 l1=some r) :
  Calls Try.prog 12 #[.slice A0 l0.length c0,.slice A1 l1.length c1] w fun e w'=>e=.returned (.bool r)∧Drawn0 w w':=by
 have HR0:=Aside0.mk hr0
 have HC0:=Aside0.mk hc0
 clear hr0 hc0
 have HR1:=Aside0.mk hr1
 have HC1:=Aside0.mk hc1
 clear hr1 hc1
 have H : (if (l0.length : Int)=(l1.length : Int) then (thresherref04_Rows.l0 k l0 l1 0) else (some false))=some r:=h
 clear h
 by_cases c3 : (l0.length : Int)=(l1.length : Int)
 ·rw [if_pos c3] at H
  have c3b0 : ((l0.length : Int) == (l1.length : Int))=true:=beq_iff_eq.mpr c3
  have c3b1 : ((l0.length : Int) != (l1.length : Int))=false:=bne_eq_false_iff_eq.mpr c3
  have c3b2 : (l0.length == l1.length)=true:=by first|simpa using c3|(simp at c3 ⊢;omega)
  clear c3
  have H':=Aside0.mk H
  clear H
  go_enter Try.func12,Try.ntmps12
  go_wp2
  repeat (go_quiet (fail);try go_wp2)
  go_loopg [5] k (fun kq v5 w'=>∃ (x5_1 : Int),v5=.int .i64 x5_1∧Aside0 (thresherref04_Rows.l0 kq l0 l1 x5_1=some r)∧Aside0 (kq≤k)∧Drawn0 w w')
  case atStart=>exact ⟨(0),(by first|rfl|(simp;done)|(simp [*];done)),H',⟨Nat.le_refl _⟩,by repeat (first|exact Drawn0.refl _|apply Drawn0.step)⟩
  case round =>
   clear H'
   try clear c1
   try clear p2
   try clear c3
   try clear c3b0
   try clear c3b1
   try clear c3b2
   obtain ⟨x5_1,rfl,HA,HK1,⟨m1,rfl⟩⟩:=hrel
   cases gk with
   | zero=>exact absurd HA.out (by simp [thresherref04_Rows.l0])
   | succ k1 =>
    have H:=HA.out
    clear HA
    simp only [thresherref04_Rows.l0] at H
    by_cases c4 : x5_1 < (l0.length : Int)
    ·rw [if_pos c4] at H
     have c4b0 : decide (x5_1 < (l0.length : Int))=true:=decide_eq_true c4
     clear c4
     by_cases c5 : 0≤x5_1
     ·rw [if_pos c5] at H
      have c5b0 : decide (0≤x5_1)=true:=decide_eq_true c5
      clear c5
      by_cases c6 : x5_1 < (l1.length : Int)
      ·rw [if_pos c6] at H
       have c6b0 : decide (x5_1 < (l1.length : Int))=true:=decide_eq_true c6
       clear c6
       replace H:=Option.bind_eq_some_iff.mp H
       obtain ⟨t286,A70,H⟩:=H
       replace H : (if t286=true then (thresherref04_Rows.l0 k1 l0 l1 (wrap64 (x5_1 + 1))) else (some false))=some r:=H
       have A7:=Aside0.mk A70
       clear A70
       by_cases c8 : t286=true
       ·subst c8
        have H1 : (thresherref04_Rows.l0 k1 l0 l1 (wrap64 (x5_1 + 1)))=some r:=by rw [if_pos rfl] at H;exact H
        clear H
        have H:=H1
        clear H1
        have H':=Aside0.mk H
        clear H
        have p284 : 0≤(x5_1 : Int):=of_decide_eq_true (by first|(with_reducible assumption)|assumption)
        have q284 : x5_1 < (l0.length : Int):=of_decide_eq_true (by first|(with_reducible assumption)|assumption)
        obtain ⟨ad284,A284_0,c284_0,e284,hx284_0,hl284_0,hi284_0⟩:=at_L3 HR0.out x5_1 p284 q284
        cases e284
        have HR284_0:=Aside0.mk hi284_0
        have HC284_0:=Aside0.mk hl284_0
        clear hi284_0 hl284_0
        replace p284:=eq_true p284
        replace q284:=eq_true q284
        have p285 : 0≤(x5_1 : Int):=of_decide_eq_true (by first|(with_reducible assumption)|assumption)
        have q285 : x5_1 < (l1.length : Int):=of_decide_eq_true (by first|(with_reducible assumption)|assumption)
        obtain ⟨ad285,A285_0,c285_0,e285,hx285_0,hl285_0,hi285_0⟩:=at_L3 HR1.out x5_1 p285 q285
        cases e285
        have HR285_0:=Aside0.mk hi285_0
        have HC285_0:=Aside0.mk hl285_0
        clear hi285_0 hl285_0
        replace p285:=eq_true p285
        replace q285:=eq_true q285
        go_wp2_with (first|(go_at_call 24;(with_reducible refine (thresherref04_One.calls k1 _ _ (rd_L3 l0 x5_1) _ _ (rd_L3 l1 x5_1) true _ ?side1 ?side2 ?side3 ?side4 A7.out).mono ?_);(case side1=>repeat (first|exact HR284_0.out|(with_reducible refine Kd.C_alloc ?_ _)|(with_reducible refine Kd.C_drewN ?_ _)|(with_reducible refine Kd.C_drew ?_)));(case side2=>exact HC284_0.out);(case side3=>repeat (first|exact HR285_0.out|(with_reducible refine Kd.C_alloc ?_ _)|(with_reducible refine Kd.C_drewN ?_ _)|(with_reducible refine Kd.C_drew ?_)));(case side4=>exact HC285_0.out);rintro e w' ⟨rfl,⟨nd,rfl⟩⟩;(try first|exact ⟨rfl,_,World.drewN_drewN _ _ _⟩|exact ⟨rfl,_,Eq.trans (World.drewN_drewN _ _ _) (congrArg (World.drewN _) (Nat.add_assoc _ _ _))⟩)))
        repeat (go_quiet (first|(go_at_call 24;(with_reducible refine (thresherref04_One.calls k1 _ _ (rd_L3 l0 x5_1) _ _ (rd_L3 l1 x5_1) true _ ?side1 ?side2 ?side3 ?side4 A7.out).mono ?_);(case side1=>repeat (first|exact HR284_0.out|(with_reducible refine Kd.C_alloc ?_ _)|(with_reducible refine Kd.C_drewN ?_ _)|(with_reducible refine Kd.C_drew ?_)));(case side2=>exact HC284_0.out);(case side3=>repeat (first|exact HR285_0.out|(with_reducible refine Kd.C_alloc ?_ _)|(with_reducible refine Kd.C_drewN ?_ _)|(with_reducible refine Kd.C_drew ?_)));(case side4=>exact HC285_0.out);rintro e w' ⟨rfl,⟨nd,rfl⟩⟩;(try first|exact ⟨rfl,_,World.drewN_drewN _ _ _⟩|exact ⟨rfl,_,Eq.trans (World.drewN_drewN _ _ _) (congrArg (World.drewN _) (Nat.add_assoc _ _ _))⟩)));try go_wp2_with (first|(go_at_call 24;(with_reducible refine (thresherref04_One.calls k1 _ _ (rd_L3 l0 x5_1) _ _ (rd_L3 l1 x5_1) true _ ?side1 ?side2 ?side3 ?side4 A7.out).mono ?_);(case side1=>repeat (first|exact HR284_0.out|(with_reducible refine Kd.C_alloc ?_ _)|(with_reducible refine Kd.C_drewN ?_ _)|(with_reducible refine Kd.C_drew ?_)));(case side2=>exact HC284_0.out);(case side3=>repeat (first|exact HR285_0.out|(with_reducible refine Kd.C_alloc ?_ _)|(with_reducible refine Kd.C_drewN ?_ _)|(with_reducible refine Kd.C_drew ?_)));(case side4=>exact HC285_0.out);rintro e w' ⟨rfl,⟨nd,rfl⟩⟩;(try first|exact ⟨rfl,_,World.drewN_drewN _ _ _⟩|exact ⟨rfl,_,Eq.trans (World.drewN_drewN _ _ _) (congrArg (World.drewN _) (Nat.add_assoc _ _ _))⟩))))
        go_roundg k1
        case measure=>have:=HK1.out;omega
        case rel=>exact ⟨(wrap64 (x5_1 + 1)),(by first|rfl|(simp;done)|(simp [*];done)),(by first|exact H'|(subst_vars;exact H')),⟨by have:=HK1.out;omega⟩,by repeat (first|exact Drawn0.refl _|apply Drawn0.step)⟩
       ·replace c8:=Bool.eq_false_iff.mpr c8
        subst c8
        have H1 : (some false)=some r:=by rw [if_neg (show ¬ (false=true) by decide)] at H;exact H
        clear H
        have H:=H1
        clear H1
        obtain rfl:=Option.some.inj H
        have p284 : 0≤(x5_1 : Int):=of_decide_eq_true (by first|(with_reducible assumption)|assumption)
        have q284 : x5_1 < (l0.length : Int):=of_decide_eq_true (by first|(with_reducible assumption)|assumption)
        obtain ⟨ad284,A284_0,c284_0,e284,hx284_0,hl284_0,hi284_0⟩:=at_L3 HR0.out x5_1 p284 q284
        cases e284
        have HR284_0:=Aside0.mk hi284_0
        have HC284_0:=Aside0.mk hl284_0
        clear hi284_0 hl284_0
        replace p284:=eq_true p284
        replace q284:=eq_true q284
        have p285 : 0≤(x5_1 : Int):=of_decide_eq_true (by first|(with_reducible assumption)|assumption)
        have q285 : x5_1 < (l1.length : Int):=of_decide_eq_true (by first|(with_reducible assumption)|assumption)
        obtain ⟨ad285,A285_0,c285_0,e285,hx285_0,hl285_0,hi285_0⟩:=at_L3 HR1.out x5_1 p285 q285
        cases e285
        have HR285_0:=Aside0.mk hi285_0
        have HC285_0:=Aside0.mk hl285_0
        clear hi285_0 hl285_0
        replace p285:=eq_true p285
        replace q285:=eq_true q285
        go_wp2_with (first|(go_at_call 24;(with_reducible refine (thresherref04_One.calls k1 _ _ (rd_L3 l0 x5_1) _ _ (rd_L3 l1 x5_1) false _ ?side1 ?side2 ?side3 ?side4 A7.out).mono ?_);(case side1=>repeat (first|exact HR284_0.out|(with_reducible refine Kd.C_alloc ?_ _)|(with_reducible refine Kd.C_drewN ?_ _)|(with_reducible refine Kd.C_drew ?_)));(case side2=>exact HC284_0.out);(case side3=>repeat (first|exact HR285_0.out|(with_reducible refine Kd.C_alloc ?_ _)|(with_reducible refine Kd.C_drewN ?_ _)|(with_reducible refine Kd.C_drew ?_)));(case side4=>exact HC285_0.out);rintro e w' ⟨rfl,⟨nd,rfl⟩⟩;(try first|exact ⟨rfl,_,World.drewN_drewN _ _ _⟩|exact ⟨rfl,_,Eq.trans (World.drewN_drewN _ _ _) (congrArg (World.drewN _) (Nat.add_assoc _ _ _))⟩)))
        repeat (go_quiet (first|(go_at_call 24;(with_reducible refine (thresherref04_One.calls k1 _ _ (rd_L3 l0 x5_1) _ _ (rd_L3 l1 x5_1) false _ ?side1 ?side2 ?side3 ?side4 A7.out).mono ?_);(case side1=>repeat (first|exact HR284_0.out|(with_reducible refine Kd.C_alloc ?_ _)|(with_reducible refine Kd.C_drewN ?_ _)|(with_reducible refine Kd.C_drew ?_)));(case side2=>exact HC284_0.out);(case side3=>repeat (first|exact HR285_0.out|(with_reducible refine Kd.C_alloc ?_ _)|(with_reducible refine Kd.C_drewN ?_ _)|(with_reducible refine Kd.C_drew ?_)));(case side4=>exact HC285_0.out);rintro e w' ⟨rfl,⟨nd,rfl⟩⟩;(try first|exact ⟨rfl,_,World.drewN_drewN _ _ _⟩|exact ⟨rfl,_,Eq.trans (World.drewN_drewN _ _ _) (congrArg (World.drewN _) (Nat.add_assoc _ _ _))⟩)));try go_wp2_with (first|(go_at_call 24;(with_reducible refine (thresherref04_One.calls k1 _ _ (rd_L3 l0 x5_1) _ _ (rd_L3 l1 x5_1) false _ ?side1 ?side2 ?side3 ?side4 A7.out).mono ?_);(case side1=>repeat (first|exact HR284_0.out|(with_reducible refine Kd.C_alloc ?_ _)|(with_reducible refine Kd.C_drewN ?_ _)|(with_reducible refine Kd.C_drew ?_)));(case side2=>exact HC284_0.out);(case side3=>repeat (first|exact HR285_0.out|(with_reducible refine Kd.C_alloc ?_ _)|(with_reducible refine Kd.C_drewN ?_ _)|(with_reducible refine Kd.C_drew ?_)));(case side4=>exact HC285_0.out);rintro e w' ⟨rfl,⟨nd,rfl⟩⟩;(try first|exact ⟨rfl,_,World.drewN_drewN _ _ _⟩|exact ⟨rfl,_,Eq.trans (World.drewN_drewN _ _ _) (congrArg (World.drewN _) (Nat.add_assoc _ _ _))⟩))))
        go_ret
        exact ⟨by first|rfl|(simp;done)|(simp [*];done),by repeat (first|exact Drawn0.refl _|apply Drawn0.step)⟩
      ·rw [if_neg c6] at H
       exact absurd H (by simp)
     ·rw [if_neg c5] at H
      exact absurd H (by simp)
    ·rw [if_neg c4] at H
     have c4b0 : decide (x5_1 < (l0.length : Int))=false:=decide_eq_false c4
     clear c4
     obtain rfl:=Option.some.inj H
     go_wp2
     repeat (go_quiet (fail);try go_wp2)
     go_ret
     exact ⟨by first|rfl|(simp;done)|(simp [*];done),by repeat (first|exact Drawn0.refl _|apply Drawn0.step)⟩
 ·rw [if_neg c3] at H
  have c3b0 : ((l0.length : Int) == (l1.length : Int))=false:=beq_eq_false_iff_ne.mpr c3
  have c3b1 : ((l0.length : Int) != (l1.length : Int))=true:=bne_iff_ne.mpr c3
  have c3b2 : (l0.length == l1.length)=false:=by first|simpa using c3|(simp at c3 ⊢;omega)
  obtain rfl:=Option.some.inj H
  go_enter Try.func12,Try.ntmps12
  go_wp2
  repeat (go_quiet (fail);try go_wp2)
  go_ret
  exact ⟨by first|rfl|(simp;done)|(simp [*];done),by repeat (first|exact Drawn0.refl _|apply Drawn0.step)⟩
def thresherref14_Rows.l0 : Nat→List (List (List (S31)))→List (List (S31))→Int→List Int→Int→Int→Int→Option ((List (List (S31))))
 | 0,_,_,_,_,_,_,_=>none
 | k + 1,x1,x5,x6,x288000,x288001,x288002,x288003=>if x6 < (x1.length : Int) then (if 0≤x6 then (if x5.length + (rd_L4 x1 x6).length < 5864062014805 then (thresherref14_Rows.l0 k x1 (x5 ++ (rd_L4 x1 x6)) (wrap64 (x6 + 1)) x288000 x288001 x288002 x288003) else (none)) else (none)) else ((thresherref09_Sort.f k x288000 x288001 x288002 x288003 x5).bind fun t295=>(some t295))
def thresherref14_Rows.f (k : Nat) (l0_0 : List Int) (a0_1 : Int) (a0_2 : Int) (a0_3 : Int) (l1 : List (List (List (S31)))) : Option ((List (List (S31)))):=thresherref14_Rows.l0 k l1 (([] : List (List (S31)))) 0 l0_0 a0_1 a0_2 a0_3
theorem thresherref14_Rows.mono_l : ∀ k,(∀ y0 y1 y2 y3 y4 y5 y6,LeO (thresherref14_Rows.l0 k y0 y1 y2 y3 y4 y5 y6) (thresherref14_Rows.l0 (k + 1) y0 y1 y2 y3 y4 y5 y6))
 | 0=>fun _ _ _ _ _ _ _ r h=>by simp [thresherref14_Rows.l0] at h
 | k + 1=>by
  have ih0:=thresherref14_Rows.mono_l k
  ·intro y0 y1 y2 y3 y4 y5 y6
   unfold thresherref14_Rows.l0
   repeat' first
   | (with_reducible exact ih0 _ _ _ _ _ _ _)
   | (with_reducible exact thresherref09_Sort.mono _ _ _ _ _ _)
   | (with_reducible exact LeO.refl _)
   | (with_reducible exact LeO.none _)
   | (with_reducible refine LeO.ite ?_ ?_)
   | (with_reducible refine LeO.bind ?_ (fun _=>?_))
   | exact ih0 _ _ _ _ _ _ _
   | exact thresherref09_Sort.mono _ _ _ _ _ _
   | exact LeO.none _
   | refine LeO.ite ?_ ?_
   | refine LeO.bind ?_ (fun _=>?_)
theorem thresherref14_Rows.mono : ∀ a0 a1 a2 a3 a4 k,LeO (thresherref14_Rows.f k a0 a1 a2 a3 a4) (thresherref14_Rows.f (k + 1) a0 a1 a2 a3 a4):=by
 intro a0 a1 a2 a3 a4 k
 have ih0:=thresherref14_Rows.mono_l k
 unfold thresherref14_Rows.f
 repeat' first
   | (with_reducible exact ih0 _ _ _ _ _ _ _)
   | (with_reducible exact thresherref09_Sort.mono _ _ _ _ _ _)
   | (with_reducible exact LeO.refl _)
   | (with_reducible exact LeO.none _)
   | (with_reducible refine LeO.ite ?_ ?_)
   | (with_reducible refine LeO.bind ?_ (fun _=>?_))
   | exact ih0 _ _ _ _ _ _ _
   | exact thresherref09_Sort.mono _ _ _ _ _ _
   | exact LeO.none _
   | refine LeO.ite ?_ ?_
   | refine LeO.bind ?_ (fun _=>?_)
set_option maxHeartbeats 8000000 in
set_option maxRecDepth 100000 in
theorem thresherref14_Rows.calls (k : Nat) (A0_0 : Option Addr) (c0_0 : Nat) (l0_0 : List Int) (a0_1 : Int) (a0_2 : Int) (a0_3 : Int) (P1_ : Nat→Prop) (A1 : Option Addr) (c1 : Nat) (l1 : List (List (List (S31)))) (r : List (List (S31))) (w : World) (hr0_0 : Kd.C (Kd.int .i64) w A0_0 l0_0.length l0_0) (hc0_0 : l0_0.length≤c0_0) (hs1 : Kd.V (Kd.slice 33 (Kd.slice 31 k31)) 28 w w.heap.size (fun k_=>P1_ k_) (.slice A1 l1.length c1) l1) (h : thresherref14_Rows.f k l0_0 a0_1 a0_2 a0_3 l1=some r) :
  Calls Try.prog 13 #[.agg #[.slice A0_0 l0_0.length c0_0,.int .i64 a0_1,.int .i64 a0_2,.int .i64 a0_3],.slice A1 l1.length c1] w fun e w'=>∃ v0_ : Value,e=.returned (v0_)∧Kd.N (Kd.slice 31 k31) 33 w' w.heap.size (fun k_=>(P1_ k_ ∨ w.heap.size≤k_)) v0_ r∧Below w.heap.size w w':=by
 have hu26:=Try.underlying26
 have HR0_0:=Aside0.mk hr0_0
 have HC0_0:=Aside0.mk hc0_0
 clear hr0_0 hc0_0
 have HO1:=Aside0.mk (show Kd.V (Kd.slice 33 (Kd.slice 31 k31)) 28 w w.heap.size (fun k_=>(P1_ k_ ∨ w.heap.size≤k_)) (.slice A1 l1.length c1) l1 from Kd.V_mono hs1 (fun k_ hk=>.inl hk))
 have HB:=Aside0.mk (Below.refl w.heap.size w)
 have H : (thresherref14_Rows.l0 k l1 (([] : List (List (S31)))) 0 l0_0 a0_1 a0_2 a0_3)=some r:=h
 clear h
 obtain ⟨y288,hy288⟩ : ∃ y_ : List (List (S31)),y_=(([] : List (List (S31)))):=⟨_,rfl⟩
 replace H : (thresherref14_Rows.l0 k l1 y288 0 l0_0 a0_1 a0_2 a0_3)=some r:=by first|(rw [hy288];with_reducible exact H)|(have H2_:=(Option.bind_some _ _).symm.trans H;rw [hy288];with_reducible exact H2_)|(have H2_:=(Option.bind_some _ _).symm.trans H;with_reducible exact H2_)|with_reducible exact H|(rw [hy288];exact H)|exact H
 have Ny288:=Aside0.mk hy288
 clear hy288
 have H':=Aside0.mk H
 clear H
 go_enter Try.func13,Try.ntmps13
 go_wp2_with (first|((with_reducible refine gate_dst (N:=2) rfl ?_);refine box_event ?hg (N:=2) ?hd (cs:=#[.slice A0_0 l0_0.length c0_0,.int .i64 a0_1,.int .i64 a0_2,.int .i64 a0_3]) (t:=26) ?hr ?_;(case hd=>rfl);(case hg=>rfl);(case hr=>first|(go_simp;done)|(go_simp;rfl));intro gb287 hg w3 hbox hb;have n0_:=Aside0.mk (Kd.V_below (Kd.V_elderB (V_up HO1.out) gb287 (Nat.le_of_eq hg.symm)) hb);have n1_:=Aside0.mk (below_step (below_up HB.out) hb);have n2_:=Aside0.mk (hbox);have n3_:=Aside0.mk ((by rw [hg];exact (below_size (below_up HB.out)) : w.heap.size≤gb287));have n4_:=Aside0.mk ((by rw [hg];exact (below_size (below_up HB.out)) : w.heap.size≤gb287));clear HO1;clear HB;have HO1:=n0_;have HB:=n1_;have BK287:=n2_;have GW287:=n3_;have GE287:=n4_;clear n0_ n1_ n2_ n3_ n4_;clear hb hbox hg)|((with_reducible refine gate_dst (N:=7) rfl ?_);refine Kd.N_lit (Kd.slice 31 k31) _ 33 ?hg (N':=7) ?hd (xs:=([] : List (List (S31)))) (inner:=[]) (ok:=(fun k_=>(P1_ k_ ∨ w.heap.size≤k_)∧k_≠gb287)) (okp:=(fun k_=>(P1_ k_ ∨ w.heap.size≤k_)∧k_≠gb287)) ?hr ?hp (fun _ hk=>hk) ((show ∀ k_,w3.heap.size≤k_→(fun k_=>(P1_ k_ ∨ w.heap.size≤k_)∧k_≠gb287) k_ from fun k_ hk=>⟨(.inr (Nat.le_trans (below_size (below_go HB.out)) hk)),Kd.freshB (blk_up BK287.out) k_ hk⟩) _ (Nat.le_refl _)) (Below.refl _ _) (Nat.le_refl _) (by simp) ?_;(case hd=>rfl);(case hg=>rfl);(case hr=>first|(go_simp;done)|(go_simp;rfl));(case hp=>exact (Reps.none _ _));intro v289 w4 ho5 hb hg_ hnew_;clear hg_ hnew_;(first|rw [← Ny288.out] at ho5|(simp only [Int.reduceToNat] at ho5;rw [← Ny288.out] at ho5));have n0_:=Aside0.mk (Kd.V_elder' (V_up HO1.out) (Kd.N_base ho5) hb);have n1_:=Aside0.mk (Kd.N_lower ho5 (below_size (below_go HB.out)));have n2_:=Aside0.mk (blk_below (blk_up BK287.out) hb);have n3_:=Aside0.mk (below_step (below_go HB.out) hb);clear HO1;clear BK287;clear HB;have HO1:=n0_;have HO290:=n1_;have BK287:=n2_;have HB:=n3_;clear n0_ n1_ n2_ n3_;clear hb ho5))
 go_loopg [5,6] k (fun kq v5 v6 w'=>∃ (x5_1 : List (List (S31))) (x6_1 : Int),v6=.int .i64 x6_1∧Aside0 (thresherref14_Rows.l0 kq l1 x5_1 x6_1 l0_0 a0_1 a0_2 a0_3=some r)∧Aside0 (kq≤k)∧Aside0 (Kd.V (Kd.slice 33 (Kd.slice 31 k31)) 28 w' w.heap.size (fun k_=>(P1_ k_ ∨ w.heap.size≤k_)∧some k_≠(v5 : Value).ownBlock∧k_≠gb287) (.slice A1 l1.length c1) l1)∧Aside0 (Kd.N (Kd.slice 31 k31) 33 w' w.heap.size (fun k_=>(P1_ k_ ∨ w.heap.size≤k_)∧k_≠gb287) v5 x5_1)∧Aside0 (w'.heap[gb287]?=some (.cells #[(.slice A0_0 l0_0.length c0_0),.int .i64 a0_1,.int .i64 a0_2,.int .i64 a0_3] 26 (0,0)))∧Aside0 (Below w.heap.size w w'))
 case atStart=>exact ⟨(y288),(0),(by first|rfl|(simp;done)|(simp [*];done)),H',⟨Nat.le_refl _⟩,⟨by (with_reducible repeat (first|apply Kd.V_alloc|apply Kd.V_drewN|apply Kd.V_drew));exact Kd.V_mono HO1.out (fun _ hk=>⟨hk.1.1,⟨hk.2,hk.1.2⟩⟩)⟩,⟨by (with_reducible repeat (first|apply Kd.N_alloc|apply Kd.N_drewN|apply Kd.N_drew));exact HO290.out⟩,⟨by (with_reducible repeat (first|refine blk_drewN ?_ _|refine blk_drew ?_|refine blk_alloc ?_ _));exact BK287.out⟩,⟨by repeat (first|(with_reducible first|exact HB.out|apply below_alloc|apply pw_below_drewN|apply below_drew1|refine below_set ?_ GE287.out)|exact HB.out)⟩⟩
 case round =>
  clear H'
  try clear c1
  try clear p2
  obtain ⟨x5_1,x6_1,rfl,HA,HK1,HO_1,HO_5,BK287,HB⟩:=hrel
  cases gk with
  | zero=>exact absurd HA.out (by simp [thresherref14_Rows.l0])
  | succ k1 =>
   have H:=HA.out
   clear HA
   simp only [thresherref14_Rows.l0] at H
   by_cases c6 : x6_1 < (l1.length : Int)
   ·rw [if_pos c6] at H
    have c6b0 : decide (x6_1 < (l1.length : Int))=true:=decide_eq_true c6
    clear c6
    by_cases c7 : 0≤x6_1
    ·rw [if_pos c7] at H
     have c7b0 : decide (0≤x6_1)=true:=decide_eq_true c7
     clear c7
     by_cases c8 : x5_1.length + (rd_L4 l1 x6_1).length < 5864062014805
     ·rw [if_pos c8] at H
      have LMc8:=Aside0.mk c8
      clear c8
      obtain ⟨y292,hy292⟩ : ∃ y_ : List (List (S31)),y_=(x5_1 ++ (rd_L4 l1 x6_1)):=⟨_,rfl⟩
      replace H : (thresherref14_Rows.l0 k1 l1 y292 (wrap64 (x6_1 + 1)) l0_0 a0_1 a0_2 a0_3)=some r:=by first|(rw [hy292];with_reducible exact H)|(have H2_:=(Option.bind_some _ _).symm.trans H;rw [hy292];with_reducible exact H2_)|(have H2_:=(Option.bind_some _ _).symm.trans H;with_reducible exact H2_)|with_reducible exact H|(rw [hy292];exact H)|exact H
      have Ny292:=Aside0.mk hy292
      clear hy292
      have H':=Aside0.mk H
      clear H
      have p291 : 0≤(x6_1 : Int):=of_decide_eq_true (by first|(with_reducible assumption)|assumption)
      have q291 : x6_1 < (l1.length : Int):=of_decide_eq_true (by first|(with_reducible assumption)|assumption)
      obtain ⟨ad291,A291_0,c291_0,e291,hx291_0,hl291_0,hi291_0⟩:=at_L4 (Kd.V_reads' HO_1.out).2.2 x6_1 p291 q291
      cases e291
      obtain ⟨ce291,hce291,hMe291,hcc291⟩:=Kd.V_get HO_1.out [] x6_1 p291 (by first|exact q291|exact of_decide_eq_true (by first|(with_reducible assumption)|assumption)|(have e_:=(Kd.V_reads' HO_1.out).1;omega))
      obtain ⟨ua291_0,uc291_0,rfl,ul291_0,ge291_0⟩:=Kd.FK_slice_open hMe291
      have hv291_0:=hcc291 0 _ rfl
      rw [Nat.add_zero,show ((Kd.slice 33 (Kd.slice 31 k31))).sz=1 from rfl,Nat.mul_one] at hv291_0
      replace hv291_0:=Option.some.inj (hv291_0.symm.trans hx291_0)
      injection hv291_0 with hva_ hvn_ hvc_
      rw [hva_] at ge291_0
      rw [hvc_] at ul291_0
      have HL291_0:=Aside0.mk (show Kd.V (Kd.slice 31 k31) 33 _ w.heap.size _ _ (rd_L4 l1 x6_1) from Kd.V_mk ul291_0 ge291_0)
      clear hva_ hvn_ hvc_ ge291_0 ul291_0
      clear hcc291 hce291
      have HR291_0:=Aside0.mk hi291_0
      have HC291_0:=Aside0.mk hl291_0
      clear hi291_0 hl291_0
      replace p291:=eq_true p291
      replace q291:=eq_true q291
      go_wp2_with (first|((with_reducible refine gate_builtin (b:=.append) (xs:=#[.tmp 14,.tmp 18]) rfl ?_);at_builtin;refine Kd.N_append_rows (Kd.slice 31 k31) (w0:=w) w.heap.size rfl (.tmp 14) (.tmp 18) 28 33 (.slice none 0 0) 24 rfl Try.underlying28 info33 rfl (by decide) (by omega) u5 x5_1 (rd_L4 l1 x6_1) _ _ _ (fun k_=>(P1_ k_ ∨ w.heap.size≤k_)∧k_≠gb287) (fun k_=>((fun k_=>(P1_ k_ ∨ w.heap.size≤k_)∧k_≠gb287)) k_∧some k_≠(u5 : Value).ownBlock) rfl rfl ?aO ?aR (fun _ hk=>hk) ?aF ?aB ?aS ?aL ?_;(case aR=>exact (by skip;exact Kd.V_F (Kd.V_mono (ok':=(fun k_=>((fun k_=>(P1_ k_ ∨ w.heap.size≤k_)∧k_≠gb287)) k_∧some k_≠(u5 : Value).ownBlock)) (HL291_0.out) (fun k_ hk=>⟨⟨hk.1,hk.2.2⟩,hk.2.1⟩))));(case aB=>exact (below_go HB.out));(case aF=>exact (fun k_ hk=>⟨(.inr (Nat.le_trans (below_size (below_go HB.out)) hk)),Kd.freshB (blk_up BK287.out) k_ hk⟩));(case aO=>exact (N_up HO_5.out));(case aS=>exact (below_size (below_go HB.out)));(case aL=>have:=LMc8.out;omega);intro v293 w9 ho hb hg hat;rw [← Ny292.out] at ho;have n0_:=Aside0.mk (Kd.V_afterv (ok:=(fun k_=>(P1_ k_ ∨ w.heap.size≤k_)∧k_≠gb287)) (V_upm HO_1.out (fun _ hk=>⟨⟨hk.1,hk.2.2⟩,hk.2.1⟩)) hg hat);have n1_:=Aside0.mk (blk_grown (blk_up BK287.out) hg (Kd.N_ne HO_5.out BK287.out (by decide)));have n2_:=Aside0.mk (Kd.V_afterv (ok:=(fun k_=>(P1_ k_ ∨ w.heap.size≤k_)∧k_≠gb287)) (V_upm HL291_0.out (fun _ hk=>⟨⟨hk.1,hk.2.2⟩,hk.2.1⟩)) hg hat);have n3_:=Aside0.mk (hb);have n4_:=Aside0.mk (ho);clear HO_1;clear BK287;clear HL291_0;clear HB;clear HO_5;have HO_1:=n0_;have BK287:=n1_;have HL291_0:=n2_;have HB:=n3_;have HO294:=n4_;clear n0_ n1_ n2_ n3_ n4_;clear ho hb hg hat))
      go_roundg k1
      case measure=>have:=HK1.out;omega
      case rel=>exact ⟨(y292),(wrap64 (x6_1 + 1)),(by first|rfl|(simp;done)|(simp [*];done)),(by first|exact H'|(subst_vars;exact H')),⟨by have:=HK1.out;omega⟩,⟨by (with_reducible repeat (first|apply Kd.V_alloc|apply Kd.V_drewN|apply Kd.V_drew));exact Kd.V_mono HO_1.out (fun _ hk=>⟨hk.1.1,⟨hk.2,hk.1.2⟩⟩)⟩,⟨by (with_reducible repeat (first|apply Kd.N_alloc|apply Kd.N_drewN|apply Kd.N_drew));exact HO294.out⟩,⟨by (with_reducible repeat (first|refine blk_drewN ?_ _|refine blk_drew ?_|refine blk_alloc ?_ _));exact BK287.out⟩,⟨by repeat (first|(with_reducible first|exact HB.out|apply below_alloc|apply pw_below_drewN|apply below_drew1|refine below_set ?_ GE287.out)|exact HB.out)⟩⟩
     ·rw [if_neg c8] at H
      exact absurd H (by simp)
    ·rw [if_neg c7] at H
     exact absurd H (by simp)
   ·rw [if_neg c6] at H
    have c6b0 : decide (x6_1 < (l1.length : Int))=false:=decide_eq_false c6
    clear c6
    replace H:=Option.bind_eq_some_iff.mp H
    obtain ⟨t295,A100,H⟩:=H
    replace H : (some t295)=some r:=H
    have A10:=Aside0.mk A100
    clear A100
    obtain rfl:=Option.some.inj H
    have hcz11_0 : wr.cell? ⟨gb287,0,none⟩=some (.slice A0_0 l0_0.length c0_0):=(blk_cell BK287.out 0).trans rfl
    have hcz11_1 : wr.cell? ⟨gb287,1,none⟩=some (.int .i64 a0_1):=(blk_cell BK287.out 1).trans rfl
    have hcz11_2 : wr.cell? ⟨gb287,2,none⟩=some (.int .i64 a0_2):=(blk_cell BK287.out 2).trans rfl
    have hcz11_3 : wr.cell? ⟨gb287,3,none⟩=some (.int .i64 a0_3):=(blk_cell BK287.out 3).trans rfl
    have hfz11_0:=blk_frozen BK287.out 0
    have hfz11_1:=blk_frozen BK287.out 1
    have hfz11_2:=blk_frozen BK287.out 2
    have hfz11_3:=blk_frozen BK287.out 3
    obtain ⟨Ao12,co12,eo12⟩:=Kd.N_slice HO_5.out
    subst eo12
    go_wp2_with (first|((with_reducible refine gate_callee (f:=17) rfl ?_);refine goesL_ (some 22) rfl rfl Try.func17 (by kernel_rfl) rfl #[.agg #[.slice A0_0 l0_0.length c0_0,.int .i64 a0_1,.int .i64 a0_2,.int .i64 a0_3],.slice Ao12 x5_1.length co12] rfl (by (try simp only [List.map_toArray,List.map_cons,List.map_nil]);first|done|rfl|(simp only [List.length_drop,List.length_take];rfl)) ?_;(with_reducible refine (thresherref09_Sort.calls k1 _ _ l0_0 a0_1 a0_2 a0_3 (fun k_=>((P1_ k_ ∨ w.heap.size≤k_)∧k_≠gb287)) _ _ x5_1 t295 _ ?side1 ?side2 ?side3 A10.out).mono ?_);(case side1=>repeat (first|exact (Kd.C_below HR0_0.out HB.out)|(with_reducible refine Kd.C_alloc ?_ _)|(with_reducible refine Kd.C_drewN ?_ _)|(with_reducible refine Kd.C_drew ?_)));(case side2=>exact HC0_0.out);(case side3=>exact Kd.N_V (HO_5.out));rintro e w13 ⟨v296,rfl,ho0,hb⟩;refine ⟨_,rfl,?_⟩;have n0_:=Aside0.mk (Kd.V_elder' (V_up HO_1.out) (by first|exact Kd.N_base ho0|exact Kd.S_base ho0) hb);have n1_:=Aside0.mk (Kd.N_elder' (N_up HO_5.out) (by first|exact Kd.N_base ho0|exact Kd.S_base ho0) hb);have n2_:=Aside0.mk (Kd.N_lower (Kd.N_mono (ok':=fun k_=>(P1_ k_ ∨ w.heap.size≤k_)∧k_≠gb287) ho0 (fun k_ hk_=>⟨Or.elim hk_ (fun hs_=>hs_.1) (fun hn_=>(.inr (Nat.le_trans (below_size (below_go HB.out)) hn_))),Or.elim hk_ (fun hs_=>hs_.2) (fun hn_=>(Kd.freshB (blk_up BK287.out) k_ hn_))⟩)) (below_size (below_go HB.out)));have n3_:=Aside0.mk (blk_below (blk_up BK287.out) hb);have n4_:=Aside0.mk (below_step (below_go HB.out) hb);clear HO_1;clear HO_5;clear BK287;clear HB;have HO_1:=n0_;have HO_5:=n1_;have HO297:=n2_;have BK287:=n3_;have HB:=n4_;clear n0_ n1_ n2_ n3_ n4_;(try clear hb);(try clear hb2);(try clear hk);(try clear hi);(try clear ho0)))
    go_ret
    exact ⟨_,by first|rfl|(simp [errW_none,errW_some] <;> rfl)|(simp [*,errW_none,errW_some] <;> rfl),by (with_reducible repeat (first|apply Kd.N_alloc|apply Kd.N_drewN|apply Kd.N_drew));exact Kd.N_mono HO297.out (fun _ hk=>hk.1),by repeat (first|(with_reducible first|exact HB.out|apply below_alloc|apply pw_below_drewN|apply below_drew1|refine below_set ?_ GE287.out)|exact HB.out)⟩
end Go.Proofs.Ytfiandejapgkoaa.P

