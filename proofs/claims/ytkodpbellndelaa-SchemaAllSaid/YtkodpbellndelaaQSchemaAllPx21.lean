/- Texts of SchemaAll. Merged: Px21. -/
import Derived.Test.YtkodpbellndelaaQSchemaAllPx0
import Derived.Test.YtkodpbellndelaaQSchemaAllPx17
import Derived.Test.YtkodpbellndelaaQSchemaAllPx18
namespace Go.Proofs.Ytkodpbellndelaa.P
open Go.RowKit Go.Proofs.YtkodpbellndelaaW.PrintWords Go.Proofs.YtkodpbellndelaaW.PrintLast Go.Proofs.YtkodpbellndelaaW.PrintMore
attribute [local go_sem] max2_int min2_int max_two min_two max_three min_three max_four min_four   -- for this text's walks alone
set_option linter.unusedVariables false
set_option linter.unusedSimpArgs false
mutual
def thresherref04_Batch.j0 : Nat→List (List (S34))→Bool→List Int→Int→Int→Int→Option (Int)
 | 0,_,_,_,_,_,_=>none
 | k + 1,x1,x14,x503000,x503001,x503002,x503003=>if x14=true then (some 22) else (thresherref04_Batch.l0 k x1 0 x503000 x503001 x503002 x503003)
def thresherref04_Batch.l0 : Nat→List (List (S34))→Int→List Int→Int→Int→Int→Option (Int)
 | 0,_,_,_,_,_,_=>none
 | k + 1,x1,x5,x503000,x503001,x503002,x503003=>if x5 < (x1.length : Int) then (if 0≤x5 then ((thresherref04_Row.f k x503000 x503001 x503002 x503003 (rd_L6 x1 x5)).bind fun t504=>(if t504=true then (thresherref04_Batch.l0 k x1 (wrap64 (x5 + 1)) x503000 x503001 x503002 x503003) else (some 21))) else (none)) else (some 0)
end
def thresherref04_Batch.f (k : Nat) (l0_0 : List Int) (a0_1 : Int) (a0_2 : Int) (a0_3 : Int) (l1 : List (List (S34))) : Option (Int):=if (l1.length : Int) < 1 then (thresherref04_Batch.j0 k l1 true l0_0 a0_1 a0_2 a0_3) else (thresherref04_Batch.j0 k l1 (decide ((l1.length : Int) > 64)) l0_0 a0_1 a0_2 a0_3)
theorem thresherref04_Batch.mono_l : ∀ k,(∀ y0 y1 y2 y3 y4 y5,LeO (thresherref04_Batch.j0 k y0 y1 y2 y3 y4 y5) (thresherref04_Batch.j0 (k + 1) y0 y1 y2 y3 y4 y5))∧(∀ y0 y1 y2 y3 y4 y5,LeO (thresherref04_Batch.l0 k y0 y1 y2 y3 y4 y5) (thresherref04_Batch.l0 (k + 1) y0 y1 y2 y3 y4 y5))
 | 0=>⟨fun _ _ _ _ _ _ r h=>by simp [thresherref04_Batch.j0] at h,fun _ _ _ _ _ _ r h=>by simp [thresherref04_Batch.l0] at h⟩
 | k + 1=>by
  obtain ⟨ih0,ih1⟩:=thresherref04_Batch.mono_l k
  refine ⟨?_,?_⟩
  ·intro y0 y1 y2 y3 y4 y5
   unfold thresherref04_Batch.j0
   repeat' first
   | (with_reducible exact ih0 _ _ _ _ _ _)
   | (with_reducible exact ih1 _ _ _ _ _ _)
   | (with_reducible exact thresherref04_Row.mono _ _ _ _ _ _)
   | (with_reducible exact LeO.refl _)
   | (with_reducible exact LeO.none _)
   | (with_reducible refine LeO.ite ?_ ?_)
   | (with_reducible refine LeO.bind ?_ (fun _=>?_))
   | exact ih0 _ _ _ _ _ _
   | exact ih1 _ _ _ _ _ _
   | exact thresherref04_Row.mono _ _ _ _ _ _
   | exact LeO.none _
   | refine LeO.ite ?_ ?_
   | refine LeO.bind ?_ (fun _=>?_)
  ·intro y0 y1 y2 y3 y4 y5
   unfold thresherref04_Batch.l0
   repeat' first
   | (with_reducible exact ih0 _ _ _ _ _ _)
   | (with_reducible exact ih1 _ _ _ _ _ _)
   | (with_reducible exact thresherref04_Row.mono _ _ _ _ _ _)
   | (with_reducible exact LeO.refl _)
   | (with_reducible exact LeO.none _)
   | (with_reducible refine LeO.ite ?_ ?_)
   | (with_reducible refine LeO.bind ?_ (fun _=>?_))
   | exact ih0 _ _ _ _ _ _
   | exact ih1 _ _ _ _ _ _
   | exact thresherref04_Row.mono _ _ _ _ _ _
   | exact LeO.none _
   | refine LeO.ite ?_ ?_
   | refine LeO.bind ?_ (fun _=>?_)
theorem thresherref04_Batch.mono : ∀ a0 a1 a2 a3 a4 k,LeO (thresherref04_Batch.f k a0 a1 a2 a3 a4) (thresherref04_Batch.f (k + 1) a0 a1 a2 a3 a4):=by
 intro a0 a1 a2 a3 a4 k
 obtain ⟨ih0,ih1⟩:=thresherref04_Batch.mono_l k
 unfold thresherref04_Batch.f
 repeat' first
   | (with_reducible exact ih0 _ _ _ _ _ _)
   | (with_reducible exact ih1 _ _ _ _ _ _)
   | (with_reducible exact thresherref04_Row.mono _ _ _ _ _ _)
   | (with_reducible exact LeO.refl _)
   | (with_reducible exact LeO.none _)
   | (with_reducible refine LeO.ite ?_ ?_)
   | (with_reducible refine LeO.bind ?_ (fun _=>?_))
   | exact ih0 _ _ _ _ _ _
   | exact ih1 _ _ _ _ _ _
   | exact thresherref04_Row.mono _ _ _ _ _ _
   | exact LeO.none _
   | refine LeO.ite ?_ ?_
   | refine LeO.bind ?_ (fun _=>?_)
set_option maxHeartbeats 8000000 in
set_option maxRecDepth 100000 in
theorem thresherref04_Batch.calls (k : Nat) (A0_0 : Option Addr) (c0_0 : Nat) (l0_0 : List Int) (a0_1 : Int) (a0_2 : Int) (a0_3 : Int) (A1 : Option Addr) (c1 : Nat) (l1 : List (List (S34))) (r : Int) (w : World) (hr0_0 : Kd.C (Kd.int .i64) w A0_0 l0_0.length l0_0) (hc0_0 : l0_0.length≤c0_0) (hr1 : Kd.C (Kd.slice 34 k34) w A1 l1.length l1) (hc1 : l1.length≤c1) (h : thresherref04_Batch.f k l0_0 a0_1 a0_2 a0_3 l1=some r) :
  Calls Try.prog 25 #[.agg #[.slice A0_0 l0_0.length c0_0,.int .i64 a0_1,.int .i64 a0_2,.int .i64 a0_3],.slice A1 l1.length c1] w fun e w'=>e=.returned (.int .i64 r)∧Below w.heap.size w w':=by
 have hu30:=Try.underlying30
 have HR0_0:=Aside0.mk hr0_0
 have HC0_0:=Aside0.mk hc0_0
 clear hr0_0 hc0_0
 have HR1:=Aside0.mk hr1
 have HC1:=Aside0.mk hc1
 clear hr1 hc1
 have HB:=Aside0.mk (Below.refl w.heap.size w)
 have H : (if (l1.length : Int) < 1 then (thresherref04_Batch.j0 k l1 true l0_0 a0_1 a0_2 a0_3) else (thresherref04_Batch.j0 k l1 (decide ((l1.length : Int) > 64)) l0_0 a0_1 a0_2 a0_3))=some r:=h
 clear h
 have HC3:=Aside0.mk H
 clear H
 go_enter Try.func25,Try.ntmps25
 go_upto_region 1 with (first|((with_reducible refine gate_dst (N:=2) rfl ?_);(try (refine gate_guard (by rfl) ?_;dsimp only));refine box_event ?hg (N:=2) ?hd (cs:=#[.slice A0_0 l0_0.length c0_0,.int .i64 a0_1,.int .i64 a0_2,.int .i64 a0_3]) (t:=30) ?hr ?_;(case hd=>rfl);(case hg=>rfl);(case hr=>first|(go_simp;done)|(go_simp;rfl));intro gb502 hg w4 hbox hb;have n0_:=Aside0.mk (below_step (below_up HB.out) hb);have n1_:=Aside0.mk (hbox);have n2_:=Aside0.mk ((by rw [hg];exact (below_size (below_up HB.out)) : w.heap.size≤gb502));have n3_:=Aside0.mk ((by rw [hg];exact (below_size (below_up HB.out)) : w.heap.size≤gb502));clear HB;have HB:=n0_;have BK502:=n1_;have GW502:=n2_;have GE502:=n3_;clear n0_ n1_ n2_ n3_;clear hb hbox hg))
 (try simp only [Act.put,List.setIfInBounds_toArray,List.set_cons_zero,List.set_cons_succ])
 go_cut [14] (fun v14 wc=>∃ (kq : Nat) (x14_2 : Bool),v14=.bool x14_2∧Aside0 (thresherref04_Batch.j0 kq l1 x14_2 l0_0 a0_1 a0_2 a0_3=some r)∧Aside0 (kq≤k)∧Aside0 (wc.heap[gb502]?=some (.cells #[(.slice A0_0 l0_0.length c0_0),.int .i64 a0_1,.int .i64 a0_2,.int .i64 a0_3] 30 (0,0)))∧Aside0 (Below w.heap.size w wc))
 case first =>
  have H:=HC3.out
  clear HC3
  by_cases c5 : (l1.length : Int) < 1
  ·rw [if_pos c5] at H
   have c5b0 : decide ((l1.length : Int) < 1)=true:=decide_eq_true c5
   have c5b1 : decide (l1.length < 1)=true:=decide_eq_true (by omega)
   clear c5
   (first|rw [c5b0]|(simp only [i64_w,i32_w];rw [c5b0])|skip)
   have H':=Aside0.mk H
   clear H
   go_wp2
   go_meet
   case rel=>exact ⟨_,(true),(by first|rfl|(simp;done)|(simp [*];done)),(by first|exact H'|(subst_vars;exact H')),⟨by first|omega|exact Nat.le_refl _⟩,⟨by (with_reducible repeat (first|refine blk_drewN ?_ _|refine blk_drew ?_|refine blk_alloc ?_ _));exact BK502.out⟩,⟨by repeat (first|(with_reducible first|exact HB.out|apply below_alloc|apply pw_below_drewN|apply below_drew1|refine below_set ?_ GE502.out)|exact HB.out)⟩⟩
  ·rw [if_neg c5] at H
   have c5b0 : decide ((l1.length : Int) < 1)=false:=decide_eq_false c5
   have c5b1 : decide (l1.length < 1)=false:=decide_eq_false (by omega)
   clear c5
   (first|rw [c5b0]|(simp only [i64_w,i32_w];rw [c5b0])|skip)
   have H':=Aside0.mk H
   clear H
   go_wp2
   go_meet
   case rel=>exact ⟨_,(decide ((l1.length : Int) > 64)),(by first|rfl|(simp;done)|(simp [*];done)),(by first|exact H'|(subst_vars;exact H')),⟨by first|omega|exact Nat.le_refl _⟩,⟨by (with_reducible repeat (first|refine blk_drewN ?_ _|refine blk_drew ?_|refine blk_alloc ?_ _));exact BK502.out⟩,⟨by repeat (first|(with_reducible first|exact HB.out|apply below_alloc|apply pw_below_drewN|apply below_drew1|refine below_set ?_ GE502.out)|exact HB.out)⟩⟩
 case rest =>
  clear HC3
  try clear c1
  try clear c2
  try clear p2
  try clear c5
  try clear c5b0
  try clear c5b1
  obtain ⟨kq,x14_2,rfl,HA,HJ2,BK502,HB⟩:=hcut
  cases kq with
  | zero=>exact absurd HA.out (by simp [thresherref04_Batch.j0])
  | succ kj2 =>
   have H:=HA.out
   clear HA
   simp only [thresherref04_Batch.j0] at H
   by_cases c6 : x14_2=true
   ·subst c6
    have H1 : (some 22)=some r:=by rw [if_pos rfl] at H;exact H
    clear H
    have H:=H1
    clear H1
    obtain rfl:=Option.some.inj H
    go_wp2
    go_ret
    exact ⟨by first|rfl|(simp [errW_none,errW_some] <;> rfl)|(simp [*,errW_none,errW_some] <;> rfl),by repeat (first|(with_reducible first|exact HB.out|apply below_alloc|apply pw_below_drewN|apply below_drew1|refine below_set ?_ GE502.out)|exact HB.out)⟩
   ·replace c6:=Bool.eq_false_iff.mpr c6
    subst c6
    have H1 : (thresherref04_Batch.l0 kj2 l1 0 l0_0 a0_1 a0_2 a0_3)=some r:=by rw [if_neg (show ¬ (false=true) by decide)] at H;exact H
    clear H
    have H:=H1
    clear H1
    have H':=Aside0.mk H
    clear H
    go_wp2
    go_loopg [5] kj2 (fun kq v5 w'=>∃ (x5_2 : Int),v5=.int .i64 x5_2∧Aside0 (thresherref04_Batch.l0 kq l1 x5_2 l0_0 a0_1 a0_2 a0_3=some r)∧Aside0 (kq≤kj2)∧Aside0 (w'.heap[gb502]?=some (.cells #[(.slice A0_0 l0_0.length c0_0),.int .i64 a0_1,.int .i64 a0_2,.int .i64 a0_3] 30 (0,0)))∧Aside0 (Below w.heap.size w w'))
    case atStart=>exact ⟨(0),(by first|rfl|(simp;done)|(simp [*];done)),H',⟨Nat.le_refl _⟩,⟨by (with_reducible repeat (first|refine blk_drewN ?_ _|refine blk_drew ?_|refine blk_alloc ?_ _));exact BK502.out⟩,⟨by repeat (first|(with_reducible first|exact HB.out|apply below_alloc|apply pw_below_drewN|apply below_drew1|refine below_set ?_ GE502.out)|exact HB.out)⟩⟩
    case round =>
     clear H'
     try clear c1
     try clear c2
     try clear p2
     try clear c5
     try clear c5b0
     try clear c5b1
     try clear c6
     try clear p2
     obtain ⟨x5_2,rfl,HA,HK2,BK502,HB⟩:=hrel
     cases gk with
     | zero=>exact absurd HA.out (by simp [thresherref04_Batch.l0])
     | succ k2 =>
      have H:=HA.out
      clear HA
      simp only [thresherref04_Batch.l0] at H
      by_cases c7 : x5_2 < (l1.length : Int)
      ·rw [if_pos c7] at H
       have c7b0 : decide (x5_2 < (l1.length : Int))=true:=decide_eq_true c7
       clear c7
       by_cases c8 : 0≤x5_2
       ·rw [if_pos c8] at H
        have c8b0 : decide (0≤x5_2)=true:=decide_eq_true c8
        clear c8
        replace H:=Option.bind_eq_some_iff.mp H
        obtain ⟨t504,A90,H⟩:=H
        replace H : (if t504=true then (thresherref04_Batch.l0 k2 l1 (wrap64 (x5_2 + 1)) l0_0 a0_1 a0_2 a0_3) else (some 21))=some r:=H
        have A9:=Aside0.mk A90
        clear A90
        by_cases c10 : t504=true
        ·subst c10
         have H1 : (thresherref04_Batch.l0 k2 l1 (wrap64 (x5_2 + 1)) l0_0 a0_1 a0_2 a0_3)=some r:=by rw [if_pos rfl] at H;exact H
         clear H
         have H:=H1
         clear H1
         have H':=Aside0.mk H
         clear H
         try go_wp2
         have n0_:=Aside0.mk (blk_drew BK502.out)
         have n1_:=Aside0.mk (below_drew1 HB.out)
         clear BK502
         clear HB
         have BK502:=n0_
         have HB:=n1_
         clear n0_ n1_
         have p503 : 0≤(x5_2 : Int):=of_decide_eq_true (by first|(with_reducible assumption)|assumption)
         have q503 : x5_2 < (l1.length : Int):=of_decide_eq_true (by first|(with_reducible assumption)|assumption)
         obtain ⟨ad503,A503_0,c503_0,e503,hx503_0,hl503_0,hi503_0⟩:=at_L6 HR1.out x5_2 p503 q503
         have hw503_0:=hx503_0
         cases e503
         replace hx503_0:=(HB.out.cell (World.block_lt_of_cell? w _ hx503_0)).trans hx503_0
         have HR503_0:=Aside0.mk hi503_0
         have HC503_0:=Aside0.mk hl503_0
         clear hi503_0 hl503_0
         replace p503:=eq_true p503
         replace q503:=eq_true q503
         refine start_ (n:=7) (S:=fun w'=>w'.cell? ⟨gb502,0,none⟩=some (.slice A0_0 l0_0.length c0_0)∧w'.cell? ⟨gb502,1,none⟩=some (.int .i64 a0_1)∧w'.cell? ⟨gb502,2,none⟩=some (.int .i64 a0_2)∧w'.cell? ⟨gb502,3,none⟩=some (.int .i64 a0_3)∧w'.cell? (ad503.add (x5_2).toNat)=some (.slice A503_0 (rd_L6 l1 x5_2).length c503_0)) (ds:=[]) #[false,false,false,false,false,false,false] (by kernel_rfl) rfl rfl ⟨(blk_cell BK502.out 0).trans rfl,(blk_cell BK502.out 1).trans rfl,(blk_cell BK502.out 2).trans rfl,(blk_cell BK502.out 3).trans rfl,((HB.out.cell (World.block_lt_of_cell? w _ hw503_0)).trans hw503_0)⟩ (fun hHeld=>?_)
         generalize wr.drew=w11 at BK502 HB HR503_0 hx503_0 hHeld ⊢
         refine pure_ (i:=1) (N:=some 22) (v:=?_) (a':=?_) #[false,true,false,false,false,false,false] rfl rfl (by kernel_rfl) (fun _ _ _ h=>h) (Or.inl ⟨by rfl,?_⟩) ?_ ?_
         rotate_left;(intro w';go_simp;with_reducible rfl);rotate_left;(simp only [Act.put,List.setIfInBounds_toArray,List.set_cons_zero,List.set_cons_succ,i64_w,i32_w];rfl)
         refine pure_ (i:=2) (N:=some 23) (v:=?_) (a':=?_) #[false,true,true,false,false,false,false] rfl rfl (by kernel_rfl) (fun _ _ _ h=>h) (Or.inl ⟨by rfl,?_⟩) ?_ ?_
         rotate_left;(intro w';go_simp;with_reducible rfl);rotate_left;(simp only [Act.put,List.setIfInBounds_toArray,List.set_cons_zero,List.set_cons_succ,i64_w,i32_w];rfl)
         refine pure_ (i:=3) (N:=some 24) (v:=?_) (a':=?_) #[false,true,true,true,false,false,false] rfl rfl (by kernel_rfl) (fun _ _ _ h=>h) (Or.inl ⟨by rfl,?_⟩) ?_ ?_
         rotate_left;(intro w';go_simp;with_reducible rfl);rotate_left;(simp only [Act.put,List.setIfInBounds_toArray,List.set_cons_zero,List.set_cons_succ,i64_w,i32_w];rfl)
         refine take_ (i:=0) (N:=some 21) (v:=?_) (a':=?_) #[true,true,true,true,false,false,false] rfl rfl (by kernel_rfl) (fun _ _ _ h=>h) (Or.inl ⟨by rfl,?_⟩) hHeld ?_ ?_
         rotate_left;(rintro w' ⟨s0,s1,s2,s3,s4⟩;go_simp;with_reducible rfl);rotate_left;(simp only [Act.put,List.setIfInBounds_toArray,List.set_cons_zero,List.set_cons_succ,i64_w,i32_w];rfl)
         refine take_ (i:=4) (N:=some 25) (v:=?_) (a':=?_) #[true,true,true,true,true,false,false] rfl rfl (by kernel_rfl) (fun _ _ _ h=>h) (Or.inl ⟨by rfl,?_⟩) hHeld ?_ ?_
         rotate_left;(rintro w' ⟨s0,s1,s2,s3,s4⟩;go_simp;with_reducible rfl);rotate_left;(simp only [Act.put,List.setIfInBounds_toArray,List.set_cons_zero,List.set_cons_succ,i64_w,i32_w];rfl)
         refine one_ (i:=5) (N:=some 26) #[true,true,true,true,true,true,false] rfl rfl (by kernel_rfl) (by decide) (fun K hK=>?_)
         refine goes_ Try.func21 (by kernel_rfl) rfl #[.agg #[.slice A0_0 l0_0.length c0_0,.int .i64 a0_1,.int .i64 a0_2,.int .i64 a0_3],.slice A503_0 (rd_L6 l1 x5_2).length c503_0] (by rfl) rfl rfl (by (try simp only [List.map_toArray,List.map_cons,List.map_nil]);first|done|rfl|(simp only [List.length_drop,List.length_take];rfl)) ?_
         with_reducible refine (thresherref04_Row.calls k2 _ _ l0_0 a0_1 a0_2 a0_3 _ _ (rd_L6 l1 x5_2) true _ ?side1 ?side2 ?side3 ?side4 A9.out).mono ?_
         (case side1=>repeat (first|exact (Kd.C_below HR0_0.out HB.out)|(with_reducible refine Kd.C_alloc ?_ _)|(with_reducible refine Kd.C_drewN ?_ _)|(with_reducible refine Kd.C_drew ?_)))
         (case side2=>exact HC0_0.out)
         (case side3=>repeat (first|exact (Kd.C_below HR503_0.out HB.out)|(with_reducible refine Kd.C_alloc ?_ _)|(with_reducible refine Kd.C_drewN ?_ _)|(with_reducible refine Kd.C_drew ?_)))
         (case side4=>exact HC503_0.out)
         rintro e w12 ⟨rfl,hb⟩
         refine ⟨_,rfl,?_⟩
         have n0_:=Aside0.mk (blk_below (blk_up BK502.out) hb)
         have n1_:=Aside0.mk (below_step (below_go HB.out) hb)
         clear BK502
         clear HB
         have BK502:=n0_
         have HB:=n1_
         clear n0_ n1_
         (try clear hb)
         (try clear hb2)
         (try clear hk)
         (try clear hi)
         refine hK.out _ _ ⟨(blk_cell BK502.out 0).trans rfl,(blk_cell BK502.out 1).trans rfl,(blk_cell BK502.out 2).trans rfl,(blk_cell BK502.out 3).trans rfl,((HB.out.cell (World.block_lt_of_cell? w _ hw503_0)).trans hw503_0)⟩ (fun hHeld=>?_)
         clear hK K
         refine norm_ (a':=?_) ?_ ?_
         rotate_left
         ·show Act.put _ (some 26) _=_
          simp only [Act.put,List.setIfInBounds_toArray,List.set_cons_zero,List.set_cons_succ,i64_w,i32_w]
          rfl
         refine pure_ (i:=6) (N:=some 6) (v:=?_) (a':=?_) #[true,true,true,true,true,true,true] rfl rfl (by kernel_rfl) (fun _ _ _ h=>h) (Or.inl ⟨by rfl,?_⟩) ?_ ?_
         rotate_left;(intro w';go_simp;with_reducible rfl);rotate_left;(simp only [Act.put,List.setIfInBounds_toArray,List.set_cons_zero,List.set_cons_succ,i64_w,i32_w];rfl)
         refine done_ (by kernel_rfl) ?_
         try go_wp2
         go_roundg k2
         case measure=>have:=HJ2.out;have:=HK2.out;omega
         case rel=>exact ⟨(wrap64 (x5_2 + 1)),(by first|rfl|(simp;done)|(simp [*];done)),(by first|exact H'|(subst_vars;exact H')),⟨by have:=HJ2.out;have:=HK2.out;omega⟩,⟨by (with_reducible repeat (first|refine blk_drewN ?_ _|refine blk_drew ?_|refine blk_alloc ?_ _));exact BK502.out⟩,⟨by repeat (first|(with_reducible first|exact HB.out|apply below_alloc|apply pw_below_drewN|apply below_drew1|refine below_set ?_ GE502.out)|exact HB.out)⟩⟩
        ·replace c10:=Bool.eq_false_iff.mpr c10
         subst c10
         have H1 : (some 21)=some r:=by rw [if_neg (show ¬ (false=true) by decide)] at H;exact H
         clear H
         have H:=H1
         clear H1
         obtain rfl:=Option.some.inj H
         try go_wp2
         have n0_:=Aside0.mk (blk_drew BK502.out)
         have n1_:=Aside0.mk (below_drew1 HB.out)
         clear BK502
         clear HB
         have BK502:=n0_
         have HB:=n1_
         clear n0_ n1_
         have p503 : 0≤(x5_2 : Int):=of_decide_eq_true (by first|(with_reducible assumption)|assumption)
         have q503 : x5_2 < (l1.length : Int):=of_decide_eq_true (by first|(with_reducible assumption)|assumption)
         obtain ⟨ad503,A503_0,c503_0,e503,hx503_0,hl503_0,hi503_0⟩:=at_L6 HR1.out x5_2 p503 q503
         have hw503_0:=hx503_0
         cases e503
         replace hx503_0:=(HB.out.cell (World.block_lt_of_cell? w _ hx503_0)).trans hx503_0
         have HR503_0:=Aside0.mk hi503_0
         have HC503_0:=Aside0.mk hl503_0
         clear hi503_0 hl503_0
         replace p503:=eq_true p503
         replace q503:=eq_true q503
         refine start_ (n:=7) (S:=fun w'=>w'.cell? ⟨gb502,0,none⟩=some (.slice A0_0 l0_0.length c0_0)∧w'.cell? ⟨gb502,1,none⟩=some (.int .i64 a0_1)∧w'.cell? ⟨gb502,2,none⟩=some (.int .i64 a0_2)∧w'.cell? ⟨gb502,3,none⟩=some (.int .i64 a0_3)∧w'.cell? (ad503.add (x5_2).toNat)=some (.slice A503_0 (rd_L6 l1 x5_2).length c503_0)) (ds:=[]) #[false,false,false,false,false,false,false] (by kernel_rfl) rfl rfl ⟨(blk_cell BK502.out 0).trans rfl,(blk_cell BK502.out 1).trans rfl,(blk_cell BK502.out 2).trans rfl,(blk_cell BK502.out 3).trans rfl,((HB.out.cell (World.block_lt_of_cell? w _ hw503_0)).trans hw503_0)⟩ (fun hHeld=>?_)
         generalize wr.drew=w13 at BK502 HB HR503_0 hx503_0 hHeld ⊢
         refine pure_ (i:=1) (N:=some 22) (v:=?_) (a':=?_) #[false,true,false,false,false,false,false] rfl rfl (by kernel_rfl) (fun _ _ _ h=>h) (Or.inl ⟨by rfl,?_⟩) ?_ ?_
         rotate_left;(intro w';go_simp;with_reducible rfl);rotate_left;(simp only [Act.put,List.setIfInBounds_toArray,List.set_cons_zero,List.set_cons_succ,i64_w,i32_w];rfl)
         refine pure_ (i:=2) (N:=some 23) (v:=?_) (a':=?_) #[false,true,true,false,false,false,false] rfl rfl (by kernel_rfl) (fun _ _ _ h=>h) (Or.inl ⟨by rfl,?_⟩) ?_ ?_
         rotate_left;(intro w';go_simp;with_reducible rfl);rotate_left;(simp only [Act.put,List.setIfInBounds_toArray,List.set_cons_zero,List.set_cons_succ,i64_w,i32_w];rfl)
         refine pure_ (i:=3) (N:=some 24) (v:=?_) (a':=?_) #[false,true,true,true,false,false,false] rfl rfl (by kernel_rfl) (fun _ _ _ h=>h) (Or.inl ⟨by rfl,?_⟩) ?_ ?_
         rotate_left;(intro w';go_simp;with_reducible rfl);rotate_left;(simp only [Act.put,List.setIfInBounds_toArray,List.set_cons_zero,List.set_cons_succ,i64_w,i32_w];rfl)
         refine take_ (i:=0) (N:=some 21) (v:=?_) (a':=?_) #[true,true,true,true,false,false,false] rfl rfl (by kernel_rfl) (fun _ _ _ h=>h) (Or.inl ⟨by rfl,?_⟩) hHeld ?_ ?_
         rotate_left;(rintro w' ⟨s0,s1,s2,s3,s4⟩;go_simp;with_reducible rfl);rotate_left;(simp only [Act.put,List.setIfInBounds_toArray,List.set_cons_zero,List.set_cons_succ,i64_w,i32_w];rfl)
         refine take_ (i:=4) (N:=some 25) (v:=?_) (a':=?_) #[true,true,true,true,true,false,false] rfl rfl (by kernel_rfl) (fun _ _ _ h=>h) (Or.inl ⟨by rfl,?_⟩) hHeld ?_ ?_
         rotate_left;(rintro w' ⟨s0,s1,s2,s3,s4⟩;go_simp;with_reducible rfl);rotate_left;(simp only [Act.put,List.setIfInBounds_toArray,List.set_cons_zero,List.set_cons_succ,i64_w,i32_w];rfl)
         refine one_ (i:=5) (N:=some 26) #[true,true,true,true,true,true,false] rfl rfl (by kernel_rfl) (by decide) (fun K hK=>?_)
         refine goes_ Try.func21 (by kernel_rfl) rfl #[.agg #[.slice A0_0 l0_0.length c0_0,.int .i64 a0_1,.int .i64 a0_2,.int .i64 a0_3],.slice A503_0 (rd_L6 l1 x5_2).length c503_0] (by rfl) rfl rfl (by (try simp only [List.map_toArray,List.map_cons,List.map_nil]);first|done|rfl|(simp only [List.length_drop,List.length_take];rfl)) ?_
         with_reducible refine (thresherref04_Row.calls k2 _ _ l0_0 a0_1 a0_2 a0_3 _ _ (rd_L6 l1 x5_2) false _ ?side1 ?side2 ?side3 ?side4 A9.out).mono ?_
         (case side1=>repeat (first|exact (Kd.C_below HR0_0.out HB.out)|(with_reducible refine Kd.C_alloc ?_ _)|(with_reducible refine Kd.C_drewN ?_ _)|(with_reducible refine Kd.C_drew ?_)))
         (case side2=>exact HC0_0.out)
         (case side3=>repeat (first|exact (Kd.C_below HR503_0.out HB.out)|(with_reducible refine Kd.C_alloc ?_ _)|(with_reducible refine Kd.C_drewN ?_ _)|(with_reducible refine Kd.C_drew ?_)))
         (case side4=>exact HC503_0.out)
         rintro e w14 ⟨rfl,hb⟩
         refine ⟨_,rfl,?_⟩
         have n0_:=Aside0.mk (blk_below (blk_up BK502.out) hb)
         have n1_:=Aside0.mk (below_step (below_go HB.out) hb)
         clear BK502
         clear HB
         have BK502:=n0_
         have HB:=n1_
         clear n0_ n1_
         (try clear hb)
         (try clear hb2)
         (try clear hk)
         (try clear hi)
         refine hK.out _ _ ⟨(blk_cell BK502.out 0).trans rfl,(blk_cell BK502.out 1).trans rfl,(blk_cell BK502.out 2).trans rfl,(blk_cell BK502.out 3).trans rfl,((HB.out.cell (World.block_lt_of_cell? w _ hw503_0)).trans hw503_0)⟩ (fun hHeld=>?_)
         clear hK K
         refine norm_ (a':=?_) ?_ ?_
         rotate_left
         ·show Act.put _ (some 26) _=_
          simp only [Act.put,List.setIfInBounds_toArray,List.set_cons_zero,List.set_cons_succ,i64_w,i32_w]
          rfl
         refine pure_ (i:=6) (N:=some 6) (v:=?_) (a':=?_) #[true,true,true,true,true,true,true] rfl rfl (by kernel_rfl) (fun _ _ _ h=>h) (Or.inl ⟨by rfl,?_⟩) ?_ ?_
         rotate_left;(intro w';go_simp;with_reducible rfl);rotate_left;(simp only [Act.put,List.setIfInBounds_toArray,List.set_cons_zero,List.set_cons_succ,i64_w,i32_w];rfl)
         refine done_ (by kernel_rfl) ?_
         try go_wp2
         go_ret
         exact ⟨by first|rfl|(simp [errW_none,errW_some] <;> rfl)|(simp [*,errW_none,errW_some] <;> rfl),by repeat (first|(with_reducible first|exact HB.out|apply below_alloc|apply pw_below_drewN|apply below_drew1|refine below_set ?_ GE502.out)|exact HB.out)⟩
       ·rw [if_neg c8] at H
        exact absurd H (by simp)
      ·rw [if_neg c7] at H
       have c7b0 : decide (x5_2 < (l1.length : Int))=false:=decide_eq_false c7
       clear c7
       obtain rfl:=Option.some.inj H
       go_wp2
       go_ret
       exact ⟨by first|rfl|(simp [errW_none,errW_some] <;> rfl)|(simp [*,errW_none,errW_some] <;> rfl),by repeat (first|(with_reducible first|exact HB.out|apply below_alloc|apply pw_below_drewN|apply below_drew1|refine below_set ?_ GE502.out)|exact HB.out)⟩
def thresherref04_Put.l0 : Nat→List Int→Int→List Int→Int→Int→Int→Option (List Int)
 | 0,_,_,_,_,_,_=>none
 | k + 1,x3,x4,x506000,x506001,x506002,x506003=>if x4 < (x506000.length : Int) then (if 0≤x4 then ((thresherref01_PutVar.f k (IntKind.u64.wrap (rd x506000 x4))).bind fun t510=>(if x3.length + t510.length < 140737488355328 then (thresherref04_Put.l0 k (x3 ++ t510) (wrap64 (x4 + 1)) x506000 x506001 x506002 x506003) else (none))) else (none)) else ((thresherref01_PutVar.f k (IntKind.u64.wrap (x506001))).bind fun t516=>(if x3.length + t516.length < 140737488355328 then ((some (x3 ++ t516 : List Int)).bind fun y519=>((thresherref01_PutVar.f k (IntKind.u64.wrap (x506002))).bind fun t522=>(if y519.length + t522.length < 140737488355328 then ((some (y519 ++ t522 : List Int)).bind fun y525=>((thresherref01_PutVar.f k (IntKind.u64.wrap (x506003))).bind fun t528=>(if y525.length + t528.length < 140737488355328 then (some (y525 ++ t528)) else (none)))) else (none)))) else (none)))
def thresherref04_Put.f (k : Nat) (l0_0 : List Int) (a0_1 : Int) (a0_2 : Int) (a0_3 : Int) : Option (List Int):=(thresherref01_PutVar.f k (IntKind.u64.wrap ((l0_0.length : Int)))).bind fun t506=>(thresherref04_Put.l0 k t506 0 l0_0 a0_1 a0_2 a0_3)
theorem thresherref04_Put.mono_l : ∀ k,(∀ y0 y1 y2 y3 y4 y5,LeO (thresherref04_Put.l0 k y0 y1 y2 y3 y4 y5) (thresherref04_Put.l0 (k + 1) y0 y1 y2 y3 y4 y5))
 | 0=>fun _ _ _ _ _ _ r h=>by simp [thresherref04_Put.l0] at h
 | k + 1=>by
  have ih0:=thresherref04_Put.mono_l k
  ·intro y0 y1 y2 y3 y4 y5
   unfold thresherref04_Put.l0
   repeat' first
   | (with_reducible exact ih0 _ _ _ _ _ _)
   | (with_reducible exact thresherref01_PutVar.mono _ _)
   | (with_reducible exact LeO.refl _)
   | (with_reducible exact LeO.none _)
   | (with_reducible refine LeO.ite ?_ ?_)
   | (with_reducible refine LeO.bind ?_ (fun _=>?_))
   | exact ih0 _ _ _ _ _ _
   | exact thresherref01_PutVar.mono _ _
   | exact LeO.none _
   | refine LeO.ite ?_ ?_
   | refine LeO.bind ?_ (fun _=>?_)
theorem thresherref04_Put.mono : ∀ a0 a1 a2 a3 k,LeO (thresherref04_Put.f k a0 a1 a2 a3) (thresherref04_Put.f (k + 1) a0 a1 a2 a3):=by
 intro a0 a1 a2 a3 k
 have ih0:=thresherref04_Put.mono_l k
 unfold thresherref04_Put.f
 repeat' first
   | (with_reducible exact ih0 _ _ _ _ _ _)
   | (with_reducible exact thresherref01_PutVar.mono _ _)
   | (with_reducible exact LeO.refl _)
   | (with_reducible exact LeO.none _)
   | (with_reducible refine LeO.ite ?_ ?_)
   | (with_reducible refine LeO.bind ?_ (fun _=>?_))
   | exact ih0 _ _ _ _ _ _
   | exact thresherref01_PutVar.mono _ _
   | exact LeO.none _
   | refine LeO.ite ?_ ?_
   | refine LeO.bind ?_ (fun _=>?_)
set_option maxHeartbeats 8000000 in
set_option maxRecDepth 100000 in
theorem thresherref04_Put.calls (k : Nat) (A0_0 : Option Addr) (c0_0 : Nat) (l0_0 : List Int) (a0_1 : Int) (a0_2 : Int) (a0_3 : Int) (r : List Int) (w : World) (hr0_0 : Kd.C (Kd.int .i64) w A0_0 l0_0.length l0_0) (hc0_0 : l0_0.length≤c0_0) (h : thresherref04_Put.f k l0_0 a0_1 a0_2 a0_3=some r) :
  Calls Try.prog 26 #[.agg #[.slice A0_0 l0_0.length c0_0,.int .i64 a0_1,.int .i64 a0_2,.int .i64 a0_3]] w fun e w'=>∃ v0_ : Value,e=.returned (v0_)∧Kd.R (Kd.int .u8) 5 w' w.heap.size (fun _=>True) v0_ r∧Below w.heap.size w w':=by
 have hu30:=Try.underlying30
 have HR0_0:=Aside0.mk hr0_0
 have HC0_0:=Aside0.mk hc0_0
 clear hr0_0 hc0_0
 have HB:=Aside0.mk (Below.refl w.heap.size w)
 have H : ((thresherref01_PutVar.f k (IntKind.u64.wrap ((l0_0.length : Int)))).bind fun t506=>(thresherref04_Put.l0 k t506 0 l0_0 a0_1 a0_2 a0_3))=some r:=h
 clear h
 replace H:=Option.bind_eq_some_iff.mp H
 obtain ⟨t506,A20,H⟩:=H
 replace H : (thresherref04_Put.l0 k t506 0 l0_0 a0_1 a0_2 a0_3)=some r:=H
 have A2:=Aside0.mk A20
 clear A20
 have H':=Aside0.mk H
 clear H
 go_enter Try.func26,Try.ntmps26
 go_wp2_with (first|((with_reducible refine gate_dst (N:=1) rfl ?_);refine box_event ?hg (N:=1) ?hd (cs:=#[.slice A0_0 l0_0.length c0_0,.int .i64 a0_1,.int .i64 a0_2,.int .i64 a0_3]) (t:=30) ?hr ?_;(case hd=>rfl);(case hg=>rfl);(case hr=>first|(go_simp;done)|(go_simp;rfl));intro gb505 hg w3 hbox hb;have n0_:=Aside0.mk (below_step (below_up HB.out) hb);have n1_:=Aside0.mk (hbox);have n2_:=Aside0.mk ((by rw [hg];exact (below_size (below_up HB.out)) : w.heap.size≤gb505));have n3_:=Aside0.mk ((by rw [hg];exact (below_size (below_up HB.out)) : w.heap.size≤gb505));clear HB;have HB:=n0_;have BK505:=n1_;have GW505:=n2_;have GE505:=n3_;clear n0_ n1_ n2_ n3_;clear hb hbox hg;have hcz4_0 : w3.cell? ⟨gb505,0,none⟩=some (.slice A0_0 l0_0.length c0_0):=(blk_cell BK505.out 0).trans rfl;have hcz4_1 : w3.cell? ⟨gb505,1,none⟩=some (.int .i64 a0_1):=(blk_cell BK505.out 1).trans rfl;have hcz4_2 : w3.cell? ⟨gb505,2,none⟩=some (.int .i64 a0_2):=(blk_cell BK505.out 2).trans rfl;have hcz4_3 : w3.cell? ⟨gb505,3,none⟩=some (.int .i64 a0_3):=(blk_cell BK505.out 3).trans rfl;have hfz4_0:=blk_frozen BK505.out 0;have hfz4_1:=blk_frozen BK505.out 1;have hfz4_2:=blk_frozen BK505.out 2;have hfz4_3:=blk_frozen BK505.out 3)|((with_reducible refine gate_callee (f:=42) rfl ?_);refine goesL_ (some 9) rfl rfl Try.func42 (by kernel_rfl) rfl #[.int .u64 (IntKind.u64.wrap ((l0_0.length : Int)))] rfl (by (try simp only [List.map_toArray,List.map_cons,List.map_nil]);first|done|rfl|(simp only [List.length_drop,List.length_take];rfl)) ?_;(with_reducible refine (thresherref01_PutVar.calls k (IntKind.u64.wrap ((l0_0.length : Int))) t506 _ A2.out).mono ?_);rintro e w5 ⟨v507,rfl,ho0,hb⟩;refine ⟨_,rfl,?_⟩;have n0_:=Aside0.mk (Kd.R_lower ho0 (below_size (below_go HB.out)));have n1_:=Aside0.mk (blk_below (blk_up BK505.out) hb);have n2_:=Aside0.mk (below_step (below_go HB.out) hb);clear BK505;clear HB;have HO508:=n0_;have BK505:=n1_;have HB:=n2_;clear n0_ n1_ n2_;(try clear hb);(try clear hb2);(try clear hk);(try clear hi);(try clear ho0)))
 go_loopg [3,4] k (fun kq v3 v4 w'=>∃ (x3_1 : List Int) (x4_1 : Int),v4=.int .i64 x4_1∧Aside0 (thresherref04_Put.l0 kq x3_1 x4_1 l0_0 a0_1 a0_2 a0_3=some r)∧Aside0 (kq≤k)∧Aside0 (Kd.R (Kd.int .u8) 5 w' w.heap.size (fun _=>True) v3 x3_1)∧Aside0 (w'.heap[gb505]?=some (.cells #[(.slice A0_0 l0_0.length c0_0),.int .i64 a0_1,.int .i64 a0_2,.int .i64 a0_3] 30 (0,0)))∧Aside0 (Below w.heap.size w w'))
 case atStart=>exact ⟨(t506),(0),(by first|rfl|(simp;done)|(simp [*];done)),H',⟨Nat.le_refl _⟩,⟨by (with_reducible repeat (first|apply Kd.R_alloc|apply Kd.R_drewN|apply Kd.R_drew));exact HO508.out⟩,⟨by (with_reducible repeat (first|refine blk_drewN ?_ _|refine blk_drew ?_|refine blk_alloc ?_ _));exact BK505.out⟩,⟨by repeat (first|(with_reducible first|exact HB.out|apply below_alloc|apply pw_below_drewN|apply below_drew1|refine below_set ?_ GE505.out)|exact HB.out)⟩⟩
 case round =>
  clear H'
  try clear c2
  try clear p2
  try clear c4
  try clear hcz4_0
  try clear hcz4_1
  try clear hcz4_2
  try clear hcz4_3
  try clear hfz4_0
  try clear hfz4_1
  try clear hfz4_2
  try clear hfz4_3
  obtain ⟨x3_1,x4_1,rfl,HA,HK1,HO_3,BK505,HB⟩:=hrel
  cases gk with
  | zero=>exact absurd HA.out (by simp [thresherref04_Put.l0])
  | succ k1 =>
   have H:=HA.out
   clear HA
   simp only [thresherref04_Put.l0] at H
   by_cases c6 : x4_1 < (l0_0.length : Int)
   ·rw [if_pos c6] at H
    have c6b0 : decide (x4_1 < (l0_0.length : Int))=true:=decide_eq_true c6
    clear c6
    by_cases c7 : 0≤x4_1
    ·rw [if_pos c7] at H
     have c7b0 : decide (0≤x4_1)=true:=decide_eq_true c7
     clear c7
     replace H:=Option.bind_eq_some_iff.mp H
     obtain ⟨t510,A80,H⟩:=H
     replace H : (if x3_1.length + t510.length < 140737488355328 then (thresherref04_Put.l0 k1 (x3_1 ++ t510) (wrap64 (x4_1 + 1)) l0_0 a0_1 a0_2 a0_3) else (none))=some r:=H
     have A8:=Aside0.mk A80
     clear A80
     by_cases c9 : x3_1.length + t510.length < 140737488355328
     ·rw [if_pos c9] at H
      have LMc9:=Aside0.mk c9
      clear c9
      obtain ⟨y513,hy513⟩ : ∃ y_ : List Int,y_=(x3_1 ++ t510):=⟨_,rfl⟩
      replace H : (thresherref04_Put.l0 k1 y513 (wrap64 (x4_1 + 1)) l0_0 a0_1 a0_2 a0_3)=some r:=by first|(rw [hy513];with_reducible exact H)|(have H2_:=(Option.bind_some _ _).symm.trans H;rw [hy513];with_reducible exact H2_)|(have H2_:=(Option.bind_some _ _).symm.trans H;with_reducible exact H2_)|with_reducible exact H|(rw [hy513];exact H)|exact H
      have Ny513:=Aside0.mk hy513
      clear hy513
      have H':=Aside0.mk H
      clear H
      have hcz10_0 : wr.cell? ⟨gb505,0,none⟩=some (.slice A0_0 l0_0.length c0_0):=(blk_cell BK505.out 0).trans rfl
      have hcz10_1 : wr.cell? ⟨gb505,1,none⟩=some (.int .i64 a0_1):=(blk_cell BK505.out 1).trans rfl
      have hcz10_2 : wr.cell? ⟨gb505,2,none⟩=some (.int .i64 a0_2):=(blk_cell BK505.out 2).trans rfl
      have hcz10_3 : wr.cell? ⟨gb505,3,none⟩=some (.int .i64 a0_3):=(blk_cell BK505.out 3).trans rfl
      have hfz10_0:=blk_frozen BK505.out 0
      have hfz10_1:=blk_frozen BK505.out 1
      have hfz10_2:=blk_frozen BK505.out 2
      have hfz10_3:=blk_frozen BK505.out 3
      have p509 : 0≤(x4_1 : Int):=of_decide_eq_true (by first|(with_reducible assumption)|assumption)
      have q509 : x4_1 < (l0_0.length : Int):=of_decide_eq_true (by first|(with_reducible assumption)|assumption)
      obtain ⟨ad509,e509,hx509_0⟩:=Kd.at_int HR0_0.out x4_1 p509 q509
      cases e509
      replace hx509_0:=(HB.out.cell (World.block_lt_of_cell? w _ hx509_0)).trans hx509_0
      replace p509:=eq_true p509
      replace q509:=eq_true q509
      go_wp2_with (first|((with_reducible refine gate_callee (f:=42) rfl ?_);refine goesL_ (some 24) rfl rfl Try.func42 (by kernel_rfl) rfl #[.int .u64 (IntKind.u64.wrap (rd l0_0 x4_1))] rfl (by (try simp only [List.map_toArray,List.map_cons,List.map_nil]);first|done|rfl|(simp only [List.length_drop,List.length_take];rfl)) ?_;(with_reducible refine (thresherref01_PutVar.calls k1 (IntKind.u64.wrap (rd l0_0 x4_1)) t510 _ A8.out).mono ?_);rintro e w11 ⟨v511,rfl,ho0,hb⟩;refine ⟨_,rfl,?_⟩;have n0_:=Aside0.mk (Kd.R_elder' (R_up HO_3.out) (Kd.R_base ho0) hb);have n1_:=Aside0.mk (Kd.R_lower (Kd.R_new' ho0 (Kd.R_lt (R_up HO_3.out))) (below_size (below_go HB.out)));have n2_:=Aside0.mk (blk_below (blk_up BK505.out) hb);have n3_:=Aside0.mk (below_step (below_go HB.out) hb);clear HO_3;clear BK505;clear HB;have HO_3:=n0_;have HO512:=n1_;have BK505:=n2_;have HB:=n3_;clear n0_ n1_ n2_ n3_;(try clear hb);(try clear hb2);(try clear hk);(try clear hi);(try clear ho0);obtain ⟨Ao13,co13,eo13⟩:=Kd.R_slice HO512.out;subst eo13)|((with_reducible refine gate_builtin (b:=.append) (xs:=#[.tmp 17,.tmp 24]) rfl ?_);at_builtin;refine Kd.R_append_rows (Kd.int .u8) (w0:=w) w.heap.size rfl (.tmp 17) (.tmp 24) 41 5 (.int .u8 0) 1 rfl Try.underlying41 info5 rfl (by decide) (by omega) u3 x3_1 t510 _ _ _ (fun k_=>some k_≠(.slice Ao13 t510.length co13 : Value).ownBlock) (fun _=>False) rfl rfl ?aO ?aR (fun _ _ h=>h) (fun _ h=>h.elim) ?aF ?aB ?aS ?aL ?_;(case aR=>repeat (first|exact (Kd.R_reads' HO512.out).2.2|(with_reducible refine Kd.C_alloc ?_ _)|(with_reducible refine Kd.C_drewN ?_ _)|(with_reducible refine Kd.C_drew ?_)));(case aB=>exact (below_go HB.out));(case aF=>exact (fun k_ hk=>Kd.fresh' (Kd.R_lt (R_up HO512.out)) k_ hk));(case aO=>exact (by (with_reducible repeat (first|apply Kd.R_alloc|apply Kd.R_drewN|apply Kd.R_drew));exact Kd.R_mono HO_3.out (fun _ hk=>hk.2)));(case aS=>exact (below_size (below_go HB.out)));(case aL=>have:=LMc9.out;omega);intro v514 w12 ho hb hg hat;rw [← Ny513.out] at ho;have n0_:=Aside0.mk (blk_grown (blk_up BK505.out) hg (Kd.R_ne HO_3.out BK505.out (by decide)));have n1_:=Aside0.mk (Kd.R_after (ok:=(fun _=>True)) (R_up HO512.out) hg hat);have n2_:=Aside0.mk (hb);have n3_:=Aside0.mk (ho);clear BK505;clear HO512;clear HB;clear HO_3;have BK505:=n0_;have HO512:=n1_;have HB:=n2_;have HO515:=n3_;clear n0_ n1_ n2_ n3_;clear ho hb hg hat))
      go_roundg k1
      case measure=>have:=HK1.out;omega
      case rel=>exact ⟨(y513),(wrap64 (x4_1 + 1)),(by first|rfl|(simp;done)|(simp [*];done)),(by first|exact H'|(subst_vars;exact H')),⟨by have:=HK1.out;omega⟩,⟨by (with_reducible repeat (first|apply Kd.R_alloc|apply Kd.R_drewN|apply Kd.R_drew));exact Kd.R_mono HO515.out (fun _ hk=>trivial)⟩,⟨by (with_reducible repeat (first|refine blk_drewN ?_ _|refine blk_drew ?_|refine blk_alloc ?_ _));exact BK505.out⟩,⟨by repeat (first|(with_reducible first|exact HB.out|apply below_alloc|apply pw_below_drewN|apply below_drew1|refine below_set ?_ GE505.out)|exact HB.out)⟩⟩
     ·rw [if_neg c9] at H
      exact absurd H (by simp)
    ·rw [if_neg c7] at H
     exact absurd H (by simp)
   ·rw [if_neg c6] at H
    have c6b0 : decide (x4_1 < (l0_0.length : Int))=false:=decide_eq_false c6
    clear c6
    replace H:=Option.bind_eq_some_iff.mp H
    obtain ⟨t516,A140,H⟩:=H
    replace H : (if x3_1.length + t516.length < 140737488355328 then ((some (x3_1 ++ t516 : List Int)).bind fun y519=>((thresherref01_PutVar.f k1 (IntKind.u64.wrap (a0_2))).bind fun t522=>(if y519.length + t522.length < 140737488355328 then ((some (y519 ++ t522 : List Int)).bind fun y525=>((thresherref01_PutVar.f k1 (IntKind.u64.wrap (a0_3))).bind fun t528=>(if y525.length + t528.length < 140737488355328 then (some (y525 ++ t528)) else (none)))) else (none)))) else (none))=some r:=H
    have A14:=Aside0.mk A140
    clear A140
    by_cases c15 : x3_1.length + t516.length < 140737488355328
    ·rw [if_pos c15] at H
     have LMc15:=Aside0.mk c15
     clear c15
     obtain ⟨y519,hy519⟩ : ∃ y_ : List Int,y_=(x3_1 ++ t516):=⟨_,rfl⟩
     replace H : ((thresherref01_PutVar.f k1 (IntKind.u64.wrap (a0_2))).bind fun t522=>(if y519.length + t522.length < 140737488355328 then ((some (y519 ++ t522 : List Int)).bind fun y525=>((thresherref01_PutVar.f k1 (IntKind.u64.wrap (a0_3))).bind fun t528=>(if y525.length + t528.length < 140737488355328 then (some (y525 ++ t528)) else (none)))) else (none)))=some r:=by first|(rw [hy519];with_reducible exact H)|(have H2_:=(Option.bind_some _ _).symm.trans H;rw [hy519];with_reducible exact H2_)|(have H2_:=(Option.bind_some _ _).symm.trans H;with_reducible exact H2_)|with_reducible exact H|(rw [hy519];exact H)|exact H
     have Ny519:=Aside0.mk hy519
     clear hy519
     replace H:=Option.bind_eq_some_iff.mp H
     obtain ⟨t522,A160,H⟩:=H
     replace H : (if y519.length + t522.length < 140737488355328 then ((some (y519 ++ t522 : List Int)).bind fun y525=>((thresherref01_PutVar.f k1 (IntKind.u64.wrap (a0_3))).bind fun t528=>(if y525.length + t528.length < 140737488355328 then (some (y525 ++ t528)) else (none)))) else (none))=some r:=H
     have A16:=Aside0.mk A160
     clear A160
     by_cases c17 : y519.length + t522.length < 140737488355328
     ·rw [if_pos c17] at H
      have LMc17:=Aside0.mk c17
      clear c17
      obtain ⟨y525,hy525⟩ : ∃ y_ : List Int,y_=(y519 ++ t522):=⟨_,rfl⟩
      replace H : ((thresherref01_PutVar.f k1 (IntKind.u64.wrap (a0_3))).bind fun t528=>(if y525.length + t528.length < 140737488355328 then (some (y525 ++ t528)) else (none)))=some r:=by first|(rw [hy525];with_reducible exact H)|(have H2_:=(Option.bind_some _ _).symm.trans H;rw [hy525];with_reducible exact H2_)|(have H2_:=(Option.bind_some _ _).symm.trans H;with_reducible exact H2_)|with_reducible exact H|(rw [hy525];exact H)|exact H
      have Ny525:=Aside0.mk hy525
      clear hy525
      replace H:=Option.bind_eq_some_iff.mp H
      obtain ⟨t528,A180,H⟩:=H
      replace H : (if y525.length + t528.length < 140737488355328 then (some (y525 ++ t528)) else (none))=some r:=H
      have A18:=Aside0.mk A180
      clear A180
      by_cases c19 : y525.length + t528.length < 140737488355328
      ·rw [if_pos c19] at H
       have LMc19:=Aside0.mk c19
       clear c19
       obtain ⟨y531,hy531⟩ : ∃ y_ : List Int,y_=(y525 ++ t528):=⟨_,rfl⟩
       replace H : (some y531)=some r:=by first|(rw [hy531];with_reducible exact H)|(have H2_:=(Option.bind_some _ _).symm.trans H;rw [hy531];with_reducible exact H2_)|(have H2_:=(Option.bind_some _ _).symm.trans H;with_reducible exact H2_)|with_reducible exact H|(rw [hy531];exact H)|exact H
       have Ny531:=Aside0.mk hy531
       clear hy531
       obtain rfl:=Option.some.inj H
       have hcz20_0 : wr.cell? ⟨gb505,0,none⟩=some (.slice A0_0 l0_0.length c0_0):=(blk_cell BK505.out 0).trans rfl
       have hcz20_1 : wr.cell? ⟨gb505,1,none⟩=some (.int .i64 a0_1):=(blk_cell BK505.out 1).trans rfl
       have hcz20_2 : wr.cell? ⟨gb505,2,none⟩=some (.int .i64 a0_2):=(blk_cell BK505.out 2).trans rfl
       have hcz20_3 : wr.cell? ⟨gb505,3,none⟩=some (.int .i64 a0_3):=(blk_cell BK505.out 3).trans rfl
       have hfz20_0:=blk_frozen BK505.out 0
       have hfz20_1:=blk_frozen BK505.out 1
       have hfz20_2:=blk_frozen BK505.out 2
       have hfz20_3:=blk_frozen BK505.out 3
       go_wp2_with (first|((with_reducible refine gate_callee (f:=42) rfl ?_);refine goesL_ (some 30) rfl rfl Try.func42 (by kernel_rfl) rfl #[.int .u64 (IntKind.u64.wrap (a0_1))] rfl (by (try simp only [List.map_toArray,List.map_cons,List.map_nil]);first|done|rfl|(simp only [List.length_drop,List.length_take];rfl)) ?_;(with_reducible refine (thresherref01_PutVar.calls k1 (IntKind.u64.wrap (a0_1)) t516 _ A14.out).mono ?_);rintro e w21 ⟨v517,rfl,ho0,hb⟩;refine ⟨_,rfl,?_⟩;have n0_:=Aside0.mk (Kd.R_elder' (R_up HO_3.out) (Kd.R_base ho0) hb);have n1_:=Aside0.mk (Kd.R_lower (Kd.R_new' ho0 (Kd.R_lt (R_up HO_3.out))) (below_size (below_go HB.out)));have n2_:=Aside0.mk (blk_below (blk_up BK505.out) hb);have n3_:=Aside0.mk (below_step (below_go HB.out) hb);clear HO_3;clear BK505;clear HB;have HO_3:=n0_;have HO518:=n1_;have BK505:=n2_;have HB:=n3_;clear n0_ n1_ n2_ n3_;(try clear hb);(try clear hb2);(try clear hk);(try clear hi);(try clear ho0);obtain ⟨Ao23,co23,eo23⟩:=Kd.R_slice HO518.out;subst eo23)|((with_reducible refine gate_builtin (b:=.append) (xs:=#[.tmp 26,.tmp 30]) rfl ?_);at_builtin;refine Kd.R_append_rows (Kd.int .u8) (w0:=w) w.heap.size rfl (.tmp 26) (.tmp 30) 41 5 (.int .u8 0) 1 rfl Try.underlying41 info5 rfl (by decide) (by omega) u3 x3_1 t516 _ _ _ (fun k_=>some k_≠(.slice Ao23 t516.length co23 : Value).ownBlock) (fun _=>False) rfl rfl ?aO ?aR (fun _ _ h=>h) (fun _ h=>h.elim) ?aF ?aB ?aS ?aL ?_;(case aR=>repeat (first|exact (Kd.R_reads' HO518.out).2.2|(with_reducible refine Kd.C_alloc ?_ _)|(with_reducible refine Kd.C_drewN ?_ _)|(with_reducible refine Kd.C_drew ?_)));(case aB=>exact (below_go HB.out));(case aF=>exact (fun k_ hk=>Kd.fresh' (Kd.R_lt (R_up HO518.out)) k_ hk));(case aO=>exact (by (with_reducible repeat (first|apply Kd.R_alloc|apply Kd.R_drewN|apply Kd.R_drew));exact Kd.R_mono HO_3.out (fun _ hk=>hk.2)));(case aS=>exact (below_size (below_go HB.out)));(case aL=>have:=LMc15.out;omega);intro v520 w22 ho hb hg hat;rw [← Ny519.out] at ho;have n0_:=Aside0.mk (blk_grown (blk_up BK505.out) hg (Kd.R_ne HO_3.out BK505.out (by decide)));have n1_:=Aside0.mk (Kd.R_after (ok:=(fun _=>True)) (R_up HO518.out) hg hat);have n2_:=Aside0.mk (hb);have n3_:=Aside0.mk (ho);clear BK505;clear HO518;clear HB;clear HO_3;have BK505:=n0_;have HO518:=n1_;have HB:=n2_;have HO521:=n3_;clear n0_ n1_ n2_ n3_;clear ho hb hg hat;have hcz24_0 : w22.cell? ⟨gb505,0,none⟩=some (.slice A0_0 l0_0.length c0_0):=(blk_cell BK505.out 0).trans rfl;have hcz24_1 : w22.cell? ⟨gb505,1,none⟩=some (.int .i64 a0_1):=(blk_cell BK505.out 1).trans rfl;have hcz24_2 : w22.cell? ⟨gb505,2,none⟩=some (.int .i64 a0_2):=(blk_cell BK505.out 2).trans rfl;have hcz24_3 : w22.cell? ⟨gb505,3,none⟩=some (.int .i64 a0_3):=(blk_cell BK505.out 3).trans rfl;have hfz24_0:=blk_frozen BK505.out 0;have hfz24_1:=blk_frozen BK505.out 1;have hfz24_2:=blk_frozen BK505.out 2;have hfz24_3:=blk_frozen BK505.out 3)|((with_reducible refine gate_callee (f:=42) rfl ?_);refine goesL_ (some 36) rfl rfl Try.func42 (by kernel_rfl) rfl #[.int .u64 (IntKind.u64.wrap (a0_2))] rfl (by (try simp only [List.map_toArray,List.map_cons,List.map_nil]);first|done|rfl|(simp only [List.length_drop,List.length_take];rfl)) ?_;(with_reducible refine (thresherref01_PutVar.calls k1 (IntKind.u64.wrap (a0_2)) t522 _ A16.out).mono ?_);rintro e w25 ⟨v523,rfl,ho0,hb⟩;refine ⟨_,rfl,?_⟩;have n0_:=Aside0.mk (Kd.R_elder' (R_up HO518.out) (Kd.R_base ho0) hb);have n1_:=Aside0.mk (Kd.R_elder' (R_up HO521.out) (Kd.R_base ho0) hb);have n2_:=Aside0.mk (Kd.R_lower (Kd.R_new' (Kd.R_new' ho0 (Kd.R_lt (R_up HO518.out))) (Kd.R_lt (R_up HO521.out))) (below_size (below_go HB.out)));have n3_:=Aside0.mk (blk_below (blk_up BK505.out) hb);have n4_:=Aside0.mk (below_step (below_go HB.out) hb);clear HO518;clear HO521;clear BK505;clear HB;have HO518:=n0_;have HO521:=n1_;have HO524:=n2_;have BK505:=n3_;have HB:=n4_;clear n0_ n1_ n2_ n3_ n4_;(try clear hb);(try clear hb2);(try clear hk);(try clear hi);(try clear ho0);obtain ⟨Ao27,co27,eo27⟩:=Kd.R_slice HO524.out;subst eo27)|((with_reducible refine gate_builtin (b:=.append) (xs:=#[.tmp 32,.tmp 36]) rfl ?_);at_builtin;refine Kd.R_append_rows (Kd.int .u8) (w0:=w) w.heap.size rfl (.tmp 32) (.tmp 36) 41 5 (.int .u8 0) 1 rfl Try.underlying41 info5 rfl (by decide) (by omega) v520 y519 t522 _ _ _ (fun k_=>some k_≠(.slice Ao23 t516.length co23 : Value).ownBlock∧some k_≠(.slice Ao27 t522.length co27 : Value).ownBlock) (fun _=>False) rfl rfl ?aO ?aR (fun _ _ h=>h) (fun _ h=>h.elim) ?aF ?aB ?aS ?aL ?_;(case aR=>repeat (first|exact (Kd.R_reads' HO524.out).2.2|(with_reducible refine Kd.C_alloc ?_ _)|(with_reducible refine Kd.C_drewN ?_ _)|(with_reducible refine Kd.C_drew ?_)));(case aB=>exact (below_go HB.out));(case aF=>exact (fun k_ hk=>⟨Kd.fresh' (Kd.R_lt (R_up HO518.out)) k_ hk,Kd.fresh' (Kd.R_lt (R_up HO524.out)) k_ hk⟩));(case aO=>exact (R_up HO521.out));(case aS=>exact (below_size (below_go HB.out)));(case aL=>have:=LMc17.out;omega);intro v526 w26 ho hb hg hat;rw [← Ny525.out] at ho;have n0_:=Aside0.mk (blk_grown (blk_up BK505.out) hg (Kd.R_ne HO521.out BK505.out (by decide)));have n1_:=Aside0.mk (Kd.R_after (ok:=(fun k_=>some k_≠(.slice Ao27 t522.length co27 : Value).ownBlock)) (by (with_reducible repeat (first|apply Kd.R_alloc|apply Kd.R_drewN|apply Kd.R_drew));exact Kd.R_mono HO518.out (fun _ hk=>⟨hk.2,hk.1.2⟩)) hg hat);have n2_:=Aside0.mk (Kd.R_after (ok:=(fun k_=>some k_≠(.slice Ao23 t516.length co23 : Value).ownBlock)) (by (with_reducible repeat (first|apply Kd.R_alloc|apply Kd.R_drewN|apply Kd.R_drew));exact Kd.R_mono HO524.out (fun _ hk=>⟨hk.1.2,hk.2⟩)) hg hat);have n3_:=Aside0.mk (hb);have n4_:=Aside0.mk (ho);clear BK505;clear HO518;clear HO524;clear HB;clear HO521;have BK505:=n0_;have HO518:=n1_;have HO524:=n2_;have HB:=n3_;have HO527:=n4_;clear n0_ n1_ n2_ n3_ n4_;clear ho hb hg hat;have hcz28_0 : w26.cell? ⟨gb505,0,none⟩=some (.slice A0_0 l0_0.length c0_0):=(blk_cell BK505.out 0).trans rfl;have hcz28_1 : w26.cell? ⟨gb505,1,none⟩=some (.int .i64 a0_1):=(blk_cell BK505.out 1).trans rfl;have hcz28_2 : w26.cell? ⟨gb505,2,none⟩=some (.int .i64 a0_2):=(blk_cell BK505.out 2).trans rfl;have hcz28_3 : w26.cell? ⟨gb505,3,none⟩=some (.int .i64 a0_3):=(blk_cell BK505.out 3).trans rfl;have hfz28_0:=blk_frozen BK505.out 0;have hfz28_1:=blk_frozen BK505.out 1;have hfz28_2:=blk_frozen BK505.out 2;have hfz28_3:=blk_frozen BK505.out 3)|((with_reducible refine gate_callee (f:=42) rfl ?_);refine goesL_ (some 42) rfl rfl Try.func42 (by kernel_rfl) rfl #[.int .u64 (IntKind.u64.wrap (a0_3))] rfl (by (try simp only [List.map_toArray,List.map_cons,List.map_nil]);first|done|rfl|(simp only [List.length_drop,List.length_take];rfl)) ?_;(with_reducible refine (thresherref01_PutVar.calls k1 (IntKind.u64.wrap (a0_3)) t528 _ A18.out).mono ?_);rintro e w29 ⟨v529,rfl,ho0,hb⟩;refine ⟨_,rfl,?_⟩;have n0_:=Aside0.mk (Kd.R_elder' (R_up HO518.out) (Kd.R_base ho0) hb);have n1_:=Aside0.mk (Kd.R_elder' (R_up HO524.out) (Kd.R_base ho0) hb);have n2_:=Aside0.mk (Kd.R_elder' (R_up HO527.out) (Kd.R_base ho0) hb);have n3_:=Aside0.mk (Kd.R_lower (Kd.R_new' (Kd.R_new' (Kd.R_new' ho0 (Kd.R_lt (R_up HO518.out))) (Kd.R_lt (R_up HO524.out))) (Kd.R_lt (R_up HO527.out))) (below_size (below_go HB.out)));have n4_:=Aside0.mk (blk_below (blk_up BK505.out) hb);have n5_:=Aside0.mk (below_step (below_go HB.out) hb);clear HO518;clear HO524;clear HO527;clear BK505;clear HB;have HO518:=n0_;have HO524:=n1_;have HO527:=n2_;have HO530:=n3_;have BK505:=n4_;have HB:=n5_;clear n0_ n1_ n2_ n3_ n4_ n5_;(try clear hb);(try clear hb2);(try clear hk);(try clear hi);(try clear ho0);obtain ⟨Ao31,co31,eo31⟩:=Kd.R_slice HO530.out;subst eo31)|((with_reducible refine gate_builtin (b:=.append) (xs:=#[.tmp 38,.tmp 42]) rfl ?_);at_builtin;refine Kd.R_append_rows (Kd.int .u8) (w0:=w) w.heap.size rfl (.tmp 38) (.tmp 42) 41 5 (.int .u8 0) 1 rfl Try.underlying41 info5 rfl (by decide) (by omega) v526 y525 t528 _ _ _ (fun k_=>some k_≠(.slice Ao23 t516.length co23 : Value).ownBlock∧some k_≠(.slice Ao27 t522.length co27 : Value).ownBlock∧some k_≠(.slice Ao31 t528.length co31 : Value).ownBlock) (fun _=>False) rfl rfl ?aO ?aR (fun _ _ h=>h) (fun _ h=>h.elim) ?aF ?aB ?aS ?aL ?_;(case aR=>repeat (first|exact (Kd.R_reads' HO530.out).2.2|(with_reducible refine Kd.C_alloc ?_ _)|(with_reducible refine Kd.C_drewN ?_ _)|(with_reducible refine Kd.C_drew ?_)));(case aB=>exact (below_go HB.out));(case aF=>exact (fun k_ hk=>⟨Kd.fresh' (Kd.R_lt (R_up HO518.out)) k_ hk,Kd.fresh' (Kd.R_lt (R_up HO524.out)) k_ hk,Kd.fresh' (Kd.R_lt (R_up HO530.out)) k_ hk⟩));(case aO=>exact (by (with_reducible repeat (first|apply Kd.R_alloc|apply Kd.R_drewN|apply Kd.R_drew));exact Kd.R_mono HO527.out (fun _ hk=>⟨hk.1.1,⟨hk.1.2,hk.2⟩⟩)));(case aS=>exact (below_size (below_go HB.out)));(case aL=>have:=LMc19.out;omega);intro v532 w30 ho hb hg hat;rw [← Ny531.out] at ho;have n0_:=Aside0.mk (blk_grown (blk_up BK505.out) hg (Kd.R_ne HO527.out BK505.out (by decide)));have n1_:=Aside0.mk (Kd.R_after (ok:=(fun k_=>some k_≠(.slice Ao27 t522.length co27 : Value).ownBlock∧some k_≠(.slice Ao31 t528.length co31 : Value).ownBlock)) (by (with_reducible repeat (first|apply Kd.R_alloc|apply Kd.R_drewN|apply Kd.R_drew));exact Kd.R_mono HO518.out (fun _ hk=>⟨⟨hk.1.1,hk.2⟩,hk.1.2⟩)) hg hat);have n2_:=Aside0.mk (Kd.R_after (ok:=(fun k_=>some k_≠(.slice Ao23 t516.length co23 : Value).ownBlock∧some k_≠(.slice Ao31 t528.length co31 : Value).ownBlock)) (by (with_reducible repeat (first|apply Kd.R_alloc|apply Kd.R_drewN|apply Kd.R_drew));exact Kd.R_mono HO524.out (fun _ hk=>⟨⟨hk.1.1,hk.2⟩,hk.1.2⟩)) hg hat);have n3_:=Aside0.mk (Kd.R_after (ok:=(fun k_=>some k_≠(.slice Ao23 t516.length co23 : Value).ownBlock∧some k_≠(.slice Ao27 t522.length co27 : Value).ownBlock)) (by (with_reducible repeat (first|apply Kd.R_alloc|apply Kd.R_drewN|apply Kd.R_drew));exact Kd.R_mono HO530.out (fun _ hk=>⟨⟨hk.1.1.2,hk.1.2⟩,hk.2⟩)) hg hat);have n4_:=Aside0.mk (hb);have n5_:=Aside0.mk (ho);clear BK505;clear HO518;clear HO524;clear HO530;clear HB;clear HO527;have BK505:=n0_;have HO518:=n1_;have HO524:=n2_;have HO530:=n3_;have HB:=n4_;have HO533:=n5_;clear n0_ n1_ n2_ n3_ n4_ n5_;clear ho hb hg hat))
       go_ret
       exact ⟨_,by first|rfl|(simp [errW_none,errW_some] <;> rfl)|(simp [*,errW_none,errW_some] <;> rfl),by (with_reducible repeat (first|apply Kd.R_alloc|apply Kd.R_drewN|apply Kd.R_drew));exact Kd.R_mono HO533.out (fun _ hk=>trivial),by repeat (first|(with_reducible first|exact HB.out|apply below_alloc|apply pw_below_drewN|apply below_drew1|refine below_set ?_ GE505.out)|exact HB.out)⟩
      ·rw [if_neg c19] at H
       exact absurd H (by simp)
     ·rw [if_neg c17] at H
      exact absurd H (by simp)
    ·rw [if_neg c15] at H
     exact absurd H (by simp)
end Go.Proofs.Ytkodpbellndelaa.P

