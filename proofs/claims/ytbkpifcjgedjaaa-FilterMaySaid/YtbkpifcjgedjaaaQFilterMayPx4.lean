/- Texts of FilterMay. Merged: Px4. -/
import Derived.Test.YtbkpifcjgedjaaaQFilterMayPx0
import Derived.Test.YtbkpifcjgedjaaaQFilterMayPx3
namespace Go.Proofs.Ytbkpifcjgedjaaa.P
open Go.RowKit Go.Proofs.YtbkpifcjgedjaaaW.PrintWords Go.Proofs.YtbkpifcjgedjaaaW.PrintLast Go.Proofs.YtbkpifcjgedjaaaW.PrintMore
attribute [local go_sem] max2_int min2_int max_two min_two max_three min_three max_four min_four   -- for this text's walks alone
set_option linter.unusedVariables false
set_option linter.unusedSimpArgs false
mutual
def filter_Select.l0 : Nat→Int→List (S37)→List Int→List Int→Int→Int→Int→Int→Int→ByteArray→Option (List Int)
 | 0,_,_,_,_,_,_,_,_,_,_=>none
 | k + 1,x0,x2,x9,x12,x13,x14,x119000,x119001,x119002,x119003=>if x14 < x13 then (if 0≤x14 then (if x14 < (x12.length : Int) then (if (rd x12 x14) ≥ 0 then (if (rd x12 x14) < (x2.length : Int) then (if 0≤(rd x12 x14) then ((filter_holds.f k x0 x119000 x119001 x119002 x119003 ((rd_T37 x2 (rd x12 x14)).f0) ((rd_T37 x2 (rd x12 x14)).f1)).bind fun t121=>(filter_Select.j1 k x0 x2 x9 (rd x12 x14) x12 x13 x14 t121 x119000 x119001 x119002 x119003)) else (none)) else (filter_Select.j1 k x0 x2 x9 (rd x12 x14) x12 x13 x14 false x119000 x119001 x119002 x119003)) else (filter_Select.j1 k x0 x2 x9 (rd x12 x14) x12 x13 x14 false x119000 x119001 x119002 x119003)) else (none)) else (none)) else (some x9)
def filter_Select.j1 : Nat→Int→List (S37)→List Int→Int→List Int→Int→Int→Bool→Int→Int→Int→ByteArray→Option (List Int)
 | 0,_,_,_,_,_,_,_,_,_,_,_,_=>none
 | k + 1,x0,x2,x9,x11,x12,x13,x14,x34,x119000,x119001,x119002,x119003=>if x34=true then (if x9.length < 17592186044416 then (filter_Select.l0 k x0 x2 (x9 ++ [x11]) x12 x13 (wrap64 (x14 + 1)) x119000 x119001 x119002 x119003) else (none)) else (filter_Select.l0 k x0 x2 x9 x12 x13 (wrap64 (x14 + 1)) x119000 x119001 x119002 x119003)
end
def filter_Select.f (k : Nat) (a0 : Int) (a1_0 : Int) (a1_1 : Int) (a1_2 : Int) (a1_3 : ByteArray) (l2 : List (S37)) (l3 : List Int) : Option (List Int):=filter_Select.l0 k a0 l2 ([] : List Int) l3 (l3.length : Int) 0 a1_0 a1_1 a1_2 a1_3
theorem filter_Select.mono_l : ∀ k,(∀ y0 y1 y2 y3 y4 y5 y6 y7 y8 y9,LeO (filter_Select.l0 k y0 y1 y2 y3 y4 y5 y6 y7 y8 y9) (filter_Select.l0 (k + 1) y0 y1 y2 y3 y4 y5 y6 y7 y8 y9))∧(∀ y0 y1 y2 y3 y4 y5 y6 y7 y8 y9 y10 y11,LeO (filter_Select.j1 k y0 y1 y2 y3 y4 y5 y6 y7 y8 y9 y10 y11) (filter_Select.j1 (k + 1) y0 y1 y2 y3 y4 y5 y6 y7 y8 y9 y10 y11))
 | 0=>⟨fun _ _ _ _ _ _ _ _ _ _ r h=>by simp [filter_Select.l0] at h,fun _ _ _ _ _ _ _ _ _ _ _ _ r h=>by simp [filter_Select.j1] at h⟩
 | k + 1=>by
  obtain ⟨ih0,ih1⟩:=filter_Select.mono_l k
  refine ⟨?_,?_⟩
  ·intro y0 y1 y2 y3 y4 y5 y6 y7 y8 y9
   unfold filter_Select.l0
   repeat' first
   | (with_reducible exact ih0 _ _ _ _ _ _ _ _ _ _)
   | (with_reducible exact ih1 _ _ _ _ _ _ _ _ _ _ _ _)
   | (with_reducible exact filter_holds.mono _ _ _ _ _ _ _ _)
   | (with_reducible exact LeO.refl _)
   | (with_reducible exact LeO.none _)
   | (with_reducible refine LeO.ite ?_ ?_)
   | (with_reducible refine LeO.bind ?_ (fun _=>?_))
   | exact ih0 _ _ _ _ _ _ _ _ _ _
   | exact ih1 _ _ _ _ _ _ _ _ _ _ _ _
   | exact filter_holds.mono _ _ _ _ _ _ _ _
   | exact LeO.none _
   | refine LeO.ite ?_ ?_
   | refine LeO.bind ?_ (fun _=>?_)
  ·intro y0 y1 y2 y3 y4 y5 y6 y7 y8 y9 y10 y11
   unfold filter_Select.j1
   repeat' first
   | (with_reducible exact ih0 _ _ _ _ _ _ _ _ _ _)
   | (with_reducible exact ih1 _ _ _ _ _ _ _ _ _ _ _ _)
   | (with_reducible exact filter_holds.mono _ _ _ _ _ _ _ _)
   | (with_reducible exact LeO.refl _)
   | (with_reducible exact LeO.none _)
   | (with_reducible refine LeO.ite ?_ ?_)
   | (with_reducible refine LeO.bind ?_ (fun _=>?_))
   | exact ih0 _ _ _ _ _ _ _ _ _ _
   | exact ih1 _ _ _ _ _ _ _ _ _ _ _ _
   | exact filter_holds.mono _ _ _ _ _ _ _ _
   | exact LeO.none _
   | refine LeO.ite ?_ ?_
   | refine LeO.bind ?_ (fun _=>?_)
theorem filter_Select.mono : ∀ a0 a1 a2 a3 a4 a5 a6 k,LeO (filter_Select.f k a0 a1 a2 a3 a4 a5 a6) (filter_Select.f (k + 1) a0 a1 a2 a3 a4 a5 a6):=by
 intro a0 a1 a2 a3 a4 a5 a6 k
 obtain ⟨ih0,ih1⟩:=filter_Select.mono_l k
 unfold filter_Select.f
 repeat' first
   | (with_reducible exact ih0 _ _ _ _ _ _ _ _ _ _)
   | (with_reducible exact ih1 _ _ _ _ _ _ _ _ _ _ _ _)
   | (with_reducible exact filter_holds.mono _ _ _ _ _ _ _ _)
   | (with_reducible exact LeO.refl _)
   | (with_reducible exact LeO.none _)
   | (with_reducible refine LeO.ite ?_ ?_)
   | (with_reducible refine LeO.bind ?_ (fun _=>?_))
   | exact ih0 _ _ _ _ _ _ _ _ _ _
   | exact ih1 _ _ _ _ _ _ _ _ _ _ _ _
   | exact filter_holds.mono _ _ _ _ _ _ _ _
   | exact LeO.none _
   | refine LeO.ite ?_ ?_
   | refine LeO.bind ?_ (fun _=>?_)
def filter_Select.T5 : Bool × List (List Nat × List Nat):=(true,[([],[]),([0],[0]),([1],[1]),([2],[2]),([2],[2]),([4,2],[2,4]),([3,5,2],[2,3,5]),([2,6],[2,6]),([7,2],[7]),([8],[8]),([8],[8]),([8],[8]),([8],[8]),([11,12,8],[8,11,12]),([13,8],[8,13]),([9,10,14,8,8],[8,9,10,14]),([8,15],[8,15])])
def filter_Select.B5 : List Nat:=[0,1,3,7,7,23,63,127,255,511,511,511,511,6655,14847,32767,65535]
theorem filter_Select.tab5 : rtab .any (opsOf Try.f13 5)=filter_Select.T5:=by kernel_rfl
theorem filter_Select.bits5 : waitsOk filter_Select.T5.2 filter_Select.B5=true:=by kernel_rfl
set_option maxHeartbeats 8000000 in
set_option maxRecDepth 100000 in
theorem filter_Select.calls (k : Nat) (a0 : Int) (a1_0 : Int) (a1_1 : Int) (a1_2 : Int) (a1_3 : ByteArray) (A2 : Option Addr) (c2 : Nat) (l2 : List (S37)) (A3 : Option Addr) (c3 : Nat) (l3 : List Int) (r : List Int) (w : World) (hr2 : Kd.C k37 w A2 l2.length l2) (hc2 : l2.length≤c2) (hr3 : Kd.C (Kd.int .i64) w A3 l3.length l3) (hc3 : l3.length≤c3) (h : filter_Select.f k a0 a1_0 a1_1 a1_2 a1_3 l2 l3=some r) :
  Calls Try.prog 13 #[.int .i64 a0,.agg #[.int .i64 a1_0,.int .i64 a1_1,.int .i64 a1_2,.string a1_3],.slice A2 l2.length c2,.slice A3 l3.length c3] w fun e w'=>∃ v0_ : Value,e=.returned (v0_)∧Kd.R (Kd.int .i64) 3 w' w.heap.size (fun _=>True) v0_ r∧Below w.heap.size w w':=by
 have hu39:=Try.underlying39
 have hu37:=Try.underlying37
 have HR2:=Aside0.mk hr2
 have HC2:=Aside0.mk hc2
 clear hr2 hc2
 have HR3:=Aside0.mk hr3
 have HC3:=Aside0.mk hc3
 clear hr3 hc3
 have HB:=Aside0.mk (Below.refl w.heap.size w)
 have H : (filter_Select.l0 k a0 l2 ([] : List Int) l3 (l3.length : Int) 0 a1_0 a1_1 a1_2 a1_3)=some r:=h
 clear h
 have H':=Aside0.mk H
 clear H
 go_enter Try.func13,Try.ntmps13
 go_wp2_with (first|((with_reducible refine gate_dst (N:=5) rfl ?_);(try (refine gate_guard (by rfl) ?_;dsimp only));refine box_event ?hg (N:=5) ?hd (cs:=#[.int .i64 a1_0,.int .i64 a1_1,.int .i64 a1_2,.string a1_3]) (t:=39) ?hr ?_;(case hd=>rfl);(case hg=>rfl);(case hr=>first|(go_simp;done)|(go_simp;rfl));intro gb118 hg w5 hbox hb;have n0_:=Aside0.mk (below_step (below_up HB.out) hb);have n1_:=Aside0.mk (hbox);have n2_:=Aside0.mk ((by rw [hg];exact (below_size (below_up HB.out)) : w.heap.size≤gb118));have n3_:=Aside0.mk ((by rw [hg];exact (below_size (below_up HB.out)) : w.heap.size≤gb118));clear HB;have HB:=n0_;have BK118:=n1_;have GW118:=n2_;have GE118:=n3_;clear n0_ n1_ n2_ n3_;clear hb hbox hg))
 go_loopg [9,14] k (fun kq v9 v14 w'=>∃ (x9_1 : List Int) (x14_1 : Int),v14=.int .i64 x14_1∧Aside0 (filter_Select.l0 kq a0 l2 x9_1 l3 (l3.length : Int) x14_1 a1_0 a1_1 a1_2 a1_3=some r)∧Aside0 (kq≤k)∧Aside0 (Kd.R (Kd.int .i64) 3 w' w.heap.size (fun _=>True) v9 x9_1)∧Aside0 (w'.heap[gb118]?=some (.cells #[.int .i64 a1_0,.int .i64 a1_1,.int .i64 a1_2,.string a1_3] 39 (0,0)))∧Aside0 (Below w.heap.size w w'))
 case atStart=>exact ⟨(([] : List Int)),(0),(by first|rfl|(simp;done)|(simp [*];done)),H',⟨Nat.le_refl _⟩,⟨by first|exact Kd.R_nil _ _ _ _ _|exact Kd.N_nil _ _ _ _ _|exact Kd.V_nil _ _ _ _ _|exact Kd.Q_nil _ _ _ _ _|exact Kd.S_nil _ _ _ _ _⟩,⟨by (with_reducible repeat (first|refine blk_drewN ?_ _|refine blk_drew ?_|refine blk_alloc ?_ _));exact BK118.out⟩,⟨by repeat (first|(with_reducible first|exact HB.out|apply below_alloc|apply pw_below_drewN|apply below_drew1|refine below_set ?_ GE118.out)|exact HB.out)⟩⟩
 case round =>
  clear H'
  try clear c1
  try clear c2
  try clear p2
  try clear c3
  obtain ⟨x9_1,x14_1,rfl,HA,HK1,HO_9,BK118,HB⟩:=hrel
  cases gk with
  | zero=>exact absurd HA.out (by simp [filter_Select.l0])
  | succ k1 =>
   have H:=HA.out
   clear HA
   simp only [filter_Select.l0] at H
   by_cases c6 : x14_1 < (l3.length : Int)
   ·rw [if_pos c6] at H
    have c6b0 : decide (x14_1 < (l3.length : Int))=true:=decide_eq_true c6
    clear c6
    by_cases c7 : 0≤x14_1
    ·rw [if_pos c7] at H
     have c7b0 : decide (0≤x14_1)=true:=decide_eq_true c7
     clear c7
     by_cases c8 : x14_1 < (l3.length : Int)
     ·rw [if_pos c8] at H
      have c8b0 : decide (x14_1 < (l3.length : Int))=true:=decide_eq_true c8
      clear c8
      have HC9:=Aside0.mk H
      clear H
      have p119 : 0≤(x14_1 : Int):=of_decide_eq_true (by first|(with_reducible assumption)|assumption)
      have q119 : x14_1 < (l3.length : Int):=of_decide_eq_true (by first|(with_reducible assumption)|assumption)
      obtain ⟨ad119,e119,hx119_0⟩:=Kd.at_int HR3.out x14_1 p119 q119
      cases e119
      replace hx119_0:=(HB.out.cell (World.block_lt_of_cell? w _ hx119_0)).trans hx119_0
      replace p119:=eq_true p119
      replace q119:=eq_true q119
      go_upto_region 5 with (fail)
      go_cut [34] (fun v34 wc=>∃ (kq : Nat) (x34_8 : Bool),v34=.bool x34_8∧Aside0 (filter_Select.j1 kq a0 l2 x9_1 (rd l3 x14_1) l3 (l3.length : Int) x14_1 x34_8 a1_0 a1_1 a1_2 a1_3=some r)∧Aside0 (kq≤k1)∧Aside0 (Kd.R (Kd.int .i64) 3 wc w.heap.size (fun _=>True) u9 x9_1)∧Aside0 (wc.heap[gb118]?=some (.cells #[.int .i64 a1_0,.int .i64 a1_1,.int .i64 a1_2,.string a1_3] 39 (0,0)))∧Aside0 (Below w.heap.size w wc))
      case first =>
       have H:=HC9.out
       clear HC9
       by_cases c10 : (rd l3 x14_1) ≥ 0
       ·rw [if_pos c10] at H
        have c10b0 : decide (0≤(rd l3 x14_1))=true:=decide_eq_true c10
        clear c10
        (first|rw [c10b0]|(simp only [i64_w,i32_w];rw [c10b0])|skip)
        by_cases c11 : (rd l3 x14_1) < (l2.length : Int)
        ·rw [if_pos c11] at H
         have c11b0 : decide ((rd l3 x14_1) < (l2.length : Int))=true:=decide_eq_true c11
         clear c11
         by_cases c12 : 0≤(rd l3 x14_1)
         ·rw [if_pos c12] at H
          have c12b0 : decide (0≤(rd l3 x14_1))=true:=decide_eq_true c12
          clear c12
          replace H:=Option.bind_eq_some_iff.mp H
          obtain ⟨t121,A130,H⟩:=H
          replace H : (filter_Select.j1 k1 a0 l2 x9_1 (rd l3 x14_1) l3 (l3.length : Int) x14_1 t121 a1_0 a1_1 a1_2 a1_3)=some r:=H
          have A13:=Aside0.mk A130
          clear A130
          have H':=Aside0.mk H
          clear H
          try go_wp2
          have n0_:=Aside0.mk (Kd.R_drew HO_9.out)
          have n1_:=Aside0.mk (blk_drew BK118.out)
          have n2_:=Aside0.mk (below_drew1 HB.out)
          clear HO_9
          clear BK118
          clear HB
          have HO_9:=n0_
          have BK118:=n1_
          have HB:=n2_
          clear n0_ n1_ n2_
          have p120 : 0≤((rd l3 x14_1) : Int):=of_decide_eq_true (by first|(with_reducible assumption)|assumption)
          have q120 : (rd l3 x14_1) < (l2.length : Int):=of_decide_eq_true (by first|(with_reducible assumption)|assumption)
          obtain ⟨ad120,e120,hx120_0,hx120_1⟩:=at_T37 HR2.out (rd l3 x14_1) p120 q120
          have hw120_1:=hx120_1
          have hw120_0:=hx120_0
          cases e120
          replace hx120_0:=(HB.out.cell (World.block_lt_of_cell? w _ hx120_0)).trans hx120_0
          replace hx120_1:=(HB.out.cell (World.block_lt_of_cell? w _ hx120_1)).trans hx120_1
          replace p120:=eq_true p120
          replace q120:=eq_true q120
          refine start_ (n:=17) (S:=fun w'=>w'.cell? ⟨gb118,0,none⟩=some (.int .i64 a1_0)∧w'.cell? ⟨gb118,1,none⟩=some (.int .i64 a1_1)∧w'.cell? ⟨gb118,2,none⟩=some (.int .i64 a1_2)∧w'.cell? ⟨gb118,3,none⟩=some (.string a1_3)∧w'.cell? (ad120.add (((rd l3 x14_1)).toNat * 2))=some (.int .i64 ((rd_T37 l2 (rd l3 x14_1)).f0))∧w'.cell? ⟨(ad120.add (((rd l3 x14_1)).toNat * 2)).block,(ad120.add (((rd l3 x14_1)).toNat * 2)).off + 1,none⟩=some (.string ((rd_T37 l2 (rd l3 x14_1)).f1))) (ds:=[]) #[false,false,false,false,false,false,false,false,false,false,false,false,false,false,false,false,false] (by kernel_rfl) rfl rfl ⟨(blk_cell BK118.out 0).trans rfl,(blk_cell BK118.out 1).trans rfl,(blk_cell BK118.out 2).trans rfl,(blk_cell BK118.out 3).trans rfl,((HB.out.cell (World.block_lt_of_cell? w _ hw120_0)).trans hw120_0),((HB.out.cell (World.block_lt_of_cell? w _ hw120_1)).trans hw120_1)⟩ (fun hHeld=>?_);refine with_tabW filter_Select.tab5 filter_Select.bits5 (fun HT_ HW_=>?_)
          generalize wr.drew=w14 at HO_9 BK118 HB hx120_0 hx120_1 hHeld ⊢
          refine pure_ (i:=0) (N:=some 18) (v:=?_) (a':=?_) #[true,false,false,false,false,false,false,false,false,false,false,false,false,false,false,false,false] rfl rfl (any_of HT_.out (by kernel_rfl)) (fun _ _ _ h=>h) (Or.inl ⟨by rfl,?_⟩) ?_ ?_
          rotate_left;(intro w';go_simp;with_reducible rfl);rotate_left;(simp only [Act.put,List.setIfInBounds_toArray,List.set_cons_zero,List.set_cons_succ,i64_w,i32_w];rfl)
          refine pure_ (i:=1) (N:=some 19) (v:=?_) (a':=?_) #[true,true,false,false,false,false,false,false,false,false,false,false,false,false,false,false,false] rfl rfl (any_of HT_.out (by kernel_rfl)) (fun _ _ _ h=>h) (Or.inl ⟨by rfl,?_⟩) ?_ ?_
          rotate_left;(intro w';go_simp;with_reducible rfl);rotate_left;(simp only [Act.put,List.setIfInBounds_toArray,List.set_cons_zero,List.set_cons_succ,i64_w,i32_w];rfl)
          refine pure_ (i:=2) (N:=some 20) (v:=?_) (a':=?_) #[true,true,true,false,false,false,false,false,false,false,false,false,false,false,false,false,false] rfl rfl (any_of HT_.out (by kernel_rfl)) (fun _ _ _ h=>h) (Or.inl ⟨by rfl,?_⟩) ?_ ?_
          rotate_left;(intro w';go_simp;with_reducible rfl);rotate_left;(simp only [Act.put,List.setIfInBounds_toArray,List.set_cons_zero,List.set_cons_succ,i64_w,i32_w];rfl)
          refine pure_ (i:=3) (N:=some 21) (v:=?_) (a':=?_) #[true,true,true,true,false,false,false,false,false,false,false,false,false,false,false,false,false] rfl rfl (any_of HT_.out (by kernel_rfl)) (fun _ _ _ h=>h) (Or.inl ⟨by rfl,?_⟩) ?_ ?_
          rotate_left;(intro w';go_simp;with_reducible rfl);rotate_left;(simp only [Act.put,List.setIfInBounds_toArray,List.set_cons_zero,List.set_cons_succ,i64_w,i32_w];rfl)
          refine pure_ (i:=4) (N:=some 22) (v:=?_) (a':=?_) #[true,true,true,true,true,false,false,false,false,false,false,false,false,false,false,false,false] rfl rfl (any_of HT_.out (by kernel_rfl)) (fun _ _ _ h=>h) (Or.inl ⟨by rfl,?_⟩) ?_ ?_
          rotate_left;(intro w';go_simp;with_reducible rfl);rotate_left;(simp only [Act.put,List.setIfInBounds_toArray,List.set_cons_zero,List.set_cons_succ,i64_w,i32_w];rfl)
          refine pure_ (i:=5) (N:=some 23) (v:=?_) (a':=?_) #[true,true,true,true,true,true,false,false,false,false,false,false,false,false,false,false,false] rfl rfl (any_of HT_.out (by kernel_rfl)) (fun _ _ _ h=>h) (Or.inl ⟨by rfl,?_⟩) ?_ ?_
          rotate_left;(intro w';go_simp;with_reducible rfl);rotate_left;(simp only [Act.put,List.setIfInBounds_toArray,List.set_cons_zero,List.set_cons_succ,i64_w,i32_w];rfl)
          refine pure_ (i:=6) (N:=some 24) (v:=?_) (a':=?_) #[true,true,true,true,true,true,true,false,false,false,false,false,false,false,false,false,false] rfl rfl (any_of HT_.out (by kernel_rfl)) (fun _ _ _ h=>h) (Or.inl ⟨by rfl,?_⟩) ?_ ?_
          rotate_left;(intro w';go_simp;with_reducible rfl);rotate_left;(simp only [Act.put,List.setIfInBounds_toArray,List.set_cons_zero,List.set_cons_succ,i64_w,i32_w];rfl)
          refine pure_ (i:=7) (N:=some 25) (v:=?_) (a':=?_) #[true,true,true,true,true,true,true,true,false,false,false,false,false,false,false,false,false] rfl rfl (any_of HT_.out (by kernel_rfl)) (fun _ _ _ h=>h) (Or.inl ⟨by rfl,?_⟩) ?_ ?_
          rotate_left;(intro w';go_simp;with_reducible rfl);rotate_left;(simp only [Act.put,List.setIfInBounds_toArray,List.set_cons_zero,List.set_cons_succ,i64_w,i32_w];rfl)
          refine pure_ (i:=8) (N:=some 26) (v:=?_) (a':=?_) #[true,true,true,true,true,true,true,true,true,false,false,false,false,false,false,false,false] rfl rfl (any_of HT_.out (by kernel_rfl)) (fun _ _ _ h=>h) (Or.inl ⟨by rfl,?_⟩) ?_ ?_
          rotate_left;(intro w';go_simp;with_reducible rfl);rotate_left;(simp only [Act.put,List.setIfInBounds_toArray,List.set_cons_zero,List.set_cons_succ,i64_w,i32_w];rfl)
          refine pure_ (i:=9) (N:=some 27) (v:=?_) (a':=?_) #[true,true,true,true,true,true,true,true,true,true,false,false,false,false,false,false,false] rfl rfl (any_of HT_.out (by kernel_rfl)) (fun _ _ _ h=>h) (Or.inl ⟨by rfl,?_⟩) ?_ ?_
          rotate_left;(intro w';go_simp;with_reducible rfl);rotate_left;(simp only [Act.put,List.setIfInBounds_toArray,List.set_cons_zero,List.set_cons_succ,i64_w,i32_w];rfl)
          refine pure_ (i:=11) (N:=some 29) (v:=?_) (a':=?_) #[true,true,true,true,true,true,true,true,true,true,false,true,false,false,false,false,false] rfl rfl (any_of HT_.out (by kernel_rfl)) (fun _ _ _ h=>h) (Or.inl ⟨by rfl,?_⟩) ?_ ?_
          rotate_left;(intro w';go_simp;with_reducible rfl);rotate_left;(simp only [Act.put,List.setIfInBounds_toArray,List.set_cons_zero,List.set_cons_succ,i64_w,i32_w];rfl)
          refine pure_ (i:=12) (N:=some 30) (v:=?_) (a':=?_) #[true,true,true,true,true,true,true,true,true,true,false,true,true,false,false,false,false] rfl rfl (any_of HT_.out (by kernel_rfl)) (fun _ _ _ h=>h) (Or.inl ⟨by rfl,?_⟩) ?_ ?_
          rotate_left;(intro w';go_simp;with_reducible rfl);rotate_left;(simp only [Act.put,List.setIfInBounds_toArray,List.set_cons_zero,List.set_cons_succ,i64_w,i32_w];rfl)
          refine pure_ (i:=13) (N:=some 31) (v:=?_) (a':=?_) #[true,true,true,true,true,true,true,true,true,true,false,true,true,true,false,false,false] rfl rfl (any_of HT_.out (by kernel_rfl)) (fun _ _ _ h=>h) (Or.inl ⟨by rfl,?_⟩) ?_ ?_
          rotate_left;(intro w';go_simp;with_reducible rfl);rotate_left;(simp only [Act.put,List.setIfInBounds_toArray,List.set_cons_zero,List.set_cons_succ,i64_w,i32_w];rfl)
          refine take_ (i:=10) (N:=some 28) (v:=?_) (a':=?_) #[true,true,true,true,true,true,true,true,true,true,true,true,true,true,false,false,false] rfl rfl (take_ofW HT_.out HW_.out (by kernel_rfl)) (fun _ _ _ h=>h) (Or.inl ⟨by rfl,?_⟩) hHeld ?_ ?_
          rotate_left;(rintro w' ⟨s0,s1,s2,s3,s4,s5⟩;go_simp;with_reducible rfl);rotate_left;(simp only [Act.put,List.setIfInBounds_toArray,List.set_cons_zero,List.set_cons_succ,i64_w,i32_w];rfl)
          refine take_ (i:=14) (N:=some 32) (v:=?_) (a':=?_) #[true,true,true,true,true,true,true,true,true,true,true,true,true,true,true,false,false] rfl rfl (take_ofW HT_.out HW_.out (by kernel_rfl)) (fun _ _ _ h=>h) (Or.inl ⟨by rfl,?_⟩) hHeld ?_ ?_
          rotate_left;(rintro w' ⟨s0,s1,s2,s3,s4,s5⟩;go_simp;with_reducible rfl);rotate_left;(simp only [Act.put,List.setIfInBounds_toArray,List.set_cons_zero,List.set_cons_succ,i64_w,i32_w];rfl)
          refine one_ (i:=15) (N:=some 33) #[true,true,true,true,true,true,true,true,true,true,true,true,true,true,true,true,false] rfl rfl (one_of HT_.out (by kernel_rfl)) (by decide) (fun K hK=>?_)
          refine goes_ Try.func25 (by kernel_rfl) rfl #[.int .i64 a0,.agg #[.int .i64 a1_0,.int .i64 a1_1,.int .i64 a1_2,.string a1_3],.agg #[.int .i64 ((rd_T37 l2 (rd l3 x14_1)).f0),.string ((rd_T37 l2 (rd l3 x14_1)).f1)]] (by rfl) rfl rfl (by (try simp only [List.map_toArray,List.map_cons,List.map_nil]);first|done|rfl|(simp only [List.length_drop,List.length_take];rfl)) ?_
          with_reducible refine (filter_holds.calls k1 a0 a1_0 a1_1 a1_2 a1_3 ((rd_T37 l2 (rd l3 x14_1)).f0) ((rd_T37 l2 (rd l3 x14_1)).f1) t121 _ A13.out).mono ?_
          rintro e w15 ⟨rfl,hb⟩
          refine ⟨_,rfl,?_⟩
          have n0_:=Aside0.mk (Kd.R_below (R_up HO_9.out) hb)
          have n1_:=Aside0.mk (blk_below (blk_up BK118.out) hb)
          have n2_:=Aside0.mk (below_step (below_go HB.out) hb)
          clear HO_9
          clear BK118
          clear HB
          have HO_9:=n0_
          have BK118:=n1_
          have HB:=n2_
          clear n0_ n1_ n2_
          (try clear hb)
          (try clear hb2)
          (try clear hk)
          (try clear hi)
          refine hK.out _ _ ⟨(blk_cell BK118.out 0).trans rfl,(blk_cell BK118.out 1).trans rfl,(blk_cell BK118.out 2).trans rfl,(blk_cell BK118.out 3).trans rfl,((HB.out.cell (World.block_lt_of_cell? w _ hw120_0)).trans hw120_0),((HB.out.cell (World.block_lt_of_cell? w _ hw120_1)).trans hw120_1)⟩ (fun hHeld=>?_)
          clear hK K
          refine norm_ (a':=?_) ?_ ?_
          rotate_left
          ·show Act.put _ (some 33) _=_
           simp only [Act.put,List.setIfInBounds_toArray,List.set_cons_zero,List.set_cons_succ,i64_w,i32_w]
           rfl
          refine pure_ (i:=16) (N:=some 34) (v:=?_) (a':=?_) #[true,true,true,true,true,true,true,true,true,true,true,true,true,true,true,true,true] rfl rfl (any_of HT_.out (by kernel_rfl)) (fun _ _ _ h=>h) (Or.inl ⟨by rfl,?_⟩) ?_ ?_
          rotate_left;(intro w';go_simp;with_reducible rfl);rotate_left;(simp only [Act.put,List.setIfInBounds_toArray,List.set_cons_zero,List.set_cons_succ,i64_w,i32_w];rfl)
          refine done_ (done_of HT_.out (by kernel_rfl)) ?_
          (try clear hHeld)
          try go_wp2
          go_meet
          case rel=>exact ⟨_,(t121),(by first|rfl|(simp;done)|(simp [*];done)),(by first|exact H'|(subst_vars;exact H')),⟨by have:=HK1.out;first|omega|exact Nat.le_refl _⟩,⟨by (with_reducible repeat (first|apply Kd.R_alloc|apply Kd.R_drewN|apply Kd.R_drew));exact HO_9.out⟩,⟨by (with_reducible repeat (first|refine blk_drewN ?_ _|refine blk_drew ?_|refine blk_alloc ?_ _));exact BK118.out⟩,⟨by repeat (first|(with_reducible first|exact HB.out|apply below_alloc|apply pw_below_drewN|apply below_drew1|refine below_set ?_ GE118.out)|exact HB.out)⟩⟩
         ·rw [if_neg c12] at H
          exact absurd H (by simp)
        ·rw [if_neg c11] at H
         have c11b0 : decide ((rd l3 x14_1) < (l2.length : Int))=false:=decide_eq_false c11
         clear c11
         have H':=Aside0.mk H
         clear H
         try go_wp2
         have n0_:=Aside0.mk (Kd.R_drew HO_9.out)
         have n1_:=Aside0.mk (blk_drew BK118.out)
         have n2_:=Aside0.mk (below_drew1 HB.out)
         clear HO_9
         clear BK118
         clear HB
         have HO_9:=n0_
         have BK118:=n1_
         have HB:=n2_
         clear n0_ n1_ n2_
         refine start_ (n:=17) (S:=fun w'=>True) (ds:=[]) #[false,false,false,false,false,false,false,false,false,false,false,false,false,false,false,false,false] (by kernel_rfl) rfl rfl trivial (fun hHeld=>?_);refine with_tabW filter_Select.tab5 filter_Select.bits5 (fun HT_ HW_=>?_)
         generalize wr.drew=w16 at HO_9 BK118 HB hHeld ⊢
         refine pure_ (i:=0) (N:=some 18) (v:=?_) (a':=?_) #[true,false,false,false,false,false,false,false,false,false,false,false,false,false,false,false,false] rfl rfl (any_of HT_.out (by kernel_rfl)) (fun _ _ _ h=>h) (Or.inl ⟨by rfl,?_⟩) ?_ ?_
         rotate_left;(intro w';go_simp;with_reducible rfl);rotate_left;(simp only [Act.put,List.setIfInBounds_toArray,List.set_cons_zero,List.set_cons_succ,i64_w,i32_w];rfl)
         refine pure_ (i:=1) (N:=some 19) (v:=?_) (a':=?_) #[true,true,false,false,false,false,false,false,false,false,false,false,false,false,false,false,false] rfl rfl (any_of HT_.out (by kernel_rfl)) (fun _ _ _ h=>h) (Or.inl ⟨by rfl,?_⟩) ?_ ?_
         rotate_left;(intro w';go_simp;with_reducible rfl);rotate_left;(simp only [Act.put,List.setIfInBounds_toArray,List.set_cons_zero,List.set_cons_succ,i64_w,i32_w];rfl)
         refine pure_ (i:=2) (N:=some 20) (v:=?_) (a':=?_) #[true,true,true,false,false,false,false,false,false,false,false,false,false,false,false,false,false] rfl rfl (any_of HT_.out (by kernel_rfl)) (fun _ _ _ h=>h) (Or.inl ⟨by rfl,?_⟩) ?_ ?_
         rotate_left;(intro w';go_simp;with_reducible rfl);rotate_left;(simp only [Act.put,List.setIfInBounds_toArray,List.set_cons_zero,List.set_cons_succ,i64_w,i32_w];rfl)
         refine pure_ (i:=3) (N:=some 21) (v:=?_) (a':=?_) #[true,true,true,true,false,false,false,false,false,false,false,false,false,false,false,false,false] rfl rfl (any_of HT_.out (by kernel_rfl)) (fun _ _ _ h=>h) (Or.inl ⟨by rfl,?_⟩) ?_ ?_
         rotate_left;(intro w';go_simp;with_reducible rfl);rotate_left;(simp only [Act.put,List.setIfInBounds_toArray,List.set_cons_zero,List.set_cons_succ,i64_w,i32_w];rfl)
         refine pure_ (i:=4) (N:=some 22) (v:=?_) (a':=?_) #[true,true,true,true,true,false,false,false,false,false,false,false,false,false,false,false,false] rfl rfl (any_of HT_.out (by kernel_rfl)) (fun _ _ _ h=>h) (Or.inl ⟨by rfl,?_⟩) ?_ ?_
         rotate_left;(intro w';go_simp;with_reducible rfl);rotate_left;(simp only [Act.put,List.setIfInBounds_toArray,List.set_cons_zero,List.set_cons_succ,i64_w,i32_w];rfl)
         refine pure_ (i:=5) (N:=some 23) (v:=?_) (a':=?_) #[true,true,true,true,true,true,false,false,false,false,false,false,false,false,false,false,false] rfl rfl (any_of HT_.out (by kernel_rfl)) (fun _ _ _ h=>h) (Or.inl ⟨by rfl,?_⟩) ?_ ?_
         rotate_left;(intro w';go_simp;with_reducible rfl);rotate_left;(simp only [Act.put,List.setIfInBounds_toArray,List.set_cons_zero,List.set_cons_succ,i64_w,i32_w];rfl)
         refine pure_ (i:=6) (N:=some 24) (v:=?_) (a':=?_) #[true,true,true,true,true,true,true,false,false,false,false,false,false,false,false,false,false] rfl rfl (any_of HT_.out (by kernel_rfl)) (fun _ _ _ h=>h) (Or.inl ⟨by rfl,?_⟩) ?_ ?_
         rotate_left;(intro w';go_simp;with_reducible rfl);rotate_left;(simp only [Act.put,List.setIfInBounds_toArray,List.set_cons_zero,List.set_cons_succ,i64_w,i32_w];rfl)
         refine pure_ (i:=7) (N:=some 25) (v:=?_) (a':=?_) #[true,true,true,true,true,true,true,true,false,false,false,false,false,false,false,false,false] rfl rfl (any_of HT_.out (by kernel_rfl)) (fun _ _ _ h=>h) (Or.inl ⟨by rfl,?_⟩) ?_ ?_
         rotate_left;(intro w';go_simp;with_reducible rfl);rotate_left;(simp only [Act.put,List.setIfInBounds_toArray,List.set_cons_zero,List.set_cons_succ,i64_w,i32_w];rfl)
         refine pure_ (i:=8) (N:=some 26) (v:=?_) (a':=?_) #[true,true,true,true,true,true,true,true,true,false,false,false,false,false,false,false,false] rfl rfl (any_of HT_.out (by kernel_rfl)) (fun _ _ _ h=>h) (Or.inl ⟨by rfl,?_⟩) ?_ ?_
         rotate_left;(intro w';go_simp;with_reducible rfl);rotate_left;(simp only [Act.put,List.setIfInBounds_toArray,List.set_cons_zero,List.set_cons_succ,i64_w,i32_w];rfl)
         refine pure_ (i:=9) (N:=some 27) (v:=undef) (a':=?_) #[true,true,true,true,true,true,true,true,true,true,false,false,false,false,false,false,false] rfl rfl (any_of HT_.out (by kernel_rfl)) (fun _ _ _ h=>h) (Or.inr ⟨by rfl,rfl⟩) ?_ ?_
         rotate_left
         ·simp only [Act.put,List.setIfInBounds_toArray,List.set_cons_zero,List.set_cons_succ,i64_w,i32_w]
          rfl
         refine pure_ (i:=10) (N:=some 28) (v:=undef) (a':=?_) #[true,true,true,true,true,true,true,true,true,true,true,false,false,false,false,false,false] rfl rfl (any_of HT_.out (by kernel_rfl)) (fun _ _ _ h=>h) (Or.inr ⟨by rfl,rfl⟩) ?_ ?_
         rotate_left
         ·simp only [Act.put,List.setIfInBounds_toArray,List.set_cons_zero,List.set_cons_succ,i64_w,i32_w]
          rfl
         refine pure_ (i:=11) (N:=some 29) (v:=undef) (a':=?_) #[true,true,true,true,true,true,true,true,true,true,true,true,false,false,false,false,false] rfl rfl (any_of HT_.out (by kernel_rfl)) (fun _ _ _ h=>h) (Or.inr ⟨by rfl,rfl⟩) ?_ ?_
         rotate_left
         ·simp only [Act.put,List.setIfInBounds_toArray,List.set_cons_zero,List.set_cons_succ,i64_w,i32_w]
          rfl
         refine pure_ (i:=12) (N:=some 30) (v:=undef) (a':=?_) #[true,true,true,true,true,true,true,true,true,true,true,true,true,false,false,false,false] rfl rfl (any_of HT_.out (by kernel_rfl)) (fun _ _ _ h=>h) (Or.inr ⟨by rfl,rfl⟩) ?_ ?_
         rotate_left
         ·simp only [Act.put,List.setIfInBounds_toArray,List.set_cons_zero,List.set_cons_succ,i64_w,i32_w]
          rfl
         refine pure_ (i:=13) (N:=some 31) (v:=undef) (a':=?_) #[true,true,true,true,true,true,true,true,true,true,true,true,true,true,false,false,false] rfl rfl (any_of HT_.out (by kernel_rfl)) (fun _ _ _ h=>h) (Or.inr ⟨by rfl,rfl⟩) ?_ ?_
         rotate_left
         ·simp only [Act.put,List.setIfInBounds_toArray,List.set_cons_zero,List.set_cons_succ,i64_w,i32_w]
          rfl
         refine pure_ (i:=14) (N:=some 32) (v:=undef) (a':=?_) #[true,true,true,true,true,true,true,true,true,true,true,true,true,true,true,false,false] rfl rfl (any_of HT_.out (by kernel_rfl)) (fun _ _ _ h=>h) (Or.inr ⟨by rfl,rfl⟩) ?_ ?_
         rotate_left
         ·simp only [Act.put,List.setIfInBounds_toArray,List.set_cons_zero,List.set_cons_succ,i64_w,i32_w]
          rfl
         refine pure_ (i:=15) (N:=some 33) (v:=undef) (a':=?_) #[true,true,true,true,true,true,true,true,true,true,true,true,true,true,true,true,false] rfl rfl (any_of HT_.out (by kernel_rfl)) (fun _ _ _ h=>h) (Or.inr ⟨by rfl,rfl⟩) ?_ ?_
         rotate_left
         ·simp only [Act.put,List.setIfInBounds_toArray,List.set_cons_zero,List.set_cons_succ,i64_w,i32_w]
          rfl
         refine pure_ (i:=16) (N:=some 34) (v:=?_) (a':=?_) #[true,true,true,true,true,true,true,true,true,true,true,true,true,true,true,true,true] rfl rfl (any_of HT_.out (by kernel_rfl)) (fun _ _ _ h=>h) (Or.inl ⟨by rfl,?_⟩) ?_ ?_
         rotate_left;(intro w';go_simp;with_reducible rfl);rotate_left;(simp only [Act.put,List.setIfInBounds_toArray,List.set_cons_zero,List.set_cons_succ,i64_w,i32_w];rfl)
         refine done_ (done_of HT_.out (by kernel_rfl)) ?_
         (try clear hHeld)
         try go_wp2
         go_meet
         case rel=>exact ⟨_,(false),(by first|rfl|(simp;done)|(simp [*];done)),(by first|exact H'|(subst_vars;exact H')),⟨by have:=HK1.out;first|omega|exact Nat.le_refl _⟩,⟨by (with_reducible repeat (first|apply Kd.R_alloc|apply Kd.R_drewN|apply Kd.R_drew));exact HO_9.out⟩,⟨by (with_reducible repeat (first|refine blk_drewN ?_ _|refine blk_drew ?_|refine blk_alloc ?_ _));exact BK118.out⟩,⟨by repeat (first|(with_reducible first|exact HB.out|apply below_alloc|apply pw_below_drewN|apply below_drew1|refine below_set ?_ GE118.out)|exact HB.out)⟩⟩
       ·rw [if_neg c10] at H
        have c10b0 : decide (0≤(rd l3 x14_1))=false:=decide_eq_false c10
        clear c10
        (first|rw [c10b0]|(simp only [i64_w,i32_w];rw [c10b0])|skip)
        have H':=Aside0.mk H
        clear H
        try go_wp2
        have n0_:=Aside0.mk (Kd.R_drew HO_9.out)
        have n1_:=Aside0.mk (blk_drew BK118.out)
        have n2_:=Aside0.mk (below_drew1 HB.out)
        clear HO_9
        clear BK118
        clear HB
        have HO_9:=n0_
        have BK118:=n1_
        have HB:=n2_
        clear n0_ n1_ n2_
        refine start_ (n:=17) (S:=fun w'=>True) (ds:=[]) #[false,false,false,false,false,false,false,false,false,false,false,false,false,false,false,false,false] (by kernel_rfl) rfl rfl trivial (fun hHeld=>?_);refine with_tabW filter_Select.tab5 filter_Select.bits5 (fun HT_ HW_=>?_)
        generalize wr.drew=w17 at HO_9 BK118 HB hHeld ⊢
        refine pure_ (i:=0) (N:=some 18) (v:=?_) (a':=?_) #[true,false,false,false,false,false,false,false,false,false,false,false,false,false,false,false,false] rfl rfl (any_of HT_.out (by kernel_rfl)) (fun _ _ _ h=>h) (Or.inl ⟨by rfl,?_⟩) ?_ ?_
        rotate_left;(intro w';go_simp;with_reducible rfl);rotate_left;(simp only [Act.put,List.setIfInBounds_toArray,List.set_cons_zero,List.set_cons_succ,i64_w,i32_w];rfl)
        refine pure_ (i:=1) (N:=some 19) (v:=?_) (a':=?_) #[true,true,false,false,false,false,false,false,false,false,false,false,false,false,false,false,false] rfl rfl (any_of HT_.out (by kernel_rfl)) (fun _ _ _ h=>h) (Or.inl ⟨by rfl,?_⟩) ?_ ?_
        rotate_left;(intro w';go_simp;with_reducible rfl);rotate_left;(simp only [Act.put,List.setIfInBounds_toArray,List.set_cons_zero,List.set_cons_succ,i64_w,i32_w];rfl)
        refine pure_ (i:=2) (N:=some 20) (v:=?_) (a':=?_) #[true,true,true,false,false,false,false,false,false,false,false,false,false,false,false,false,false] rfl rfl (any_of HT_.out (by kernel_rfl)) (fun _ _ _ h=>h) (Or.inl ⟨by rfl,?_⟩) ?_ ?_
        rotate_left;(intro w';go_simp;with_reducible rfl);rotate_left;(simp only [Act.put,List.setIfInBounds_toArray,List.set_cons_zero,List.set_cons_succ,i64_w,i32_w];rfl)
        refine pure_ (i:=3) (N:=some 21) (v:=undef) (a':=?_) #[true,true,true,true,false,false,false,false,false,false,false,false,false,false,false,false,false] rfl rfl (any_of HT_.out (by kernel_rfl)) (fun _ _ _ h=>h) (Or.inr ⟨by rfl,rfl⟩) ?_ ?_
        rotate_left
        ·simp only [Act.put,List.setIfInBounds_toArray,List.set_cons_zero,List.set_cons_succ,i64_w,i32_w]
         rfl
        refine pure_ (i:=4) (N:=some 22) (v:=undef) (a':=?_) #[true,true,true,true,true,false,false,false,false,false,false,false,false,false,false,false,false] rfl rfl (any_of HT_.out (by kernel_rfl)) (fun _ _ _ h=>h) (Or.inr ⟨by rfl,rfl⟩) ?_ ?_
        rotate_left
        ·simp only [Act.put,List.setIfInBounds_toArray,List.set_cons_zero,List.set_cons_succ,i64_w,i32_w]
         rfl
        refine pure_ (i:=5) (N:=some 23) (v:=undef) (a':=?_) #[true,true,true,true,true,true,false,false,false,false,false,false,false,false,false,false,false] rfl rfl (any_of HT_.out (by kernel_rfl)) (fun _ _ _ h=>h) (Or.inr ⟨by rfl,rfl⟩) ?_ ?_
        rotate_left
        ·simp only [Act.put,List.setIfInBounds_toArray,List.set_cons_zero,List.set_cons_succ,i64_w,i32_w]
         rfl
        refine pure_ (i:=6) (N:=some 24) (v:=undef) (a':=?_) #[true,true,true,true,true,true,true,false,false,false,false,false,false,false,false,false,false] rfl rfl (any_of HT_.out (by kernel_rfl)) (fun _ _ _ h=>h) (Or.inr ⟨by rfl,rfl⟩) ?_ ?_
        rotate_left
        ·simp only [Act.put,List.setIfInBounds_toArray,List.set_cons_zero,List.set_cons_succ,i64_w,i32_w]
         rfl
        refine pure_ (i:=7) (N:=some 25) (v:=?_) (a':=?_) #[true,true,true,true,true,true,true,true,false,false,false,false,false,false,false,false,false] rfl rfl (any_of HT_.out (by kernel_rfl)) (fun _ _ _ h=>h) (Or.inl ⟨by rfl,?_⟩) ?_ ?_
        rotate_left;(intro w';go_simp;with_reducible rfl);rotate_left;(simp only [Act.put,List.setIfInBounds_toArray,List.set_cons_zero,List.set_cons_succ,i64_w,i32_w];rfl)
        refine pure_ (i:=8) (N:=some 26) (v:=?_) (a':=?_) #[true,true,true,true,true,true,true,true,true,false,false,false,false,false,false,false,false] rfl rfl (any_of HT_.out (by kernel_rfl)) (fun _ _ _ h=>h) (Or.inl ⟨by rfl,?_⟩) ?_ ?_
        rotate_left;(intro w';go_simp;with_reducible rfl);rotate_left;(simp only [Act.put,List.setIfInBounds_toArray,List.set_cons_zero,List.set_cons_succ,i64_w,i32_w];rfl)
        refine pure_ (i:=9) (N:=some 27) (v:=undef) (a':=?_) #[true,true,true,true,true,true,true,true,true,true,false,false,false,false,false,false,false] rfl rfl (any_of HT_.out (by kernel_rfl)) (fun _ _ _ h=>h) (Or.inr ⟨by rfl,rfl⟩) ?_ ?_
        rotate_left
        ·simp only [Act.put,List.setIfInBounds_toArray,List.set_cons_zero,List.set_cons_succ,i64_w,i32_w]
         rfl
        refine pure_ (i:=10) (N:=some 28) (v:=undef) (a':=?_) #[true,true,true,true,true,true,true,true,true,true,true,false,false,false,false,false,false] rfl rfl (any_of HT_.out (by kernel_rfl)) (fun _ _ _ h=>h) (Or.inr ⟨by rfl,rfl⟩) ?_ ?_
        rotate_left
        ·simp only [Act.put,List.setIfInBounds_toArray,List.set_cons_zero,List.set_cons_succ,i64_w,i32_w]
         rfl
        refine pure_ (i:=11) (N:=some 29) (v:=undef) (a':=?_) #[true,true,true,true,true,true,true,true,true,true,true,true,false,false,false,false,false] rfl rfl (any_of HT_.out (by kernel_rfl)) (fun _ _ _ h=>h) (Or.inr ⟨by rfl,rfl⟩) ?_ ?_
        rotate_left
        ·simp only [Act.put,List.setIfInBounds_toArray,List.set_cons_zero,List.set_cons_succ,i64_w,i32_w]
         rfl
        refine pure_ (i:=12) (N:=some 30) (v:=undef) (a':=?_) #[true,true,true,true,true,true,true,true,true,true,true,true,true,false,false,false,false] rfl rfl (any_of HT_.out (by kernel_rfl)) (fun _ _ _ h=>h) (Or.inr ⟨by rfl,rfl⟩) ?_ ?_
        rotate_left
        ·simp only [Act.put,List.setIfInBounds_toArray,List.set_cons_zero,List.set_cons_succ,i64_w,i32_w]
         rfl
        refine pure_ (i:=13) (N:=some 31) (v:=undef) (a':=?_) #[true,true,true,true,true,true,true,true,true,true,true,true,true,true,false,false,false] rfl rfl (any_of HT_.out (by kernel_rfl)) (fun _ _ _ h=>h) (Or.inr ⟨by rfl,rfl⟩) ?_ ?_
        rotate_left
        ·simp only [Act.put,List.setIfInBounds_toArray,List.set_cons_zero,List.set_cons_succ,i64_w,i32_w]
         rfl
        refine pure_ (i:=14) (N:=some 32) (v:=undef) (a':=?_) #[true,true,true,true,true,true,true,true,true,true,true,true,true,true,true,false,false] rfl rfl (any_of HT_.out (by kernel_rfl)) (fun _ _ _ h=>h) (Or.inr ⟨by rfl,rfl⟩) ?_ ?_
        rotate_left
        ·simp only [Act.put,List.setIfInBounds_toArray,List.set_cons_zero,List.set_cons_succ,i64_w,i32_w]
         rfl
        refine pure_ (i:=15) (N:=some 33) (v:=undef) (a':=?_) #[true,true,true,true,true,true,true,true,true,true,true,true,true,true,true,true,false] rfl rfl (any_of HT_.out (by kernel_rfl)) (fun _ _ _ h=>h) (Or.inr ⟨by rfl,rfl⟩) ?_ ?_
        rotate_left
        ·simp only [Act.put,List.setIfInBounds_toArray,List.set_cons_zero,List.set_cons_succ,i64_w,i32_w]
         rfl
        refine pure_ (i:=16) (N:=some 34) (v:=?_) (a':=?_) #[true,true,true,true,true,true,true,true,true,true,true,true,true,true,true,true,true] rfl rfl (any_of HT_.out (by kernel_rfl)) (fun _ _ _ h=>h) (Or.inl ⟨by rfl,?_⟩) ?_ ?_
        rotate_left;(intro w';go_simp;with_reducible rfl);rotate_left;(simp only [Act.put,List.setIfInBounds_toArray,List.set_cons_zero,List.set_cons_succ,i64_w,i32_w];rfl)
        refine done_ (done_of HT_.out (by kernel_rfl)) ?_
        (try clear hHeld)
        try go_wp2
        go_meet
        case rel=>exact ⟨_,(false),(by first|rfl|(simp;done)|(simp [*];done)),(by first|exact H'|(subst_vars;exact H')),⟨by have:=HK1.out;first|omega|exact Nat.le_refl _⟩,⟨by (with_reducible repeat (first|apply Kd.R_alloc|apply Kd.R_drewN|apply Kd.R_drew));exact HO_9.out⟩,⟨by (with_reducible repeat (first|refine blk_drewN ?_ _|refine blk_drew ?_|refine blk_alloc ?_ _));exact BK118.out⟩,⟨by repeat (first|(with_reducible first|exact HB.out|apply below_alloc|apply pw_below_drewN|apply below_drew1|refine below_set ?_ GE118.out)|exact HB.out)⟩⟩
      case rest =>
       clear HC9
       try clear c1
       try clear p1
       try clear q1
       try clear hx1
       try clear c2
       try clear p2
       try clear c3
       try clear c6
       try clear c6b0
       try clear c7
       try clear c7b0
       try clear c8
       try clear c8b0
       try clear c10
       try clear c10b0
       try clear c11
       try clear c11b0
       try clear p11
       try clear q11
       try clear hx11
       try clear c12
       try clear c12b0
       try clear p12
       try clear q12
       try clear hx12
       try clear c13
       try clear hx119_0
       try clear hx120_0
       try clear hx120_1
       try clear p119
       try clear p120
       try clear p2
       try clear q119
       try clear q120
       obtain ⟨kq,x34_8,rfl,HA,HJ8,HO_9,BK118,HB⟩:=hcut
       cases kq with
       | zero=>exact absurd HA.out (by simp [filter_Select.j1])
       | succ kj8 =>
        have H:=HA.out
        clear HA
        simp only [filter_Select.j1] at H
        by_cases c18 : x34_8=true
        ·subst c18
         have H1 : (if x9_1.length < 17592186044416 then (filter_Select.l0 kj8 a0 l2 (x9_1 ++ [(rd l3 x14_1)]) l3 (l3.length : Int) (wrap64 (x14_1 + 1)) a1_0 a1_1 a1_2 a1_3) else (none))=some r:=by rw [if_pos rfl] at H;exact H
         clear H
         have H:=H1
         clear H1
         by_cases c19 : x9_1.length < 17592186044416
         ·rw [if_pos c19] at H
          have LMc19:=Aside0.mk c19
          clear c19
          obtain ⟨y122,hy122⟩ : ∃ y_ : List Int,y_=(x9_1 ++ [(rd l3 x14_1)]):=⟨_,rfl⟩
          replace H : (filter_Select.l0 kj8 a0 l2 y122 l3 (l3.length : Int) (wrap64 (x14_1 + 1)) a1_0 a1_1 a1_2 a1_3)=some r:=by first|(rw [hy122];with_reducible exact H)|(have H2_:=(Option.bind_some _ _).symm.trans H;rw [hy122];with_reducible exact H2_)|(have H2_:=(Option.bind_some _ _).symm.trans H;with_reducible exact H2_)|with_reducible exact H|(rw [hy122];exact H)|exact H
          have Ny122:=Aside0.mk hy122
          clear hy122
          have H':=Aside0.mk H
          clear H
          go_wp2_with (first|((with_reducible refine gate_builtin (b:=.append) (xs:=#[.tmp 35,.tmp 37]) rfl ?_);(try (refine gate_guard (by rfl) ?_;dsimp only));at_builtin;refine Kd.R_append (Kd.int .i64) (w0:=w) w.heap.size rfl (.tmp 35) (.tmp 37) 27 3 (.int .i64 0) 8 rfl Try.underlying27 info3 rfl (by decide) (by omega) u9 x9_1 (rd l3 x14_1) [.int .i64 (rd l3 x14_1)] (fun _=>True) (fun _=>False) rfl rfl ?aP (fun _ hk=>hk.elim) ?aF ?aO ?aB ?aS ?aL ?_;(case aP=>exact rfl);(case aB=>exact (below_go HB.out));(case aF=>exact (fun _ _=>trivial));(case aO=>exact (R_up HO_9.out));(case aS=>exact (below_size (below_go HB.out)));(case aL=>have:=LMc19.out;omega);intro v123 w20 ho hb hg hat;rw [← Ny122.out] at ho;have n0_:=Aside0.mk (blk_grown (blk_up BK118.out) hg (Kd.R_ne HO_9.out BK118.out (by decide)));have n1_:=Aside0.mk (hb);have n2_:=Aside0.mk (ho);clear BK118;clear HB;clear HO_9;have BK118:=n0_;have HB:=n1_;have HO124:=n2_;clear n0_ n1_ n2_;clear ho hb hg hat))
          go_roundg kj8
          case measure=>have:=HK1.out;have:=HJ8.out;omega
          case rel=>exact ⟨(y122),(wrap64 (x14_1 + 1)),(by first|rfl|(simp;done)|(simp [*];done)),(by first|exact H'|(subst_vars;exact H')),⟨by have:=HK1.out;have:=HJ8.out;omega⟩,⟨by (with_reducible repeat (first|apply Kd.R_alloc|apply Kd.R_drewN|apply Kd.R_drew));exact HO124.out⟩,⟨by (with_reducible repeat (first|refine blk_drewN ?_ _|refine blk_drew ?_|refine blk_alloc ?_ _));exact BK118.out⟩,⟨by repeat (first|(with_reducible first|exact HB.out|apply below_alloc|apply pw_below_drewN|apply below_drew1|refine below_set ?_ GE118.out)|exact HB.out)⟩⟩
         ·rw [if_neg c19] at H
          exact absurd H (by simp)
        ·replace c18:=Bool.eq_false_iff.mpr c18
         subst c18
         have H1 : (filter_Select.l0 kj8 a0 l2 x9_1 l3 (l3.length : Int) (wrap64 (x14_1 + 1)) a1_0 a1_1 a1_2 a1_3)=some r:=by rw [if_neg (show ¬ (false=true) by decide)] at H;exact H
         clear H
         have H:=H1
         clear H1
         have H':=Aside0.mk H
         clear H
         go_wp2
         go_roundg kj8
         case measure=>have:=HK1.out;have:=HJ8.out;omega
         case rel=>exact ⟨(x9_1),(wrap64 (x14_1 + 1)),(by first|rfl|(simp;done)|(simp [*];done)),(by first|exact H'|(subst_vars;exact H')),⟨by have:=HK1.out;have:=HJ8.out;omega⟩,⟨by (with_reducible repeat (first|apply Kd.R_alloc|apply Kd.R_drewN|apply Kd.R_drew));exact HO_9.out⟩,⟨by (with_reducible repeat (first|refine blk_drewN ?_ _|refine blk_drew ?_|refine blk_alloc ?_ _));exact BK118.out⟩,⟨by repeat (first|(with_reducible first|exact HB.out|apply below_alloc|apply pw_below_drewN|apply below_drew1|refine below_set ?_ GE118.out)|exact HB.out)⟩⟩
     ·rw [if_neg c8] at H
      exact absurd H (by simp)
    ·rw [if_neg c7] at H
     exact absurd H (by simp)
   ·rw [if_neg c6] at H
    have c6b0 : decide (x14_1 < (l3.length : Int))=false:=decide_eq_false c6
    clear c6
    obtain rfl:=Option.some.inj H
    go_wp2
    go_ret
    exact ⟨_,by first|rfl|(simp [errW_none,errW_some] <;> rfl)|(simp [*,errW_none,errW_some] <;> rfl),by (with_reducible repeat (first|apply Kd.R_alloc|apply Kd.R_drewN|apply Kd.R_drew));exact HO_9.out,by repeat (first|(with_reducible first|exact HB.out|apply below_alloc|apply pw_below_drewN|apply below_drew1|refine below_set ?_ GE118.out)|exact HB.out)⟩
def thresherlaw19_shown.f (k : Nat)  : Option (Bool):=(filter_Select.f k 1 0 5 4 (⟨#[]⟩ : ByteArray) (([(⟨5,(⟨#[]⟩ : ByteArray)⟩ : S37),(⟨1,(⟨#[]⟩ : ByteArray)⟩ : S37),(⟨7,(⟨#[]⟩ : ByteArray)⟩ : S37)] : List (S37))) (([2,1,0] : List Int))).bind fun t131=>(if (t131.length : Int)=2 then (if 0 < (t131.length : Int) then (if (rd t131 0)=2 then (if 1 < (t131.length : Int) then (some ((rd t131 1) == 0)) else (none)) else (some false)) else (none)) else (some false))
theorem thresherlaw19_shown.mono : ∀ k,LeO (thresherlaw19_shown.f k ) (thresherlaw19_shown.f (k + 1) ):=by
 intro  k
 unfold thresherlaw19_shown.f
 repeat' first
   | (with_reducible exact filter_Select.mono _ _ _ _ _ _ _ _)
   | (with_reducible exact LeO.refl _)
   | (with_reducible exact LeO.none _)
   | (with_reducible refine LeO.ite ?_ ?_)
   | (with_reducible refine LeO.bind ?_ (fun _=>?_))
   | exact filter_Select.mono _ _ _ _ _ _ _ _
   | exact LeO.none _
   | refine LeO.ite ?_ ?_
   | refine LeO.bind ?_ (fun _=>?_)
set_option maxHeartbeats 8000000 in
set_option maxRecDepth 100000 in
theorem thresherlaw19_shown.calls (k : Nat)  (r : Bool) (w : World) (h : thresherlaw19_shown.f k =some r) :
  Calls Try.prog 8 #[] w fun e w'=>e=.returned (.bool r)∧Below w.heap.size w w':=by
 have hu37:=Try.underlying37
 have hu39:=Try.underlying39
 have HB:=Aside0.mk (Below.refl w.heap.size w)
 have H : ((filter_Select.f k 1 0 5 4 (⟨#[]⟩ : ByteArray) (([(⟨5,(⟨#[]⟩ : ByteArray)⟩ : S37),(⟨1,(⟨#[]⟩ : ByteArray)⟩ : S37),(⟨7,(⟨#[]⟩ : ByteArray)⟩ : S37)] : List (S37))) (([2,1,0] : List Int))).bind fun t131=>(if (t131.length : Int)=2 then (if 0 < (t131.length : Int) then (if (rd t131 0)=2 then (if 1 < (t131.length : Int) then (some ((rd t131 1) == 0)) else (none)) else (some false)) else (none)) else (some false)))=some r:=h
 clear h
 obtain ⟨y125,hy125⟩ : ∃ y_ : List (S37),y_=(([(⟨5,(⟨#[]⟩ : ByteArray)⟩ : S37),(⟨1,(⟨#[]⟩ : ByteArray)⟩ : S37),(⟨7,(⟨#[]⟩ : ByteArray)⟩ : S37)] : List (S37))):=⟨_,rfl⟩
 replace H : ((filter_Select.f k 1 0 5 4 (⟨#[]⟩ : ByteArray) y125 (([2,1,0] : List Int))).bind fun t131=>(if (t131.length : Int)=2 then (if 0 < (t131.length : Int) then (if (rd t131 0)=2 then (if 1 < (t131.length : Int) then (some ((rd t131 1) == 0)) else (none)) else (some false)) else (none)) else (some false)))=some r:=by first|(rw [hy125];with_reducible exact H)|(have H2_:=(Option.bind_some _ _).symm.trans H;rw [hy125];with_reducible exact H2_)|(have H2_:=(Option.bind_some _ _).symm.trans H;with_reducible exact H2_)|with_reducible exact H|(rw [hy125];exact H)|exact H
 have Ny125:=Aside0.mk hy125
 clear hy125
 obtain ⟨y128,hy128⟩ : ∃ y_ : List Int,y_=(([2,1,0] : List Int)):=⟨_,rfl⟩
 replace H : ((filter_Select.f k 1 0 5 4 (⟨#[]⟩ : ByteArray) y125 y128).bind fun t131=>(if (t131.length : Int)=2 then (if 0 < (t131.length : Int) then (if (rd t131 0)=2 then (if 1 < (t131.length : Int) then (some ((rd t131 1) == 0)) else (none)) else (some false)) else (none)) else (some false)))=some r:=by first|(rw [hy128];with_reducible exact H)|(have H2_:=(Option.bind_some _ _).symm.trans H;rw [hy128];with_reducible exact H2_)|(have H2_:=(Option.bind_some _ _).symm.trans H;with_reducible exact H2_)|with_reducible exact H|(rw [hy128];exact H)|exact H
 have Ny128:=Aside0.mk hy128
 clear hy128
 replace H:=Option.bind_eq_some_iff.mp H
 obtain ⟨t131,A10,H⟩:=H
 replace H : (if (t131.length : Int)=2 then (if 0 < (t131.length : Int) then (if (rd t131 0)=2 then (if 1 < (t131.length : Int) then (some ((rd t131 1) == 0)) else (none)) else (some false)) else (none)) else (some false))=some r:=H
 have A1:=Aside0.mk A10
 clear A10
 by_cases c2 : (t131.length : Int)=2
 ·rw [if_pos c2] at H
  have c2b0 : ((t131.length : Int) == 2)=true:=beq_iff_eq.mpr c2
  have c2b1 : ((t131.length : Int) != 2)=false:=bne_eq_false_iff_eq.mpr c2
  clear c2
  by_cases c3 : 0 < (t131.length : Int)
  ·rw [if_pos c3] at H
   have c3b0 : decide (0 < (t131.length : Int))=true:=decide_eq_true c3
   have c3b1 : decide (0 < t131.length)=true:=decide_eq_true (by omega)
   clear c3
   by_cases c4 : (rd t131 0)=2
   ·rw [if_pos c4] at H
    have c4b0 : ((rd t131 0) == 2)=true:=beq_iff_eq.mpr c4
    have c4b1 : ((rd t131 0) != 2)=false:=bne_eq_false_iff_eq.mpr c4
    clear c4
    by_cases c5 : 1 < (t131.length : Int)
    ·rw [if_pos c5] at H
     have c5b0 : decide (1 < (t131.length : Int))=true:=decide_eq_true c5
     have c5b1 : decide (1 < t131.length)=true:=decide_eq_true (by omega)
     clear c5
     obtain rfl:=Option.some.inj H
     go_enter Try.func8,Try.ntmps8
     go_wp2_with (first|((with_reducible refine gate_dst (N:=7) rfl ?_);refine Kd.R_lit k37 _ 37 ?hg (N:=7) ?hd (xs:=([(⟨5,(⟨#[]⟩ : ByteArray)⟩ : S37),(⟨1,(⟨#[]⟩ : ByteArray)⟩ : S37),(⟨7,(⟨#[]⟩ : ByteArray)⟩ : S37)] : List (S37))) (inner:=[.int .i64 5,.string (⟨#[]⟩ : ByteArray),.int .i64 1,.string (⟨#[]⟩ : ByteArray),.int .i64 7,.string (⟨#[]⟩ : ByteArray)]) (ok:=fun _=>True) (okp:=fun _=>True) ?hr ?hp (fun _ hk=>hk) trivial (Below.refl _ _) (Nat.le_refl _) (by simp) ?_;(case hd=>rfl);(case hg=>rfl);(case hr=>first|(go_simp;done)|(go_simp;rfl));(case hp=>exact (Reps.c2 (show Kd.M k37 _ _ _ (⟨5,(⟨#[]⟩ : ByteArray)⟩ : S37) [.int .i64 5,.string (⟨#[]⟩ : ByteArray)] from (k37_mkM _ _ _ (⟨5,(⟨#[]⟩ : ByteArray)⟩ : S37) )) (Reps.c2 (show Kd.M k37 _ _ _ (⟨1,(⟨#[]⟩ : ByteArray)⟩ : S37) [.int .i64 1,.string (⟨#[]⟩ : ByteArray)] from (k37_mkM _ _ _ (⟨1,(⟨#[]⟩ : ByteArray)⟩ : S37) )) (Reps.c2 (show Kd.M k37 _ _ _ (⟨7,(⟨#[]⟩ : ByteArray)⟩ : S37) [.int .i64 7,.string (⟨#[]⟩ : ByteArray)] from (k37_mkM _ _ _ (⟨7,(⟨#[]⟩ : ByteArray)⟩ : S37) )) (Reps.none _ _)))));intro v126 w6 ho7 hb hg_ hnew_;clear hg_ hnew_;(first|rw [← Ny125.out] at ho7|(simp only [Int.reduceToNat] at ho7;rw [← Ny125.out] at ho7));have n0_:=Aside0.mk (Kd.R_lower ho7 (below_size (below_up HB.out)));have n1_:=Aside0.mk (below_step (below_up HB.out) hb);clear HB;have HO127:=n0_;have HB:=n1_;clear n0_ n1_;clear hb ho7)|((with_reducible refine gate_dst (N:=8) rfl ?_);refine Kd.R_lit (Kd.int .i64) _ 3 ?hg (N:=8) ?hd (xs:=([2,1,0] : List Int)) (inner:=[.int .i64 2,.int .i64 1,.int .i64 0]) (ok:=fun _=>True) (okp:=fun _=>True) ?hr ?hp (fun _ hk=>hk) trivial (Below.refl _ _) (Nat.le_refl _) (by simp) ?_;(case hd=>rfl);(case hg=>rfl);(case hr=>first|(go_simp;done)|(go_simp;rfl));(case hp=>exact (Reps.one (show Kd.M (Kd.int .i64) _ _ _ 2 [.int .i64 2] from rfl) (Reps.one (show Kd.M (Kd.int .i64) _ _ _ 1 [.int .i64 1] from rfl) (Reps.one (show Kd.M (Kd.int .i64) _ _ _ 0 [.int .i64 0] from rfl) (Reps.none _ _)))));intro v129 w8 ho9 hb hg_ hnew_;clear hg_ hnew_;(first|rw [← Ny128.out] at ho9|(simp only [Int.reduceToNat] at ho9;rw [← Ny128.out] at ho9));have n0_:=Aside0.mk (Kd.R_below (R_up HO127.out) hb);have n1_:=Aside0.mk (Kd.R_lower ho9 (below_size (below_up HB.out)));have n2_:=Aside0.mk (below_step (below_up HB.out) hb);clear HO127;clear HB;have HO127:=n0_;have HO130:=n1_;have HB:=n2_;clear n0_ n1_ n2_;clear hb ho9;obtain ⟨Ao10,co10,eo10⟩:=Kd.R_slice HO127.out;subst eo10;obtain ⟨Ao11,co11,eo11⟩:=Kd.R_slice HO130.out;subst eo11)|((with_reducible refine gate_callee (f:=13) rfl ?_);refine goesL_ (some 9) rfl rfl Try.func13 (by kernel_rfl) rfl #[.int .i64 1,.agg #[.int .i64 0,.int .i64 5,.int .i64 4,.string (⟨#[]⟩ : ByteArray)],.slice Ao10 y125.length co10,.slice Ao11 y128.length co11] rfl (by (try simp only [List.map_toArray,List.map_cons,List.map_nil]);first|done|rfl|(simp only [List.length_drop,List.length_take];rfl)) ?_;(with_reducible refine (filter_Select.calls k 1 0 5 4 (⟨#[]⟩ : ByteArray) _ _ y125 _ _ y128 t131 _ ?side1 ?side2 ?side3 ?side4 A1.out).mono ?_);(case side1=>repeat (first|exact (Kd.R_reads' HO127.out).2.2|(with_reducible refine Kd.C_alloc ?_ _)|(with_reducible refine Kd.C_drewN ?_ _)|(with_reducible refine Kd.C_drew ?_)));(case side2=>exact (Kd.R_reads' HO127.out).2.1);(case side3=>repeat (first|exact (Kd.R_reads' HO130.out).2.2|(with_reducible refine Kd.C_alloc ?_ _)|(with_reducible refine Kd.C_drewN ?_ _)|(with_reducible refine Kd.C_drew ?_)));(case side4=>exact (Kd.R_reads' HO130.out).2.1);rintro e w12 ⟨v132,rfl,ho0,hb⟩;refine ⟨_,rfl,?_⟩;have n0_:=Aside0.mk (Kd.R_below (R_up HO127.out) hb);have n1_:=Aside0.mk (Kd.R_elder' (R_up HO130.out) (Kd.R_base ho0) hb);have n2_:=Aside0.mk (Kd.R_lower (Kd.R_new' ho0 (Kd.R_lt (R_up HO130.out))) (below_size (below_up HB.out)));have n3_:=Aside0.mk (below_step (below_up HB.out) hb);clear HO127;clear HO130;clear HB;have HO127:=n0_;have HO130:=n1_;have HO133:=n2_;have HB:=n3_;clear n0_ n1_ n2_ n3_;(try clear hb);(try clear hb2);(try clear hk);(try clear hi);(try clear ho0);obtain ⟨Ao13,co13,eo13⟩:=Kd.R_slice HO133.out;subst eo13;have p134 : 0≤(0 : Int):=(by omega);have q134 : 0 < (t131.length : Int):=of_decide_eq_true (by first|(with_reducible assumption)|assumption);obtain ⟨ad134,e134,hx134_0⟩:=Kd.at_int (Kd.R_reads' HO133.out).2.2 0 p134 q134;cases e134;have qi134 : (0 < t131.length)=True:=eq_true (by omega);(try rw [show ((0 : Int)).toNat=0 from rfl] at hx134_0);(try rw [Addr.add_zero'] at hx134_0);replace p134:=eq_true p134;replace q134:=eq_true q134;have p135 : 0≤(1 : Int):=(by omega);have q135 : 1 < (t131.length : Int):=of_decide_eq_true (by first|(with_reducible assumption)|assumption);obtain ⟨ad135,e135,hx135_0⟩:=Kd.at_int (Kd.R_reads' HO133.out).2.2 1 p135 q135;obtain rfl : ad134=ad135:=(by injection e135);(try simp only [show (1 : Int).toNat=1 from rfl,Nat.reduceMul,Nat.reduceEqDiff,Go.Addr.add,↓reduceIte] at hx135_0);have qi135 : (1 < t131.length)=True:=eq_true (by omega);(try rw [show ((1 : Int)).toNat=1 from rfl] at hx135_0);replace p135:=eq_true p135;replace q135:=eq_true q135))
     go_ret
     exact ⟨by first|rfl|(simp [errW_none,errW_some] <;> rfl)|(simp [*,errW_none,errW_some] <;> rfl),by repeat (first|(with_reducible first|exact HB.out|apply below_alloc|apply pw_below_drewN|apply below_drew1)|exact HB.out)⟩
    ·rw [if_neg c5] at H
     exact absurd H (by simp)
   ·rw [if_neg c4] at H
    have c4b0 : ((rd t131 0) == 2)=false:=beq_eq_false_iff_ne.mpr c4
    have c4b1 : ((rd t131 0) != 2)=true:=bne_iff_ne.mpr c4
    obtain rfl:=Option.some.inj H
    go_enter Try.func8,Try.ntmps8
    go_wp2_with (first|((with_reducible refine gate_dst (N:=7) rfl ?_);refine Kd.R_lit k37 _ 37 ?hg (N:=7) ?hd (xs:=([(⟨5,(⟨#[]⟩ : ByteArray)⟩ : S37),(⟨1,(⟨#[]⟩ : ByteArray)⟩ : S37),(⟨7,(⟨#[]⟩ : ByteArray)⟩ : S37)] : List (S37))) (inner:=[.int .i64 5,.string (⟨#[]⟩ : ByteArray),.int .i64 1,.string (⟨#[]⟩ : ByteArray),.int .i64 7,.string (⟨#[]⟩ : ByteArray)]) (ok:=fun _=>True) (okp:=fun _=>True) ?hr ?hp (fun _ hk=>hk) trivial (Below.refl _ _) (Nat.le_refl _) (by simp) ?_;(case hd=>rfl);(case hg=>rfl);(case hr=>first|(go_simp;done)|(go_simp;rfl));(case hp=>exact (Reps.c2 (show Kd.M k37 _ _ _ (⟨5,(⟨#[]⟩ : ByteArray)⟩ : S37) [.int .i64 5,.string (⟨#[]⟩ : ByteArray)] from (k37_mkM _ _ _ (⟨5,(⟨#[]⟩ : ByteArray)⟩ : S37) )) (Reps.c2 (show Kd.M k37 _ _ _ (⟨1,(⟨#[]⟩ : ByteArray)⟩ : S37) [.int .i64 1,.string (⟨#[]⟩ : ByteArray)] from (k37_mkM _ _ _ (⟨1,(⟨#[]⟩ : ByteArray)⟩ : S37) )) (Reps.c2 (show Kd.M k37 _ _ _ (⟨7,(⟨#[]⟩ : ByteArray)⟩ : S37) [.int .i64 7,.string (⟨#[]⟩ : ByteArray)] from (k37_mkM _ _ _ (⟨7,(⟨#[]⟩ : ByteArray)⟩ : S37) )) (Reps.none _ _)))));intro v126 w14 ho15 hb hg_ hnew_;clear hg_ hnew_;(first|rw [← Ny125.out] at ho15|(simp only [Int.reduceToNat] at ho15;rw [← Ny125.out] at ho15));have n0_:=Aside0.mk (Kd.R_lower ho15 (below_size (below_up HB.out)));have n1_:=Aside0.mk (below_step (below_up HB.out) hb);clear HB;have HO127:=n0_;have HB:=n1_;clear n0_ n1_;clear hb ho15)|((with_reducible refine gate_dst (N:=8) rfl ?_);refine Kd.R_lit (Kd.int .i64) _ 3 ?hg (N:=8) ?hd (xs:=([2,1,0] : List Int)) (inner:=[.int .i64 2,.int .i64 1,.int .i64 0]) (ok:=fun _=>True) (okp:=fun _=>True) ?hr ?hp (fun _ hk=>hk) trivial (Below.refl _ _) (Nat.le_refl _) (by simp) ?_;(case hd=>rfl);(case hg=>rfl);(case hr=>first|(go_simp;done)|(go_simp;rfl));(case hp=>exact (Reps.one (show Kd.M (Kd.int .i64) _ _ _ 2 [.int .i64 2] from rfl) (Reps.one (show Kd.M (Kd.int .i64) _ _ _ 1 [.int .i64 1] from rfl) (Reps.one (show Kd.M (Kd.int .i64) _ _ _ 0 [.int .i64 0] from rfl) (Reps.none _ _)))));intro v129 w16 ho17 hb hg_ hnew_;clear hg_ hnew_;(first|rw [← Ny128.out] at ho17|(simp only [Int.reduceToNat] at ho17;rw [← Ny128.out] at ho17));have n0_:=Aside0.mk (Kd.R_below (R_up HO127.out) hb);have n1_:=Aside0.mk (Kd.R_lower ho17 (below_size (below_up HB.out)));have n2_:=Aside0.mk (below_step (below_up HB.out) hb);clear HO127;clear HB;have HO127:=n0_;have HO130:=n1_;have HB:=n2_;clear n0_ n1_ n2_;clear hb ho17;obtain ⟨Ao18,co18,eo18⟩:=Kd.R_slice HO127.out;subst eo18;obtain ⟨Ao19,co19,eo19⟩:=Kd.R_slice HO130.out;subst eo19)|((with_reducible refine gate_callee (f:=13) rfl ?_);refine goesL_ (some 9) rfl rfl Try.func13 (by kernel_rfl) rfl #[.int .i64 1,.agg #[.int .i64 0,.int .i64 5,.int .i64 4,.string (⟨#[]⟩ : ByteArray)],.slice Ao18 y125.length co18,.slice Ao19 y128.length co19] rfl (by (try simp only [List.map_toArray,List.map_cons,List.map_nil]);first|done|rfl|(simp only [List.length_drop,List.length_take];rfl)) ?_;(with_reducible refine (filter_Select.calls k 1 0 5 4 (⟨#[]⟩ : ByteArray) _ _ y125 _ _ y128 t131 _ ?side1 ?side2 ?side3 ?side4 A1.out).mono ?_);(case side1=>repeat (first|exact (Kd.R_reads' HO127.out).2.2|(with_reducible refine Kd.C_alloc ?_ _)|(with_reducible refine Kd.C_drewN ?_ _)|(with_reducible refine Kd.C_drew ?_)));(case side2=>exact (Kd.R_reads' HO127.out).2.1);(case side3=>repeat (first|exact (Kd.R_reads' HO130.out).2.2|(with_reducible refine Kd.C_alloc ?_ _)|(with_reducible refine Kd.C_drewN ?_ _)|(with_reducible refine Kd.C_drew ?_)));(case side4=>exact (Kd.R_reads' HO130.out).2.1);rintro e w20 ⟨v132,rfl,ho0,hb⟩;refine ⟨_,rfl,?_⟩;have n0_:=Aside0.mk (Kd.R_below (R_up HO127.out) hb);have n1_:=Aside0.mk (Kd.R_elder' (R_up HO130.out) (Kd.R_base ho0) hb);have n2_:=Aside0.mk (Kd.R_lower (Kd.R_new' ho0 (Kd.R_lt (R_up HO130.out))) (below_size (below_up HB.out)));have n3_:=Aside0.mk (below_step (below_up HB.out) hb);clear HO127;clear HO130;clear HB;have HO127:=n0_;have HO130:=n1_;have HO133:=n2_;have HB:=n3_;clear n0_ n1_ n2_ n3_;(try clear hb);(try clear hb2);(try clear hk);(try clear hi);(try clear ho0);obtain ⟨Ao21,co21,eo21⟩:=Kd.R_slice HO133.out;subst eo21;have p134 : 0≤(0 : Int):=(by omega);have q134 : 0 < (t131.length : Int):=of_decide_eq_true (by first|(with_reducible assumption)|assumption);obtain ⟨ad134,e134,hx134_0⟩:=Kd.at_int (Kd.R_reads' HO133.out).2.2 0 p134 q134;cases e134;have qi134 : (0 < t131.length)=True:=eq_true (by omega);(try rw [show ((0 : Int)).toNat=0 from rfl] at hx134_0);(try rw [Addr.add_zero'] at hx134_0);replace p134:=eq_true p134;replace q134:=eq_true q134))
    go_ret
    exact ⟨by first|rfl|(simp [errW_none,errW_some] <;> rfl)|(simp [*,errW_none,errW_some] <;> rfl),by repeat (first|(with_reducible first|exact HB.out|apply below_alloc|apply pw_below_drewN|apply below_drew1)|exact HB.out)⟩
  ·rw [if_neg c3] at H
   exact absurd H (by simp)
 ·rw [if_neg c2] at H
  have c2b0 : ((t131.length : Int) == 2)=false:=beq_eq_false_iff_ne.mpr c2
  have c2b1 : ((t131.length : Int) != 2)=true:=bne_iff_ne.mpr c2
  obtain rfl:=Option.some.inj H
  go_enter Try.func8,Try.ntmps8
  go_wp2_with (first|((with_reducible refine gate_dst (N:=7) rfl ?_);refine Kd.R_lit k37 _ 37 ?hg (N:=7) ?hd (xs:=([(⟨5,(⟨#[]⟩ : ByteArray)⟩ : S37),(⟨1,(⟨#[]⟩ : ByteArray)⟩ : S37),(⟨7,(⟨#[]⟩ : ByteArray)⟩ : S37)] : List (S37))) (inner:=[.int .i64 5,.string (⟨#[]⟩ : ByteArray),.int .i64 1,.string (⟨#[]⟩ : ByteArray),.int .i64 7,.string (⟨#[]⟩ : ByteArray)]) (ok:=fun _=>True) (okp:=fun _=>True) ?hr ?hp (fun _ hk=>hk) trivial (Below.refl _ _) (Nat.le_refl _) (by simp) ?_;(case hd=>rfl);(case hg=>rfl);(case hr=>first|(go_simp;done)|(go_simp;rfl));(case hp=>exact (Reps.c2 (show Kd.M k37 _ _ _ (⟨5,(⟨#[]⟩ : ByteArray)⟩ : S37) [.int .i64 5,.string (⟨#[]⟩ : ByteArray)] from (k37_mkM _ _ _ (⟨5,(⟨#[]⟩ : ByteArray)⟩ : S37) )) (Reps.c2 (show Kd.M k37 _ _ _ (⟨1,(⟨#[]⟩ : ByteArray)⟩ : S37) [.int .i64 1,.string (⟨#[]⟩ : ByteArray)] from (k37_mkM _ _ _ (⟨1,(⟨#[]⟩ : ByteArray)⟩ : S37) )) (Reps.c2 (show Kd.M k37 _ _ _ (⟨7,(⟨#[]⟩ : ByteArray)⟩ : S37) [.int .i64 7,.string (⟨#[]⟩ : ByteArray)] from (k37_mkM _ _ _ (⟨7,(⟨#[]⟩ : ByteArray)⟩ : S37) )) (Reps.none _ _)))));intro v126 w22 ho23 hb hg_ hnew_;clear hg_ hnew_;(first|rw [← Ny125.out] at ho23|(simp only [Int.reduceToNat] at ho23;rw [← Ny125.out] at ho23));have n0_:=Aside0.mk (Kd.R_lower ho23 (below_size (below_up HB.out)));have n1_:=Aside0.mk (below_step (below_up HB.out) hb);clear HB;have HO127:=n0_;have HB:=n1_;clear n0_ n1_;clear hb ho23)|((with_reducible refine gate_dst (N:=8) rfl ?_);refine Kd.R_lit (Kd.int .i64) _ 3 ?hg (N:=8) ?hd (xs:=([2,1,0] : List Int)) (inner:=[.int .i64 2,.int .i64 1,.int .i64 0]) (ok:=fun _=>True) (okp:=fun _=>True) ?hr ?hp (fun _ hk=>hk) trivial (Below.refl _ _) (Nat.le_refl _) (by simp) ?_;(case hd=>rfl);(case hg=>rfl);(case hr=>first|(go_simp;done)|(go_simp;rfl));(case hp=>exact (Reps.one (show Kd.M (Kd.int .i64) _ _ _ 2 [.int .i64 2] from rfl) (Reps.one (show Kd.M (Kd.int .i64) _ _ _ 1 [.int .i64 1] from rfl) (Reps.one (show Kd.M (Kd.int .i64) _ _ _ 0 [.int .i64 0] from rfl) (Reps.none _ _)))));intro v129 w24 ho25 hb hg_ hnew_;clear hg_ hnew_;(first|rw [← Ny128.out] at ho25|(simp only [Int.reduceToNat] at ho25;rw [← Ny128.out] at ho25));have n0_:=Aside0.mk (Kd.R_below (R_up HO127.out) hb);have n1_:=Aside0.mk (Kd.R_lower ho25 (below_size (below_up HB.out)));have n2_:=Aside0.mk (below_step (below_up HB.out) hb);clear HO127;clear HB;have HO127:=n0_;have HO130:=n1_;have HB:=n2_;clear n0_ n1_ n2_;clear hb ho25;obtain ⟨Ao26,co26,eo26⟩:=Kd.R_slice HO127.out;subst eo26;obtain ⟨Ao27,co27,eo27⟩:=Kd.R_slice HO130.out;subst eo27)|((with_reducible refine gate_callee (f:=13) rfl ?_);refine goesL_ (some 9) rfl rfl Try.func13 (by kernel_rfl) rfl #[.int .i64 1,.agg #[.int .i64 0,.int .i64 5,.int .i64 4,.string (⟨#[]⟩ : ByteArray)],.slice Ao26 y125.length co26,.slice Ao27 y128.length co27] rfl (by (try simp only [List.map_toArray,List.map_cons,List.map_nil]);first|done|rfl|(simp only [List.length_drop,List.length_take];rfl)) ?_;(with_reducible refine (filter_Select.calls k 1 0 5 4 (⟨#[]⟩ : ByteArray) _ _ y125 _ _ y128 t131 _ ?side1 ?side2 ?side3 ?side4 A1.out).mono ?_);(case side1=>repeat (first|exact (Kd.R_reads' HO127.out).2.2|(with_reducible refine Kd.C_alloc ?_ _)|(with_reducible refine Kd.C_drewN ?_ _)|(with_reducible refine Kd.C_drew ?_)));(case side2=>exact (Kd.R_reads' HO127.out).2.1);(case side3=>repeat (first|exact (Kd.R_reads' HO130.out).2.2|(with_reducible refine Kd.C_alloc ?_ _)|(with_reducible refine Kd.C_drewN ?_ _)|(with_reducible refine Kd.C_drew ?_)));(case side4=>exact (Kd.R_reads' HO130.out).2.1);rintro e w28 ⟨v132,rfl,ho0,hb⟩;refine ⟨_,rfl,?_⟩;have n0_:=Aside0.mk (Kd.R_below (R_up HO127.out) hb);have n1_:=Aside0.mk (Kd.R_elder' (R_up HO130.out) (Kd.R_base ho0) hb);have n2_:=Aside0.mk (Kd.R_lower (Kd.R_new' ho0 (Kd.R_lt (R_up HO130.out))) (below_size (below_up HB.out)));have n3_:=Aside0.mk (below_step (below_up HB.out) hb);clear HO127;clear HO130;clear HB;have HO127:=n0_;have HO130:=n1_;have HO133:=n2_;have HB:=n3_;clear n0_ n1_ n2_ n3_;(try clear hb);(try clear hb2);(try clear hk);(try clear hi);(try clear ho0);obtain ⟨Ao29,co29,eo29⟩:=Kd.R_slice HO133.out;subst eo29))
  go_ret
  exact ⟨by first|rfl|(simp [errW_none,errW_some] <;> rfl)|(simp [*,errW_none,errW_some] <;> rfl),by repeat (first|(with_reducible first|exact HB.out|apply below_alloc|apply pw_below_drewN|apply below_drew1)|exact HB.out)⟩
end Go.Proofs.Ytbkpifcjgedjaaa.P

