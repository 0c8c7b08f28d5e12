/- Texts of GrainBack. Merged: Px9. -/
import Derived.Test.YthoelihgpkffiaaQGrainBackPx0
import Derived.Test.YthoelihgpkffiaaQGrainBackPx1
namespace Go.Proofs.Ythoelihgpkffiaa.P
open Go.RowKit Go.Proofs.YthoelihgpkffiaaW.PrintWords Go.Proofs.YthoelihgpkffiaaW.PrintLast Go.Proofs.YthoelihgpkffiaaW.PrintMore
attribute [local go_sem] max2_int min2_int max_two min_two max_three min_three max_four min_four   -- for this text's walks alone
set_option linter.unusedVariables false
set_option linter.unusedSimpArgs false
attribute [local go_sem high] eqA45
mutual
def grain_Rows.l0 : Nat→List (List (S45))→List (List (S45))→Int→Int→Option ((List (List (S45))) × Bool)
 | 0,_,_,_,_=>none
 | k + 1,x4,x17,x18,x19=>if x19 < x18 then (if 0≤x19 then (if x19 < (x17.length : Int) then (if ((rd_L3 x17 x19).length : Int)=(x4.length : Int) then (grain_Rows.l1 k x4 x17 x18 x19 (rd_L3 x17 x19) ((rd_L3 x17 x19).length : Int) 0) else (some (([] : List (List (S45))),false))) else (none)) else (none)) else (some (x4,true))
def grain_Rows.l1 : Nat→List (List (S45))→List (List (S45))→Int→Int→List (S45)→Int→Int→Option ((List (List (S45))) × Bool)
 | 0,_,_,_,_,_,_,_=>none
 | k + 1,x4,x17,x18,x19,x28,x29,x30=>if x30 < x29 then (if 0≤x30 then (if x30 < (x28.length : Int) then (if x30 < (x4.length : Int) then (if (rd_L3 x4 x30).length < 5864062014805 then (grain_Rows.l1 k (x4.set (x30 : Int).toNat ((rd_L3 x4 x30) ++ [(⟨(rd_T45 x28 x30).f0,(rd_T45 x28 x30).f1⟩ : S45)])) x17 x18 x19 x28 x29 (wrap64 (x30 + 1))) else (none)) else (none)) else (none)) else (none)) else (grain_Rows.l0 k x4 x17 x18 (wrap64 (x19 + 1)))
end
def grain_Rows.f (k : Nat) (l0 : List (List (S45))) : Option ((List (List (S45))) × Bool):=if (l0.length : Int)=0 then (some (([] : List (List (S45))),false)) else (if 0 < (l0.length : Int) then (if 0≤((rd_L3 l0 0).length : Int) then (if (((rd_L3 l0 0).length : Int) : Int).toNat≤11728124029610 then (grain_Rows.l0 k (List.replicate (((rd_L3 l0 0).length : Int) : Int).toNat []) l0 (l0.length : Int) 0) else (none)) else (none)) else (none))
theorem grain_Rows.mono_l : ∀ k,(∀ y0 y1 y2 y3,LeO (grain_Rows.l0 k y0 y1 y2 y3) (grain_Rows.l0 (k + 1) y0 y1 y2 y3))∧(∀ y0 y1 y2 y3 y4 y5 y6,LeO (grain_Rows.l1 k y0 y1 y2 y3 y4 y5 y6) (grain_Rows.l1 (k + 1) y0 y1 y2 y3 y4 y5 y6))
 | 0=>⟨fun _ _ _ _ r h=>by simp [grain_Rows.l0] at h,fun _ _ _ _ _ _ _ r h=>by simp [grain_Rows.l1] at h⟩
 | k + 1=>by
  obtain ⟨ih0,ih1⟩:=grain_Rows.mono_l k
  refine ⟨?_,?_⟩
  ·intro y0 y1 y2 y3
   unfold grain_Rows.l0
   repeat' first
   | (with_reducible exact ih0 _ _ _ _)
   | (with_reducible exact ih1 _ _ _ _ _ _ _)
   | (with_reducible exact LeO.refl _)
   | (with_reducible exact LeO.none _)
   | (with_reducible refine LeO.ite ?_ ?_)
   | (with_reducible refine LeO.bind ?_ (fun _=>?_))
   | exact ih0 _ _ _ _
   | exact ih1 _ _ _ _ _ _ _
   | exact LeO.none _
   | refine LeO.ite ?_ ?_
   | refine LeO.bind ?_ (fun _=>?_)
  ·intro y0 y1 y2 y3 y4 y5 y6
   unfold grain_Rows.l1
   repeat' first
   | (with_reducible exact ih0 _ _ _ _)
   | (with_reducible exact ih1 _ _ _ _ _ _ _)
   | (with_reducible exact LeO.refl _)
   | (with_reducible exact LeO.none _)
   | (with_reducible refine LeO.ite ?_ ?_)
   | (with_reducible refine LeO.bind ?_ (fun _=>?_))
   | exact ih0 _ _ _ _
   | exact ih1 _ _ _ _ _ _ _
   | exact LeO.none _
   | refine LeO.ite ?_ ?_
   | refine LeO.bind ?_ (fun _=>?_)
theorem grain_Rows.mono : ∀ a0 k,LeO (grain_Rows.f k a0) (grain_Rows.f (k + 1) a0):=by
 intro a0 k
 obtain ⟨ih0,ih1⟩:=grain_Rows.mono_l k
 unfold grain_Rows.f
 repeat' first
   | (with_reducible exact ih0 _ _ _ _)
   | (with_reducible exact ih1 _ _ _ _ _ _ _)
   | (with_reducible exact LeO.refl _)
   | (with_reducible exact LeO.none _)
   | (with_reducible refine LeO.ite ?_ ?_)
   | (with_reducible refine LeO.bind ?_ (fun _=>?_))
   | exact ih0 _ _ _ _
   | exact ih1 _ _ _ _ _ _ _
   | exact LeO.none _
   | refine LeO.ite ?_ ?_
   | refine LeO.bind ?_ (fun _=>?_)
def grain_Rows.T12 : Bool × List (List Nat × List Nat):=(true,[([],[]),([],[]),([],[]),([],[]),([2,3],[2,3]),([4],[4]),([],[]),([6],[6]),([5,7],[5,7]),([0,1,0,1,2,3,4,5,6,7,8],[0,1]),([9,8,8,0,1,2,3,4,5,6,7,8],[8,9])])
def grain_Rows.B12 : List Nat:=[0,0,0,0,12,28,0,64,252,511,1023]
theorem grain_Rows.tab12 : rtab .any (opsOf Try.f15 12)=grain_Rows.T12:=by kernel_rfl
theorem grain_Rows.bits12 : waitsOk grain_Rows.T12.2 grain_Rows.B12=true:=by kernel_rfl
set_option maxHeartbeats 8000000 in
set_option maxRecDepth 100000 in
theorem grain_Rows.calls (k : Nat) (A0 : Option Addr) (c0 : Nat) (l0 : List (List (S45))) (r1 : List (List (S45))) (r2 : Bool) (w : World) (hr0 : Kd.C (Kd.slice 45 k45) w A0 l0.length l0) (hc0 : l0.length≤c0) (h : grain_Rows.f k l0=some (r1,r2)) :
  Calls Try.prog 15 #[.slice A0 l0.length c0] w fun e w'=>∃ v0_ : Value,e=.returned (.tuple #[v0_,.bool r2])∧Kd.S (Kd.slice 45 k45) 38 w' w.heap.size (fun _=>True) v0_ r1∧Below w.heap.size w w':=by
 have hu45:=Try.underlying45
 have HR0:=Aside0.mk hr0
 have HC0:=Aside0.mk hc0
 clear hr0 hc0
 have HB:=Aside0.mk (Below.refl w.heap.size w)
 have H : (if (l0.length : Int)=0 then (some (([] : List (List (S45))),false)) else (if 0 < (l0.length : Int) then (if 0≤((rd_L3 l0 0).length : Int) then (if (((rd_L3 l0 0).length : Int) : Int).toNat≤11728124029610 then (grain_Rows.l0 k (List.replicate (((rd_L3 l0 0).length : Int) : Int).toNat []) l0 (l0.length : Int) 0) else (none)) else (none)) else (none)))=some (r1,r2):=h
 clear h
 by_cases c2 : (l0.length : Int)=0
 ·rw [if_pos c2] at H
  have c2b0 : ((l0.length : Int) == 0)=true:=beq_iff_eq.mpr c2
  have c2b1 : ((l0.length : Int) != 0)=false:=bne_eq_false_iff_eq.mpr c2
  clear c2
  simp only [Option.some.injEq,Prod.mk.injEq] at H
  obtain ⟨rfl,rfl⟩:=H
  go_enter Try.func15,Try.ntmps15
  go_wp2
  go_ret2
  exact ⟨_,by first|rfl|(simp [errW_none,errW_some] <;> rfl)|(simp [*,errW_none,errW_some] <;> rfl),by first|exact Kd.S_nil _ _ _ _ _|exact Kd.N_nil _ _ _ _ _|exact Kd.V_nil _ _ _ _ _|exact Kd.Q_nil _ _ _ _ _|exact Kd.R_nil _ _ _ _ _,by repeat (first|(with_reducible first|exact HB.out|apply below_alloc|apply pw_below_drewN|apply below_drew1)|exact HB.out)⟩
 ·rw [if_neg c2] at H
  have c2b0 : ((l0.length : Int) == 0)=false:=beq_eq_false_iff_ne.mpr c2
  have c2b1 : ((l0.length : Int) != 0)=true:=bne_iff_ne.mpr c2
  have c2b2 : ¬ (l0=[]):=fun h_=>c2 (by rw [h_];rfl)
  by_cases c3 : 0 < (l0.length : Int)
  ·rw [if_pos c3] at H
   have c3b0 : decide (0 < (l0.length : Int))=true:=decide_eq_true c3
   have c3b1 : decide (0 < l0.length)=true:=decide_eq_true (by omega)
   clear c3
   by_cases c4 : 0≤((rd_L3 l0 0).length : Int)
   ·rw [if_pos c4] at H
    have c4b0:=eq_true c4
    have c4b1 : decide (0≤((rd_L3 l0 0).length : Int))=true:=decide_eq_true c4
    clear c4
    by_cases c5 : (((rd_L3 l0 0).length : Int) : Int).toNat≤11728124029610
    ·rw [if_pos c5] at H
     have c5b0:=eq_true c5
     have c5b1 : decide ((((rd_L3 l0 0).length : Int) : Int).toNat≤11728124029610)=true:=decide_eq_true c5
     clear c5
     obtain ⟨y284,hy284⟩ : ∃ y_ : List (List (S45)),y_=(List.replicate (((rd_L3 l0 0).length : Int) : Int).toNat []):=⟨_,rfl⟩
     replace H : (grain_Rows.l0 k y284 l0 (l0.length : Int) 0)=some (r1,r2):=by first|(rw [hy284];with_reducible exact H)|(have H2_:=(Option.bind_some _ _).symm.trans H;rw [hy284];with_reducible exact H2_)|(have H2_:=(Option.bind_some _ _).symm.trans H;with_reducible exact H2_)|with_reducible exact H|(rw [hy284];exact H)|exact H
     have Ny284:=Aside0.mk hy284
     clear hy284
     have H':=Aside0.mk H
     clear H
     have p283 : 0≤(0 : Int):=(by omega)
     have q283 : 0 < (l0.length : Int):=of_decide_eq_true (by first|(with_reducible assumption)|assumption)
     obtain ⟨ad283,A283_0,c283_0,e283,hx283_0,hl283_0,hi283_0⟩:=at_L3 HR0.out 0 p283 q283
     cases e283
     have qi283 : (0 < l0.length)=True:=eq_true (by omega)
     (try rw [show ((0 : Int)).toNat=0 from rfl] at hx283_0)
     (try rw [Addr.add_zero'] at hx283_0)
     have HR283_0:=Aside0.mk hi283_0
     have HC283_0:=Aside0.mk hl283_0
     clear hi283_0 hl283_0
     replace p283:=eq_true p283
     replace q283:=eq_true q283
     go_enter Try.func15,Try.ntmps15
     go_wp2_with (first|((with_reducible refine gate_dst (N:=16) rfl ?_);refine Kd.S_make (Kd.slice 45 k45) _ 38 rfl (N:=16) rfl 25 _ _ rfl ((rd_L3 l0 0).length : Int) rfl rfl Try.underlying25 (.slice none 0 0) 24 info38 rfl (by decide) (by omega) [] (ok:=fun _=>True) (okp:=fun _=>True) ⟨_,rfl,Kd.R_nil _ _ _ _ _⟩ (fun _ hk=>hk) trivial (of_decide_eq_true (by first|(with_reducible assumption)|assumption)) (Nat.le_trans (Nat.mul_le_mul_right _ (of_decide_eq_true (by first|(with_reducible assumption)|assumption) : ((rd_L3 l0 0).length : Int).toNat≤11728124029610)) (by omega)) (Below.refl _ _) (Nat.le_refl _) ?_;intro v285 w6 ho7 hb hg_ hnew_;clear hg_ hnew_;(first|rw [← Ny284.out] at ho7|(simp only [Int.reduceToNat] at ho7;rw [← Ny284.out] at ho7));have n0_:=Aside0.mk (Kd.S_lower ho7 (below_size (below_up HB.out)));have n1_:=Aside0.mk (below_step (below_up HB.out) hb);clear HB;have HO286:=n0_;have HB:=n1_;clear n0_ n1_;clear hb ho7))
     go_loopg [19] k (fun kq v19 w'=>∃ (x4_1 : List (List (S45))) (x19_1 : Int),v19=.int .i64 x19_1∧Aside0 (grain_Rows.l0 kq x4_1 l0 (l0.length : Int) x19_1=some (r1,r2))∧Aside0 (kq≤k)∧Aside0 (Kd.S (Kd.slice 45 k45) 38 w' w.heap.size (fun _=>True) v285 x4_1)∧Aside0 (Below w.heap.size w w'))
     case atStart=>exact ⟨(y284),(0),(by first|rfl|(simp;done)|(simp [*];done)),H',⟨Nat.le_refl _⟩,⟨by (with_reducible repeat (first|apply Kd.S_alloc|apply Kd.S_drewN|apply Kd.S_drew));exact HO286.out⟩,⟨by repeat (first|(with_reducible first|exact HB.out|apply below_alloc|apply pw_below_drewN|apply below_drew1)|exact HB.out)⟩⟩
     case round =>
      clear H'
      try clear c1
      try clear c2
      try clear c2b0
      try clear c2b1
      try clear c2b2
      try clear p2
      try clear q2
      try clear hx2
      try clear qi2
      try clear c3
      try clear c3b0
      try clear c3b1
      try clear c4
      try clear c4b0
      try clear c4b1
      try clear c5
      try clear c5b0
      try clear c5b1
      try clear hx283_0
      try clear p283
      try clear q283
      obtain ⟨x4_1,x19_1,rfl,HA,HK1,HO_4,HB⟩:=hrel
      cases gk with
      | zero=>exact absurd HA.out (by simp [grain_Rows.l0])
      | succ k1 =>
       have H:=HA.out
       clear HA
       simp only [grain_Rows.l0] at H
       by_cases c8 : x19_1 < (l0.length : Int)
       ·rw [if_pos c8] at H
        have c8b0 : decide (x19_1 < (l0.length : Int))=true:=decide_eq_true c8
        clear c8
        by_cases c9 : 0≤x19_1
        ·rw [if_pos c9] at H
         have c9b0 : decide (0≤x19_1)=true:=decide_eq_true c9
         clear c9
         by_cases c10 : x19_1 < (l0.length : Int)
         ·rw [if_pos c10] at H
          have c10b0 : decide (x19_1 < (l0.length : Int))=true:=decide_eq_true c10
          clear c10
          by_cases c11 : ((rd_L3 l0 x19_1).length : Int)=(x4_1.length : Int)
          ·rw [if_pos c11] at H
           have c11b0 : (((rd_L3 l0 x19_1).length : Int) == (x4_1.length : Int))=true:=beq_iff_eq.mpr c11
           have c11b1 : (((rd_L3 l0 x19_1).length : Int) != (x4_1.length : Int))=false:=bne_eq_false_iff_eq.mpr c11
           have c11b2 : ((rd_L3 l0 x19_1).length == x4_1.length)=true:=by first|simpa using c11|(simp at c11 ⊢;omega)
           clear c11
           have H':=Aside0.mk H
           clear H
           have p287 : 0≤(x19_1 : Int):=of_decide_eq_true (by first|(with_reducible assumption)|assumption)
           have q287 : x19_1 < (l0.length : Int):=of_decide_eq_true (by first|(with_reducible assumption)|assumption)
           obtain ⟨ad287,A287_0,c287_0,e287,hx287_0,hl287_0,hi287_0⟩:=at_L3 HR0.out x19_1 p287 q287
           obtain rfl : ad283=ad287:=(by injection e287)
           replace hx287_0:=(HB.out.cell (World.block_lt_of_cell? w _ hx287_0)).trans hx287_0
           have HR287_0:=Aside0.mk hi287_0
           have HC287_0:=Aside0.mk hl287_0
           clear hi287_0 hl287_0
           replace p287:=eq_true p287
           replace q287:=eq_true q287
           obtain ⟨Ao12,co12,eo12⟩:=Kd.S_slice HO_4.out
           subst eo12
           go_wp2
           go_loopg [30] k1 (fun kq v30 w'=>∃ (x4_2 : List (List (S45))) (x30_2 : Int),v30=.int .i64 x30_2∧Aside0 (grain_Rows.l1 kq x4_2 l0 (l0.length : Int) x19_1 (rd_L3 l0 x19_1) ((rd_L3 l0 x19_1).length : Int) x30_2=some (r1,r2))∧Aside0 (kq≤k1)∧Aside0 (Kd.S (Kd.slice 45 k45) 38 w' w.heap.size (fun _=>True) (.slice Ao12 x4_1.length co12) x4_2)∧Aside0 (Below w.heap.size w w'))
           case atStart=>exact ⟨(x4_1),(0),(by first|rfl|(simp;done)|(simp [*];done)),H',⟨Nat.le_refl _⟩,⟨by (with_reducible repeat (first|apply Kd.S_alloc|apply Kd.S_drewN|apply Kd.S_drew));exact HO_4.out⟩,⟨by repeat (first|(with_reducible first|exact HB.out|apply below_alloc|apply pw_below_drewN|apply below_drew1)|exact HB.out)⟩⟩
           case round =>
            clear H'
            try clear c1
            try clear c2
            try clear c2b0
            try clear c2b1
            try clear c2b2
            try clear p2
            try clear q2
            try clear hx2
            try clear qi2
            try clear c3
            try clear c3b0
            try clear c3b1
            try clear c4
            try clear c4b0
            try clear c4b1
            try clear c5
            try clear c5b0
            try clear c5b1
            try clear c8
            try clear c8b0
            try clear c9
            try clear c9b0
            try clear c10
            try clear c10b0
            try clear c11
            try clear c11b0
            try clear c11b1
            try clear c11b2
            try clear hx283_0
            try clear hx287_0
            try clear p2
            try clear p283
            try clear p287
            try clear q2
            try clear q283
            try clear q287
            obtain ⟨x4_2,x30_2,rfl,HA,HK2,HO_4,HB⟩:=hrel
            have hl4_2:=(Kd.S_reads' HO_4.out).1
            rw [hl4_2] at HO_4
            (try simp only [hl4_2])
            cases gk with
            | zero=>exact absurd HA.out (by simp [grain_Rows.l1])
            | succ k2 =>
             have H:=HA.out
             clear HA
             simp only [grain_Rows.l1] at H
             by_cases c13 : x30_2 < ((rd_L3 l0 x19_1).length : Int)
             ·rw [if_pos c13] at H
              have c13b0 : decide (x30_2 < ((rd_L3 l0 x19_1).length : Int))=true:=decide_eq_true c13
              clear c13
              by_cases c14 : 0≤x30_2
              ·rw [if_pos c14] at H
               have c14b0 : decide (0≤x30_2)=true:=decide_eq_true c14
               clear c14
               by_cases c15 : x30_2 < ((rd_L3 l0 x19_1).length : Int)
               ·rw [if_pos c15] at H
                have c15b0 : decide (x30_2 < ((rd_L3 l0 x19_1).length : Int))=true:=decide_eq_true c15
                clear c15
                by_cases c16 : x30_2 < (x4_2.length : Int)
                ·rw [if_pos c16] at H
                 have c16b0 : decide (x30_2 < (x4_2.length : Int))=true:=decide_eq_true c16
                 clear c16
                 by_cases c17 : (rd_L3 x4_2 x30_2).length < 5864062014805
                 ·rw [if_pos c17] at H
                  have LMc17:=Aside0.mk c17
                  clear c17
                  obtain ⟨y291,hy291⟩ : ∃ y_ : List (S45),y_=((rd_L3 x4_2 x30_2) ++ [(⟨(rd_T45 (rd_L3 l0 x19_1) x30_2).f0,(rd_T45 (rd_L3 l0 x19_1) x30_2).f1⟩ : S45)]):=⟨_,rfl⟩
                  replace H : (grain_Rows.l1 k2 (x4_2.set (x30_2 : Int).toNat y291) l0 (l0.length : Int) x19_1 (rd_L3 l0 x19_1) ((rd_L3 l0 x19_1).length : Int) (wrap64 (x30_2 + 1)))=some (r1,r2):=by first|(rw [hy291];with_reducible exact H)|(have H2_:=(Option.bind_some _ _).symm.trans H;rw [hy291];with_reducible exact H2_)|(have H2_:=(Option.bind_some _ _).symm.trans H;with_reducible exact H2_)|with_reducible exact H|(rw [hy291];exact H)|exact H
                  have Ny291:=Aside0.mk hy291
                  clear hy291
                  obtain ⟨y294,hy294⟩ : ∃ y_ : List (List (S45)),y_=(x4_2.set (x30_2 : Int).toNat y291):=⟨_,rfl⟩
                  replace H : (grain_Rows.l1 k2 y294 l0 (l0.length : Int) x19_1 (rd_L3 l0 x19_1) ((rd_L3 l0 x19_1).length : Int) (wrap64 (x30_2 + 1)))=some (r1,r2):=by first|(rw [hy294];with_reducible exact H)|(have H2_:=(Option.bind_some _ _).symm.trans H;rw [hy294];with_reducible exact H2_)|(have H2_:=(Option.bind_some _ _).symm.trans H;with_reducible exact H2_)|with_reducible exact H|(rw [hy294];exact H)|exact H
                  have Ny294:=Aside0.mk hy294
                  clear hy294
                  have H':=Aside0.mk H
                  clear H
                  have p288 : 0≤(x30_2 : Int):=of_decide_eq_true (by first|(with_reducible assumption)|assumption)
                  have q288 : x30_2 < ((rd_L3 l0 x19_1).length : Int):=of_decide_eq_true (by first|(with_reducible assumption)|assumption)
                  obtain ⟨ad288,e288,hx288_0,hx288_1⟩:=at_T45 HR287_0.out x30_2 p288 q288
                  cases e288
                  replace hx288_0:=(HB.out.cell (World.block_lt_of_cell? w _ hx288_0)).trans hx288_0
                  replace hx288_1:=(HB.out.cell (World.block_lt_of_cell? w _ hx288_1)).trans hx288_1
                  replace p288:=eq_true p288
                  replace q288:=eq_true q288
                  try go_wp2_with (first|((with_reducible refine gate_dst (N:=8) rfl ?_);refine box_event ?hg (N:=8) ?hd (cs:=#[.int .i64 0,.string (⟨#[]⟩ : ByteArray)]) (t:=45) ?hr ?_;(case hd=>rfl);(case hg=>rfl);(case hr=>first|(go_simp;done)|(go_simp;rfl));intro gb289 hg w19 hbox hb;have n0_:=Aside0.mk (Kd.S_below (Kd.S_elderB (S_up HO_4.out) gb289 (Nat.le_of_eq hg.symm)) hb);have n1_:=Aside0.mk (below_step (below_up HB.out) hb);have n2_:=Aside0.mk (hbox);have n3_:=Aside0.mk ((by rw [hg];exact (below_size (below_up HB.out)) : w.heap.size≤gb289));have n4_:=Aside0.mk ((by rw [hg];exact (below_size (below_up HB.out)) : w.heap.size≤gb289));clear HO_4;clear HB;have HO_4:=n0_;have HB:=n1_;have BK289:=n2_;have GW289:=n3_;have GE289:=n4_;clear n0_ n1_ n2_ n3_ n4_;clear hb hbox hg;have hcz20_0 : w19.cell? ⟨gb289,0,none⟩=some (.int .i64 0):=(blk_cell BK289.out 0).trans rfl;have hcz20_1 : w19.cell? ⟨gb289,1,none⟩=some (.string (⟨#[]⟩ : ByteArray)):=(blk_cell BK289.out 1).trans rfl;have hfz20_0:=blk_frozen BK289.out 0;have hfz20_1:=blk_frozen BK289.out 1))
                  have n0_ : Aside0 (Kd.S (Kd.slice 45 k45) 38 ((w19.setCell ⟨gb289,0,none⟩ (.int .i64 ((rd_T45 (rd_L3 l0 x19_1) x30_2).f0))).setCell ⟨gb289,1,none⟩ (.string ((rd_T45 (rd_L3 l0 x19_1) x30_2).f1))) w.heap.size (fun k_=>k_≠gb289) (.slice Ao12 x4_2.length co12) x4_2):=⟨by (with_reducible repeat (first|apply Kd.S_alloc|apply Kd.S_drewN|apply Kd.S_drew));exact Kd.S_mono (Kd.S_far (p:=⟨gb289,1,none⟩) (Kd.S_far (p:=⟨gb289,0,none⟩) (Kd.S_mono HO_4.out (fun k_ hk=>(⟨hk,hk.2⟩ : _∧k_≠gb289))) (fun _ hk=>hk.2) (.int .i64 ((rd_T45 (rd_L3 l0 x19_1) x30_2).f0))) (fun _ hk=>hk.2) (.string ((rd_T45 (rd_L3 l0 x19_1) x30_2).f1))) (fun _ hk=>hk.1.2)⟩
                  have n1_ : Aside0 (((w19.setCell ⟨gb289,0,none⟩ (.int .i64 ((rd_T45 (rd_L3 l0 x19_1) x30_2).f0))).setCell ⟨gb289,1,none⟩ (.string ((rd_T45 (rd_L3 l0 x19_1) x30_2).f1))).heap[gb289]?=some (.cells #[.int .i64 ((rd_T45 (rd_L3 l0 x19_1) x30_2).f0),.string ((rd_T45 (rd_L3 l0 x19_1) x30_2).f1)] 45 (0,0))):=⟨by (with_reducible repeat (first|refine blk_drewN ?_ _|refine blk_drew ?_|refine blk_alloc ?_ _));refine blk_put (cs:=#[.int .i64 ((rd_T45 (rd_L3 l0 x19_1) x30_2).f0),.string (⟨#[]⟩ : ByteArray)]) ?_ 1 _ rfl;(with_reducible repeat (first|refine blk_drewN ?_ _|refine blk_drew ?_|refine blk_alloc ?_ _));refine blk_put (cs:=#[.int .i64 0,.string (⟨#[]⟩ : ByteArray)]) ?_ 0 _ rfl;(with_reducible repeat (first|refine blk_drewN ?_ _|refine blk_drew ?_|refine blk_alloc ?_ _));exact BK289.out⟩
                  have n2_ : Aside0 (Below w.heap.size w ((w19.setCell ⟨gb289,0,none⟩ (.int .i64 ((rd_T45 (rd_L3 l0 x19_1) x30_2).f0))).setCell ⟨gb289,1,none⟩ (.string ((rd_T45 (rd_L3 l0 x19_1) x30_2).f1)))):=⟨by repeat (first|(with_reducible first|exact HB.out|apply below_alloc|apply pw_below_drewN|apply below_drew1|refine below_set ?_ GE289.out)|exact HB.out)⟩
                  (try clear HO_4)
                  (try clear BK289)
                  (try clear HB)
                  generalize ((w19.setCell ⟨gb289,0,none⟩ (.int .i64 ((rd_T45 (rd_L3 l0 x19_1) x30_2).f0))).setCell ⟨gb289,1,none⟩ (.string ((rd_T45 (rd_L3 l0 x19_1) x30_2).f1)))=w21 at n0_ n1_ n2_ ⊢
                  have HO_4:=n0_
                  have BK289:=n1_
                  have HB:=n2_
                  clear n0_ n1_ n2_
                  have n0_:=Aside0.mk (Kd.S_drew HO_4.out)
                  have n1_:=Aside0.mk (blk_drew BK289.out)
                  have n2_:=Aside0.mk (below_drew1 HB.out)
                  clear HO_4
                  clear BK289
                  clear HB
                  have HO_4:=n0_
                  have BK289:=n1_
                  have HB:=n2_
                  clear n0_ n1_ n2_
                  have p290 : 0≤(x30_2 : Int):=of_decide_eq_true (by first|(with_reducible assumption)|assumption)
                  have q290 : x30_2 < (x4_2.length : Int):=of_decide_eq_true (by first|(with_reducible assumption)|assumption)
                  obtain ⟨ad290,A290_0,c290_0,e290,hx290_0,hl290_0,hi290_0⟩:=at_L3 (Kd.S_reads' HO_4.out).2.2 x30_2 p290 q290
                  cases e290
                  obtain ⟨ce290,hce290,hMe290,hcc290⟩:=Kd.S_get HO_4.out [] x30_2 p290 (by first|exact q290|exact of_decide_eq_true (by first|(with_reducible assumption)|assumption)|(have e_:=(Kd.S_reads' HO_4.out).1;omega))
                  obtain ⟨ve290_0,rfl,ge290_0⟩:=hMe290
                  have hv290_0:=hcc290 0 _ rfl
                  rw [Nat.add_zero,show ((Kd.slice 45 k45)).sz=1 from rfl,Nat.mul_one] at hv290_0
                  replace hv290_0:=Option.some.inj (hv290_0.symm.trans hx290_0)
                  rw [hv290_0] at ge290_0
                  have HL290_0:=Aside0.mk (show Kd.R k45 45 _ _ _ _ (rd_L3 x4_2 x30_2) from ge290_0)
                  clear hv290_0 ge290_0
                  have HX290_0:=Aside0.mk hx290_0
                  clear hcc290 hce290
                  have HR290_0:=Aside0.mk hi290_0
                  have HC290_0:=Aside0.mk hl290_0
                  clear hi290_0 hl290_0
                  replace p290:=eq_true p290
                  replace q290:=eq_true q290
                  obtain ⟨go23,co23,eo23,gb23,gl23,cl23,HG23⟩:=Kd.S_form HO_4.out (by have h_ : (x30_2 : Int) < ((x4_2.length : Int) : Int):=of_decide_eq_true (by first|(with_reducible assumption)|assumption);have h2_ : 0≤(x30_2 : Int):=(of_decide_eq_true (by first|(with_reducible assumption)|assumption));omega)
                  (first|cases eo23|(injection eo23 with ea_ en_ ec_;(first|subst ea_|(injection ea_ with ea_;subst ea_));subst ec_;clear en_))
                  have GB23:=Aside0.mk gb23
                  have GG23:=Aside0.mk HG23
                  clear gb23 gl23 HG23
                  (first|simp only [add_plain] at hx290_0|skip)
                  obtain ⟨oki23,ce23,hcl23,hM23,hcc23,_,_,hH23⟩:=Kd.S_elem HO_4.out [] (x30_2 : Int) (of_decide_eq_true (by first|(with_reducible assumption)|assumption)) (by have h_ : (x30_2 : Int) < ((x4_2.length : Int) : Int):=of_decide_eq_true (by first|(with_reducible assumption)|assumption);first|exact h_|(have e_:=(Kd.S_reads' HO_4.out).1;omega)|simpa using h_)
                  obtain ⟨ve23_0,rfl,ge23_0⟩:=hM23
                  have hv23:=hcc23 0 _ rfl
                  have hX23:=HX290_0.out
                  (try simp only [add_plain] at hX23)
                  (try simp only [Nat.add_zero] at hv23)
                  (try rw [show ((Kd.slice 45 k45)).sz=1 from rfl,Nat.mul_one] at hv23)
                  replace hv23:=Option.some.inj (hv23.symm.trans hX23)
                  subst hv23
                  clear hX23 hcc23 hcl23
                  have UU23:=Aside0.mk (show Kd.R k45 45 _ w.heap.size oki23 (.slice A290_0 (rd_L3 x4_2 x30_2).length c290_0) (rd_L3 x4_2 x30_2) from ge23_0)
                  have HH23:=Aside0.mk hH23
                  have HN23:=Aside0.mk (Kd.S_reads' HO_4.out).1
                  clear hH23 ge23_0
                  refine start_ (n:=11) (S:=fun w'=>w'.cell? ⟨gb289,0,none⟩=some (.int .i64 ((rd_T45 (rd_L3 l0 x19_1) x30_2).f0))∧w'.cell? ⟨gb289,1,none⟩=some (.string ((rd_T45 (rd_L3 l0 x19_1) x30_2).f1))∧w'.cell? ⟨go23,(x30_2).toNat,none⟩=some (.slice A290_0 (rd_L3 x4_2 x30_2).length c290_0)) (ds:=[10]) #[false,false,false,false,false,false,false,false,false,false,false] (by kernel_rfl) rfl rfl ⟨(blk_cell BK289.out 0).trans rfl,(blk_cell BK289.out 1).trans rfl,hx290_0⟩ (fun hHeld=>?_);refine with_tabW grain_Rows.tab12 grain_Rows.bits12 (fun HT_ HW_=>?_)
                  generalize w21.drew=w22 at HO_4 BK289 HB GG23 HH23 HL290_0 HR290_0 HX290_0 UU23 hx290_0 hHeld ⊢
                  refine pure_ (i:=0) (N:=some 35) (v:=?_) (a':=?_) #[true,false,false,false,false,false,false,false,false,false,false] rfl rfl (any_of HT_.out (by kernel_rfl)) (fun _ _ _ h=>h) (Or.inl ⟨by rfl,?_⟩) ?_ ?_
                  rotate_left;(intro w';go_simp;with_reducible rfl);rotate_left;(simp only [Act.put,List.setIfInBounds_toArray,List.set_cons_zero,List.set_cons_succ,i64_w,i32_w];rfl)
                  refine pure_ (i:=1) (N:=some 36) (v:=?_) (a':=?_) #[true,true,false,false,false,false,false,false,false,false,false] rfl rfl (any_of HT_.out (by kernel_rfl)) (fun _ _ _ h=>h) (Or.inl ⟨by rfl,?_⟩) ?_ ?_
                  rotate_left;(intro w';go_simp;with_reducible rfl);rotate_left;(simp only [Act.put,List.setIfInBounds_toArray,List.set_cons_zero,List.set_cons_succ,i64_w,i32_w];rfl)
                  refine pure_ (i:=2) (N:=some 37) (v:=?_) (a':=?_) #[true,true,true,false,false,false,false,false,false,false,false] rfl rfl (any_of HT_.out (by kernel_rfl)) (fun _ _ _ h=>h) (Or.inl ⟨by rfl,?_⟩) ?_ ?_
                  rotate_left;(intro w';go_simp;with_reducible rfl);rotate_left;(simp only [Act.put,List.setIfInBounds_toArray,List.set_cons_zero,List.set_cons_succ,i64_w,i32_w];rfl)
                  refine pure_ (i:=3) (N:=some 38) (v:=?_) (a':=?_) #[true,true,true,true,false,false,false,false,false,false,false] rfl rfl (any_of HT_.out (by kernel_rfl)) (fun _ _ _ h=>h) (Or.inl ⟨by rfl,?_⟩) ?_ ?_
                  rotate_left;(intro w';go_simp;with_reducible rfl);rotate_left;(simp only [Act.put,List.setIfInBounds_toArray,List.set_cons_zero,List.set_cons_succ,i64_w,i32_w];rfl)
                  refine pure_ (i:=4) (N:=some 39) (v:=?_) (a':=?_) #[true,true,true,true,true,false,false,false,false,false,false] rfl rfl (any_of HT_.out (by kernel_rfl)) (fun _ _ _ h=>h) (Or.inl ⟨by rfl,?_⟩) ?_ ?_
                  rotate_left;(intro w';go_simp;with_reducible rfl);rotate_left;(simp only [Act.put,List.setIfInBounds_toArray,List.set_cons_zero,List.set_cons_succ,i64_w,i32_w];rfl)
                  refine take_ (i:=5) (N:=some 40) (v:=?_) (a':=?_) #[true,true,true,true,true,true,false,false,false,false,false] rfl rfl (take_ofW HT_.out HW_.out (by kernel_rfl)) (fun _ _ _ h=>h) (Or.inl ⟨by rfl,?_⟩) hHeld ?_ ?_
                  rotate_left;(rintro w' ⟨s0,s1,s2⟩;go_simp;with_reducible rfl);rotate_left;(simp only [Act.put,List.setIfInBounds_toArray,List.set_cons_zero,List.set_cons_succ,i64_w,i32_w];rfl)
                  refine take_ (i:=6) (N:=some 41) (v:=?_) (a':=?_) #[true,true,true,true,true,true,true,false,false,false,false] rfl rfl (take_ofW HT_.out HW_.out (by kernel_rfl)) (fun _ _ _ h=>h) (Or.inl ⟨by rfl,?_⟩) hHeld ?_ ?_
                  rotate_left;(rintro w' ⟨s0,s1,s2⟩;go_simp;with_reducible rfl);rotate_left;(simp only [Act.put,List.setIfInBounds_toArray,List.set_cons_zero,List.set_cons_succ,i64_w,i32_w];rfl)
                  refine one_ (i:=7) (N:=some 42) #[true,true,true,true,true,true,true,true,false,false,false] rfl rfl (one_of HT_.out (by kernel_rfl)) (by decide) (fun K hK=>?_)
                  refine value_ (w1:=?_) (v:=?_) (by rfl) rfl ?_ ?_
                  rotate_left 2
                  ·go_simp
                   constructor
                   ·rfl
                   ·rfl
                  refine hK.out _ _ ⟨(blk_cell (blk_alloc BK289.out _) 0).trans rfl,(blk_cell (blk_alloc BK289.out _) 1).trans rfl,(World.cell?_alloc_lt _ _ _ (World.block_lt_of_cell? _ _ (hHeld.2.2))).trans (hHeld.2.2)⟩ (fun hHeld=>?_)
                  clear hK K
                  refine norm_ (a':=?_) ?_ ?_
                  rotate_left
                  ·show Act.put _ (some 42) _=_
                   simp only [Act.put,List.setIfInBounds_toArray,List.set_cons_zero,List.set_cons_succ,i64_w,i32_w]
                   rfl
                  refine one_ (i:=8) (N:=some 43) #[true,true,true,true,true,true,true,true,true,false,false] rfl rfl (one_of HT_.out (by kernel_rfl)) (by decide) (fun K hK=>?_)
                  refine Kd.R_append_step k45 (w0:=w) w.heap.size (by rfl) (.tmp 40) (.tmp 42) 38 45 (.agg #[(.int .i64 0),(.string ⟨#[]⟩)]) 24 rfl Try.underlying38 info45 rfl (by decide) (by omega) (.slice A290_0 (rd_L3 x4_2 x30_2).length c290_0) (rd_L3 x4_2 x30_2) (⟨(rd_T45 (rd_L3 l0 x19_1) x30_2).f0,(rd_T45 (rd_L3 l0 x19_1) x30_2).f1⟩ : S45) [.int .i64 ((rd_T45 (rd_L3 l0 x19_1) x30_2).f0),.string ((rd_T45 (rd_L3 l0 x19_1) x30_2).f1)] (fun k_=>oki23 k_ ∨ ((fun k_=>k_≠gb289)) k_∧w22.heap.size≤k_) (fun _=>False) rfl rfl ?aP (fun _ hk=>hk.elim) ?aF ?aO ?aB ?aS ?aL ?_
                  (case aP=>exact k45_mkM _ _ _ (⟨(rd_T45 (rd_L3 l0 x19_1) x30_2).f0,(rd_T45 (rd_L3 l0 x19_1) x30_2).f1⟩ : S45))
                  (case aB=>exact (by repeat (first|(with_reducible first|exact HB.out|apply below_alloc|apply pw_below_drewN|apply below_drew1|refine below_set ?_ GE289.out)|exact HB.out)))
                  (case aF=>exact (fun k_ hk=>.inr ⟨Kd.freshB (g:=gb289) (o:=.cells #[.int .i64 ((rd_T45 (rd_L3 l0 x19_1) x30_2).f0),.string ((rd_T45 (rd_L3 l0 x19_1) x30_2).f1)] 45 (0,0)) (blk_up BK289.out) k_ hk,hk⟩))
                  (case aO=>exact (by (with_reducible repeat (first|apply Kd.R_alloc|apply Kd.R_drewN|apply Kd.R_drew));exact Kd.R_mono UU23.out (fun _ hk=>.inl hk)))
                  (case aS=>exact (below_size (by repeat (first|(with_reducible first|exact HB.out|apply below_alloc|apply pw_below_drewN|apply below_drew1|refine below_set ?_ GE289.out)|exact HB.out))))
                  (case aL=>have:=LMc17.out;omega)
                  intro v292 w24 ho hb hg hat
                  (first|have HS2_:=cell_grown hg (hHeld.2.2) (by first|(rw [add_block];exact (fun e_=>((HL290_0.out.1 _ e_.symm).2) rfl))|(show some (Addr.add _ _).block≠_;rw [add_block];exact (fun e_=>((HL290_0.out.1 _ e_.symm).2) rfl))|exact (fun e_=>((HL290_0.out.1 _ e_.symm).2) rfl))|have HS2_:=cell_grown hg (cell_unalloc (hHeld.2.2) (by first|(rw [add_block];exact Kd.S_lt HO_4.out _ rfl)|(show (Addr.add _ _).block < _;rw [add_block];exact Kd.S_lt HO_4.out _ rfl)|exact Kd.S_lt HO_4.out _ rfl)) (by first|(rw [add_block];exact (fun e_=>((HL290_0.out.1 _ e_.symm).2) rfl))|(show some (Addr.add _ _).block≠_;rw [add_block];exact (fun e_=>((HL290_0.out.1 _ e_.symm).2) rfl))|exact (fun e_=>((HL290_0.out.1 _ e_.symm).2) rfl)))
                  rw [← Ny291.out] at ho
                  have n0_:=Aside0.mk (blk_grown (g:=gb289) (o:=.cells #[.int .i64 ((rd_T45 (rd_L3 l0 x19_1) x30_2).f0),.string ((rd_T45 (rd_L3 l0 x19_1) x30_2).f1)] 45 (0,0)) (blk_up BK289.out) hg (Kd.R_away HL290_0.out (fun _ hk=>hk.1)))
                  have n1_:=Aside0.mk (hb)
                  have n2_:=Aside0.mk (Kd.H_grown (Kd.H_widen (by repeat (first|exact HH23.out|refine Kd.H_alloc ?_ _|refine Kd.H_drewN ?_ _|refine Kd.H_drew ?_))) hg (fun k_ e_=>.inl (UU23.out.1 k_ e_)))
                  have n3_:=Aside0.mk (ho)
                  clear BK289
                  clear HB
                  clear HH23
                  clear HO_4
                  clear UU23
                  clear HL290_0
                  have BK289:=n0_
                  have HB:=n1_
                  have HH23:=n2_
                  have HO293:=n3_
                  clear n0_ n1_ n2_ n3_
                  clear ho hb hg hat
                  have p18 : 0≤(x30_2 : Int):=of_decide_eq_true (by first|(with_reducible assumption)|assumption)
                  have q18 : (x30_2 : Int) < ((x4_2.length : Int) : Int):=of_decide_eq_true (by first|(with_reducible assumption)|assumption)
                  replace p18:=eq_true p18
                  replace q18:=eq_true q18
                  obtain ⟨Ao27,co27,eo27⟩:=Kd.R_slice HO293.out
                  (first|subst eo27|(injection eo27 with f1_ f2_ f3_;have f4_:=f1_.symm;have f5_:=f3_.symm;clear f1_ f2_ f3_;subst f4_;subst f5_))
                  obtain ⟨_,_,hraw25,_,_,hcc25,_⟩:=Kd.H_raw HH23.out (of_decide_eq_true (by first|(with_reducible assumption)|assumption)) (by have h_ : (x30_2 : Int) < ((x4_2.length : Int) : Int):=of_decide_eq_true (by first|(with_reducible assumption)|assumption);first|exact h_|(have e_:=(HN23.out);omega)|simpa using h_)
                  obtain ⟨_,hfr25⟩:=Kd.H_at HH23.out (of_decide_eq_true (by first|(with_reducible assumption)|assumption)) (by have h_ : (x30_2 : Int) < ((x4_2.length : Int) : Int):=of_decide_eq_true (by first|(with_reducible assumption)|assumption);first|exact h_|(have e_:=(HN23.out);omega)|simpa using h_)
                  have hx25_0:=hcc25 0 _ rfl
                  have hf25_0:=hfr25 0
                  (try simp only [Nat.add_zero] at hx25_0 hf25_0)
                  (try rw [show ((Kd.slice 45 k45)).sz=1 from rfl,Nat.mul_one] at hx25_0)
                  (try rw [show ((Kd.slice 45 k45)).sz=1 from rfl,Nat.mul_one] at hf25_0)
                  have HP25:=Kd.S_seg0 HH23.out (of_decide_eq_true (by first|(with_reducible assumption)|assumption)) (by have h_ : (x30_2 : Int) < ((x4_2.length : Int) : Int):=of_decide_eq_true (by first|(with_reducible assumption)|assumption);first|exact h_|(have e_:=(HN23.out);omega)|simpa using h_) (seg:=[.slice Ao27 y291.length co27]) (j:=0) (show 1≤1 from by decide) (x':=y291) (Kd.M_row HO293.out) (fun _ hk=>hk)
                  (try simp only [show ((Kd.slice 45 k45)).sz=1 from rfl,Nat.mul_one,Nat.add_zero] at HP25)
                  clear hcc25 hfr25
                  have HNB289_go23:=Aside0.mk (show gb289≠go23 from by have h_:=Kd.R_ne hraw25 BK289.out (by decide);intro e_;exact h_ (by rw [e_];rfl))
                  have HS25:=HP25.1
                  rw [← Ny294.out] at HS25
                  have HQ25:=Aside0.mk HS25
                  obtain ⟨_,hgg25⟩:=Kd.R_typed hraw25 go23 rfl
                  have GG25_:=Aside0.mk hgg25
                  clear HP25 HS25 hgg25
                  refine hK.out _ _ ⟨(blk_cell BK289.out 0).trans rfl,(blk_cell BK289.out 1).trans rfl,HS2_⟩ (fun hHeld=>?_)
                  clear hK K
                  refine norm_ (a':=?_) ?_ ?_
                  rotate_left
                  ·show Act.put _ (some 43) _=_
                   simp only [Act.put,List.setIfInBounds_toArray,List.set_cons_zero,List.set_cons_succ,i64_w,i32_w]
                   rfl
                  refine pure_ (i:=9) (N:=some 44) (v:=?_) (a':=?_) #[true,true,true,true,true,true,true,true,true,true,false] rfl rfl (any_of HT_.out (by kernel_rfl)) (fun _ _ _ h=>h) (Or.inl ⟨by rfl,?_⟩) ?_ ?_
                  rotate_left;(intro w';go_simp;with_reducible rfl);rotate_left;(simp only [Act.put,List.setIfInBounds_toArray,List.set_cons_zero,List.set_cons_succ,i64_w,i32_w];rfl)
                  refine last_ (i:=10) (N:=none) #[true,true,true,true,true,true,true,true,true,true,true] rfl rfl (one_of HT_.out (by kernel_rfl)) (by decide) (fun K hK=>?_)
                  refine skip_ (w1:=?_) (by rfl) rfl ?_ ?_
                  rotate_left
                  ·go_simp
                   rfl
                  refine hK.out _ _ ?_
                  clear hK K
                  refine done_ (done_of HT_.out (by kernel_rfl)) ?_
                  (try clear HS2_);(try clear hHeld)
                  try go_wp2
                  (try simp only [← hl4_2])
                  go_roundg k2
                  case measure=>have:=HK1.out;have:=HK2.out;omega
                  case rel=>exact ⟨(y294),(wrap64 (x30_2 + 1)),(by first|rfl|(simp;done)|(simp [*];done)),(by first|exact H'|(subst_vars;exact H')),⟨by have:=HK1.out;have:=HK2.out;omega⟩,⟨by (try simp only [hl4_2]);(with_reducible repeat (first|apply Kd.S_alloc|apply Kd.S_drewN|apply Kd.S_drew));exact Kd.S_mono HQ25.out (fun _ hk=>trivial)⟩,⟨by repeat (first|(with_reducible first|exact HB.out|apply below_alloc|apply pw_below_drewN|apply below_drew1|refine below_set ?_ GB23.out|refine below_set ?_ GE289.out)|exact HB.out)⟩⟩
                 ·rw [if_neg c17] at H
                  exact absurd H (by simp)
                ·rw [if_neg c16] at H
                 exact absurd H (by simp)
               ·rw [if_neg c15] at H
                exact absurd H (by simp)
              ·rw [if_neg c14] at H
               exact absurd H (by simp)
             ·rw [if_neg c13] at H
              have c13b0 : decide (x30_2 < ((rd_L3 l0 x19_1).length : Int))=false:=decide_eq_false c13
              clear c13
              have H':=Aside0.mk H
              clear H
              go_wp2
              (try simp only [← hl4_2])
              go_roundg k2
              case measure=>have:=HK1.out;have:=HK2.out;omega
              case rel=>exact ⟨(x4_2),(wrap64 (x19_1 + 1)),(by first|rfl|(simp;done)|(simp [*];done)),(by first|exact H'|(subst_vars;exact H')),⟨by have:=HK1.out;have:=HK2.out;omega⟩,⟨by (try simp only [hl4_2]);(with_reducible repeat (first|apply Kd.S_alloc|apply Kd.S_drewN|apply Kd.S_drew));exact HO_4.out⟩,⟨by repeat (first|(with_reducible first|exact HB.out|apply below_alloc|apply pw_below_drewN|apply below_drew1)|exact HB.out)⟩⟩
          ·rw [if_neg c11] at H
           have c11b0 : (((rd_L3 l0 x19_1).length : Int) == (x4_1.length : Int))=false:=beq_eq_false_iff_ne.mpr c11
           have c11b1 : (((rd_L3 l0 x19_1).length : Int) != (x4_1.length : Int))=true:=bne_iff_ne.mpr c11
           have c11b2 : ((rd_L3 l0 x19_1).length == x4_1.length)=false:=by first|simpa using c11|(simp at c11 ⊢;omega)
           simp only [Option.some.injEq,Prod.mk.injEq] at H
           obtain ⟨rfl,rfl⟩:=H
           have p287 : 0≤(x19_1 : Int):=of_decide_eq_true (by first|(with_reducible assumption)|assumption)
           have q287 : x19_1 < (l0.length : Int):=of_decide_eq_true (by first|(with_reducible assumption)|assumption)
           obtain ⟨ad287,A287_0,c287_0,e287,hx287_0,hl287_0,hi287_0⟩:=at_L3 HR0.out x19_1 p287 q287
           obtain rfl : ad283=ad287:=(by injection e287)
           replace hx287_0:=(HB.out.cell (World.block_lt_of_cell? w _ hx287_0)).trans hx287_0
           have HR287_0:=Aside0.mk hi287_0
           have HC287_0:=Aside0.mk hl287_0
           clear hi287_0 hl287_0
           replace p287:=eq_true p287
           replace q287:=eq_true q287
           obtain ⟨Ao28,co28,eo28⟩:=Kd.S_slice HO_4.out
           subst eo28
           go_wp2
           go_ret2
           exact ⟨_,by first|rfl|(simp [errW_none,errW_some] <;> rfl)|(simp [*,errW_none,errW_some] <;> rfl),by first|exact Kd.S_nil _ _ _ _ _|exact Kd.N_nil _ _ _ _ _|exact Kd.V_nil _ _ _ _ _|exact Kd.Q_nil _ _ _ _ _|exact Kd.R_nil _ _ _ _ _,by repeat (first|(with_reducible first|exact HB.out|apply below_alloc|apply pw_below_drewN|apply below_drew1)|exact HB.out)⟩
         ·rw [if_neg c10] at H
          exact absurd H (by simp)
        ·rw [if_neg c9] at H
         exact absurd H (by simp)
       ·rw [if_neg c8] at H
        have c8b0 : decide (x19_1 < (l0.length : Int))=false:=decide_eq_false c8
        (try have c8b9 : decide (x19_1 < (x4_2.length : Int))=false:=by rw [← hl4_2];exact c8b0)
        clear c8
        simp only [Option.some.injEq,Prod.mk.injEq] at H
        obtain ⟨rfl,rfl⟩:=H
        go_wp2
        go_ret2
        exact ⟨_,by first|rfl|(simp [errW_none,errW_some] <;> rfl)|(simp [*,errW_none,errW_some] <;> rfl),by (with_reducible repeat (first|apply Kd.S_alloc|apply Kd.S_drewN|apply Kd.S_drew));exact HO_4.out,by repeat (first|(with_reducible first|exact HB.out|apply below_alloc|apply pw_below_drewN|apply below_drew1)|exact HB.out)⟩
    ·rw [if_neg c5] at H
     exact absurd H (by simp)
   ·rw [if_neg c4] at H
    exact absurd H (by simp)
  ·rw [if_neg c3] at H
   exact absurd H (by simp)
def grain_Column.l0 : Nat→Int→List (S45)→List (List (S45))→Int→Int→Option ((List (S45)))
 | 0,_,_,_,_,_=>none
 | k + 1,x1,x5,x8,x9,x10=>if x10 < x9 then (if 0≤x10 then (if x10 < (x8.length : Int) then (if x1 < 0 then (some ([] : List (S45))) else (if x1 ≥ ((rd_L3 x8 x10).length : Int) then (some ([] : List (S45))) else (if 0≤x1 then (if x1 < ((rd_L3 x8 x10).length : Int) then (if x5.length < 5864062014805 then (grain_Column.l0 k x1 (x5 ++ [(⟨(rd_T45 (rd_L3 x8 x10) x1).f0,(rd_T45 (rd_L3 x8 x10) x1).f1⟩ : S45)]) x8 x9 (wrap64 (x10 + 1))) else (none)) else (none)) else (none)))) else (none)) else (none)) else (some x5)
def grain_Column.f (k : Nat) (l0 : List (List (S45))) (a1 : Int) : Option ((List (S45))):=grain_Column.l0 k a1 ([] : List (S45)) l0 (l0.length : Int) 0
theorem grain_Column.mono_l : ∀ k,(∀ y0 y1 y2 y3 y4,LeO (grain_Column.l0 k y0 y1 y2 y3 y4) (grain_Column.l0 (k + 1) y0 y1 y2 y3 y4))
 | 0=>fun _ _ _ _ _ r h=>by simp [grain_Column.l0] at h
 | k + 1=>by
  have ih0:=grain_Column.mono_l k
  ·intro y0 y1 y2 y3 y4
   unfold grain_Column.l0
   repeat' first
   | (with_reducible exact ih0 _ _ _ _ _)
   | (with_reducible exact LeO.refl _)
   | (with_reducible exact LeO.none _)
   | (with_reducible refine LeO.ite ?_ ?_)
   | (with_reducible refine LeO.bind ?_ (fun _=>?_))
   | exact ih0 _ _ _ _ _
   | exact LeO.none _
   | refine LeO.ite ?_ ?_
   | refine LeO.bind ?_ (fun _=>?_)
theorem grain_Column.mono : ∀ a0 a1 k,LeO (grain_Column.f k a0 a1) (grain_Column.f (k + 1) a0 a1):=by
 intro a0 a1 k
 have ih0:=grain_Column.mono_l k
 unfold grain_Column.f
 repeat' first
   | (with_reducible exact ih0 _ _ _ _ _)
   | (with_reducible exact LeO.refl _)
   | (with_reducible exact LeO.none _)
   | (with_reducible refine LeO.ite ?_ ?_)
   | (with_reducible refine LeO.bind ?_ (fun _=>?_))
   | exact ih0 _ _ _ _ _
   | exact LeO.none _
   | refine LeO.ite ?_ ?_
   | refine LeO.bind ?_ (fun _=>?_)
set_option maxHeartbeats 8000000 in
set_option maxRecDepth 100000 in
theorem grain_Column.calls (k : Nat) (A0 : Option Addr) (c0 : Nat) (l0 : List (List (S45))) (a1 : Int) (r : List (S45)) (w : World) (hr0 : Kd.C (Kd.slice 45 k45) w A0 l0.length l0) (hc0 : l0.length≤c0) (h : grain_Column.f k l0 a1=some r) :
  Calls Try.prog 16 #[.slice A0 l0.length c0,.int .i64 a1] w fun e w'=>∃ v0_ : Value,e=.returned (v0_)∧Kd.R k45 45 w' w.heap.size (fun _=>True) v0_ r∧Below w.heap.size w w':=by
 have hu45:=Try.underlying45
 have HR0:=Aside0.mk hr0
 have HC0:=Aside0.mk hc0
 clear hr0 hc0
 have HB:=Aside0.mk (Below.refl w.heap.size w)
 have H : (grain_Column.l0 k a1 ([] : List (S45)) l0 (l0.length : Int) 0)=some r:=h
 clear h
 have H':=Aside0.mk H
 clear H
 go_enter Try.func16,Try.ntmps16
 go_wp2
 go_loopg [5,10] k (fun kq v5 v10 w'=>∃ (x5_1 : List (S45)) (x10_1 : Int),v10=.int .i64 x10_1∧Aside0 (grain_Column.l0 kq a1 x5_1 l0 (l0.length : Int) x10_1=some r)∧Aside0 (kq≤k)∧Aside0 (Kd.R k45 45 w' w.heap.size (fun _=>True) v5 x5_1)∧Aside0 (Below w.heap.size w w'))
 case atStart=>exact ⟨(([] : List (S45))),(0),(by first|rfl|(simp;done)|(simp [*];done)),H',⟨Nat.le_refl _⟩,⟨by first|exact Kd.R_nil _ _ _ _ _|exact Kd.N_nil _ _ _ _ _|exact Kd.V_nil _ _ _ _ _|exact Kd.Q_nil _ _ _ _ _|exact Kd.S_nil _ _ _ _ _⟩,⟨by repeat (first|(with_reducible first|exact HB.out|apply below_alloc|apply pw_below_drewN|apply below_drew1)|exact HB.out)⟩⟩
 case round =>
  clear H'
  try clear c1
  try clear p2
  obtain ⟨x5_1,x10_1,rfl,HA,HK1,HO_5,HB⟩:=hrel
  cases gk with
  | zero=>exact absurd HA.out (by simp [grain_Column.l0])
  | succ k1 =>
   have H:=HA.out
   clear HA
   simp only [grain_Column.l0] at H
   by_cases c3 : x10_1 < (l0.length : Int)
   ·rw [if_pos c3] at H
    have c3b0 : decide (x10_1 < (l0.length : Int))=true:=decide_eq_true c3
    clear c3
    by_cases c4 : 0≤x10_1
    ·rw [if_pos c4] at H
     have c4b0 : decide (0≤x10_1)=true:=decide_eq_true c4
     clear c4
     by_cases c5 : x10_1 < (l0.length : Int)
     ·rw [if_pos c5] at H
      have c5b0 : decide (x10_1 < (l0.length : Int))=true:=decide_eq_true c5
      clear c5
      by_cases c6 : a1 < 0
      ·rw [if_pos c6] at H
       have c6b0 : decide (a1 < 0)=true:=decide_eq_true c6
       clear c6
       obtain rfl:=Option.some.inj H
       have p295 : 0≤(x10_1 : Int):=of_decide_eq_true (by first|(with_reducible assumption)|assumption)
       have q295 : x10_1 < (l0.length : Int):=of_decide_eq_true (by first|(with_reducible assumption)|assumption)
       obtain ⟨ad295,A295_0,c295_0,e295,hx295_0,hl295_0,hi295_0⟩:=at_L3 HR0.out x10_1 p295 q295
       cases e295
       replace hx295_0:=(HB.out.cell (World.block_lt_of_cell? w _ hx295_0)).trans hx295_0
       have HR295_0:=Aside0.mk hi295_0
       have HC295_0:=Aside0.mk hl295_0
       clear hi295_0 hl295_0
       replace p295:=eq_true p295
       replace q295:=eq_true q295
       go_wp2
       go_ret
       exact ⟨_,by first|rfl|(simp [errW_none,errW_some] <;> rfl)|(simp [*,errW_none,errW_some] <;> rfl),by first|exact Kd.R_nil _ _ _ _ _|exact Kd.N_nil _ _ _ _ _|exact Kd.V_nil _ _ _ _ _|exact Kd.Q_nil _ _ _ _ _|exact Kd.S_nil _ _ _ _ _,by repeat (first|(with_reducible first|exact HB.out|apply below_alloc|apply pw_below_drewN|apply below_drew1)|exact HB.out)⟩
      ·rw [if_neg c6] at H
       have c6b0 : decide (a1 < 0)=false:=decide_eq_false c6
       clear c6
       by_cases c7 : a1 ≥ ((rd_L3 l0 x10_1).length : Int)
       ·rw [if_pos c7] at H
        have c7b0 : decide (((rd_L3 l0 x10_1).length : Int)≤a1)=true:=decide_eq_true c7
        clear c7
        obtain rfl:=Option.some.inj H
        have p295 : 0≤(x10_1 : Int):=of_decide_eq_true (by first|(with_reducible assumption)|assumption)
        have q295 : x10_1 < (l0.length : Int):=of_decide_eq_true (by first|(with_reducible assumption)|assumption)
        obtain ⟨ad295,A295_0,c295_0,e295,hx295_0,hl295_0,hi295_0⟩:=at_L3 HR0.out x10_1 p295 q295
        cases e295
        replace hx295_0:=(HB.out.cell (World.block_lt_of_cell? w _ hx295_0)).trans hx295_0
        have HR295_0:=Aside0.mk hi295_0
        have HC295_0:=Aside0.mk hl295_0
        clear hi295_0 hl295_0
        replace p295:=eq_true p295
        replace q295:=eq_true q295
        go_wp2
        go_ret
        exact ⟨_,by first|rfl|(simp [errW_none,errW_some] <;> rfl)|(simp [*,errW_none,errW_some] <;> rfl),by first|exact Kd.R_nil _ _ _ _ _|exact Kd.N_nil _ _ _ _ _|exact Kd.V_nil _ _ _ _ _|exact Kd.Q_nil _ _ _ _ _|exact Kd.S_nil _ _ _ _ _,by repeat (first|(with_reducible first|exact HB.out|apply below_alloc|apply pw_below_drewN|apply below_drew1)|exact HB.out)⟩
       ·rw [if_neg c7] at H
        have c7b0 : decide (((rd_L3 l0 x10_1).length : Int)≤a1)=false:=decide_eq_false c7
        clear c7
        by_cases c8 : 0≤a1
        ·rw [if_pos c8] at H
         have c8b0 : decide (0≤a1)=true:=decide_eq_true c8
         clear c8
         by_cases c9 : a1 < ((rd_L3 l0 x10_1).length : Int)
         ·rw [if_pos c9] at H
          have c9b0 : decide (a1 < ((rd_L3 l0 x10_1).length : Int))=true:=decide_eq_true c9
          clear c9
          by_cases c10 : x5_1.length < 5864062014805
          ·rw [if_pos c10] at H
           have LMc10:=Aside0.mk c10
           clear c10
           obtain ⟨y297,hy297⟩ : ∃ y_ : List (S45),y_=(x5_1 ++ [(⟨(rd_T45 (rd_L3 l0 x10_1) a1).f0,(rd_T45 (rd_L3 l0 x10_1) a1).f1⟩ : S45)]):=⟨_,rfl⟩
           replace H : (grain_Column.l0 k1 a1 y297 l0 (l0.length : Int) (wrap64 (x10_1 + 1)))=some r:=by first|(rw [hy297];with_reducible exact H)|(have H2_:=(Option.bind_some _ _).symm.trans H;rw [hy297];with_reducible exact H2_)|(have H2_:=(Option.bind_some _ _).symm.trans H;with_reducible exact H2_)|with_reducible exact H|(rw [hy297];exact H)|exact H
           have Ny297:=Aside0.mk hy297
           clear hy297
           have H':=Aside0.mk H
           clear H
           have p295 : 0≤(x10_1 : Int):=of_decide_eq_true (by first|(with_reducible assumption)|assumption)
           have q295 : x10_1 < (l0.length : Int):=of_decide_eq_true (by first|(with_reducible assumption)|assumption)
           obtain ⟨ad295,A295_0,c295_0,e295,hx295_0,hl295_0,hi295_0⟩:=at_L3 HR0.out x10_1 p295 q295
           cases e295
           replace hx295_0:=(HB.out.cell (World.block_lt_of_cell? w _ hx295_0)).trans hx295_0
           have HR295_0:=Aside0.mk hi295_0
           have HC295_0:=Aside0.mk hl295_0
           clear hi295_0 hl295_0
           replace p295:=eq_true p295
           replace q295:=eq_true q295
           have p296 : 0≤(a1 : Int):=of_decide_eq_true (by first|(with_reducible assumption)|assumption)
           have q296 : a1 < ((rd_L3 l0 x10_1).length : Int):=of_decide_eq_true (by first|(with_reducible assumption)|assumption)
           obtain ⟨ad296,e296,hx296_0,hx296_1⟩:=at_T45 HR295_0.out a1 p296 q296
           cases e296
           replace hx296_0:=(HB.out.cell (World.block_lt_of_cell? w _ hx296_0)).trans hx296_0
           replace hx296_1:=(HB.out.cell (World.block_lt_of_cell? w _ hx296_1)).trans hx296_1
           replace p296:=eq_true p296
           replace q296:=eq_true q296
           go_wp2_with (first|((with_reducible refine gate_builtin (b:=.append) (xs:=#[.tmp 22,.tmp 27]) rfl ?_);(try (refine gate_guard (by rfl) ?_;dsimp only));at_builtin;refine Kd.R_append k45 (w0:=w) w.heap.size rfl (.tmp 22) (.tmp 27) 37 45 (.agg #[(.int .i64 0),(.string ⟨#[]⟩)]) 24 rfl Try.underlying37 info45 rfl (by decide) (by omega) u5 x5_1 (⟨(rd_T45 (rd_L3 l0 x10_1) a1).f0,(rd_T45 (rd_L3 l0 x10_1) a1).f1⟩ : S45) [.int .i64 ((rd_T45 (rd_L3 l0 x10_1) a1).f0),.string ((rd_T45 (rd_L3 l0 x10_1) a1).f1)] (fun _=>True) (fun _=>False) rfl rfl ?aP (fun _ hk=>hk.elim) ?aF ?aO ?aB ?aS ?aL ?_;(case aP=>exact k45_mkM _ _ _ (⟨(rd_T45 (rd_L3 l0 x10_1) a1).f0,(rd_T45 (rd_L3 l0 x10_1) a1).f1⟩ : S45));(case aB=>exact (below_up HB.out));(case aF=>exact (fun _ _=>trivial));(case aO=>exact (R_up HO_5.out));(case aS=>exact (below_size (below_up HB.out)));(case aL=>have:=LMc10.out;omega);intro v298 w11 ho hb hg hat;rw [← Ny297.out] at ho;have n0_:=Aside0.mk (hb);have n1_:=Aside0.mk (ho);clear HB;clear HO_5;have HB:=n0_;have HO299:=n1_;clear n0_ n1_;clear ho hb hg hat))
           go_roundg k1
           case measure=>have:=HK1.out;omega
           case rel=>exact ⟨(y297),(wrap64 (x10_1 + 1)),(by first|rfl|(simp;done)|(simp [*];done)),(by first|exact H'|(subst_vars;exact H')),⟨by have:=HK1.out;omega⟩,⟨by (with_reducible repeat (first|apply Kd.R_alloc|apply Kd.R_drewN|apply Kd.R_drew));exact HO299.out⟩,⟨by repeat (first|(with_reducible first|exact HB.out|apply below_alloc|apply pw_below_drewN|apply below_drew1)|exact HB.out)⟩⟩
          ·rw [if_neg c10] at H
           exact absurd H (by simp)
         ·rw [if_neg c9] at H
          exact absurd H (by simp)
        ·rw [if_neg c8] at H
         exact absurd H (by simp)
     ·rw [if_neg c5] at H
      exact absurd H (by simp)
    ·rw [if_neg c4] at H
     exact absurd H (by simp)
   ·rw [if_neg c3] at H
    have c3b0 : decide (x10_1 < (l0.length : Int))=false:=decide_eq_false c3
    clear c3
    obtain rfl:=Option.some.inj H
    go_wp2
    go_ret
    exact ⟨_,by first|rfl|(simp [errW_none,errW_some] <;> rfl)|(simp [*,errW_none,errW_some] <;> rfl),by (with_reducible repeat (first|apply Kd.R_alloc|apply Kd.R_drewN|apply Kd.R_drew));exact HO_5.out,by repeat (first|(with_reducible first|exact HB.out|apply below_alloc|apply pw_below_drewN|apply below_drew1)|exact HB.out)⟩
def thresherref07_Same.l0 : Nat→List (S45)→List (S45)→Int→Option (Bool)
 | 0,_,_,_=>none
 | k + 1,x0,x1,x5=>if x5 < (x0.length : Int) then (if 0≤x5 then (if x5 < (x1.length : Int) then (if (!(((rd_T45 x0 x5).f0) == ((rd_T45 x1 x5).f0)) || (!((((rd_T45 x0 x5).f1).toList) == (((rd_T45 x1 x5).f1).toList))))=true then (some false) else (thresherref07_Same.l0 k x0 x1 (wrap64 (x5 + 1)))) else (none)) else (none)) else (some true)
def thresherref07_Same.f (k : Nat) (l0 : List (S45)) (l1 : List (S45)) : Option (Bool):=if (l0.length : Int)=(l1.length : Int) then (thresherref07_Same.l0 k l0 l1 0) else (some false)
theorem thresherref07_Same.mono_l : ∀ k,(∀ y0 y1 y2,LeO (thresherref07_Same.l0 k y0 y1 y2) (thresherref07_Same.l0 (k + 1) y0 y1 y2))
 | 0=>fun _ _ _ r h=>by simp [thresherref07_Same.l0] at h
 | k + 1=>by
  have ih0:=thresherref07_Same.mono_l k
  ·intro y0 y1 y2
   unfold thresherref07_Same.l0
   repeat' first
   | (with_reducible exact ih0 _ _ _)
   | (with_reducible exact LeO.refl _)
   | (with_reducible exact LeO.none _)
   | (with_reducible refine LeO.ite ?_ ?_)
   | (with_reducible refine LeO.bind ?_ (fun _=>?_))
   | exact ih0 _ _ _
   | exact LeO.none _
   | refine LeO.ite ?_ ?_
   | refine LeO.bind ?_ (fun _=>?_)
theorem thresherref07_Same.mono : ∀ a0 a1 k,LeO (thresherref07_Same.f k a0 a1) (thresherref07_Same.f (k + 1) a0 a1):=by
 intro a0 a1 k
 have ih0:=thresherref07_Same.mono_l k
 unfold thresherref07_Same.f
 repeat' first
   | (with_reducible exact ih0 _ _ _)
   | (with_reducible exact LeO.refl _)
   | (with_reducible exact LeO.none _)
   | (with_reducible refine LeO.ite ?_ ?_)
   | (with_reducible refine LeO.bind ?_ (fun _=>?_))
   | exact ih0 _ _ _
   | exact LeO.none _
   | refine LeO.ite ?_ ?_
   | refine LeO.bind ?_ (fun _=>?_)
set_option maxHeartbeats 8000000 in
set_option maxRecDepth 100000 in
theorem thresherref07_Same.calls (k : Nat) (A0 : Option Addr) (c0 : Nat) (l0 : List (S45)) (A1 : Option Addr) (c1 : Nat) (l1 : List (S45)) (r : Bool) (w : World) (hr0 : Kd.C k45 w A0 l0.length l0) (hc0 : l0.length≤c0) (hr1 : Kd.C k45 w A1 l1.length l1) (hc1 : l1.length≤c1) (h : thresherref07_Same.f k l0 l1=some r) :
  Calls Try.prog 17 #[.slice A0 l0.length c0,.slice A1 l1.length c1] w fun e w'=>e=.returned (.bool r)∧Drawn0 w w':=by
 have hu45:=Try.underlying45
 have HR0:=Aside0.mk hr0
 have HC0:=Aside0.mk hc0
 clear hr0 hc0
 have HR1:=Aside0.mk hr1
 have HC1:=Aside0.mk hc1
 clear hr1 hc1
 have H : (if (l0.length : Int)=(l1.length : Int) then (thresherref07_Same.l0 k l0 l1 0) else (some false))=some r:=h
 clear h
 by_cases c3 : (l0.length : Int)=(l1.length : Int)
 ·rw [if_pos c3] at H
  have c3b0 : ((l0.length : Int) == (l1.length : Int))=true:=beq_iff_eq.mpr c3
  have c3b1 : ((l0.length : Int) != (l1.length : Int))=false:=bne_eq_false_iff_eq.mpr c3
  have c3b2 : (l0.length == l1.length)=true:=by first|simpa using c3|(simp at c3 ⊢;omega)
  clear c3
  have H':=Aside0.mk H
  clear H
  go_enter Try.func17,Try.ntmps17
  go_wp2
  repeat (go_quiet (fail);try go_wp2)
  go_loopg [5] k (fun kq v5 w'=>∃ (x5_1 : Int),v5=.int .i64 x5_1∧Aside0 (thresherref07_Same.l0 kq l0 l1 x5_1=some r)∧Aside0 (kq≤k)∧Drawn0 w w')
  case atStart=>exact ⟨(0),(by first|rfl|(simp;done)|(simp [*];done)),H',⟨Nat.le_refl _⟩,by repeat (first|exact Drawn0.refl _|apply Drawn0.step)⟩
  case round =>
   clear H'
   try clear c1
   try clear p2
   try clear c3
   try clear c3b0
   try clear c3b1
   try clear c3b2
   obtain ⟨x5_1,rfl,HA,HK1,⟨m1,rfl⟩⟩:=hrel
   cases gk with
   | zero=>exact absurd HA.out (by simp [thresherref07_Same.l0])
   | succ k1 =>
    have H:=HA.out
    clear HA
    simp only [thresherref07_Same.l0] at H
    by_cases c4 : x5_1 < (l0.length : Int)
    ·rw [if_pos c4] at H
     have c4b0 : decide (x5_1 < (l0.length : Int))=true:=decide_eq_true c4
     clear c4
     by_cases c5 : 0≤x5_1
     ·rw [if_pos c5] at H
      have c5b0 : decide (0≤x5_1)=true:=decide_eq_true c5
      clear c5
      by_cases c6 : x5_1 < (l1.length : Int)
      ·rw [if_pos c6] at H
       have c6b0 : decide (x5_1 < (l1.length : Int))=true:=decide_eq_true c6
       clear c6
       by_cases c7 : (!(((rd_T45 l0 x5_1).f0) == ((rd_T45 l1 x5_1).f0)) || (!((((rd_T45 l0 x5_1).f1).toList) == (((rd_T45 l1 x5_1).f1).toList))))=true
       ·rw [if_pos c7] at H
        have c7b0 : (!(((rd_T45 l0 x5_1).f0) == ((rd_T45 l1 x5_1).f0)) || (!((((rd_T45 l0 x5_1).f1).toList) == (((rd_T45 l1 x5_1).f1).toList))))=true:=c7
        clear c7
        obtain rfl:=Option.some.inj H
        have p300 : 0≤(x5_1 : Int):=of_decide_eq_true (by first|(with_reducible assumption)|assumption)
        have q300 : x5_1 < (l0.length : Int):=of_decide_eq_true (by first|(with_reducible assumption)|assumption)
        obtain ⟨ad300,e300,hx300_0,hx300_1⟩:=at_T45 HR0.out x5_1 p300 q300
        cases e300
        replace p300:=eq_true p300
        replace q300:=eq_true q300
        have p301 : 0≤(x5_1 : Int):=of_decide_eq_true (by first|(with_reducible assumption)|assumption)
        have q301 : x5_1 < (l1.length : Int):=of_decide_eq_true (by first|(with_reducible assumption)|assumption)
        obtain ⟨ad301,e301,hx301_0,hx301_1⟩:=at_T45 HR1.out x5_1 p301 q301
        cases e301
        replace p301:=eq_true p301
        replace q301:=eq_true q301
        go_wp2
        repeat (go_quiet (fail);try go_wp2)
        go_ret
        exact ⟨by first|rfl|(simp;done)|(simp [*];done),by repeat (first|exact Drawn0.refl _|apply Drawn0.step)⟩
       ·rw [if_neg c7] at H
        have c7b0 : (!(((rd_T45 l0 x5_1).f0) == ((rd_T45 l1 x5_1).f0)) || (!((((rd_T45 l0 x5_1).f1).toList) == (((rd_T45 l1 x5_1).f1).toList))))=false:=by simpa using c7
        clear c7
        have H':=Aside0.mk H
        clear H
        have p300 : 0≤(x5_1 : Int):=of_decide_eq_true (by first|(with_reducible assumption)|assumption)
        have q300 : x5_1 < (l0.length : Int):=of_decide_eq_true (by first|(with_reducible assumption)|assumption)
        obtain ⟨ad300,e300,hx300_0,hx300_1⟩:=at_T45 HR0.out x5_1 p300 q300
        cases e300
        replace p300:=eq_true p300
        replace q300:=eq_true q300
        have p301 : 0≤(x5_1 : Int):=of_decide_eq_true (by first|(with_reducible assumption)|assumption)
        have q301 : x5_1 < (l1.length : Int):=of_decide_eq_true (by first|(with_reducible assumption)|assumption)
        obtain ⟨ad301,e301,hx301_0,hx301_1⟩:=at_T45 HR1.out x5_1 p301 q301
        cases e301
        replace p301:=eq_true p301
        replace q301:=eq_true q301
        go_wp2
        repeat (go_quiet (fail);try go_wp2)
        go_roundg k1
        case measure=>have:=HK1.out;omega
        case rel=>exact ⟨(wrap64 (x5_1 + 1)),(by first|rfl|(simp;done)|(simp [*];done)),(by first|exact H'|(subst_vars;exact H')),⟨by have:=HK1.out;omega⟩,by repeat (first|exact Drawn0.refl _|apply Drawn0.step)⟩
      ·rw [if_neg c6] at H
       exact absurd H (by simp)
     ·rw [if_neg c5] at H
      exact absurd H (by simp)
    ·rw [if_neg c4] at H
     have c4b0 : decide (x5_1 < (l0.length : Int))=false:=decide_eq_false c4
     clear c4
     obtain rfl:=Option.some.inj H
     go_wp2
     repeat (go_quiet (fail);try go_wp2)
     go_ret
     exact ⟨by first|rfl|(simp;done)|(simp [*];done),by repeat (first|exact Drawn0.refl _|apply Drawn0.step)⟩
 ·rw [if_neg c3] at H
  have c3b0 : ((l0.length : Int) == (l1.length : Int))=false:=beq_eq_false_iff_ne.mpr c3
  have c3b1 : ((l0.length : Int) != (l1.length : Int))=true:=bne_iff_ne.mpr c3
  have c3b2 : (l0.length == l1.length)=false:=by first|simpa using c3|(simp at c3 ⊢;omega)
  obtain rfl:=Option.some.inj H
  go_enter Try.func17,Try.ntmps17
  go_wp2
  repeat (go_quiet (fail);try go_wp2)
  go_ret
  exact ⟨by first|rfl|(simp;done)|(simp [*];done),by repeat (first|exact Drawn0.refl _|apply Drawn0.step)⟩
end Go.Proofs.Ythoelihgpkffiaa.P

