/- Texts of SchemaAll. Merged: Px2. -/
import Derived.Test.YtkodpbellndelaaQSchemaAllPx0
import Derived.Test.YtkodpbellndelaaQSchemaAllHGrowI
namespace Go.Proofs.Ytkodpbellndelaa.P
open Go.RowKit Go.Proofs.YtkodpbellndelaaW.PrintWords Go.Proofs.YtkodpbellndelaaW.PrintLast Go.Proofs.YtkodpbellndelaaW.PrintMore
attribute [local go_sem] max2_int min2_int max_two min_two max_three min_three max_four min_four   -- for this text's walks alone
set_option linter.unusedVariables false
set_option linter.unusedSimpArgs false
mutual
def slices_Concat_int_int.l0 : Nat→List (List Int)→Int→List (List Int)→Int→Int→Option (List Int)
 | 0,_,_,_,_,_=>none
 | k + 1,x0,x3,x9,x10,x11=>if x11 < x10 then (if 0≤x11 then (if x11 < (x9.length : Int) then (if (wrap64 (x3 + ((rd_L1 x9 x11).length : Int))) < 0 then (none) else (slices_Concat_int_int.l0 k x0 (wrap64 (x3 + ((rd_L1 x9 x11).length : Int))) x9 x10 (wrap64 (x11 + 1)))) else (none)) else (none)) else ((slices_Grow_int_int.f ([] : List Int) x3).bind fun t102=>(slices_Concat_int_int.l1 k t102 x0 (x0.length : Int) 0))
def slices_Concat_int_int.l1 : Nat→List Int→List (List Int)→Int→Int→Option (List Int)
 | 0,_,_,_,_=>none
 | k + 1,x6,x25,x26,x27=>if x27 < x26 then (if 0≤x27 then (if x27 < (x25.length : Int) then (if x6.length + (rd_L1 x25 x27).length < 17592186044416 then (slices_Concat_int_int.l1 k (x6 ++ (rd_L1 x25 x27)) x25 x26 (wrap64 (x27 + 1))) else (none)) else (none)) else (none)) else (some x6)
end
def slices_Concat_int_int.f (k : Nat) (l0 : List (List Int)) : Option (List Int):=slices_Concat_int_int.l0 k l0 0 l0 (l0.length : Int) 0
theorem slices_Concat_int_int.mono_l : ∀ k,(∀ y0 y1 y2 y3 y4,LeO (slices_Concat_int_int.l0 k y0 y1 y2 y3 y4) (slices_Concat_int_int.l0 (k + 1) y0 y1 y2 y3 y4))∧(∀ y0 y1 y2 y3,LeO (slices_Concat_int_int.l1 k y0 y1 y2 y3) (slices_Concat_int_int.l1 (k + 1) y0 y1 y2 y3))
 | 0=>⟨fun _ _ _ _ _ r h=>by simp [slices_Concat_int_int.l0] at h,fun _ _ _ _ r h=>by simp [slices_Concat_int_int.l1] at h⟩
 | k + 1=>by
  obtain ⟨ih0,ih1⟩:=slices_Concat_int_int.mono_l k
  refine ⟨?_,?_⟩
  ·intro y0 y1 y2 y3 y4
   unfold slices_Concat_int_int.l0
   repeat' first
   | (with_reducible exact ih0 _ _ _ _ _)
   | (with_reducible exact ih1 _ _ _ _)
   | (with_reducible exact LeO.refl _)
   | (with_reducible exact LeO.none _)
   | (with_reducible refine LeO.ite ?_ ?_)
   | (with_reducible refine LeO.bind ?_ (fun _=>?_))
   | exact ih0 _ _ _ _ _
   | exact ih1 _ _ _ _
   | exact LeO.none _
   | refine LeO.ite ?_ ?_
   | refine LeO.bind ?_ (fun _=>?_)
  ·intro y0 y1 y2 y3
   unfold slices_Concat_int_int.l1
   repeat' first
   | (with_reducible exact ih0 _ _ _ _ _)
   | (with_reducible exact ih1 _ _ _ _)
   | (with_reducible exact LeO.refl _)
   | (with_reducible exact LeO.none _)
   | (with_reducible refine LeO.ite ?_ ?_)
   | (with_reducible refine LeO.bind ?_ (fun _=>?_))
   | exact ih0 _ _ _ _ _
   | exact ih1 _ _ _ _
   | exact LeO.none _
   | refine LeO.ite ?_ ?_
   | refine LeO.bind ?_ (fun _=>?_)
theorem slices_Concat_int_int.mono : ∀ a0 k,LeO (slices_Concat_int_int.f k a0) (slices_Concat_int_int.f (k + 1) a0):=by
 intro a0 k
 obtain ⟨ih0,ih1⟩:=slices_Concat_int_int.mono_l k
 unfold slices_Concat_int_int.f
 repeat' first
   | (with_reducible exact ih0 _ _ _ _ _)
   | (with_reducible exact ih1 _ _ _ _)
   | (with_reducible exact LeO.refl _)
   | (with_reducible exact LeO.none _)
   | (with_reducible refine LeO.ite ?_ ?_)
   | (with_reducible refine LeO.bind ?_ (fun _=>?_))
   | exact ih0 _ _ _ _ _
   | exact ih1 _ _ _ _
   | exact LeO.none _
   | refine LeO.ite ?_ ?_
   | refine LeO.bind ?_ (fun _=>?_)
set_option maxHeartbeats 8000000 in
set_option maxRecDepth 100000 in
theorem slices_Concat_int_int.calls (k : Nat) (A0 : Option Addr) (c0 : Nat) (l0 : List (List Int)) (r : List Int) (w : World) (hr0 : Kd.C (Kd.slice 3 (Kd.int .i64)) w A0 l0.length l0) (hc0 : l0.length≤c0) (h : slices_Concat_int_int.f k l0=some r) :
  Calls Try.prog 33 #[.slice A0 l0.length c0] w fun e w'=>∃ v0_ : Value,e=.returned (v0_)∧Kd.R (Kd.int .i64) 3 w' w.heap.size (fun _=>True) v0_ r∧Below w.heap.size w w':=by
 have HR0:=Aside0.mk hr0
 have HC0:=Aside0.mk hc0
 clear hr0 hc0
 have HB:=Aside0.mk (Below.refl w.heap.size w)
 have H : (slices_Concat_int_int.l0 k l0 0 l0 (l0.length : Int) 0)=some r:=h
 clear h
 have H':=Aside0.mk H
 clear H
 go_enter Try.func33,Try.ntmps33
 go_wp2
 go_loopg [3,11] k (fun kq v3 v11 w'=>∃ (x3_1 : Int) (x11_1 : Int),v3=.int .i64 x3_1∧v11=.int .i64 x11_1∧Aside0 (slices_Concat_int_int.l0 kq l0 x3_1 l0 (l0.length : Int) x11_1=some r)∧Aside0 (kq≤k)∧Aside0 (Below w.heap.size w w'))
 case atStart=>exact ⟨(0),(0),(by first|rfl|(simp;done)|(simp [*];done)),(by first|rfl|(simp;done)|(simp [*];done)),H',⟨Nat.le_refl _⟩,⟨by repeat (first|(with_reducible first|exact HB.out|apply below_alloc|apply pw_below_drewN|apply below_drew1)|exact HB.out)⟩⟩
 case round =>
  clear H'
  obtain ⟨x3_1,x11_1,rfl,rfl,HA,HK1,HB⟩:=hrel
  cases gk with
  | zero=>exact absurd HA.out (by simp [slices_Concat_int_int.l0])
  | succ k1 =>
   have H:=HA.out
   clear HA
   simp only [slices_Concat_int_int.l0] at H
   by_cases c2 : x11_1 < (l0.length : Int)
   ·rw [if_pos c2] at H
    have c2b0 : decide (x11_1 < (l0.length : Int))=true:=decide_eq_true c2
    clear c2
    by_cases c3 : 0≤x11_1
    ·rw [if_pos c3] at H
     have c3b0 : decide (0≤x11_1)=true:=decide_eq_true c3
     clear c3
     by_cases c4 : x11_1 < (l0.length : Int)
     ·rw [if_pos c4] at H
      have c4b0 : decide (x11_1 < (l0.length : Int))=true:=decide_eq_true c4
      clear c4
      by_cases c5 : (wrap64 (x3_1 + ((rd_L1 l0 x11_1).length : Int))) < 0
      ·rw [if_pos c5] at H
       exact absurd H (by simp)
      ·rw [if_neg c5] at H
       have c5b0 : decide ((wrap64 (x3_1 + ((rd_L1 l0 x11_1).length : Int))) < 0)=false:=decide_eq_false c5
       clear c5
       have H':=Aside0.mk H
       clear H
       have p101 : 0≤(x11_1 : Int):=of_decide_eq_true (by first|(with_reducible assumption)|assumption)
       have q101 : x11_1 < (l0.length : Int):=of_decide_eq_true (by first|(with_reducible assumption)|assumption)
       obtain ⟨ad101,A101_0,c101_0,e101,hx101_0,hl101_0,hi101_0⟩:=at_L1 HR0.out x11_1 p101 q101
       cases e101
       replace hx101_0:=(HB.out.cell (World.block_lt_of_cell? w _ hx101_0)).trans hx101_0
       have HR101_0:=Aside0.mk hi101_0
       have HC101_0:=Aside0.mk hl101_0
       clear hi101_0 hl101_0
       replace p101:=eq_true p101
       replace q101:=eq_true q101
       go_wp2
       go_roundg k1
       case measure=>have:=HK1.out;omega
       case rel=>exact ⟨(wrap64 (x3_1 + ((rd_L1 l0 x11_1).length : Int))),(wrap64 (x11_1 + 1)),(by first|rfl|(simp;done)|(simp [*];done)),(by first|rfl|(simp;done)|(simp [*];done)),(by first|exact H'|(subst_vars;exact H')),⟨by have:=HK1.out;omega⟩,⟨by repeat (first|(with_reducible first|exact HB.out|apply below_alloc|apply pw_below_drewN|apply below_drew1)|exact HB.out)⟩⟩
     ·rw [if_neg c4] at H
      exact absurd H (by simp)
    ·rw [if_neg c3] at H
     exact absurd H (by simp)
   ·rw [if_neg c2] at H
    have c2b0 : decide (x11_1 < (l0.length : Int))=false:=decide_eq_false c2
    clear c2
    replace H:=Option.bind_eq_some_iff.mp H
    obtain ⟨t102,A60,H⟩:=H
    replace H : (slices_Concat_int_int.l1 k1 t102 l0 (l0.length : Int) 0)=some r:=H
    have A6:=Aside0.mk A60
    clear A60
    have H':=Aside0.mk H
    clear H
    go_wp2_with (first|((with_reducible refine gate_callee (f:=44) rfl ?_);refine goesL_ (some 24) rfl rfl Try.func44 (by kernel_rfl) rfl #[.slice none 0 0,.int .i64 x3_1] rfl (by (try simp only [List.map_toArray,List.map_cons,List.map_nil]);first|done|rfl|(simp only [List.length_drop,List.length_take];rfl)) ?_;(refine (slices_Grow_int_int.calls _ _ ([] : List Int) x3_1 t102 _ ?side1 ?side2 A6.out).mono ?_);(case side1=>exact Kd.C_nil _ _);(case side2=>exact Nat.le_refl _);rintro e w7 ⟨v103,rfl,ho0,hb⟩;refine ⟨_,rfl,?_⟩;have n0_:=Aside0.mk (Kd.R_lower ho0 (below_size (below_up HB.out)));have n1_:=Aside0.mk (below_step (below_up HB.out) hb);clear HB;have HO104:=n0_;have HB:=n1_;clear n0_ n1_;(try clear hb);(try clear hb2);(try clear hk);(try clear hi);(try clear ho0)))
    go_loopg [6,27] k1 (fun kq v6 v27 w'=>∃ (x6_2 : List Int) (x27_2 : Int),v27=.int .i64 x27_2∧Aside0 (slices_Concat_int_int.l1 kq x6_2 l0 (l0.length : Int) x27_2=some r)∧Aside0 (kq≤k1)∧Aside0 (Kd.R (Kd.int .i64) 3 w' w.heap.size (fun _=>True) v6 x6_2)∧Aside0 (Below w.heap.size w w'))
    case atStart=>exact ⟨(t102),(0),(by first|rfl|(simp;done)|(simp [*];done)),H',⟨Nat.le_refl _⟩,⟨by (with_reducible repeat (first|apply Kd.R_alloc|apply Kd.R_drewN|apply Kd.R_drew));exact HO104.out⟩,⟨by repeat (first|(with_reducible first|exact HB.out|apply below_alloc|apply pw_below_drewN|apply below_drew1)|exact HB.out)⟩⟩
    case round =>
     clear H'
     try clear c1
     try clear p1
     try clear q1
     try clear hx1
     try clear c2
     try clear c2b0
     try clear p2
     try clear c3
     try clear c3b0
     try clear c4
     try clear c4b0
     try clear c5
     try clear c5b0
     try clear p6
     try clear hx101_0
     try clear p101
     try clear q101
     obtain ⟨x6_2,x27_2,rfl,HA,HK2,HO_6,HB⟩:=hrel
     cases gk with
     | zero=>exact absurd HA.out (by simp [slices_Concat_int_int.l1])
     | succ k2 =>
      have H:=HA.out
      clear HA
      simp only [slices_Concat_int_int.l1] at H
      by_cases c8 : x27_2 < (l0.length : Int)
      ·rw [if_pos c8] at H
       have c8b0 : decide (x27_2 < (l0.length : Int))=true:=decide_eq_true c8
       clear c8
       by_cases c9 : 0≤x27_2
       ·rw [if_pos c9] at H
        have c9b0 : decide (0≤x27_2)=true:=decide_eq_true c9
        clear c9
        by_cases c10 : x27_2 < (l0.length : Int)
        ·rw [if_pos c10] at H
         have c10b0 : decide (x27_2 < (l0.length : Int))=true:=decide_eq_true c10
         clear c10
         by_cases c11 : x6_2.length + (rd_L1 l0 x27_2).length < 17592186044416
         ·rw [if_pos c11] at H
          have LMc11:=Aside0.mk c11
          clear c11
          obtain ⟨y106,hy106⟩ : ∃ y_ : List Int,y_=(x6_2 ++ (rd_L1 l0 x27_2)):=⟨_,rfl⟩
          replace H : (slices_Concat_int_int.l1 k2 y106 l0 (l0.length : Int) (wrap64 (x27_2 + 1)))=some r:=by first|(rw [hy106];with_reducible exact H)|(have H2_:=(Option.bind_some _ _).symm.trans H;rw [hy106];with_reducible exact H2_)|(have H2_:=(Option.bind_some _ _).symm.trans H;with_reducible exact H2_)|with_reducible exact H|(rw [hy106];exact H)|exact H
          have Ny106:=Aside0.mk hy106
          clear hy106
          have H':=Aside0.mk H
          clear H
          have p105 : 0≤(x27_2 : Int):=of_decide_eq_true (by first|(with_reducible assumption)|assumption)
          have q105 : x27_2 < (l0.length : Int):=of_decide_eq_true (by first|(with_reducible assumption)|assumption)
          obtain ⟨ad105,A105_0,c105_0,e105,hx105_0,hl105_0,hi105_0⟩:=at_L1 HR0.out x27_2 p105 q105
          cases e105
          replace hx105_0:=(HB.out.cell (World.block_lt_of_cell? w _ hx105_0)).trans hx105_0
          have HR105_0:=Aside0.mk hi105_0
          have HC105_0:=Aside0.mk hl105_0
          clear hi105_0 hl105_0
          replace p105:=eq_true p105
          replace q105:=eq_true q105
          go_wp2_with (first|((with_reducible refine gate_builtin (b:=.append) (xs:=#[.tmp 31,.tmp 32]) rfl ?_);at_builtin;refine Kd.R_append_rows (Kd.int .i64) (w0:=w) w.heap.size rfl (.tmp 31) (.tmp 32) 28 3 (.int .i64 0) 8 rfl Try.underlying28 info3 rfl (by decide) (by omega) u6 x6_2 (rd_L1 l0 x27_2) _ _ _ (fun _=>True) (fun _=>False) rfl rfl ?aO ?aR (fun _ _ h=>h) (fun _ h=>h.elim) ?aF ?aB ?aS ?aL ?_;(case aR=>repeat (first|exact (Kd.C_below HR105_0.out HB.out)|(with_reducible refine Kd.C_alloc ?_ _)|(with_reducible refine Kd.C_drewN ?_ _)|(with_reducible refine Kd.C_drew ?_)));(case aB=>exact (below_up HB.out));(case aF=>exact (fun _ _=>trivial));(case aO=>exact (R_up HO_6.out));(case aS=>exact (below_size (below_up HB.out)));(case aL=>have:=LMc11.out;omega);intro v107 w12 ho hb hg hat;rw [← Ny106.out] at ho;have n0_:=Aside0.mk (hb);have n1_:=Aside0.mk (ho);clear HB;clear HO_6;have HB:=n0_;have HO108:=n1_;clear n0_ n1_;clear ho hb hg hat))
          go_roundg k2
          case measure=>have:=HK1.out;have:=HK2.out;omega
          case rel=>exact ⟨(y106),(wrap64 (x27_2 + 1)),(by first|rfl|(simp;done)|(simp [*];done)),(by first|exact H'|(subst_vars;exact H')),⟨by have:=HK1.out;have:=HK2.out;omega⟩,⟨by (with_reducible repeat (first|apply Kd.R_alloc|apply Kd.R_drewN|apply Kd.R_drew));exact HO108.out⟩,⟨by repeat (first|(with_reducible first|exact HB.out|apply below_alloc|apply pw_below_drewN|apply below_drew1)|exact HB.out)⟩⟩
         ·rw [if_neg c11] at H
          exact absurd H (by simp)
        ·rw [if_neg c10] at H
         exact absurd H (by simp)
       ·rw [if_neg c9] at H
        exact absurd H (by simp)
      ·rw [if_neg c8] at H
       have c8b0 : decide (x27_2 < (l0.length : Int))=false:=decide_eq_false c8
       clear c8
       obtain rfl:=Option.some.inj H
       go_wp2
       go_ret
       exact ⟨_,by first|rfl|(simp [errW_none,errW_some] <;> rfl)|(simp [*,errW_none,errW_some] <;> rfl),by (with_reducible repeat (first|apply Kd.R_alloc|apply Kd.R_drewN|apply Kd.R_drew));exact HO_6.out,by repeat (first|(with_reducible first|exact HB.out|apply below_alloc|apply pw_below_drewN|apply below_drew1)|exact HB.out)⟩
def num_PutVar.l0 : Nat→Int→List Int→Option (List Int)
 | 0,_,_=>none
 | k + 1,x0,x3=>if x0 ≥ 128 then (if x3.length < 140737488355328 then (num_PutVar.l0 k (x0 / 128) (x3 ++ [Go.bits .or .u8 ((x0) % 256) 128])) else (none)) else (if x3.length < 140737488355328 then (some (x3 ++ [(x0) % 256])) else (none))
def num_PutVar.f (k : Nat) (a0 : Int) : Option (List Int):=num_PutVar.l0 k a0 ([] : List Int)
theorem num_PutVar.mono_l : ∀ k,(∀ y0 y1,LeO (num_PutVar.l0 k y0 y1) (num_PutVar.l0 (k + 1) y0 y1))
 | 0=>fun _ _ r h=>by simp [num_PutVar.l0] at h
 | k + 1=>by
  have ih0:=num_PutVar.mono_l k
  ·intro y0 y1
   unfold num_PutVar.l0
   repeat' first
   | (with_reducible exact ih0 _ _)
   | (with_reducible exact LeO.refl _)
   | (with_reducible exact LeO.none _)
   | (with_reducible refine LeO.ite ?_ ?_)
   | (with_reducible refine LeO.bind ?_ (fun _=>?_))
   | exact ih0 _ _
   | exact LeO.none _
   | refine LeO.ite ?_ ?_
   | refine LeO.bind ?_ (fun _=>?_)
theorem num_PutVar.mono : ∀ a0 k,LeO (num_PutVar.f k a0) (num_PutVar.f (k + 1) a0):=by
 intro a0 k
 have ih0:=num_PutVar.mono_l k
 unfold num_PutVar.f
 repeat' first
   | (with_reducible exact ih0 _ _)
   | (with_reducible exact LeO.refl _)
   | (with_reducible exact LeO.none _)
   | (with_reducible refine LeO.ite ?_ ?_)
   | (with_reducible refine LeO.bind ?_ (fun _=>?_))
   | exact ih0 _ _
   | exact LeO.none _
   | refine LeO.ite ?_ ?_
   | refine LeO.bind ?_ (fun _=>?_)
set_option maxHeartbeats 8000000 in
set_option maxRecDepth 100000 in
theorem num_PutVar.calls (k : Nat) (a0 : Int) (r : List Int) (w : World) (h : num_PutVar.f k a0=some r) :
  Calls Try.prog 34 #[.int .u64 a0] w fun e w'=>∃ v0_ : Value,e=.returned (v0_)∧Kd.R (Kd.int .u8) 5 w' w.heap.size (fun _=>True) v0_ r∧Below w.heap.size w w':=by
 have HB:=Aside0.mk (Below.refl w.heap.size w)
 have H : (num_PutVar.l0 k a0 ([] : List Int))=some r:=h
 clear h
 have H':=Aside0.mk H
 clear H
 go_enter Try.func34,Try.ntmps34
 go_wp2
 go_loopg [0,3] k (fun kq v0 v3 w'=>∃ (x0_1 : Int) (x3_1 : List Int),v0=.int .u64 x0_1∧Aside0 (num_PutVar.l0 kq x0_1 x3_1=some r)∧Aside0 (kq≤k)∧Aside0 (Kd.R (Kd.int .u8) 5 w' w.heap.size (fun _=>True) v3 x3_1)∧Aside0 (Below w.heap.size w w'))
 case atStart=>exact ⟨(a0),(([] : List Int)),(by first|rfl|(simp;done)|(simp [*];done)),H',⟨Nat.le_refl _⟩,⟨by first|exact Kd.R_nil _ _ _ _ _|exact Kd.N_nil _ _ _ _ _|exact Kd.V_nil _ _ _ _ _|exact Kd.Q_nil _ _ _ _ _|exact Kd.S_nil _ _ _ _ _⟩,⟨by repeat (first|(with_reducible first|exact HB.out|apply below_alloc|apply pw_below_drewN|apply below_drew1)|exact HB.out)⟩⟩
 case round =>
  clear H'
  obtain ⟨x0_1,x3_1,rfl,HA,HK1,HO_3,HB⟩:=hrel
  cases gk with
  | zero=>exact absurd HA.out (by simp [num_PutVar.l0])
  | succ k1 =>
   have H:=HA.out
   clear HA
   simp only [num_PutVar.l0] at H
   by_cases c2 : x0_1 ≥ 128
   ·rw [if_pos c2] at H
    have c2b0 : decide (128≤x0_1)=true:=decide_eq_true c2
    clear c2
    by_cases c3 : x3_1.length < 140737488355328
    ·rw [if_pos c3] at H
     have LMc3:=Aside0.mk c3
     clear c3
     obtain ⟨y109,hy109⟩ : ∃ y_ : List Int,y_=(x3_1 ++ [Go.bits .or .u8 ((x0_1) % 256) 128]):=⟨_,rfl⟩
     replace H : (num_PutVar.l0 k1 (x0_1 / 128) y109)=some r:=by first|(rw [hy109];with_reducible exact H)|(have H2_:=(Option.bind_some _ _).symm.trans H;rw [hy109];with_reducible exact H2_)|(have H2_:=(Option.bind_some _ _).symm.trans H;with_reducible exact H2_)|with_reducible exact H|(rw [hy109];exact H)|exact H
     have Ny109:=Aside0.mk hy109
     clear hy109
     have H':=Aside0.mk H
     clear H
     go_wp2_with (first|((with_reducible refine gate_builtin (b:=.append) (xs:=#[.tmp 8,.tmp 12]) rfl ?_);at_builtin;refine Kd.R_append (Kd.int .u8) (w0:=w) w.heap.size rfl (.tmp 8) (.tmp 12) 41 5 (.int .u8 0) 1 rfl Try.underlying41 info5 rfl (by decide) (by omega) u3 x3_1 (Go.bits .or .u8 ((x0_1) % 256) 128) [.int .u8 (Go.bits .or .u8 ((x0_1) % 256) 128)] (fun _=>True) (fun _=>False) rfl rfl ?aP (fun _ hk=>hk.elim) ?aF ?aO ?aB ?aS ?aL ?_;(case aP=>exact rfl);(case aB=>exact (below_up HB.out));(case aF=>exact (fun _ _=>trivial));(case aO=>exact (R_up HO_3.out));(case aS=>exact (below_size (below_up HB.out)));(case aL=>have:=LMc3.out;omega);intro v110 w4 ho hb hg hat;rw [← Ny109.out] at ho;have n0_:=Aside0.mk (hb);have n1_:=Aside0.mk (ho);clear HB;clear HO_3;have HB:=n0_;have HO111:=n1_;clear n0_ n1_;clear ho hb hg hat))
     go_roundg k1
     case measure=>have:=HK1.out;omega
     case rel=>exact ⟨(x0_1 / 128),(y109),(by first|rfl|(simp;done)|(simp [*];done)),(by first|exact H'|(subst_vars;exact H')),⟨by have:=HK1.out;omega⟩,⟨by (with_reducible repeat (first|apply Kd.R_alloc|apply Kd.R_drewN|apply Kd.R_drew));exact HO111.out⟩,⟨by repeat (first|(with_reducible first|exact HB.out|apply below_alloc|apply pw_below_drewN|apply below_drew1)|exact HB.out)⟩⟩
    ·rw [if_neg c3] at H
     exact absurd H (by simp)
   ·rw [if_neg c2] at H
    have c2b0 : decide (128≤x0_1)=false:=decide_eq_false c2
    clear c2
    by_cases c5 : x3_1.length < 140737488355328
    ·rw [if_pos c5] at H
     have LMc5:=Aside0.mk c5
     clear c5
     obtain ⟨y112,hy112⟩ : ∃ y_ : List Int,y_=(x3_1 ++ [(x0_1) % 256]):=⟨_,rfl⟩
     replace H : (some y112)=some r:=by first|(rw [hy112];with_reducible exact H)|(have H2_:=(Option.bind_some _ _).symm.trans H;rw [hy112];with_reducible exact H2_)|(have H2_:=(Option.bind_some _ _).symm.trans H;with_reducible exact H2_)|with_reducible exact H|(rw [hy112];exact H)|exact H
     have Ny112:=Aside0.mk hy112
     clear hy112
     obtain rfl:=Option.some.inj H
     go_wp2_with (first|((with_reducible refine gate_builtin (b:=.append) (xs:=#[.tmp 14,.tmp 17]) rfl ?_);at_builtin;refine Kd.R_append (Kd.int .u8) (w0:=w) w.heap.size rfl (.tmp 14) (.tmp 17) 41 5 (.int .u8 0) 1 rfl Try.underlying41 info5 rfl (by decide) (by omega) u3 x3_1 ((x0_1) % 256) [.int .u8 ((x0_1) % 256)] (fun _=>True) (fun _=>False) rfl rfl ?aP (fun _ hk=>hk.elim) ?aF ?aO ?aB ?aS ?aL ?_;(case aP=>exact rfl);(case aB=>exact (below_up HB.out));(case aF=>exact (fun _ _=>trivial));(case aO=>exact (R_up HO_3.out));(case aS=>exact (below_size (below_up HB.out)));(case aL=>have:=LMc5.out;omega);intro v113 w6 ho hb hg hat;rw [← Ny112.out] at ho;have n0_:=Aside0.mk (hb);have n1_:=Aside0.mk (ho);clear HB;clear HO_3;have HB:=n0_;have HO114:=n1_;clear n0_ n1_;clear ho hb hg hat))
     go_ret
     exact ⟨_,by first|rfl|(simp [errW_none,errW_some] <;> rfl)|(simp [*,errW_none,errW_some] <;> rfl),by (with_reducible repeat (first|apply Kd.R_alloc|apply Kd.R_drewN|apply Kd.R_drew));exact HO114.out,by repeat (first|(with_reducible first|exact HB.out|apply below_alloc|apply pw_below_drewN|apply below_drew1)|exact HB.out)⟩
    ·rw [if_neg c5] at H
     exact absurd H (by simp)
def schema_Put.l0 : Nat→List Int→List Int→Int→Int→Option (List Int)
 | 0,_,_,_,_=>none
 | k + 1,x3,x20,x21,x22=>if x22 < x21 then (if 0≤x22 then (if x22 < (x20.length : Int) then ((num_PutVar.f k (IntKind.u64.wrap (rd x20 x22))).bind fun t129=>(if x3.length + t129.length < 140737488355328 then (schema_Put.l0 k (x3 ++ t129) x20 x21 (wrap64 (x22 + 1))) else (none))) else (none)) else (none)) else (some x3)
def schema_Put.f (k : Nat) (l0_0 : List Int) (a0_1 : Int) (a0_2 : Int) (a0_3 : Int) : Option (List Int):=(slices_Concat_int_int.f k (([(([(l0_0.length : Int)] : List Int)),l0_0,(([a0_1,a0_2,a0_3] : List Int))] : List (List Int)))).bind fun t125=>(schema_Put.l0 k ([] : List Int) t125 (t125.length : Int) 0)
theorem schema_Put.mono_l : ∀ k,(∀ y0 y1 y2 y3,LeO (schema_Put.l0 k y0 y1 y2 y3) (schema_Put.l0 (k + 1) y0 y1 y2 y3))
 | 0=>fun _ _ _ _ r h=>by simp [schema_Put.l0] at h
 | k + 1=>by
  have ih0:=schema_Put.mono_l k
  ·intro y0 y1 y2 y3
   unfold schema_Put.l0
   repeat' first
   | (with_reducible exact ih0 _ _ _ _)
   | (with_reducible exact num_PutVar.mono _ _)
   | (with_reducible exact slices_Concat_int_int.mono _ _)
   | (with_reducible exact LeO.refl _)
   | (with_reducible exact LeO.none _)
   | (with_reducible refine LeO.ite ?_ ?_)
   | (with_reducible refine LeO.bind ?_ (fun _=>?_))
   | exact ih0 _ _ _ _
   | exact num_PutVar.mono _ _
   | exact slices_Concat_int_int.mono _ _
   | exact LeO.none _
   | refine LeO.ite ?_ ?_
   | refine LeO.bind ?_ (fun _=>?_)
theorem schema_Put.mono : ∀ a0 a1 a2 a3 k,LeO (schema_Put.f k a0 a1 a2 a3) (schema_Put.f (k + 1) a0 a1 a2 a3):=by
 intro a0 a1 a2 a3 k
 have ih0:=schema_Put.mono_l k
 unfold schema_Put.f
 repeat' first
   | (with_reducible exact ih0 _ _ _ _)
   | (with_reducible exact num_PutVar.mono _ _)
   | (with_reducible exact slices_Concat_int_int.mono _ _)
   | (with_reducible exact LeO.refl _)
   | (with_reducible exact LeO.none _)
   | (with_reducible refine LeO.ite ?_ ?_)
   | (with_reducible refine LeO.bind ?_ (fun _=>?_))
   | exact ih0 _ _ _ _
   | exact num_PutVar.mono _ _
   | exact slices_Concat_int_int.mono _ _
   | exact LeO.none _
   | refine LeO.ite ?_ ?_
   | refine LeO.bind ?_ (fun _=>?_)
set_option maxHeartbeats 8000000 in
set_option maxRecDepth 100000 in
theorem schema_Put.calls (k : Nat) (P0_0_ : Nat→Prop) (A0_0 : Option Addr) (c0_0 : Nat) (l0_0 : List Int) (a0_1 : Int) (a0_2 : Int) (a0_3 : Int) (r : List Int) (w : World) (hs0_0 : Kd.V (Kd.int .i64) 3 w w.heap.size (fun k_=>P0_0_ k_) (.slice A0_0 l0_0.length c0_0) l0_0) (h : schema_Put.f k l0_0 a0_1 a0_2 a0_3=some r) :
  Calls Try.prog 14 #[.agg #[.slice A0_0 l0_0.length c0_0,.int .i64 a0_1,.int .i64 a0_2,.int .i64 a0_3]] w fun e w'=>∃ v0_ : Value,e=.returned (v0_)∧Kd.R (Kd.int .u8) 5 w' w.heap.size (fun k_=>(w.heap.size≤k_)) v0_ r∧Below w.heap.size w w':=by
 have hu30:=Try.underlying30
 have HO0_0:=Aside0.mk (show Kd.V (Kd.int .i64) 3 w w.heap.size (fun k_=>(P0_0_ k_ ∨ w.heap.size≤k_)) (.slice A0_0 l0_0.length c0_0) l0_0 from Kd.V_mono hs0_0 (fun k_ hk=>.inl hk))
 have HB:=Aside0.mk (Below.refl w.heap.size w)
 have H : ((slices_Concat_int_int.f k (([(([(l0_0.length : Int)] : List Int)),l0_0,(([a0_1,a0_2,a0_3] : List Int))] : List (List Int)))).bind fun t125=>(schema_Put.l0 k ([] : List Int) t125 (t125.length : Int) 0))=some r:=h
 clear h
 obtain ⟨y116,hy116⟩ : ∃ y_ : List Int,y_=(([(l0_0.length : Int)] : List Int)):=⟨_,rfl⟩
 replace H : ((slices_Concat_int_int.f k (([y116,l0_0,(([a0_1,a0_2,a0_3] : List Int))] : List (List Int)))).bind fun t125=>(schema_Put.l0 k ([] : List Int) t125 (t125.length : Int) 0))=some r:=by first|(rw [hy116];with_reducible exact H)|(have H2_:=(Option.bind_some _ _).symm.trans H;rw [hy116];with_reducible exact H2_)|(have H2_:=(Option.bind_some _ _).symm.trans H;with_reducible exact H2_)|with_reducible exact H|(rw [hy116];exact H)|exact H
 have Ny116:=Aside0.mk hy116
 clear hy116
 obtain ⟨y119,hy119⟩ : ∃ y_ : List Int,y_=(([a0_1,a0_2,a0_3] : List Int)):=⟨_,rfl⟩
 replace H : ((slices_Concat_int_int.f k (([y116,l0_0,y119] : List (List Int)))).bind fun t125=>(schema_Put.l0 k ([] : List Int) t125 (t125.length : Int) 0))=some r:=by first|(rw [hy119];with_reducible exact H)|(have H2_:=(Option.bind_some _ _).symm.trans H;rw [hy119];with_reducible exact H2_)|(have H2_:=(Option.bind_some _ _).symm.trans H;with_reducible exact H2_)|with_reducible exact H|(rw [hy119];exact H)|exact H
 have Ny119:=Aside0.mk hy119
 clear hy119
 obtain ⟨y122,hy122⟩ : ∃ y_ : List (List Int),y_=(([y116,l0_0,y119] : List (List Int))):=⟨_,rfl⟩
 replace H : ((slices_Concat_int_int.f k y122).bind fun t125=>(schema_Put.l0 k ([] : List Int) t125 (t125.length : Int) 0))=some r:=by first|(rw [hy122];with_reducible exact H)|(have H2_:=(Option.bind_some _ _).symm.trans H;rw [hy122];with_reducible exact H2_)|(have H2_:=(Option.bind_some _ _).symm.trans H;with_reducible exact H2_)|with_reducible exact H|(rw [hy122];exact H)|exact H
 have Ny122:=Aside0.mk hy122
 clear hy122
 replace H:=Option.bind_eq_some_iff.mp H
 obtain ⟨t125,A20,H⟩:=H
 replace H : (schema_Put.l0 k ([] : List Int) t125 (t125.length : Int) 0)=some r:=H
 have A2:=Aside0.mk A20
 clear A20
 have H':=Aside0.mk H
 clear H
 go_enter Try.func14,Try.ntmps14
 go_wp2_with (first|((with_reducible refine gate_dst (N:=1) rfl ?_);refine box_event ?hg (N:=1) ?hd (cs:=#[.slice A0_0 l0_0.length c0_0,.int .i64 a0_1,.int .i64 a0_2,.int .i64 a0_3]) (t:=30) ?hr ?_;(case hd=>rfl);(case hg=>rfl);(case hr=>first|(go_simp;done)|(go_simp;rfl));intro gb115 hg w3 hbox hb;have n0_:=Aside0.mk (Kd.V_below (Kd.V_elderB (V_up HO0_0.out) gb115 (Nat.le_of_eq hg.symm)) hb);have n1_:=Aside0.mk (below_step (below_up HB.out) hb);have n2_:=Aside0.mk (hbox);have n3_:=Aside0.mk ((by rw [hg];exact (below_size (below_up HB.out)) : w.heap.size≤gb115));have n4_:=Aside0.mk ((by rw [hg];exact (below_size (below_up HB.out)) : w.heap.size≤gb115));clear HO0_0;clear HB;have HO0_0:=n0_;have HB:=n1_;have BK115:=n2_;have GW115:=n3_;have GE115:=n4_;clear n0_ n1_ n2_ n3_ n4_;clear hb hbox hg;have hcz4_0 : w3.cell? ⟨gb115,0,none⟩=some (.slice A0_0 l0_0.length c0_0):=(blk_cell BK115.out 0).trans rfl;have hcz4_1 : w3.cell? ⟨gb115,1,none⟩=some (.int .i64 a0_1):=(blk_cell BK115.out 1).trans rfl;have hcz4_2 : w3.cell? ⟨gb115,2,none⟩=some (.int .i64 a0_2):=(blk_cell BK115.out 2).trans rfl;have hcz4_3 : w3.cell? ⟨gb115,3,none⟩=some (.int .i64 a0_3):=(blk_cell BK115.out 3).trans rfl;have hfz4_0:=blk_frozen BK115.out 0;have hfz4_1:=blk_frozen BK115.out 1;have hfz4_2:=blk_frozen BK115.out 2;have hfz4_3:=blk_frozen BK115.out 3)|((with_reducible refine gate_dst (N:=9) rfl ?_);refine Kd.R_lit (Kd.int .i64) _ 3 ?hg (N:=9) ?hd (xs:=([(l0_0.length : Int)] : List Int)) (inner:=[.int .i64 (l0_0.length : Int)]) (ok:=fun _=>True) (okp:=fun _=>True) ?hr ?hp (fun _ hk=>hk) trivial (Below.refl _ _) (Nat.le_refl _) (by simp) ?_;(case hd=>rfl);(case hg=>rfl);(case hr=>first|(go_simp;done)|(go_simp;rfl));(case hp=>exact (Reps.one (show Kd.M (Kd.int .i64) _ _ _ (l0_0.length : Int) [.int .i64 (l0_0.length : Int)] from rfl) (Reps.none _ _)));intro v117 w5 ho6 hb hg_ hnew_;clear hg_ hnew_;(first|rw [← Ny116.out] at ho6|(simp only [Int.reduceToNat] at ho6;rw [← Ny116.out] at ho6));have n0_:=Aside0.mk (Kd.V_elder' (V_up HO0_0.out) (Kd.R_base ho6) hb);have n1_:=Aside0.mk (Kd.R_lower (Kd.R_newM (M:=fun k_=>(w.heap.size≤k_)) ho6 (below_size (below_go HB.out)) (fun k_ h_=>h_)) (below_size (below_go HB.out)));have n2_:=Aside0.mk (blk_below (blk_up BK115.out) hb);have n3_:=Aside0.mk (below_step (below_go HB.out) hb);clear HO0_0;clear BK115;clear HB;have HO0_0:=n0_;have HO118:=n1_;have BK115:=n2_;have HB:=n3_;clear n0_ n1_ n2_ n3_;clear hb ho6;have hcz7_0 : w5.cell? ⟨gb115,0,none⟩=some (.slice A0_0 l0_0.length c0_0):=(blk_cell BK115.out 0).trans rfl;have hcz7_1 : w5.cell? ⟨gb115,1,none⟩=some (.int .i64 a0_1):=(blk_cell BK115.out 1).trans rfl;have hcz7_2 : w5.cell? ⟨gb115,2,none⟩=some (.int .i64 a0_2):=(blk_cell BK115.out 2).trans rfl;have hcz7_3 : w5.cell? ⟨gb115,3,none⟩=some (.int .i64 a0_3):=(blk_cell BK115.out 3).trans rfl;have hfz7_0:=blk_frozen BK115.out 0;have hfz7_1:=blk_frozen BK115.out 1;have hfz7_2:=blk_frozen BK115.out 2;have hfz7_3:=blk_frozen BK115.out 3)|((with_reducible refine gate_dst (N:=18) rfl ?_);refine Kd.R_lit (Kd.int .i64) _ 3 ?hg (N:=18) ?hd (xs:=([a0_1,a0_2,a0_3] : List Int)) (inner:=[.int .i64 a0_1,.int .i64 a0_2,.int .i64 a0_3]) (ok:=fun _=>True) (okp:=fun _=>True) ?hr ?hp (fun _ hk=>hk) trivial (Below.refl _ _) (Nat.le_refl _) (by simp) ?_;(case hd=>rfl);(case hg=>rfl);(case hr=>first|(go_simp;done)|(go_simp;rfl));(case hp=>exact (Reps.one (show Kd.M (Kd.int .i64) _ _ _ a0_1 [.int .i64 a0_1] from rfl) (Reps.one (show Kd.M (Kd.int .i64) _ _ _ a0_2 [.int .i64 a0_2] from rfl) (Reps.one (show Kd.M (Kd.int .i64) _ _ _ a0_3 [.int .i64 a0_3] from rfl) (Reps.none _ _)))));intro v120 w8 ho9 hb hg_ hnew_;clear hg_ hnew_;(first|rw [← Ny119.out] at ho9|(simp only [Int.reduceToNat] at ho9;rw [← Ny119.out] at ho9));have n0_:=Aside0.mk (Kd.V_elder' (V_up HO0_0.out) (Kd.R_base ho9) hb);have n1_:=Aside0.mk (Kd.R_elder' (R_up HO118.out) (Kd.R_base ho9) hb);have n2_:=Aside0.mk (Kd.R_lower (Kd.R_new' (Kd.R_newM (M:=fun k_=>(w.heap.size≤k_)) ho9 (below_size (below_go HB.out)) (fun k_ h_=>h_)) (Kd.R_lt (R_up HO118.out))) (below_size (below_go HB.out)));have n3_:=Aside0.mk (blk_below (blk_up BK115.out) hb);have n4_:=Aside0.mk (below_step (below_go HB.out) hb);clear HO0_0;clear HO118;clear BK115;clear HB;have HO0_0:=n0_;have HO118:=n1_;have HO121:=n2_;have BK115:=n3_;have HB:=n4_;clear n0_ n1_ n2_ n3_ n4_;clear hb ho9;obtain ⟨Ao10,co10,eo10⟩:=Kd.R_slice HO118.out;subst eo10;obtain ⟨Ao11,co11,eo11⟩:=Kd.R_slice HO121.out;subst eo11)|((with_reducible refine gate_dst (N:=19) rfl ?_);refine Kd.N_lit (Kd.slice 3 (Kd.int .i64)) _ 28 ?hg (N':=19) ?hd (xs:=([y116,l0_0,y119] : List (List Int))) (inner:=[.slice Ao10 y116.length co10,.slice A0_0 l0_0.length c0_0,.slice Ao11 y119.length co11]) (ok:=(fun k_=>(P0_0_ k_ ∨ w.heap.size≤k_)∧k_≠gb115)) (okp:=(fun k_=>(P0_0_ k_ ∨ w.heap.size≤k_)∧k_≠gb115)) ?hr ?hp (fun _ hk=>hk) ((show ∀ k_,w8.heap.size≤k_→(fun k_=>(P0_0_ k_ ∨ w.heap.size≤k_)∧k_≠gb115) k_ from fun k_ hk=>⟨(.inr (Nat.le_trans (below_size (below_go HB.out)) hk)),Kd.freshB (blk_up BK115.out) k_ hk⟩) _ (Nat.le_refl _)) (Below.refl _ _) (Nat.le_refl _) (by simp) ?_;(case hd=>rfl);(case hg=>rfl);(case hr=>first|(go_simp;done)|(go_simp;rfl));(case hp=>exact (Reps.one (show Kd.FK (Kd.slice 3 (Kd.int .i64)) _ _ y116 [.slice Ao10 y116.length co10] from (Kd.FK_slice_mk (Kd.R_reads' (Kd.R_mono (ok':=(fun k_=>(P0_0_ k_ ∨ w.heap.size≤k_)∧k_≠gb115)) (Kd.R_types (HO118.out) BK115.out (by decide)) (fun k_ hk=>⟨(.inr (hk.1.1.1)),hk.2⟩))).2.1 (Kd.R_F (Kd.R_mono (ok':=(fun k_=>(P0_0_ k_ ∨ w.heap.size≤k_)∧k_≠gb115)) (Kd.R_types (HO118.out) BK115.out (by decide)) (fun k_ hk=>⟨(.inr (hk.1.1.1)),hk.2⟩))))) (Reps.one (show Kd.FK (Kd.slice 3 (Kd.int .i64)) _ _ l0_0 [.slice A0_0 l0_0.length c0_0] from (Kd.FK_slice_mk (Kd.V_reads' (Kd.V_mono (ok':=(fun k_=>(P0_0_ k_ ∨ w.heap.size≤k_)∧k_≠gb115)) (HO0_0.out) (fun k_ hk=>⟨hk.1.1.1,hk.1.1.2⟩))).2.1 (Kd.V_F (Kd.V_mono (ok':=(fun k_=>(P0_0_ k_ ∨ w.heap.size≤k_)∧k_≠gb115)) (HO0_0.out) (fun k_ hk=>⟨hk.1.1.1,hk.1.1.2⟩))))) (Reps.one (show Kd.FK (Kd.slice 3 (Kd.int .i64)) _ _ y119 [.slice Ao11 y119.length co11] from (Kd.FK_slice_mk (Kd.R_reads' (Kd.R_mono (ok':=(fun k_=>(P0_0_ k_ ∨ w.heap.size≤k_)∧k_≠gb115)) (Kd.R_types (HO121.out) BK115.out (by decide)) (fun k_ hk=>⟨(.inr (hk.1.1.1)),hk.2⟩))).2.1 (Kd.R_F (Kd.R_mono (ok':=(fun k_=>(P0_0_ k_ ∨ w.heap.size≤k_)∧k_≠gb115)) (Kd.R_types (HO121.out) BK115.out (by decide)) (fun k_ hk=>⟨(.inr (hk.1.1.1)),hk.2⟩))))) (Reps.none _ _)))));intro v123 w12 ho13 hb hg_ hnew_;clear hg_ hnew_;(first|rw [← Ny122.out] at ho13|(simp only [Int.reduceToNat] at ho13;rw [← Ny122.out] at ho13));have n0_:=Aside0.mk (Kd.V_elder' (V_up HO0_0.out) (Kd.N_base ho13) hb);have n1_:=Aside0.mk (Kd.N_lower ho13 (below_size (below_go HB.out)));have n2_:=Aside0.mk (blk_below (blk_up BK115.out) hb);have n3_:=Aside0.mk (below_step (below_go HB.out) hb);clear HO0_0;clear BK115;clear HB;clear HO118;clear HO121;have HO0_0:=n0_;have HO124:=n1_;have BK115:=n2_;have HB:=n3_;clear n0_ n1_ n2_ n3_;clear hb ho13;obtain ⟨Ao14,co14,eo14⟩:=Kd.N_slice HO124.out;subst eo14)|((with_reducible refine gate_callee (f:=33) rfl ?_);refine goesL_ (some 20) rfl rfl Try.func33 (by kernel_rfl) rfl #[.slice Ao14 y122.length co14] rfl (by (try simp only [List.map_toArray,List.map_cons,List.map_nil]);first|done|rfl|(simp only [List.length_drop,List.length_take];rfl)) ?_;(with_reducible refine (slices_Concat_int_int.calls k _ _ y122 t125 _ ?side1 ?side2 A2.out).mono ?_);(case side1=>repeat (first|exact (Kd.N_reads' HO124.out).2.2|(with_reducible refine Kd.C_alloc ?_ _)|(with_reducible refine Kd.C_drewN ?_ _)|(with_reducible refine Kd.C_drew ?_)));(case side2=>exact (Kd.N_reads' HO124.out).2.1);rintro e w15 ⟨v126,rfl,ho0,hb⟩;refine ⟨_,rfl,?_⟩;have n0_:=Aside0.mk (Kd.V_elder' (V_up HO0_0.out) (Kd.R_base ho0) hb);have n1_:=Aside0.mk (Kd.N_elder' (N_up HO124.out) (Kd.R_base ho0) hb);have n2_:=Aside0.mk (Kd.R_lower (Kd.R_newM (M:=fun k_=>(w.heap.size≤k_)) ho0 (below_size (below_go HB.out)) (fun k_ h_=>h_)) (below_size (below_go HB.out)));have n3_:=Aside0.mk (blk_below (blk_up BK115.out) hb);have n4_:=Aside0.mk (below_step (below_go HB.out) hb);clear HO0_0;clear HO124;clear BK115;clear HB;have HO0_0:=n0_;have HO124:=n1_;have HO127:=n2_;have BK115:=n3_;have HB:=n4_;clear n0_ n1_ n2_ n3_ n4_;(try clear hb);(try clear hb2);(try clear hk);(try clear hi);(try clear ho0);obtain ⟨Ao16,co16,eo16⟩:=Kd.R_slice HO127.out;subst eo16))
 go_loopg [3,22] k (fun kq v3 v22 w'=>∃ (x3_1 : List Int) (x22_1 : Int),v22=.int .i64 x22_1∧Aside0 (schema_Put.l0 kq x3_1 t125 (t125.length : Int) x22_1=some r)∧Aside0 (kq≤k)∧Aside0 (Kd.R (Kd.int .u8) 5 w' w.heap.size (fun k_=>(w.heap.size≤k_)) v3 x3_1)∧Aside0 (Kd.R (Kd.int .i64) 3 w' w.heap.size (fun k_=>(w.heap.size≤k_)) (.slice Ao16 t125.length co16) t125)∧Aside0 (Kd.V (Kd.int .i64) 3 w' w.heap.size (fun k_=>(P0_0_ k_ ∨ w.heap.size≤k_)∧some k_≠(v3 : Value).ownBlock∧some k_≠((.slice Ao16 t125.length co16) : Value).ownBlock∧k_≠gb115) (.slice A0_0 l0_0.length c0_0) l0_0)∧Aside0 (w'.heap[gb115]?=some (.cells #[(.slice A0_0 l0_0.length c0_0),.int .i64 a0_1,.int .i64 a0_2,.int .i64 a0_3] 30 (0,0)))∧Aside0 (Below w.heap.size w w'))
 case atStart=>exact ⟨(([] : List Int)),(0),(by first|rfl|(simp;done)|(simp [*];done)),H',⟨Nat.le_refl _⟩,⟨by first|exact Kd.R_nil _ _ _ _ _|exact Kd.N_nil _ _ _ _ _|exact Kd.V_nil _ _ _ _ _|exact Kd.Q_nil _ _ _ _ _|exact Kd.S_nil _ _ _ _ _⟩,⟨by (with_reducible repeat (first|apply Kd.R_alloc|apply Kd.R_drewN|apply Kd.R_drew));exact Kd.R_mono HO127.out (fun _ hk=>hk.1)⟩,⟨by (with_reducible repeat (first|apply Kd.V_alloc|apply Kd.V_drewN|apply Kd.V_drew));exact Kd.V_mono HO0_0.out (fun _ hk=>⟨hk.1.1.1.1.1,⟨(by simp [Value.ownBlock]),⟨hk.2,hk.1.1.1.1.2⟩⟩⟩)⟩,⟨by (with_reducible repeat (first|refine blk_drewN ?_ _|refine blk_drew ?_|refine blk_alloc ?_ _));exact BK115.out⟩,⟨by repeat (first|(with_reducible first|exact HB.out|apply below_alloc|apply pw_below_drewN|apply below_drew1|refine below_set ?_ GE115.out)|exact HB.out)⟩⟩
 case round =>
  clear H'
  try clear c1
  try clear p2
  try clear c3
  try clear c14
  try clear hcz4_0
  try clear hcz4_1
  try clear hcz4_2
  try clear hcz4_3
  try clear hcz7_0
  try clear hcz7_1
  try clear hcz7_2
  try clear hcz7_3
  try clear hfz4_0
  try clear hfz4_1
  try clear hfz4_2
  try clear hfz4_3
  try clear hfz7_0
  try clear hfz7_1
  try clear hfz7_2
  try clear hfz7_3
  obtain ⟨x3_1,x22_1,rfl,HA,HK1,HO_3,HO_20,HO_116000,BK115,HB⟩:=hrel
  cases gk with
  | zero=>exact absurd HA.out (by simp [schema_Put.l0])
  | succ k1 =>
   have H:=HA.out
   clear HA
   simp only [schema_Put.l0] at H
   by_cases c17 : x22_1 < (t125.length : Int)
   ·rw [if_pos c17] at H
    have c17b0 : decide (x22_1 < (t125.length : Int))=true:=decide_eq_true c17
    clear c17
    by_cases c18 : 0≤x22_1
    ·rw [if_pos c18] at H
     have c18b0 : decide (0≤x22_1)=true:=decide_eq_true c18
     clear c18
     by_cases c19 : x22_1 < (t125.length : Int)
     ·rw [if_pos c19] at H
      have c19b0 : decide (x22_1 < (t125.length : Int))=true:=decide_eq_true c19
      clear c19
      replace H:=Option.bind_eq_some_iff.mp H
      obtain ⟨t129,A200,H⟩:=H
      replace H : (if x3_1.length + t129.length < 140737488355328 then (schema_Put.l0 k1 (x3_1 ++ t129) t125 (t125.length : Int) (wrap64 (x22_1 + 1))) else (none))=some r:=H
      have A20:=Aside0.mk A200
      clear A200
      by_cases c21 : x3_1.length + t129.length < 140737488355328
      ·rw [if_pos c21] at H
       have LMc21:=Aside0.mk c21
       clear c21
       obtain ⟨y132,hy132⟩ : ∃ y_ : List Int,y_=(x3_1 ++ t129):=⟨_,rfl⟩
       replace H : (schema_Put.l0 k1 y132 t125 (t125.length : Int) (wrap64 (x22_1 + 1)))=some r:=by first|(rw [hy132];with_reducible exact H)|(have H2_:=(Option.bind_some _ _).symm.trans H;rw [hy132];with_reducible exact H2_)|(have H2_:=(Option.bind_some _ _).symm.trans H;with_reducible exact H2_)|with_reducible exact H|(rw [hy132];exact H)|exact H
       have Ny132:=Aside0.mk hy132
       clear hy132
       have H':=Aside0.mk H
       clear H
       have p128 : 0≤(x22_1 : Int):=of_decide_eq_true (by first|(with_reducible assumption)|assumption)
       have q128 : x22_1 < (t125.length : Int):=of_decide_eq_true (by first|(with_reducible assumption)|assumption)
       obtain ⟨ad128,e128,hx128_0⟩:=Kd.at_int (Kd.R_reads' HO_20.out).2.2 x22_1 p128 q128
       cases e128
       replace p128:=eq_true p128
       replace q128:=eq_true q128
       go_wp2_with (first|((with_reducible refine gate_callee (f:=34) rfl ?_);refine goesL_ (some 29) rfl rfl Try.func34 (by kernel_rfl) rfl #[.int .u64 (IntKind.u64.wrap (rd t125 x22_1))] rfl (by (try simp only [List.map_toArray,List.map_cons,List.map_nil]);first|done|rfl|(simp only [List.length_drop,List.length_take];rfl)) ?_;(with_reducible refine (num_PutVar.calls k1 (IntKind.u64.wrap (rd t125 x22_1)) t129 _ A20.out).mono ?_);rintro e w22 ⟨v130,rfl,ho0,hb⟩;refine ⟨_,rfl,?_⟩;have n0_:=Aside0.mk (Kd.R_elder' (R_up HO_3.out) (Kd.R_base ho0) hb);have n1_:=Aside0.mk (Kd.R_below (R_up HO_20.out) hb);have n2_:=Aside0.mk (Kd.V_elder' (V_up HO_116000.out) (Kd.R_base ho0) hb);have n3_:=Aside0.mk (Kd.R_lower (Kd.R_new' (Kd.R_newM (M:=fun k_=>(w.heap.size≤k_)) ho0 (below_size (below_go HB.out)) (fun k_ h_=>h_)) (Kd.R_lt (R_up HO_3.out))) (below_size (below_go HB.out)));have n4_:=Aside0.mk (blk_below (blk_up BK115.out) hb);have n5_:=Aside0.mk (below_step (below_go HB.out) hb);clear HO_3;clear HO_20;clear HO_116000;clear BK115;clear HB;have HO_3:=n0_;have HO_20:=n1_;have HO_116000:=n2_;have HO131:=n3_;have BK115:=n4_;have HB:=n5_;clear n0_ n1_ n2_ n3_ n4_ n5_;(try clear hb);(try clear hb2);(try clear hk);(try clear hi);(try clear ho0);obtain ⟨Ao24,co24,eo24⟩:=Kd.R_slice HO131.out;subst eo24)|((with_reducible refine gate_builtin (b:=.append) (xs:=#[.tmp 26,.tmp 29]) rfl ?_);at_builtin;refine Kd.R_append_rows (Kd.int .u8) (w0:=w) w.heap.size rfl (.tmp 26) (.tmp 29) 41 5 (.int .u8 0) 1 rfl Try.underlying41 info5 rfl (by decide) (by omega) u3 x3_1 t129 _ _ _ (fun k_=>(w.heap.size≤k_)∧some k_≠(.slice Ao24 t129.length co24 : Value).ownBlock) (fun _=>False) rfl rfl ?aO ?aR (fun _ _ h=>h) (fun _ h=>h.elim) ?aF ?aB ?aS ?aL ?_;(case aR=>repeat (first|exact (Kd.R_reads' HO131.out).2.2|(with_reducible refine Kd.C_alloc ?_ _)|(with_reducible refine Kd.C_drewN ?_ _)|(with_reducible refine Kd.C_drew ?_)));(case aB=>exact (below_go HB.out));(case aF=>exact (fun k_ hk=>⟨(Nat.le_trans (below_size (below_go HB.out)) hk),Kd.fresh' (Kd.R_lt (R_up HO131.out)) k_ hk⟩));(case aO=>exact (R_up HO_3.out));(case aS=>exact (below_size (below_go HB.out)));(case aL=>have:=LMc21.out;omega);intro v133 w23 ho hb hg hat;rw [← Ny132.out] at ho;have n0_:=Aside0.mk (Kd.R_over' (R_up HO_20.out) (Kd.R_typed (R_up HO_3.out)) (by decide) hg);have n1_:=Aside0.mk (Kd.V_afterv (ok:=(fun k_=>(P0_0_ k_ ∨ w.heap.size≤k_)∧some k_≠(.slice (some ad128) t125.length co16 : Value).ownBlock∧some k_≠(.slice Ao24 t129.length co24 : Value).ownBlock∧k_≠gb115)) (V_upm HO_116000.out (fun _ hk=>⟨⟨hk.1.1,⟨hk.1.2.2.1,⟨hk.2,hk.1.2.2.2⟩⟩⟩,hk.1.2.1⟩)) hg hat);have n2_:=Aside0.mk (blk_grown (blk_up BK115.out) hg (Kd.R_ne HO_3.out BK115.out (by decide)));have n3_:=Aside0.mk (Kd.R_after (ok:=(fun k_=>(w.heap.size≤k_))) (by (with_reducible repeat (first|apply Kd.R_alloc|apply Kd.R_drewN|apply Kd.R_drew));exact Kd.R_mono HO131.out (fun _ hk=>⟨hk.1.1,hk.2⟩)) hg hat);have n4_:=Aside0.mk (hb);have n5_:=Aside0.mk (ho);clear HO_20;clear HO_116000;clear BK115;clear HO131;clear HB;clear HO_3;have HO_20:=n0_;have HO_116000:=n1_;have BK115:=n2_;have HO131:=n3_;have HB:=n4_;have HO134:=n5_;clear n0_ n1_ n2_ n3_ n4_ n5_;clear ho hb hg hat))
       go_roundg k1
       case measure=>have:=HK1.out;omega
       case rel=>exact ⟨(y132),(wrap64 (x22_1 + 1)),(by first|rfl|(simp;done)|(simp [*];done)),(by first|exact H'|(subst_vars;exact H')),⟨by have:=HK1.out;omega⟩,⟨by (with_reducible repeat (first|apply Kd.R_alloc|apply Kd.R_drewN|apply Kd.R_drew));exact Kd.R_mono HO134.out (fun _ hk=>hk.1)⟩,⟨by (with_reducible repeat (first|apply Kd.R_alloc|apply Kd.R_drewN|apply Kd.R_drew));exact HO_20.out⟩,⟨by (with_reducible repeat (first|apply Kd.V_alloc|apply Kd.V_drewN|apply Kd.V_drew));exact Kd.V_mono HO_116000.out (fun _ hk=>⟨hk.1.1,⟨hk.2,⟨hk.1.2.1,hk.1.2.2.2⟩⟩⟩)⟩,⟨by (with_reducible repeat (first|refine blk_drewN ?_ _|refine blk_drew ?_|refine blk_alloc ?_ _));exact BK115.out⟩,⟨by repeat (first|(with_reducible first|exact HB.out|apply below_alloc|apply pw_below_drewN|apply below_drew1|refine below_set ?_ GE115.out)|exact HB.out)⟩⟩
      ·rw [if_neg c21] at H
       exact absurd H (by simp)
     ·rw [if_neg c19] at H
      exact absurd H (by simp)
    ·rw [if_neg c18] at H
     exact absurd H (by simp)
   ·rw [if_neg c17] at H
    have c17b0 : decide (x22_1 < (t125.length : Int))=false:=decide_eq_false c17
    clear c17
    obtain rfl:=Option.some.inj H
    go_wp2
    go_ret
    exact ⟨_,by first|rfl|(simp [errW_none,errW_some] <;> rfl)|(simp [*,errW_none,errW_some] <;> rfl),by (with_reducible repeat (first|apply Kd.R_alloc|apply Kd.R_drewN|apply Kd.R_drew));exact HO_3.out,by repeat (first|(with_reducible first|exact HB.out|apply below_alloc|apply pw_below_drewN|apply below_drew1|refine below_set ?_ GE115.out)|exact HB.out)⟩
def schema_within.f (a0 : Int) (a1 : Int) (a2 : Int) : Option (Bool):=if a0 ≥ a1 then (some (decide (a0≤a2))) else (some false)
set_option maxHeartbeats 8000000 in
set_option maxRecDepth 100000 in
theorem schema_within.calls (a0 : Int) (a1 : Int) (a2 : Int) (r : Bool) (w : World) (h : schema_within.f a0 a1 a2=some r) :
  Calls Try.prog 31 #[.int .i64 a0,.int .i64 a1,.int .i64 a2] w fun e w'=>e=.returned (.bool r)∧Drawn0 w w':=by
 have H : (if a0 ≥ a1 then (some (decide (a0≤a2))) else (some false))=some r:=h
 clear h
 by_cases c4 : a0 ≥ a1
 ·rw [if_pos c4] at H
  have c4b0 : decide (a1≤a0)=true:=decide_eq_true c4
  clear c4
  obtain rfl:=Option.some.inj H
  go_enter Try.func31,Try.ntmps31
  go_wp2
  go_ret
  exact ⟨by first|rfl|(simp;done)|(simp [*];done),by repeat (first|exact Drawn0.refl _|apply Drawn0.step)⟩
 ·rw [if_neg c4] at H
  have c4b0 : decide (a1≤a0)=false:=decide_eq_false c4
  clear c4
  obtain rfl:=Option.some.inj H
  go_enter Try.func31,Try.ntmps31
  go_wp2
  go_ret
  exact ⟨by first|rfl|(simp;done)|(simp [*];done),by repeat (first|exact Drawn0.refl _|apply Drawn0.step)⟩
end Go.Proofs.Ytkodpbellndelaa.P

