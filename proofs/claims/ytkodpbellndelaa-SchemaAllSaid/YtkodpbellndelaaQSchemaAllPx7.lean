/- Texts of SchemaAll. Merged: Px7. -/
import Derived.Test.YtkodpbellndelaaQSchemaAllPx0
import Derived.Test.YtkodpbellndelaaQSchemaAllPx6
import Derived.Test.YtkodpbellndelaaQSchemaAllHCheck
namespace Go.Proofs.Ytkodpbellndelaa.P
open Go.RowKit Go.Proofs.YtkodpbellndelaaW.PrintWords Go.Proofs.YtkodpbellndelaaW.PrintLast Go.Proofs.YtkodpbellndelaaW.PrintMore
attribute [local go_sem] max2_int min2_int max_two min_two max_three min_three max_four min_four   -- for this text's walks alone
set_option linter.unusedVariables false
set_option linter.unusedSimpArgs false
mutual
def schema_Take.l0 : Nat→List Int→List Int→Option (List Int × Int × Int × Int × Int)
 | 0,_,_=>none
 | k + 1,x0,x4=>if (x0.length : Int) > 0 then ((num_Var.f k x0).bind fun bt226=>(if bt226.2=0 then (some (([] : List Int),0,0,0,10)) else (if bt226.1 > 1048576 then (some (([] : List Int),0,0,0,10)) else (if x4.length < 17592186044416 then (if 0≤bt226.2 then (if bt226.2≤(x0.length : Int) then (schema_Take.l0 k (x0.drop (bt226.2 : Int).toNat) (x4 ++ [wrap64 (bt226.1)])) else (none)) else (none)) else (none))))) else (if (x4.length : Int) < 4 then (schema_Take.j1 k x4 true) else (if 0 < (x4.length : Int) then (schema_Take.j1 k x4 ((x4.length : Int) != (wrap64 ((rd x4 0) + 4)))) else (none)))
def schema_Take.j1 : Nat→List Int→Bool→Option (List Int × Int × Int × Int × Int)
 | 0,_,_=>none
 | k + 1,x4,x43=>if x43=true then (some (([] : List Int),0,0,0,10)) else (if 0 < (x4.length : Int) then (if 1≤(wrap64 ((rd x4 0) + 1)) then (if (wrap64 ((rd x4 0) + 1))≤(x4.length : Int) then ((some ((x4.take ((wrap64 ((rd x4 0) + 1)) : Int).toNat).drop 1 : List Int)).bind fun y238=>(if 0≤(wrap64 ((rd x4 0) + 1)) then (if (wrap64 ((rd x4 0) + 1)) < (x4.length : Int) then (if 0≤(wrap64 ((wrap64 ((rd x4 0) + 1)) + 1)) then (if (wrap64 ((wrap64 ((rd x4 0) + 1)) + 1)) < (x4.length : Int) then (if 0≤(wrap64 ((wrap64 ((rd x4 0) + 1)) + 2)) then (if (wrap64 ((wrap64 ((rd x4 0) + 1)) + 2)) < (x4.length : Int) then ((schema_Check.f y238 (rd x4 (wrap64 ((rd x4 0) + 1))) (rd x4 (wrap64 ((wrap64 ((rd x4 0) + 1)) + 1))) (rd x4 (wrap64 ((wrap64 ((rd x4 0) + 1)) + 2)))).bind fun t247=>(if t247=0 then (some (y238,rd x4 (wrap64 ((rd x4 0) + 1)),rd x4 (wrap64 ((wrap64 ((rd x4 0) + 1)) + 1)),rd x4 (wrap64 ((wrap64 ((rd x4 0) + 1)) + 2)),0)) else (some (([] : List Int),0,0,0,10)))) else (none)) else (none)) else (none)) else (none)) else (none)) else (none))) else (none)) else (none)) else (none))
end
def schema_Take.f (k : Nat) (l0 : List Int) : Option (List Int × Int × Int × Int × Int):=schema_Take.l0 k l0 ([] : List Int)
theorem schema_Take.mono_l : ∀ k,(∀ y0 y1,LeO (schema_Take.l0 k y0 y1) (schema_Take.l0 (k + 1) y0 y1))∧(∀ y0 y1,LeO (schema_Take.j1 k y0 y1) (schema_Take.j1 (k + 1) y0 y1))
 | 0=>⟨fun _ _ r h=>by simp [schema_Take.l0] at h,fun _ _ r h=>by simp [schema_Take.j1] at h⟩
 | k + 1=>by
  obtain ⟨ih0,ih1⟩:=schema_Take.mono_l k
  refine ⟨?_,?_⟩
  ·intro y0 y1
   unfold schema_Take.l0
   repeat' first
   | (with_reducible exact ih0 _ _)
   | (with_reducible exact ih1 _ _)
   | (with_reducible exact num_Var.mono _ _)
   | (with_reducible exact LeO.refl _)
   | (with_reducible exact LeO.none _)
   | (with_reducible refine LeO.ite ?_ ?_)
   | (with_reducible refine LeO.bind ?_ (fun _=>?_))
   | exact ih0 _ _
   | exact ih1 _ _
   | exact num_Var.mono _ _
   | exact LeO.none _
   | refine LeO.ite ?_ ?_
   | refine LeO.bind ?_ (fun _=>?_)
  ·intro y0 y1
   unfold schema_Take.j1
   repeat' first
   | (with_reducible exact ih0 _ _)
   | (with_reducible exact ih1 _ _)
   | (with_reducible exact num_Var.mono _ _)
   | (with_reducible exact LeO.refl _)
   | (with_reducible exact LeO.none _)
   | (with_reducible refine LeO.ite ?_ ?_)
   | (with_reducible refine LeO.bind ?_ (fun _=>?_))
   | exact ih0 _ _
   | exact ih1 _ _
   | exact num_Var.mono _ _
   | exact LeO.none _
   | refine LeO.ite ?_ ?_
   | refine LeO.bind ?_ (fun _=>?_)
theorem schema_Take.mono : ∀ a0 k,LeO (schema_Take.f k a0) (schema_Take.f (k + 1) a0):=by
 intro a0 k
 obtain ⟨ih0,ih1⟩:=schema_Take.mono_l k
 unfold schema_Take.f
 repeat' first
   | (with_reducible exact ih0 _ _)
   | (with_reducible exact ih1 _ _)
   | (with_reducible exact num_Var.mono _ _)
   | (with_reducible exact LeO.refl _)
   | (with_reducible exact LeO.none _)
   | (with_reducible refine LeO.ite ?_ ?_)
   | (with_reducible refine LeO.bind ?_ (fun _=>?_))
   | exact ih0 _ _
   | exact ih1 _ _
   | exact num_Var.mono _ _
   | exact LeO.none _
   | refine LeO.ite ?_ ?_
   | refine LeO.bind ?_ (fun _=>?_)
def schema_Take.T6 : Bool × List (List Nat × List Nat):=(true,[([],[]),([],[]),([1],[1]),([2],[2]),([0,3],[0,3]),([],[]),([],[]),([5,6],[5,6]),([4,4,0,1,2,3,4],[0,4]),([7,8,0,1,2,3,4,5,6,7,8],[5,7])])
def schema_Take.B6 : List Nat:=[0,0,2,6,15,0,0,96,31,511]
theorem schema_Take.tab6 : rtab .any (opsOf Try.f15 6)=schema_Take.T6:=by kernel_rfl
theorem schema_Take.bits6 : waitsOk schema_Take.T6.2 schema_Take.B6=true:=by kernel_rfl
def schema_Take.T10 : Bool × List (List Nat × List Nat):=(true,[([],[]),([],[]),([],[]),([0,1,2],[0,1,2]),([],[]),([],[]),([4,5],[4,5]),([6],[6]),([],[]),([],[]),([9],[9]),([8,10],[8,10]),([11],[11]),([],[]),([],[]),([14],[14]),([13,15],[13,15]),([16],[16]),([3,7,12,17],[3,7,12,17]),([],[]),([19,18,0,1,2,3,4,5,6,7,8,9,10,11,12,13,14,15,16,17,18,19],[18,19])])
def schema_Take.B10 : List Nat:=[0,0,0,7,0,0,48,112,0,0,512,1792,3840,0,0,16384,57344,122880,262143,0,1048575]
theorem schema_Take.tab10 : rtab .any (opsOf Try.f15 10)=schema_Take.T10:=by kernel_rfl
theorem schema_Take.bits10 : waitsOk schema_Take.T10.2 schema_Take.B10=true:=by kernel_rfl
set_option maxHeartbeats 8000000 in
set_option maxRecDepth 100000 in
theorem schema_Take.calls (k : Nat) (P0_ : Nat→Prop) (A0 : Option Addr) (c0 : Nat) (l0 : List Int) (r1 : List Int) (r2 : Int) (r3 : Int) (r4 : Int) (r5 : Int) (w : World) (hs0 : Kd.V (Kd.int .u8) 5 w w.heap.size (fun k_=>P0_ k_) (.slice A0 l0.length c0) l0) (h : schema_Take.f k l0=some (r1,r2,r3,r4,r5)) :
  Calls Try.prog 15 #[.slice A0 l0.length c0] w fun e w'=>∃ v0_ : Value,e=.returned (.tuple #[.agg #[v0_,.int .i64 r2,.int .i64 r3,.int .i64 r4],.int .i64 r5])∧Kd.V (Kd.int .i64) 3 w' w.heap.size (fun k_=>(P0_ k_ ∨ w.heap.size≤k_)) v0_ r1∧Below w.heap.size w w':=by
 have hu30:=Try.underlying30
 have HO0:=Aside0.mk (show Kd.V (Kd.int .u8) 5 w w.heap.size (fun k_=>(P0_ k_ ∨ w.heap.size≤k_)) (.slice A0 l0.length c0) l0 from Kd.V_mono hs0 (fun k_ hk=>.inl hk))
 have HB:=Aside0.mk (Below.refl w.heap.size w)
 have H : (schema_Take.l0 k l0 ([] : List Int))=some (r1,r2,r3,r4,r5):=h
 clear h
 have H':=Aside0.mk H
 clear H
 go_enter Try.func15,Try.ntmps15
 go_wp2_with (first|((with_reducible refine gate_dst (N:=2) rfl ?_);(try (refine gate_guard (by rfl) ?_;dsimp only));refine box_event ?hg (N:=2) ?hd (cs:=#[.slice none 0 0,.int .i64 0,.int .i64 0,.int .i64 0]) (t:=30) ?hr ?_;(case hd=>rfl);(case hg=>rfl);(case hr=>first|(go_simp;done)|(go_simp;rfl));intro gb225 hg w2 hbox hb;have n0_:=Aside0.mk (Kd.V_below (Kd.V_elderB (V_up HO0.out) gb225 (Nat.le_of_eq hg.symm)) hb);have n1_:=Aside0.mk (below_step (below_up HB.out) hb);have n2_:=Aside0.mk (hbox);have n3_:=Aside0.mk ((by rw [hg];exact (below_size (below_up HB.out)) : w.heap.size≤gb225));have n4_:=Aside0.mk ((by rw [hg];exact (below_size (below_up HB.out)) : w.heap.size≤gb225));clear HO0;clear HB;have HO0:=n0_;have HB:=n1_;have BK225:=n2_;have GW225:=n3_;have GE225:=n4_;clear n0_ n1_ n2_ n3_ n4_;clear hb hbox hg))
 go_loopg [0,4] k (fun kq v0 v4 w'=>∃ (x0_1 : List Int) (x4_1 : List Int) (x226001_1 : Int) (x226002_1 : Int) (x226003_1 : Int),Aside0 (schema_Take.l0 kq x0_1 x4_1=some (r1,r2,r3,r4,r5))∧Aside0 (kq≤k)∧Aside0 (Kd.V (Kd.int .u8) 5 w' w.heap.size (fun k_=>(P0_ k_ ∨ w.heap.size≤k_)∧some k_≠(v4 : Value).ownBlock∧k_≠gb225) v0 x0_1)∧Aside0 (Kd.R (Kd.int .i64) 3 w' w.heap.size (fun k_=>(w.heap.size≤k_)) v4 x4_1)∧Aside0 (w'.heap[gb225]?=some (.cells #[(.slice none 0 0),.int .i64 x226001_1,.int .i64 x226002_1,.int .i64 x226003_1] 30 (0,0)))∧Aside0 (Below w.heap.size w w'))
 case atStart=>exact ⟨(l0),(([] : List Int)),(0),(0),(0),H',⟨Nat.le_refl _⟩,⟨by (with_reducible repeat (first|apply Kd.V_alloc|apply Kd.V_drewN|apply Kd.V_drew));exact Kd.V_mono HO0.out (fun _ hk=>⟨hk.1,⟨(by simp [Value.ownBlock]),hk.2⟩⟩)⟩,⟨by first|exact Kd.R_nil _ _ _ _ _|exact Kd.N_nil _ _ _ _ _|exact Kd.V_nil _ _ _ _ _|exact Kd.Q_nil _ _ _ _ _|exact Kd.S_nil _ _ _ _ _⟩,⟨by (with_reducible repeat (first|refine blk_drewN ?_ _|refine blk_drew ?_|refine blk_alloc ?_ _));exact BK225.out⟩,⟨by repeat (first|(with_reducible first|exact HB.out|apply below_alloc|apply pw_below_drewN|apply below_drew1|refine below_set ?_ GE225.out)|exact HB.out)⟩⟩
 case round =>
  clear H'
  try clear c1
  try clear p2
  obtain ⟨x0_1,x4_1,x226001_1,x226002_1,x226003_1,HA,HK1,HO_0,HO_4,BK225,HB⟩:=hrel
  cases gk with
  | zero=>exact absurd HA.out (by simp [schema_Take.l0])
  | succ k1 =>
   have H:=HA.out
   clear HA
   simp only [schema_Take.l0] at H
   by_cases c3 : (x0_1.length : Int) > 0
   ·rw [if_pos c3] at H
    have c3b0 : decide (0 < (x0_1.length : Int))=true:=decide_eq_true c3
    have c3b1 : decide (0 < x0_1.length)=true:=decide_eq_true (by omega)
    clear c3
    replace H:=Option.bind_eq_some_iff.mp H
    obtain ⟨⟨t226,t227⟩,A40,H⟩:=H
    replace H : (if t227=0 then (some (([] : List Int),0,0,0,10)) else (if t226 > 1048576 then (some (([] : List Int),0,0,0,10)) else (if x4_1.length < 17592186044416 then (if 0≤t227 then (if t227≤(x0_1.length : Int) then (schema_Take.l0 k1 (x0_1.drop (t227 : Int).toNat) (x4_1 ++ [wrap64 (t226)])) else (none)) else (none)) else (none))))=some (r1,r2,r3,r4,r5):=H
    have A4:=Aside0.mk A40
    clear A40
    by_cases c5 : t227=0
    ·rw [if_pos c5] at H
     have c5b0 : (t227 == 0)=true:=beq_iff_eq.mpr c5
     have c5b1 : (t227 != 0)=false:=bne_eq_false_iff_eq.mpr c5
     clear c5
     simp only [Option.some.injEq,Prod.mk.injEq] at H
     obtain ⟨rfl,rfl,rfl,rfl,rfl⟩:=H
     obtain ⟨Ao6,co6,eo6⟩:=Kd.V_slice HO_0.out
     subst eo6
     go_wp2_with (first|((with_reducible refine gate_callee (f:=35) rfl ?_);refine goesL_ (some 14) rfl rfl Try.func35 (by kernel_rfl) rfl #[.slice Ao6 x0_1.length co6] rfl (by (try simp only [List.map_toArray,List.map_cons,List.map_nil]);first|done|rfl|(simp only [List.length_drop,List.length_take];rfl)) ?_;(with_reducible refine (num_Var.calls k1 _ _ x0_1 t226 t227 _ ?side1 ?side2 A4.out).mono ?_);(case side1=>repeat (first|exact (Kd.V_reads' HO_0.out).2.2|(with_reducible refine Kd.C_alloc ?_ _)|(with_reducible refine Kd.C_drewN ?_ _)|(with_reducible refine Kd.C_drew ?_)));(case side2=>exact (Kd.V_reads' HO_0.out).2.1);rintro e w' ⟨rfl,⟨nd,rfl⟩⟩;refine ⟨_,rfl,?_⟩;(try (rw [drewN_self wr];generalize hq_ : World.drewN wr _=wr;have n0_ : Aside0 (Kd.V (Kd.int .u8) 5 wr w.heap.size (fun k_=>(P0_ k_ ∨ w.heap.size≤k_)∧some k_≠(u4 : Value).ownBlock∧k_≠gb225) (.slice Ao6 x0_1.length co6) x0_1):=⟨by rw [← hq_];exact (V_up HO_0.out)⟩;have n1_ : Aside0 (Kd.R (Kd.int .i64) 3 wr w.heap.size (fun k_=>(w.heap.size≤k_)) u4 x4_1):=⟨by rw [← hq_];exact (R_up HO_4.out)⟩;have n2_ : Aside0 (wr.heap[gb225]?=some (.cells #[.slice none 0 0,.int .i64 x226001_1,.int .i64 x226002_1,.int .i64 x226003_1] 30 (0,0))):=⟨by rw [← hq_];exact (blk_up BK225.out)⟩;have n3_ : Aside0 (Below w.heap.size w wr):=⟨by rw [← hq_];exact (below_go HB.out)⟩;clear HO_0 HO_4 BK225 HB hq_;have HO_0:=n0_;have HO_4:=n1_;have BK225:=n2_;have HB:=n3_;clear n0_ n1_ n2_ n3_));have hcz7_0 : wr.cell? ⟨gb225,0,none⟩=some (.slice none 0 0):=(blk_cell BK225.out 0).trans rfl;have hcz7_1 : wr.cell? ⟨gb225,1,none⟩=some (.int .i64 x226001_1):=(blk_cell BK225.out 1).trans rfl;have hcz7_2 : wr.cell? ⟨gb225,2,none⟩=some (.int .i64 x226002_1):=(blk_cell BK225.out 2).trans rfl;have hcz7_3 : wr.cell? ⟨gb225,3,none⟩=some (.int .i64 x226003_1):=(blk_cell BK225.out 3).trans rfl;have hfz7_0:=blk_frozen BK225.out 0;have hfz7_1:=blk_frozen BK225.out 1;have hfz7_2:=blk_frozen BK225.out 2;have hfz7_3:=blk_frozen BK225.out 3))
     refine bodyPost_ret (results_ct rfl _ _ gb225 30 #[.slice none 0 0,.int .i64 0,.int .i64 0,.int .i64 0] (0,0) _ rfl (by (with_reducible repeat (first|refine blk_drewN ?_ _|refine blk_drew ?_|refine blk_alloc ?_ _));refine blk_put (cs:=#[.slice none 0 0,.int .i64 0,.int .i64 0,.int .i64 x226003_1]) ?_ 3 _ rfl;(with_reducible repeat (first|refine blk_drewN ?_ _|refine blk_drew ?_|refine blk_alloc ?_ _));refine blk_put (cs:=#[.slice none 0 0,.int .i64 0,.int .i64 x226002_1,.int .i64 x226003_1]) ?_ 2 _ rfl;(with_reducible repeat (first|refine blk_drewN ?_ _|refine blk_drew ?_|refine blk_alloc ?_ _));refine blk_put (cs:=#[.slice none 0 0,.int .i64 x226001_1,.int .i64 x226002_1,.int .i64 x226003_1]) ?_ 1 _ rfl;(with_reducible repeat (first|refine blk_drewN ?_ _|refine blk_drew ?_|refine blk_alloc ?_ _));refine blk_put (cs:=#[.slice none 0 0,.int .i64 x226001_1,.int .i64 x226002_1,.int .i64 x226003_1]) ?_ 0 _ rfl;(with_reducible repeat (first|refine blk_drewN ?_ _|refine blk_drew ?_|refine blk_alloc ?_ _));exact BK225.out) Try.underlying30 rfl (by kernel_rfl)) rfl ?_
     exact ⟨_,by first|rfl|(simp [errW_none,errW_some] <;> rfl)|(simp [*,errW_none,errW_some] <;> rfl),Kd.V_nil _ _ _ _ _,by repeat (first|(with_reducible first|exact HB.out|apply below_alloc|apply pw_below_drewN|apply below_drew1|refine below_set ?_ GE225.out)|exact HB.out)⟩
    ·rw [if_neg c5] at H
     have c5b0 : (t227 == 0)=false:=beq_eq_false_iff_ne.mpr c5
     have c5b1 : (t227 != 0)=true:=bne_iff_ne.mpr c5
     by_cases c8 : t226 > 1048576
     ·rw [if_pos c8] at H
      have c8b0 : decide (1048576 < t226)=true:=decide_eq_true c8
      clear c8
      simp only [Option.some.injEq,Prod.mk.injEq] at H
      obtain ⟨rfl,rfl,rfl,rfl,rfl⟩:=H
      obtain ⟨Ao9,co9,eo9⟩:=Kd.V_slice HO_0.out
      subst eo9
      go_wp2_with (first|((with_reducible refine gate_callee (f:=35) rfl ?_);refine goesL_ (some 14) rfl rfl Try.func35 (by kernel_rfl) rfl #[.slice Ao9 x0_1.length co9] rfl (by (try simp only [List.map_toArray,List.map_cons,List.map_nil]);first|done|rfl|(simp only [List.length_drop,List.length_take];rfl)) ?_;(with_reducible refine (num_Var.calls k1 _ _ x0_1 t226 t227 _ ?side1 ?side2 A4.out).mono ?_);(case side1=>repeat (first|exact (Kd.V_reads' HO_0.out).2.2|(with_reducible refine Kd.C_alloc ?_ _)|(with_reducible refine Kd.C_drewN ?_ _)|(with_reducible refine Kd.C_drew ?_)));(case side2=>exact (Kd.V_reads' HO_0.out).2.1);rintro e w' ⟨rfl,⟨nd,rfl⟩⟩;refine ⟨_,rfl,?_⟩;(try (rw [drewN_self wr];generalize hq_ : World.drewN wr _=wr;have n0_ : Aside0 (Kd.V (Kd.int .u8) 5 wr w.heap.size (fun k_=>(P0_ k_ ∨ w.heap.size≤k_)∧some k_≠(u4 : Value).ownBlock∧k_≠gb225) (.slice Ao9 x0_1.length co9) x0_1):=⟨by rw [← hq_];exact (V_up HO_0.out)⟩;have n1_ : Aside0 (Kd.R (Kd.int .i64) 3 wr w.heap.size (fun k_=>(w.heap.size≤k_)) u4 x4_1):=⟨by rw [← hq_];exact (R_up HO_4.out)⟩;have n2_ : Aside0 (wr.heap[gb225]?=some (.cells #[.slice none 0 0,.int .i64 x226001_1,.int .i64 x226002_1,.int .i64 x226003_1] 30 (0,0))):=⟨by rw [← hq_];exact (blk_up BK225.out)⟩;have n3_ : Aside0 (Below w.heap.size w wr):=⟨by rw [← hq_];exact (below_go HB.out)⟩;clear HO_0 HO_4 BK225 HB hq_;have HO_0:=n0_;have HO_4:=n1_;have BK225:=n2_;have HB:=n3_;clear n0_ n1_ n2_ n3_));have hcz10_0 : wr.cell? ⟨gb225,0,none⟩=some (.slice none 0 0):=(blk_cell BK225.out 0).trans rfl;have hcz10_1 : wr.cell? ⟨gb225,1,none⟩=some (.int .i64 x226001_1):=(blk_cell BK225.out 1).trans rfl;have hcz10_2 : wr.cell? ⟨gb225,2,none⟩=some (.int .i64 x226002_1):=(blk_cell BK225.out 2).trans rfl;have hcz10_3 : wr.cell? ⟨gb225,3,none⟩=some (.int .i64 x226003_1):=(blk_cell BK225.out 3).trans rfl;have hfz10_0:=blk_frozen BK225.out 0;have hfz10_1:=blk_frozen BK225.out 1;have hfz10_2:=blk_frozen BK225.out 2;have hfz10_3:=blk_frozen BK225.out 3))
      refine bodyPost_ret (results_ct rfl _ _ gb225 30 #[.slice none 0 0,.int .i64 0,.int .i64 0,.int .i64 0] (0,0) _ rfl (by (with_reducible repeat (first|refine blk_drewN ?_ _|refine blk_drew ?_|refine blk_alloc ?_ _));refine blk_put (cs:=#[.slice none 0 0,.int .i64 0,.int .i64 0,.int .i64 x226003_1]) ?_ 3 _ rfl;(with_reducible repeat (first|refine blk_drewN ?_ _|refine blk_drew ?_|refine blk_alloc ?_ _));refine blk_put (cs:=#[.slice none 0 0,.int .i64 0,.int .i64 x226002_1,.int .i64 x226003_1]) ?_ 2 _ rfl;(with_reducible repeat (first|refine blk_drewN ?_ _|refine blk_drew ?_|refine blk_alloc ?_ _));refine blk_put (cs:=#[.slice none 0 0,.int .i64 x226001_1,.int .i64 x226002_1,.int .i64 x226003_1]) ?_ 1 _ rfl;(with_reducible repeat (first|refine blk_drewN ?_ _|refine blk_drew ?_|refine blk_alloc ?_ _));refine blk_put (cs:=#[.slice none 0 0,.int .i64 x226001_1,.int .i64 x226002_1,.int .i64 x226003_1]) ?_ 0 _ rfl;(with_reducible repeat (first|refine blk_drewN ?_ _|refine blk_drew ?_|refine blk_alloc ?_ _));exact BK225.out) Try.underlying30 rfl (by kernel_rfl)) rfl ?_
      exact ⟨_,by first|rfl|(simp [errW_none,errW_some] <;> rfl)|(simp [*,errW_none,errW_some] <;> rfl),Kd.V_nil _ _ _ _ _,by repeat (first|(with_reducible first|exact HB.out|apply below_alloc|apply pw_below_drewN|apply below_drew1|refine below_set ?_ GE225.out)|exact HB.out)⟩
     ·rw [if_neg c8] at H
      have c8b0 : decide (1048576 < t226)=false:=decide_eq_false c8
      clear c8
      by_cases c11 : x4_1.length < 17592186044416
      ·rw [if_pos c11] at H
       have LMc11:=Aside0.mk c11
       clear c11
       obtain ⟨y228,hy228⟩ : ∃ y_ : List Int,y_=(x4_1 ++ [wrap64 (t226)]):=⟨_,rfl⟩
       replace H : (if 0≤t227 then (if t227≤(x0_1.length : Int) then (schema_Take.l0 k1 (x0_1.drop (t227 : Int).toNat) y228) else (none)) else (none))=some (r1,r2,r3,r4,r5):=by first|(rw [hy228];with_reducible exact H)|(have H2_:=(Option.bind_some _ _).symm.trans H;rw [hy228];with_reducible exact H2_)|(have H2_:=(Option.bind_some _ _).symm.trans H;with_reducible exact H2_)|with_reducible exact H|(rw [hy228];exact H)|exact H
       have Ny228:=Aside0.mk hy228
       clear hy228
       by_cases c12 : 0≤t227
       ·rw [if_pos c12] at H
        have c12b0:=eq_true c12
        have c12b1 : decide (0≤t227)=true:=decide_eq_true c12
        clear c12
        by_cases c13 : t227≤(x0_1.length : Int)
        ·rw [if_pos c13] at H
         have c13b0:=eq_true c13
         have c13b1 : decide (t227≤(x0_1.length : Int))=true:=decide_eq_true c13
         clear c13
         obtain ⟨y231,hy231⟩ : ∃ y_ : List Int,y_=(x0_1.drop (t227 : Int).toNat):=⟨_,rfl⟩
         replace H : (schema_Take.l0 k1 y231 y228)=some (r1,r2,r3,r4,r5):=by first|(rw [hy231];with_reducible exact H)|(have H2_:=(Option.bind_some _ _).symm.trans H;rw [hy231];with_reducible exact H2_)|(have H2_:=(Option.bind_some _ _).symm.trans H;with_reducible exact H2_)|with_reducible exact H|(rw [hy231];exact H)|exact H
         have Ny231:=Aside0.mk hy231
         clear hy231
         have H':=Aside0.mk H
         clear H
         obtain ⟨Ao14,co14,eo14⟩:=Kd.V_slice HO_0.out
         subst eo14
         try go_wp2_with (first|((with_reducible refine gate_callee (f:=35) rfl ?_);refine goesL_ (some 14) rfl rfl Try.func35 (by kernel_rfl) rfl #[.slice Ao14 x0_1.length co14] rfl (by (try simp only [List.map_toArray,List.map_cons,List.map_nil]);first|done|rfl|(simp only [List.length_drop,List.length_take];rfl)) ?_;(with_reducible refine (num_Var.calls k1 _ _ x0_1 t226 t227 _ ?side1 ?side2 A4.out).mono ?_);(case side1=>repeat (first|exact (Kd.V_reads' HO_0.out).2.2|(with_reducible refine Kd.C_alloc ?_ _)|(with_reducible refine Kd.C_drewN ?_ _)|(with_reducible refine Kd.C_drew ?_)));(case side2=>exact (Kd.V_reads' HO_0.out).2.1);rintro e w' ⟨rfl,⟨nd,rfl⟩⟩;refine ⟨_,rfl,?_⟩))
         (try (rw [drewN_self wr];generalize hq_ : World.drewN wr _=wr;have n0_ : Aside0 (Kd.V (Kd.int .u8) 5 wr w.heap.size (fun k_=>(P0_ k_ ∨ w.heap.size≤k_)∧some k_≠(u4 : Value).ownBlock∧k_≠gb225) (.slice Ao14 x0_1.length co14) x0_1):=⟨by rw [← hq_];exact (V_up HO_0.out)⟩;have n1_ : Aside0 (Kd.R (Kd.int .i64) 3 wr w.heap.size (fun k_=>(w.heap.size≤k_)) u4 x4_1):=⟨by rw [← hq_];exact (R_up HO_4.out)⟩;have n2_ : Aside0 (wr.heap[gb225]?=some (.cells #[.slice none 0 0,.int .i64 x226001_1,.int .i64 x226002_1,.int .i64 x226003_1] 30 (0,0))):=⟨by rw [← hq_];exact (blk_up BK225.out)⟩;have n3_ : Aside0 (Below w.heap.size w wr):=⟨by rw [← hq_];exact (below_go HB.out)⟩;clear HO_0 HO_4 BK225 HB hq_;have HO_0:=n0_;have HO_4:=n1_;have BK225:=n2_;have HB:=n3_;clear n0_ n1_ n2_ n3_))
         have n0_:=Aside0.mk (Kd.V_drew HO_0.out)
         have n1_:=Aside0.mk (Kd.R_drew HO_4.out)
         have n2_:=Aside0.mk (blk_drew BK225.out)
         have n3_:=Aside0.mk (below_drew1 HB.out)
         clear HO_0
         clear HO_4
         clear BK225
         clear HB
         have HO_0:=n0_
         have HO_4:=n1_
         have BK225:=n2_
         have HB:=n3_
         clear n0_ n1_ n2_ n3_
         have q16 : (t227 : Int)≤((x0_1.length : Int) : Int):=of_decide_eq_true (by first|(with_reducible assumption)|assumption)
         obtain ⟨i016,hi016,_,hsz16,_⟩:=info_parts info5
         have hroom16 : x0_1.length≤co14:=(Kd.V_reads' HO_0.out).2.1
         have hC16 : Kd.F (Kd.int .u8) _ _ Ao14 x0_1.length x0_1:=(Kd.V_at (base:=w.heap.size) HO_0.out).2.2
         have q016 : (0 : Int)≤(t227 : Int):=of_decide_eq_true (by first|(with_reducible assumption)|assumption)
         have hcut16:=cut_from (P:=Try.prog) 41 5 .i64 Try.underlying41 hi016 1 hsz16 Ao14 x0_1.length co14 t227 q016 q16
         have hr16:=Kd.F_cut (m:=(t227 : Int).toNat) (c:=co14) hC16 (by omega) hroom16
         obtain ⟨A16,hA16⟩ : ∃ Z_,Z_=(if co14=(t227 : Int).toNat then Ao14 else (Ao14 : Option Addr).map (·.add ((t227 : Int).toNat * 1))):=⟨_,rfl⟩
         obtain ⟨c16,hc16⟩ : ∃ z_,z_=co14 - (t227 : Int).toNat:=⟨_,rfl⟩
         have hy16 : y231.length=x0_1.length - (t227 : Int).toNat:=(by rw [Ny231.out,List.length_drop] <;> omega)
         rw [show (x0_1).drop (t227 : Int).toNat=y231 from Ny231.out.symm] at hr16
         replace hr16 : Kd.F (Kd.int .u8) _ _ A16 y231.length y231:=(by rw [hA16];exact hr16)
         rw [← hy16,← hA16,← hc16] at hcut16
         have HO235:=Aside0.mk (show Kd.V (Kd.int .u8) 5 _ w.heap.size _ (.slice A16 y231.length c16) y231 from Kd.V_mk (by rw [hy16,hc16];exact Nat.sub_le_sub_right hroom16 _) hr16)
         have HC235:=Aside0.mk (show y231.length≤c16 from by rw [hy16,hc16];exact Nat.sub_le_sub_right hroom16 _)
         clear hr16 hC16 hroom16 hi016 hsz16 hc16
         have KY16:=Aside0.mk hy16
         have KA16:=Aside0.mk hA16
         clear hy16 hA16
         replace q16:=eq_true q16
         refine start_ (n:=10) (S:=fun w'=>True) (ds:=[]) #[false,false,false,false,false,false,false,false,false,false] (by kernel_rfl) rfl rfl trivial (fun hHeld=>?_);refine with_tabW schema_Take.tab6 schema_Take.bits6 (fun HT_ HW_=>?_)
         generalize wr.drew=w15 at HO_0 HO_4 BK225 HB HO235 hHeld ⊢
         refine pure_ (i:=0) (N:=some 24) (v:=?_) (a':=?_) #[true,false,false,false,false,false,false,false,false,false] rfl rfl (any_of HT_.out (by kernel_rfl)) (fun _ _ _ h=>h) (Or.inl ⟨by rfl,?_⟩) ?_ ?_
         rotate_left;(intro w';go_simp;with_reducible rfl);rotate_left;(simp only [Act.put,List.setIfInBounds_toArray,List.set_cons_zero,List.set_cons_succ,i64_w,i32_w];rfl)
         refine pure_ (i:=1) (N:=some 25) (v:=?_) (a':=?_) #[true,true,false,false,false,false,false,false,false,false] rfl rfl (any_of HT_.out (by kernel_rfl)) (fun _ _ _ h=>h) (Or.inl ⟨by rfl,?_⟩) ?_ ?_
         rotate_left;(intro w';go_simp;with_reducible rfl);rotate_left;(simp only [Act.put,List.setIfInBounds_toArray,List.set_cons_zero,List.set_cons_succ,i64_w,i32_w];rfl)
         refine pure_ (i:=2) (N:=some 26) (v:=?_) (a':=?_) #[true,true,true,false,false,false,false,false,false,false] rfl rfl (any_of HT_.out (by kernel_rfl)) (fun _ _ _ h=>h) (Or.inl ⟨by rfl,?_⟩) ?_ ?_
         rotate_left;(intro w';go_simp;with_reducible rfl);rotate_left;(simp only [Act.put,List.setIfInBounds_toArray,List.set_cons_zero,List.set_cons_succ,i64_w,i32_w];rfl)
         refine pure_ (i:=5) (N:=some 29) (v:=?_) (a':=?_) #[true,true,true,false,false,true,false,false,false,false] rfl rfl (any_of HT_.out (by kernel_rfl)) (fun _ _ _ h=>h) (Or.inl ⟨by rfl,?_⟩) ?_ ?_
         rotate_left;(intro w';go_simp;with_reducible rfl);rotate_left;(simp only [Act.put,List.setIfInBounds_toArray,List.set_cons_zero,List.set_cons_succ,i64_w,i32_w];rfl)
         refine pure_ (i:=6) (N:=some 30) (v:=?_) (a':=?_) #[true,true,true,false,false,true,true,false,false,false] rfl rfl (any_of HT_.out (by kernel_rfl)) (fun _ _ _ h=>h) (Or.inl ⟨by rfl,?_⟩) ?_ ?_
         rotate_left;(intro w';go_simp;with_reducible rfl);rotate_left;(simp only [Act.put,List.setIfInBounds_toArray,List.set_cons_zero,List.set_cons_succ,i64_w,i32_w];rfl)
         refine pure_ (i:=7) (N:=some 31) (v:=?_) (a':=?_) #[true,true,true,false,false,true,true,true,false,false] rfl rfl (any_of HT_.out (by kernel_rfl)) (fun _ _ _ h=>h) (Or.inl ⟨by rfl,?_⟩) ?_ ?_
         rotate_left;(intro w';go_simp;with_reducible rfl);rotate_left;(simp only [Act.put,List.setIfInBounds_toArray,List.set_cons_zero,List.set_cons_succ,i64_w,i32_w];rfl)
         refine one_ (i:=3) (N:=some 27) #[true,true,true,true,false,true,true,true,false,false] rfl rfl (one_of HT_.out (by kernel_rfl)) (by decide) (fun K hK=>?_)
         refine value_ (w1:=?_) (v:=?_) (by rfl) rfl ?_ ?_
         rotate_left 2
         ·go_simp
          constructor
          ·rfl
          ·rfl
         refine hK.out _ _ trivial (fun hHeld=>?_)
         clear hK K
         refine norm_ (a':=?_) ?_ ?_
         rotate_left
         ·show Act.put _ (some 27) _=_
          simp only [Act.put,List.setIfInBounds_toArray,List.set_cons_zero,List.set_cons_succ,i64_w,i32_w]
          rfl
         refine one_ (i:=4) (N:=some 28) #[true,true,true,true,true,true,true,true,false,false] rfl rfl (one_of HT_.out (by kernel_rfl)) (by decide) (fun K hK=>?_)
         refine Kd.R_append_step (Kd.int .i64) (w0:=w) w.heap.size (by rfl) (.tmp 24) (.tmp 27) 28 3 (.int .i64 0) 8 rfl Try.underlying28 info3 rfl (by decide) (by omega) u4 x4_1 (wrap64 (t226)) [.int .i64 (wrap64 (t226))] (fun k_=>(w.heap.size≤k_)) (fun _=>False) rfl rfl ?aP (fun _ hk=>hk.elim) ?aF ?aO ?aB ?aS ?aL ?_
         (case aP=>exact rfl)
         (case aB=>exact (below_go HB.out))
         (case aF=>exact (fun k_ hk=>(Nat.le_trans (below_size (below_go HB.out)) hk)))
         (case aO=>exact (R_up HO_4.out))
         (case aS=>exact (below_size (below_go HB.out)))
         (case aL=>have:=LMc11.out;omega)
         intro v229 w17 ho hb hg hat
         rw [← Ny228.out] at ho
         have n0_:=Aside0.mk (Kd.V_afterv (ok:=(fun k_=>(P0_ k_ ∨ w.heap.size≤k_)∧k_≠gb225)) (V_upm HO_0.out (fun _ hk=>⟨⟨hk.1,hk.2.2⟩,hk.2.1⟩)) hg hat)
         have n1_:=Aside0.mk (blk_grown (blk_up BK225.out) hg (Kd.R_ne HO_4.out BK225.out (by decide)))
         have n2_:=Aside0.mk (Kd.V_afterv (ok:=(fun k_=>(P0_ k_ ∨ w.heap.size≤k_)∧k_≠gb225)) (V_upm HO235.out (fun _ hk=>⟨⟨hk.1,hk.2.2⟩,hk.2.1⟩)) hg hat)
         have n3_:=Aside0.mk (hb)
         have n4_:=Aside0.mk (ho)
         clear HO_0
         clear BK225
         clear HO235
         clear HB
         clear HO_4
         have HO_0:=n0_
         have BK225:=n1_
         have HO235:=n2_
         have HB:=n3_
         have HO230:=n4_
         clear n0_ n1_ n2_ n3_ n4_
         clear ho hb hg hat
         refine hK.out _ _ trivial (fun hHeld=>?_)
         clear hK K
         refine norm_ (a':=?_) ?_ ?_
         rotate_left
         ·show Act.put _ (some 28) _=_
          simp only [Act.put,List.setIfInBounds_toArray,List.set_cons_zero,List.set_cons_succ,i64_w,i32_w]
          rfl
         refine pure_ (i:=8) (N:=some 4) (v:=?_) (a':=?_) #[true,true,true,true,true,true,true,true,true,false] rfl rfl (any_of HT_.out (by kernel_rfl)) (fun _ _ _ h=>h) (Or.inl ⟨by rfl,?_⟩) ?_ ?_
         rotate_left;(intro w';go_simp;with_reducible rfl);rotate_left;(simp only [Act.put,List.setIfInBounds_toArray,List.set_cons_zero,List.set_cons_succ,i64_w,i32_w];rfl)
         refine pure_ (i:=9) (N:=some 0) (v:=?_) (a':=?_) #[true,true,true,true,true,true,true,true,true,true] rfl rfl (any_of HT_.out (by kernel_rfl)) (fun _ _ _ h=>h) (Or.inl ⟨by rfl,?_⟩) ?_ ?_
         rotate_left;(intro w';go_simp;with_reducible rfl);rotate_left;(simp only [Act.put,List.setIfInBounds_toArray,List.set_cons_zero,List.set_cons_succ,i64_w,i32_w];rfl)
         refine done_ (done_of HT_.out (by kernel_rfl)) ?_
         (try clear hHeld)
         try go_wp2
         go_roundg k1
         case measure=>have:=HK1.out;omega
         case rel=>exact ⟨(y231),(y228),(x226001_1),(x226002_1),(x226003_1),(by first|exact H'|(subst_vars;exact H')),⟨by have:=HK1.out;omega⟩,⟨by (with_reducible repeat (first|apply Kd.V_alloc|apply Kd.V_drewN|apply Kd.V_drew));exact Kd.V_mono HO235.out (fun _ hk=>⟨hk.1.1,⟨hk.2,hk.1.2⟩⟩)⟩,⟨by (with_reducible repeat (first|apply Kd.R_alloc|apply Kd.R_drewN|apply Kd.R_drew));exact HO230.out⟩,⟨by (with_reducible repeat (first|refine blk_drewN ?_ _|refine blk_drew ?_|refine blk_alloc ?_ _));exact BK225.out⟩,⟨by repeat (first|(with_reducible first|exact HB.out|apply below_alloc|apply pw_below_drewN|apply below_drew1|refine below_set ?_ GE225.out)|exact HB.out)⟩⟩
        ·rw [if_neg c13] at H
         exact absurd H (by simp)
       ·rw [if_neg c12] at H
        exact absurd H (by simp)
      ·rw [if_neg c11] at H
       exact absurd H (by simp)
   ·rw [if_neg c3] at H
    have c3b0 : decide (0 < (x0_1.length : Int))=false:=decide_eq_false c3
    have c3b1 : decide (0 < x0_1.length)=false:=decide_eq_false (by omega)
    clear c3
    have HC18:=Aside0.mk H
    clear H
    obtain ⟨Ao19,co19,eo19⟩:=Kd.V_slice HO_0.out
    subst eo19
    go_upto_region 7 with (fail)
    go_cut [43] (fun v43 wc=>∃ (kq : Nat) (x43_17 : Bool),v43=.bool x43_17∧Aside0 (schema_Take.j1 kq x4_1 x43_17=some (r1,r2,r3,r4,r5))∧Aside0 (kq≤k1)∧Aside0 (Kd.R (Kd.int .i64) 3 wc w.heap.size (fun k_=>(w.heap.size≤k_)) u4 x4_1)∧Aside0 (wc.heap[gb225]?=some (.cells #[(.slice none 0 0),.int .i64 x226001_1,.int .i64 x226002_1,.int .i64 x226003_1] 30 (0,0)))∧Aside0 (Below w.heap.size w wc))
    case first =>
     have H:=HC18.out
     clear HC18
     by_cases c20 : (x4_1.length : Int) < 4
     ·rw [if_pos c20] at H
      have c20b0 : decide ((x4_1.length : Int) < 4)=true:=decide_eq_true c20
      have c20b1 : decide (x4_1.length < 4)=true:=decide_eq_true (by omega)
      clear c20
      (first|rw [c20b0]|(simp only [i64_w,i32_w];rw [c20b0])|skip)
      have H':=Aside0.mk H
      clear H
      obtain ⟨Ao21,co21,eo21⟩:=Kd.R_slice HO_4.out
      subst eo21
      go_wp2
      go_meet
      case rel=>exact ⟨_,(true),(by first|rfl|(simp;done)|(simp [*];done)),(by first|exact H'|(subst_vars;exact H')),⟨by have:=HK1.out;first|omega|exact Nat.le_refl _⟩,⟨by (with_reducible repeat (first|apply Kd.R_alloc|apply Kd.R_drewN|apply Kd.R_drew));exact HO_4.out⟩,⟨by (with_reducible repeat (first|refine blk_drewN ?_ _|refine blk_drew ?_|refine blk_alloc ?_ _));exact BK225.out⟩,⟨by repeat (first|(with_reducible first|exact HB.out|apply below_alloc|apply pw_below_drewN|apply below_drew1|refine below_set ?_ GE225.out)|exact HB.out)⟩⟩
     ·rw [if_neg c20] at H
      have c20b0 : decide ((x4_1.length : Int) < 4)=false:=decide_eq_false c20
      have c20b1 : decide (x4_1.length < 4)=false:=decide_eq_false (by omega)
      clear c20
      (first|rw [c20b0]|(simp only [i64_w,i32_w];rw [c20b0])|skip)
      by_cases c22 : 0 < (x4_1.length : Int)
      ·rw [if_pos c22] at H
       have c22b0 : decide (0 < (x4_1.length : Int))=true:=decide_eq_true c22
       have c22b1 : decide (0 < x4_1.length)=true:=decide_eq_true (by omega)
       clear c22
       have H':=Aside0.mk H
       clear H
       obtain ⟨Ao23,co23,eo23⟩:=Kd.R_slice HO_4.out
       subst eo23
       have p236 : 0≤(0 : Int):=(by omega)
       have q236 : 0 < (x4_1.length : Int):=of_decide_eq_true (by first|(with_reducible assumption)|assumption)
       obtain ⟨ad236,e236,hx236_0⟩:=Kd.at_int (Kd.R_reads' HO_4.out).2.2 0 p236 q236
       cases e236
       have qi236 : (0 < x4_1.length)=True:=eq_true (by omega)
       (try rw [show ((0 : Int)).toNat=0 from rfl] at hx236_0)
       (try rw [Addr.add_zero'] at hx236_0)
       replace p236:=eq_true p236
       replace q236:=eq_true q236
       go_wp2
       go_meet
       case rel=>exact ⟨_,(((x4_1.length : Int) != (wrap64 ((rd x4_1 0) + 4)))),(by first|rfl|(simp;done)|(simp [*];done)),(by first|exact H'|(subst_vars;exact H')),⟨by have:=HK1.out;first|omega|exact Nat.le_refl _⟩,⟨by (with_reducible repeat (first|apply Kd.R_alloc|apply Kd.R_drewN|apply Kd.R_drew));exact HO_4.out⟩,⟨by (with_reducible repeat (first|refine blk_drewN ?_ _|refine blk_drew ?_|refine blk_alloc ?_ _));exact BK225.out⟩,⟨by repeat (first|(with_reducible first|exact HB.out|apply below_alloc|apply pw_below_drewN|apply below_drew1|refine below_set ?_ GE225.out)|exact HB.out)⟩⟩
      ·rw [if_neg c22] at H
       exact absurd H (by simp)
    case rest =>
     clear HC18
     try clear c1
     try clear q1
     try clear c2
     try clear p2
     try clear q2
     try clear hx2
     try clear qi2
     try clear c3
     try clear c3b0
     try clear c3b1
     try clear c5
     try clear c5b0
     try clear c5b1
     try clear p6
     try clear c8
     try clear c8b0
     try clear c11
     try clear c12
     try clear c12b0
     try clear c12b1
     try clear c13
     try clear c13b0
     try clear c13b1
     try clear c15
     try clear c16
     try clear q16
     try clear c20
     try clear c20b0
     try clear c20b1
     try clear c22
     try clear c22b0
     try clear c22b1
     try clear p23
     try clear q23
     try clear hx23
     try clear qi23
     try clear hcz10_0
     try clear hcz10_1
     try clear hcz10_2
     try clear hcz10_3
     try clear hcz7_0
     try clear hcz7_1
     try clear hcz7_2
     try clear hcz7_3
     try clear hfz10_0
     try clear hfz10_1
     try clear hfz10_2
     try clear hfz10_3
     try clear hfz7_0
     try clear hfz7_1
     try clear hfz7_2
     try clear hfz7_3
     try clear hx236_0
     try clear p2
     try clear p236
     try clear q016
     try clear q16
     try clear q236
     obtain ⟨kq,x43_17,rfl,HA,HJ17,HO_4,BK225,HB⟩:=hcut
     cases kq with
     | zero=>exact absurd HA.out (by simp [schema_Take.j1])
     | succ kj17 =>
      have H:=HA.out
      clear HA
      simp only [schema_Take.j1] at H
      by_cases c24 : x43_17=true
      ·subst c24
       have H1 : (some (([] : List Int),0,0,0,10))=some (r1,r2,r3,r4,r5):=by rw [if_pos rfl] at H;exact H
       clear H
       have H:=H1
       clear H1
       simp only [Option.some.injEq,Prod.mk.injEq] at H
       obtain ⟨rfl,rfl,rfl,rfl,rfl⟩:=H
       have hcz25_0 : wc.cell? ⟨gb225,0,none⟩=some (.slice none 0 0):=(blk_cell BK225.out 0).trans rfl
       have hcz25_1 : wc.cell? ⟨gb225,1,none⟩=some (.int .i64 x226001_1):=(blk_cell BK225.out 1).trans rfl
       have hcz25_2 : wc.cell? ⟨gb225,2,none⟩=some (.int .i64 x226002_1):=(blk_cell BK225.out 2).trans rfl
       have hcz25_3 : wc.cell? ⟨gb225,3,none⟩=some (.int .i64 x226003_1):=(blk_cell BK225.out 3).trans rfl
       have hfz25_0:=blk_frozen BK225.out 0
       have hfz25_1:=blk_frozen BK225.out 1
       have hfz25_2:=blk_frozen BK225.out 2
       have hfz25_3:=blk_frozen BK225.out 3
       go_wp2
       refine bodyPost_ret (results_ct rfl _ _ gb225 30 #[.slice none 0 0,.int .i64 0,.int .i64 0,.int .i64 0] (0,0) _ rfl (by (with_reducible repeat (first|refine blk_drewN ?_ _|refine blk_drew ?_|refine blk_alloc ?_ _));refine blk_put (cs:=#[.slice none 0 0,.int .i64 0,.int .i64 0,.int .i64 x226003_1]) ?_ 3 _ rfl;(with_reducible repeat (first|refine blk_drewN ?_ _|refine blk_drew ?_|refine blk_alloc ?_ _));refine blk_put (cs:=#[.slice none 0 0,.int .i64 0,.int .i64 x226002_1,.int .i64 x226003_1]) ?_ 2 _ rfl;(with_reducible repeat (first|refine blk_drewN ?_ _|refine blk_drew ?_|refine blk_alloc ?_ _));refine blk_put (cs:=#[.slice none 0 0,.int .i64 x226001_1,.int .i64 x226002_1,.int .i64 x226003_1]) ?_ 1 _ rfl;(with_reducible repeat (first|refine blk_drewN ?_ _|refine blk_drew ?_|refine blk_alloc ?_ _));refine blk_put (cs:=#[.slice none 0 0,.int .i64 x226001_1,.int .i64 x226002_1,.int .i64 x226003_1]) ?_ 0 _ rfl;(with_reducible repeat (first|refine blk_drewN ?_ _|refine blk_drew ?_|refine blk_alloc ?_ _));exact BK225.out) Try.underlying30 rfl (by kernel_rfl)) rfl ?_
       exact ⟨_,by first|rfl|(simp [errW_none,errW_some] <;> rfl)|(simp [*,errW_none,errW_some] <;> rfl),Kd.V_nil _ _ _ _ _,by repeat (first|(with_reducible first|exact HB.out|apply below_alloc|apply pw_below_drewN|apply below_drew1|refine below_set ?_ GE225.out)|exact HB.out)⟩
      ·replace c24:=Bool.eq_false_iff.mpr c24
       subst c24
       have H1 : (if 0 < (x4_1.length : Int) then (if 1≤(wrap64 ((rd x4_1 0) + 1)) then (if (wrap64 ((rd x4_1 0) + 1))≤(x4_1.length : Int) then ((some ((x4_1.take ((wrap64 ((rd x4_1 0) + 1)) : Int).toNat).drop 1 : List Int)).bind fun y238=>(if 0≤(wrap64 ((rd x4_1 0) + 1)) then (if (wrap64 ((rd x4_1 0) + 1)) < (x4_1.length : Int) then (if 0≤(wrap64 ((wrap64 ((rd x4_1 0) + 1)) + 1)) then (if (wrap64 ((wrap64 ((rd x4_1 0) + 1)) + 1)) < (x4_1.length : Int) then (if 0≤(wrap64 ((wrap64 ((rd x4_1 0) + 1)) + 2)) then (if (wrap64 ((wrap64 ((rd x4_1 0) + 1)) + 2)) < (x4_1.length : Int) then ((schema_Check.f y238 (rd x4_1 (wrap64 ((rd x4_1 0) + 1))) (rd x4_1 (wrap64 ((wrap64 ((rd x4_1 0) + 1)) + 1))) (rd x4_1 (wrap64 ((wrap64 ((rd x4_1 0) + 1)) + 2)))).bind fun t247=>(if t247=0 then (some (y238,rd x4_1 (wrap64 ((rd x4_1 0) + 1)),rd x4_1 (wrap64 ((wrap64 ((rd x4_1 0) + 1)) + 1)),rd x4_1 (wrap64 ((wrap64 ((rd x4_1 0) + 1)) + 2)),0)) else (some (([] : List Int),0,0,0,10)))) else (none)) else (none)) else (none)) else (none)) else (none)) else (none))) else (none)) else (none)) else (none))=some (r1,r2,r3,r4,r5):=by rw [if_neg (show ¬ (false=true) by decide)] at H;exact H
       clear H
       have H:=H1
       clear H1
       by_cases c26 : 0 < (x4_1.length : Int)
       ·rw [if_pos c26] at H
        have c26b0 : decide (0 < (x4_1.length : Int))=true:=decide_eq_true c26
        have c26b1 : decide (0 < x4_1.length)=true:=decide_eq_true (by omega)
        clear c26
        by_cases c27 : 1≤(wrap64 ((rd x4_1 0) + 1))
        ·rw [if_pos c27] at H
         have c27b0:=eq_true c27
         have c27b1 : decide (1≤(wrap64 ((rd x4_1 0) + 1)))=true:=decide_eq_true c27
         by_cases c28 : (wrap64 ((rd x4_1 0) + 1))≤(x4_1.length : Int)
         ·rw [if_pos c28] at H
          have c28b0:=eq_true c28
          have c28b1 : decide ((wrap64 ((rd x4_1 0) + 1))≤(x4_1.length : Int))=true:=decide_eq_true c28
          obtain ⟨y238,hy238⟩ : ∃ y_ : List Int,y_=((x4_1.take ((wrap64 ((rd x4_1 0) + 1)) : Int).toNat).drop 1):=⟨_,rfl⟩
          replace H : (if 0≤(wrap64 ((rd x4_1 0) + 1)) then (if (wrap64 ((rd x4_1 0) + 1)) < (x4_1.length : Int) then (if 0≤(wrap64 ((wrap64 ((rd x4_1 0) + 1)) + 1)) then (if (wrap64 ((wrap64 ((rd x4_1 0) + 1)) + 1)) < (x4_1.length : Int) then (if 0≤(wrap64 ((wrap64 ((rd x4_1 0) + 1)) + 2)) then (if (wrap64 ((wrap64 ((rd x4_1 0) + 1)) + 2)) < (x4_1.length : Int) then ((schema_Check.f y238 (rd x4_1 (wrap64 ((rd x4_1 0) + 1))) (rd x4_1 (wrap64 ((wrap64 ((rd x4_1 0) + 1)) + 1))) (rd x4_1 (wrap64 ((wrap64 ((rd x4_1 0) + 1)) + 2)))).bind fun t247=>(if t247=0 then (some (y238,rd x4_1 (wrap64 ((rd x4_1 0) + 1)),rd x4_1 (wrap64 ((wrap64 ((rd x4_1 0) + 1)) + 1)),rd x4_1 (wrap64 ((wrap64 ((rd x4_1 0) + 1)) + 2)),0)) else (some (([] : List Int),0,0,0,10)))) else (none)) else (none)) else (none)) else (none)) else (none)) else (none))=some (r1,r2,r3,r4,r5):=by first|(rw [hy238];with_reducible exact H)|(have H2_:=(Option.bind_some _ _).symm.trans H;rw [hy238];with_reducible exact H2_)|(have H2_:=(Option.bind_some _ _).symm.trans H;with_reducible exact H2_)|with_reducible exact H|(rw [hy238];exact H)|exact H
          have Ny238:=Aside0.mk hy238
          clear hy238
          obtain ⟨ji29,hji29⟩ : ∃ j_ : Int,(wrap64 ((rd x4_1 0) + 1))=j_:=⟨_,rfl⟩
          replace H : (if 0≤(ji29) then (if (ji29) < (x4_1.length : Int) then (if 0≤(wrap64 ((ji29) + 1)) then (if (wrap64 ((ji29) + 1)) < (x4_1.length : Int) then (if 0≤(wrap64 ((ji29) + 2)) then (if (wrap64 ((ji29) + 2)) < (x4_1.length : Int) then ((schema_Check.f y238 (rd x4_1 (ji29)) (rd x4_1 (wrap64 ((ji29) + 1))) (rd x4_1 (wrap64 ((ji29) + 2)))).bind fun t247=>(if t247=0 then (some (y238,rd x4_1 (ji29),rd x4_1 (wrap64 ((ji29) + 1)),rd x4_1 (wrap64 ((ji29) + 2)),0)) else (some (([] : List Int),0,0,0,10)))) else (none)) else (none)) else (none)) else (none)) else (none)) else (none))=some (r1,r2,r3,r4,r5):=by first|(rw [hji29] at H;exact H)|(simp only [hji29] at H ⊢;exact H)
          (try rw [hji29] at c27b0)
          (try rw [hji29] at c27b1)
          (try rw [hji29] at c27)
          (try rw [hji29] at c28b0)
          (try rw [hji29] at c28b1)
          (try rw [hji29] at c28)
          (try rw [hji29] at Ny238)
          have hji29w : (IntKind.i64.wrap ((rd x4_1 0) + 1))=ji29:=(i64_w _).trans hji29
          by_cases c30 : 0≤(ji29)
          ·rw [if_pos c30] at H
           have c30b0 : decide (0≤(ji29))=true:=decide_eq_true c30
           clear c30
           by_cases c31 : (ji29) < (x4_1.length : Int)
           ·rw [if_pos c31] at H
            have c31b0 : decide ((ji29) < (x4_1.length : Int))=true:=decide_eq_true c31
            clear c31
            obtain ⟨ji32,hji32⟩ : ∃ j_ : Int,(wrap64 ((ji29) + 1))=j_:=⟨_,rfl⟩
            replace H : (if 0≤(ji32) then (if (ji32) < (x4_1.length : Int) then (if 0≤(wrap64 ((ji29) + 2)) then (if (wrap64 ((ji29) + 2)) < (x4_1.length : Int) then ((schema_Check.f y238 (rd x4_1 (ji29)) (rd x4_1 (ji32)) (rd x4_1 (wrap64 ((ji29) + 2)))).bind fun t247=>(if t247=0 then (some (y238,rd x4_1 (ji29),rd x4_1 (ji32),rd x4_1 (wrap64 ((ji29) + 2)),0)) else (some (([] : List Int),0,0,0,10)))) else (none)) else (none)) else (none)) else (none))=some (r1,r2,r3,r4,r5):=by first|(rw [hji32] at H;exact H)|(simp only [hji32] at H ⊢;exact H)
            have hji32w : (IntKind.i64.wrap ((ji29) + 1))=ji32:=(i64_w _).trans hji32
            by_cases c33 : 0≤(ji32)
            ·rw [if_pos c33] at H
             have c33b0 : decide (0≤(ji32))=true:=decide_eq_true c33
             clear c33
             by_cases c34 : (ji32) < (x4_1.length : Int)
             ·rw [if_pos c34] at H
              have c34b0 : decide ((ji32) < (x4_1.length : Int))=true:=decide_eq_true c34
              clear c34
              obtain ⟨ji35,hji35⟩ : ∃ j_ : Int,(wrap64 ((ji29) + 2))=j_:=⟨_,rfl⟩
              replace H : (if 0≤(ji35) then (if (ji35) < (x4_1.length : Int) then ((schema_Check.f y238 (rd x4_1 (ji29)) (rd x4_1 (ji32)) (rd x4_1 (ji35))).bind fun t247=>(if t247=0 then (some (y238,rd x4_1 (ji29),rd x4_1 (ji32),rd x4_1 (ji35),0)) else (some (([] : List Int),0,0,0,10)))) else (none)) else (none))=some (r1,r2,r3,r4,r5):=by first|(rw [hji35] at H;exact H)|(simp only [hji35] at H ⊢;exact H)
              have hji35w : (IntKind.i64.wrap ((ji29) + 2))=ji35:=(i64_w _).trans hji35
              by_cases c36 : 0≤(ji35)
              ·rw [if_pos c36] at H
               have c36b0 : decide (0≤(ji35))=true:=decide_eq_true c36
               clear c36
               by_cases c37 : (ji35) < (x4_1.length : Int)
               ·rw [if_pos c37] at H
                have c37b0 : decide ((ji35) < (x4_1.length : Int))=true:=decide_eq_true c37
                clear c37
                replace H:=Option.bind_eq_some_iff.mp H
                obtain ⟨t247,A380,H⟩:=H
                replace H : (if t247=0 then (some (y238,rd x4_1 (ji29),rd x4_1 (ji32),rd x4_1 (ji35),0)) else (some (([] : List Int),0,0,0,10)))=some (r1,r2,r3,r4,r5):=H
                have A38:=Aside0.mk A380
                clear A380
                by_cases c39 : t247=0
                ·rw [if_pos c39] at H
                 have c39b0 : (t247 == 0)=true:=beq_iff_eq.mpr c39
                 have c39b1 : (t247 != 0)=false:=bne_eq_false_iff_eq.mpr c39
                 clear c39
                 simp only [Option.some.injEq,Prod.mk.injEq] at H
                 obtain ⟨rfl,rfl,rfl,rfl,rfl⟩:=H
                 obtain ⟨Ao40,co40,eo40⟩:=Kd.R_slice HO_4.out
                 subst eo40
                 have p237 : 0≤(0 : Int):=(by omega)
                 have q237 : 0 < (x4_1.length : Int):=of_decide_eq_true (by first|(with_reducible assumption)|assumption)
                 obtain ⟨ad237,e237,hx237_0⟩:=Kd.at_int (Kd.R_reads' HO_4.out).2.2 0 p237 q237
                 cases e237
                 have qi237 : (0 < x4_1.length)=True:=eq_true (by omega)
                 (try rw [show ((0 : Int)).toNat=0 from rfl] at hx237_0)
                 (try rw [Addr.add_zero'] at hx237_0)
                 replace p237:=eq_true p237
                 replace q237:=eq_true q237
                 try go_wp2
                 have n0_:=Aside0.mk (Kd.R_drew HO_4.out)
                 have n1_:=Aside0.mk (blk_drew BK225.out)
                 have n2_:=Aside0.mk (below_drew1 HB.out)
                 clear HO_4
                 clear BK225
                 clear HB
                 have HO_4:=n0_
                 have BK225:=n1_
                 have HB:=n2_
                 clear n0_ n1_ n2_
                 have q42 : ((ji29) : Int)≤((x4_1.length : Int) : Int):=of_decide_eq_true (by first|(with_reducible assumption)|assumption)
                 obtain ⟨i042,hi042,_,hsz42,_⟩:=info_parts info3
                 have hroom42 : x4_1.length≤co40:=(Kd.R_reads' HO_4.out).2.1
                 have hC42 : Kd.F (Kd.int .i64) _ _ (some ad237) x4_1.length x4_1:=(Kd.V_at (base:=w.heap.size) (Kd.V_mono (ok':=(fun k_=>((P0_ k_ ∨ w.heap.size≤k_)∧k_≠gb225))) (Kd.R_V (Kd.R_types (HO_4.out) BK225.out (by decide))) (fun k_ hk=>⟨(.inr (hk.1)),hk.2⟩))).2.2
                 have ql42 : (1 : Int)≤((ji29) : Int):=of_decide_eq_true (by first|(with_reducible assumption)|assumption)
                 have hcut42:=cut_mid3 (P:=Try.prog) 28 3 .i64 .i64 .i64 Try.underlying28 hi042 1 hsz42 (some ad237) x4_1.length co40 1 (ji29) (by omega) ql42 q42 hroom42
                 have hr42:=Kd.F_mid3 (lo:=(1 : Int).toNat) (hi:=((ji29) : Int).toNat) hC42 (by omega) (by omega)
                 obtain ⟨A42,hA42⟩ : ∃ Z_,Z_=(if ((ji29) : Int).toNat=(1 : Int).toNat then (some ad237) else ((some ad237) : Option Addr).map (·.add ((1 : Int).toNat * 1))):=⟨_,rfl⟩
                 obtain ⟨c42,hc42⟩ : ∃ z_,z_=((ji29) : Int).toNat - (1 : Int).toNat:=⟨_,rfl⟩
                 have hy42 : y238.length=((ji29) : Int).toNat - (1 : Int).toNat:=(by rw [Ny238.out,List.length_drop,List.length_take] <;> omega)
                 rw [show ((x4_1).take ((ji29) : Int).toNat).drop (1 : Int).toNat=y238 from Ny238.out.symm] at hr42
                 replace hr42 : Kd.F (Kd.int .i64) _ _ A42 y238.length y238:=(by rw [hA42];exact hr42)
                 have hcc42 : c42=y238.length:=hc42.trans hy42.symm
                 rw [← hy42,← hA42] at hcut42
                 have HO242:=Aside0.mk (show Kd.V (Kd.int .i64) 3 _ w.heap.size _ (.slice A42 y238.length y238.length) y238 from Kd.V_mk (Nat.le_refl _) hr42)
                 have HC242:=Aside0.mk (show y238.length≤y238.length from Nat.le_refl _)
                 clear hr42 hC42 hroom42 hi042 hsz42 hc42 hcc42
                 have KY42:=Aside0.mk hy42
                 have KA42:=Aside0.mk hA42
                 clear hy42 hA42
                 replace q42:=eq_true q42
                 have p243 : 0≤((ji29) : Int):=of_decide_eq_true (by first|(with_reducible assumption)|assumption)
                 have q243 : (ji29) < (x4_1.length : Int):=of_decide_eq_true (by first|(with_reducible assumption)|assumption)
                 obtain ⟨ad243,e243,hx243_0⟩:=Kd.at_int (Kd.R_reads' HO_4.out).2.2 (ji29) p243 q243
                 obtain rfl : ad237=ad243:=(by injection e243)
                 replace p243:=eq_true p243
                 replace q243:=eq_true q243
                 have p244 : 0≤((ji32) : Int):=of_decide_eq_true (by first|(with_reducible assumption)|assumption)
                 have q244 : (ji32) < (x4_1.length : Int):=of_decide_eq_true (by first|(with_reducible assumption)|assumption)
                 obtain ⟨ad244,e244,hx244_0⟩:=Kd.at_int (Kd.R_reads' HO_4.out).2.2 (ji32) p244 q244
                 obtain rfl : ad237=ad244:=(by injection e244)
                 replace p244:=eq_true p244
                 replace q244:=eq_true q244
                 have p245 : 0≤((ji35) : Int):=of_decide_eq_true (by first|(with_reducible assumption)|assumption)
                 have q245 : (ji35) < (x4_1.length : Int):=of_decide_eq_true (by first|(with_reducible assumption)|assumption)
                 obtain ⟨ad245,e245,hx245_0⟩:=Kd.at_int (Kd.R_reads' HO_4.out).2.2 (ji35) p245 q245
                 obtain rfl : ad237=ad245:=(by injection e245)
                 replace p245:=eq_true p245
                 replace q245:=eq_true q245
                 refine start_ (n:=21) (S:=fun w'=>w'.cell? (ad237.add ((ji29)).toNat)=some (.int .i64 (rd x4_1 (ji29)))∧w'.cell? (ad237.add ((ji32)).toNat)=some (.int .i64 (rd x4_1 (ji32)))∧w'.cell? (ad237.add ((ji35)).toNat)=some (.int .i64 (rd x4_1 (ji35)))) (ds:=[]) #[false,false,false,false,false,false,false,false,false,false,false,false,false,false,false,false,false,false,false,false,false] (by kernel_rfl) rfl rfl ⟨hx243_0,hx244_0,hx245_0⟩ (fun hHeld=>?_);refine with_tabW schema_Take.tab10 schema_Take.bits10 (fun HT_ HW_=>?_)
                 generalize wc.drew=w41 at HO_4 BK225 HB HO242 hx243_0 hx244_0 hx245_0 hHeld ⊢
                 refine pure_ (i:=0) (N:=some 49) (v:=?_) (a':=?_) #[true,false,false,false,false,false,false,false,false,false,false,false,false,false,false,false,false,false,false,false,false] rfl rfl (any_of HT_.out (by kernel_rfl)) (fun _ _ _ h=>h) (Or.inl ⟨by rfl,?_⟩) ?_ ?_
                 rotate_left;(intro w';go_simp;with_reducible rfl);rotate_left;(simp only [Act.put,List.setIfInBounds_toArray,List.set_cons_zero,List.set_cons_succ,i64_w,i32_w];rfl)
                 refine pure_ (i:=1) (N:=some 50) (v:=?_) (a':=?_) #[true,true,false,false,false,false,false,false,false,false,false,false,false,false,false,false,false,false,false,false,false] rfl rfl (any_of HT_.out (by kernel_rfl)) (fun _ _ _ h=>h) (Or.inl ⟨by rfl,?_⟩) ?_ ?_
                 rotate_left;(intro w';go_simp;with_reducible rfl);rotate_left;(simp only [Act.put,List.setIfInBounds_toArray,List.set_cons_zero,List.set_cons_succ,i64_w,i32_w];rfl)
                 refine pure_ (i:=2) (N:=some 51) (v:=?_) (a':=?_) #[true,true,true,false,false,false,false,false,false,false,false,false,false,false,false,false,false,false,false,false,false] rfl rfl (any_of HT_.out (by kernel_rfl)) (fun _ _ _ h=>h) (Or.inl ⟨by rfl,?_⟩) ?_ ?_
                 rotate_left;(intro w';go_simp;with_reducible rfl);rotate_left;(simp only [Act.put,List.setIfInBounds_toArray,List.set_cons_zero,List.set_cons_succ,i64_w,i32_w];rfl)
                 refine pure_ (i:=3) (N:=some 52) (v:=?_) (a':=?_) #[true,true,true,true,false,false,false,false,false,false,false,false,false,false,false,false,false,false,false,false,false] rfl rfl (any_of HT_.out (by kernel_rfl)) (fun _ _ _ h=>h) (Or.inl ⟨by rfl,?_⟩) ?_ ?_
                 rotate_left;(intro w';go_simp;with_reducible rfl);rotate_left;(simp only [Act.put,List.setIfInBounds_toArray,List.set_cons_zero,List.set_cons_succ,i64_w,i32_w];rfl)
                 refine pure_ (i:=4) (N:=some 53) (v:=?_) (a':=?_) #[true,true,true,true,true,false,false,false,false,false,false,false,false,false,false,false,false,false,false,false,false] rfl rfl (any_of HT_.out (by kernel_rfl)) (fun _ _ _ h=>h) (Or.inl ⟨by rfl,?_⟩) ?_ ?_
                 rotate_left;(intro w';go_simp;with_reducible rfl);rotate_left;(simp only [Act.put,List.setIfInBounds_toArray,List.set_cons_zero,List.set_cons_succ,i64_w,i32_w];rfl)
                 refine pure_ (i:=5) (N:=some 54) (v:=?_) (a':=?_) #[true,true,true,true,true,true,false,false,false,false,false,false,false,false,false,false,false,false,false,false,false] rfl rfl (any_of HT_.out (by kernel_rfl)) (fun _ _ _ h=>h) (Or.inl ⟨by rfl,?_⟩) ?_ ?_
                 rotate_left;(intro w';go_simp;with_reducible rfl);rotate_left;(simp only [Act.put,List.setIfInBounds_toArray,List.set_cons_zero,List.set_cons_succ,i64_w,i32_w];rfl)
                 refine pure_ (i:=6) (N:=some 55) (v:=?_) (a':=?_) #[true,true,true,true,true,true,true,false,false,false,false,false,false,false,false,false,false,false,false,false,false] rfl rfl (any_of HT_.out (by kernel_rfl)) (fun _ _ _ h=>h) (Or.inl ⟨by rfl,?_⟩) ?_ ?_
                 rotate_left;(intro w';go_simp;with_reducible rfl);rotate_left;(simp only [Act.put,List.setIfInBounds_toArray,List.set_cons_zero,List.set_cons_succ,i64_w,i32_w];rfl)
                 refine pure_ (i:=8) (N:=some 57) (v:=?_) (a':=?_) #[true,true,true,true,true,true,true,false,true,false,false,false,false,false,false,false,false,false,false,false,false] rfl rfl (any_of HT_.out (by kernel_rfl)) (fun _ _ _ h=>h) (Or.inl ⟨by rfl,?_⟩) ?_ ?_
                 rotate_left;(intro w';go_simp;with_reducible rfl);rotate_left;(simp only [Act.put,List.setIfInBounds_toArray,List.set_cons_zero,List.set_cons_succ,i64_w,i32_w];rfl)
                 refine pure_ (i:=9) (N:=some 58) (v:=?_) (a':=?_) #[true,true,true,true,true,true,true,false,true,true,false,false,false,false,false,false,false,false,false,false,false] rfl rfl (any_of HT_.out (by kernel_rfl)) (fun _ _ _ h=>h) (Or.inl ⟨by rfl,?_⟩) ?_ ?_
                 rotate_left;(intro w';go_simp;with_reducible rfl);rotate_left;(simp only [Act.put,List.setIfInBounds_toArray,List.set_cons_zero,List.set_cons_succ,i64_w,i32_w];rfl)
                 refine pure_ (i:=10) (N:=some 59) (v:=?_) (a':=?_) #[true,true,true,true,true,true,true,false,true,true,true,false,false,false,false,false,false,false,false,false,false] rfl rfl (any_of HT_.out (by kernel_rfl)) (fun _ _ _ h=>h) (Or.inl ⟨by rfl,?_⟩) ?_ ?_
                 rotate_left;(intro w';go_simp;with_reducible rfl);rotate_left;(simp only [Act.put,List.setIfInBounds_toArray,List.set_cons_zero,List.set_cons_succ,i64_w,i32_w];rfl)
                 refine pure_ (i:=11) (N:=some 60) (v:=?_) (a':=?_) #[true,true,true,true,true,true,true,false,true,true,true,true,false,false,false,false,false,false,false,false,false] rfl rfl (any_of HT_.out (by kernel_rfl)) (fun _ _ _ h=>h) (Or.inl ⟨by rfl,?_⟩) ?_ ?_
                 rotate_left;(intro w';go_simp;with_reducible rfl);rotate_left;(simp only [Act.put,List.setIfInBounds_toArray,List.set_cons_zero,List.set_cons_succ,i64_w,i32_w];rfl)
                 refine pure_ (i:=13) (N:=some 62) (v:=?_) (a':=?_) #[true,true,true,true,true,true,true,false,true,true,true,true,false,true,false,false,false,false,false,false,false] rfl rfl (any_of HT_.out (by kernel_rfl)) (fun _ _ _ h=>h) (Or.inl ⟨by rfl,?_⟩) ?_ ?_
                 rotate_left;(intro w';go_simp;with_reducible rfl);rotate_left;(simp only [Act.put,List.setIfInBounds_toArray,List.set_cons_zero,List.set_cons_succ,i64_w,i32_w];rfl)
                 refine pure_ (i:=14) (N:=some 63) (v:=?_) (a':=?_) #[true,true,true,true,true,true,true,false,true,true,true,true,false,true,true,false,false,false,false,false,false] rfl rfl (any_of HT_.out (by kernel_rfl)) (fun _ _ _ h=>h) (Or.inl ⟨by rfl,?_⟩) ?_ ?_
                 rotate_left;(intro w';go_simp;with_reducible rfl);rotate_left;(simp only [Act.put,List.setIfInBounds_toArray,List.set_cons_zero,List.set_cons_succ,i64_w,i32_w];rfl)
                 refine pure_ (i:=15) (N:=some 64) (v:=?_) (a':=?_) #[true,true,true,true,true,true,true,false,true,true,true,true,false,true,true,true,false,false,false,false,false] rfl rfl (any_of HT_.out (by kernel_rfl)) (fun _ _ _ h=>h) (Or.inl ⟨by rfl,?_⟩) ?_ ?_
                 rotate_left;(intro w';go_simp;with_reducible rfl);rotate_left;(simp only [Act.put,List.setIfInBounds_toArray,List.set_cons_zero,List.set_cons_succ,i64_w,i32_w];rfl)
                 refine pure_ (i:=16) (N:=some 65) (v:=?_) (a':=?_) #[true,true,true,true,true,true,true,false,true,true,true,true,false,true,true,true,true,false,false,false,false] rfl rfl (any_of HT_.out (by kernel_rfl)) (fun _ _ _ h=>h) (Or.inl ⟨by rfl,?_⟩) ?_ ?_
                 rotate_left;(intro w';go_simp;with_reducible rfl);rotate_left;(simp only [Act.put,List.setIfInBounds_toArray,List.set_cons_zero,List.set_cons_succ,i64_w,i32_w];rfl)
                 refine take_ (i:=7) (N:=some 56) (v:=?_) (a':=?_) #[true,true,true,true,true,true,true,true,true,true,true,true,false,true,true,true,true,false,false,false,false] rfl rfl (take_ofW HT_.out HW_.out (by kernel_rfl)) (fun _ _ _ h=>h) (Or.inl ⟨by rfl,?_⟩) hHeld ?_ ?_
                 rotate_left;(rintro w' ⟨s0,s1,s2⟩;go_simp;with_reducible rfl);rotate_left;(simp only [Act.put,List.setIfInBounds_toArray,List.set_cons_zero,List.set_cons_succ,i64_w,i32_w];rfl)
                 refine take_ (i:=12) (N:=some 61) (v:=?_) (a':=?_) #[true,true,true,true,true,true,true,true,true,true,true,true,true,true,true,true,true,false,false,false,false] rfl rfl (take_ofW HT_.out HW_.out (by kernel_rfl)) (fun _ _ _ h=>h) (Or.inl ⟨by rfl,?_⟩) hHeld ?_ ?_
                 rotate_left;(rintro w' ⟨s0,s1,s2⟩;go_simp;with_reducible rfl);rotate_left;(simp only [Act.put,List.setIfInBounds_toArray,List.set_cons_zero,List.set_cons_succ,i64_w,i32_w];rfl)
                 refine take_ (i:=17) (N:=some 66) (v:=?_) (a':=?_) #[true,true,true,true,true,true,true,true,true,true,true,true,true,true,true,true,true,true,false,false,false] rfl rfl (take_ofW HT_.out HW_.out (by kernel_rfl)) (fun _ _ _ h=>h) (Or.inl ⟨by rfl,?_⟩) hHeld ?_ ?_
                 rotate_left;(rintro w' ⟨s0,s1,s2⟩;go_simp;with_reducible rfl);rotate_left;(simp only [Act.put,List.setIfInBounds_toArray,List.set_cons_zero,List.set_cons_succ,i64_w,i32_w];rfl)
                 refine pure_ (i:=18) (N:=some 67) (v:=?_) (a':=?_) #[true,true,true,true,true,true,true,true,true,true,true,true,true,true,true,true,true,true,true,false,false] rfl rfl (any_of HT_.out (by kernel_rfl)) (fun _ _ _ h=>h) (Or.inl ⟨by rfl,?_⟩) ?_ ?_
                 rotate_left;(intro w';go_simp;with_reducible rfl);rotate_left;(simp only [Act.put,List.setIfInBounds_toArray,List.set_cons_zero,List.set_cons_succ,i64_w,i32_w];rfl)
                 refine one_ (i:=19) (N:=some 8) #[true,true,true,true,true,true,true,true,true,true,true,true,true,true,true,true,true,true,true,true,false] rfl rfl (one_of HT_.out (by kernel_rfl)) (by decide) (fun K hK=>?_)
                 refine box_step ?hg (N:=8) ?hd (cs:=#[.slice none 0 0,.int .i64 0,.int .i64 0,.int .i64 0]) (t:=30) ?hr ?_;(case hd=>rfl);(case hg=>rfl);(case hr=>first|(go_simp;done)|(go_simp;rfl))
                 intro gb246 hg w43 hbox hb
                 have HS0_:=(hb.cell (World.block_lt_of_cell? _ _ (hHeld.1))).trans (hHeld.1)
                 have HS1_:=(hb.cell (World.block_lt_of_cell? _ _ (hHeld.2.1))).trans (hHeld.2.1)
                 have HS2_:=(hb.cell (World.block_lt_of_cell? _ _ (hHeld.2.2))).trans (hHeld.2.2)
                 have n0_:=Aside0.mk (Kd.R_below (R_up HO_4.out) hb)
                 have n1_:=Aside0.mk (Kd.V_below (Kd.V_elderB (V_up HO242.out) gb246 (Nat.le_of_eq hg.symm)) hb)
                 have n2_:=Aside0.mk (blk_below (blk_up BK225.out) hb)
                 have n3_:=Aside0.mk (below_step (below_go HB.out) hb)
                 have n4_:=Aside0.mk (hbox)
                 have n5_:=Aside0.mk ((by rw [hg];exact (below_size (below_go HB.out)) : w.heap.size≤gb246))
                 have n6_:=Aside0.mk ((by rw [hg];exact (below_size (below_go HB.out)) : w.heap.size≤gb246))
                 have n7_:=Aside0.mk ((by rw [hg];exact Nat.ne_of_lt (blk_lt (blk_up BK225.out)) : gb225≠gb246))
                 have n8_:=Aside0.mk ((by rw [hg];exact Nat.ne_of_gt (blk_lt (blk_up BK225.out)) : gb246≠gb225))
                 clear HO_4
                 clear HO242
                 clear BK225
                 clear HB
                 have HO_4:=n0_
                 have HO242:=n1_
                 have BK225:=n2_
                 have HB:=n3_
                 have BK246:=n4_
                 have GW246:=n5_
                 have GE246:=n6_
                 have NB225_246:=n7_
                 have NB246_225:=n8_
                 clear n0_ n1_ n2_ n3_ n4_ n5_ n6_ n7_ n8_
                 clear hb hbox hg
                 refine hK.out _ _ ⟨HS0_,HS1_,HS2_⟩ (fun hHeld=>?_)
                 clear hK K
                 refine norm_ (a':=?_) ?_ ?_
                 rotate_left
                 ·show Act.put _ (some 8) _=_
                  simp only [Act.put,List.setIfInBounds_toArray,List.set_cons_zero,List.set_cons_succ,i64_w,i32_w]
                  rfl
                 refine one_ (i:=20) (N:=none) #[true,true,true,true,true,true,true,true,true,true,true,true,true,true,true,true,true,true,true,true,true] rfl rfl (one_of HT_.out (by kernel_rfl)) (by decide) (fun K hK=>?_)
                 have hs44 : w43.cell? ⟨gb246,0,none⟩=some (.slice none 0 0):=(blk_cell BK246.out 0).trans rfl
                 have hfs44:=blk_frozen BK246.out 0
                 have hns44_0:=NB225_246.out
                 have hms44_0:=NB246_225.out
                 have hs45 : w43.cell? ⟨gb246,1,none⟩=some (.int .i64 0):=(blk_cell BK246.out 1).trans rfl
                 have hfs45:=blk_frozen BK246.out 1
                 have hns45_0:=NB225_246.out
                 have hms45_0:=NB246_225.out
                 have hs46 : w43.cell? ⟨gb246,2,none⟩=some (.int .i64 0):=(blk_cell BK246.out 2).trans rfl
                 have hfs46:=blk_frozen BK246.out 2
                 have hns46_0:=NB225_246.out
                 have hms46_0:=NB246_225.out
                 have hs47 : w43.cell? ⟨gb246,3,none⟩=some (.int .i64 0):=(blk_cell BK246.out 3).trans rfl
                 have hfs47:=blk_frozen BK246.out 3
                 have hns47_0:=NB225_246.out
                 have hms47_0:=NB246_225.out
                 refine skip_ (w1:=?_) (by rfl) rfl ?_ ?_
                 rotate_left
                 ·go_simp
                  rfl
                 refine hK.out _ _ ⟨((cell_far (p:=⟨gb246,_,none⟩) (by first|exact Kd.own_blk (Kd.R_ne HO_4.out BK246.out (by decide))|(rw [add_block];exact Kd.own_blk (Kd.R_ne HO_4.out BK246.out (by decide)))|(show (Addr.add _ _).block≠_;rw [add_block];exact Kd.own_blk (Kd.R_ne HO_4.out BK246.out (by decide)))|(dsimp only;exact Kd.own_blk (Kd.R_ne HO_4.out BK246.out (by decide)))) _).trans (((cell_far (p:=⟨gb246,_,none⟩) (by first|exact Kd.own_blk (Kd.R_ne HO_4.out BK246.out (by decide))|(rw [add_block];exact Kd.own_blk (Kd.R_ne HO_4.out BK246.out (by decide)))|(show (Addr.add _ _).block≠_;rw [add_block];exact Kd.own_blk (Kd.R_ne HO_4.out BK246.out (by decide)))|(dsimp only;exact Kd.own_blk (Kd.R_ne HO_4.out BK246.out (by decide)))) _).trans (((cell_far (p:=⟨gb246,_,none⟩) (by first|exact Kd.own_blk (Kd.R_ne HO_4.out BK246.out (by decide))|(rw [add_block];exact Kd.own_blk (Kd.R_ne HO_4.out BK246.out (by decide)))|(show (Addr.add _ _).block≠_;rw [add_block];exact Kd.own_blk (Kd.R_ne HO_4.out BK246.out (by decide)))|(dsimp only;exact Kd.own_blk (Kd.R_ne HO_4.out BK246.out (by decide)))) _).trans (((cell_far (p:=⟨gb246,_,none⟩) (by first|exact Kd.own_blk (Kd.R_ne HO_4.out BK246.out (by decide))|(rw [add_block];exact Kd.own_blk (Kd.R_ne HO_4.out BK246.out (by decide)))|(show (Addr.add _ _).block≠_;rw [add_block];exact Kd.own_blk (Kd.R_ne HO_4.out BK246.out (by decide)))|(dsimp only;exact Kd.own_blk (Kd.R_ne HO_4.out BK246.out (by decide)))) _).trans (hHeld.1)))))))),((cell_far (p:=⟨gb246,_,none⟩) (by first|exact Kd.own_blk (Kd.R_ne HO_4.out BK246.out (by decide))|(rw [add_block];exact Kd.own_blk (Kd.R_ne HO_4.out BK246.out (by decide)))|(show (Addr.add _ _).block≠_;rw [add_block];exact Kd.own_blk (Kd.R_ne HO_4.out BK246.out (by decide)))|(dsimp only;exact Kd.own_blk (Kd.R_ne HO_4.out BK246.out (by decide)))) _).trans (((cell_far (p:=⟨gb246,_,none⟩) (by first|exact Kd.own_blk (Kd.R_ne HO_4.out BK246.out (by decide))|(rw [add_block];exact Kd.own_blk (Kd.R_ne HO_4.out BK246.out (by decide)))|(show (Addr.add _ _).block≠_;rw [add_block];exact Kd.own_blk (Kd.R_ne HO_4.out BK246.out (by decide)))|(dsimp only;exact Kd.own_blk (Kd.R_ne HO_4.out BK246.out (by decide)))) _).trans (((cell_far (p:=⟨gb246,_,none⟩) (by first|exact Kd.own_blk (Kd.R_ne HO_4.out BK246.out (by decide))|(rw [add_block];exact Kd.own_blk (Kd.R_ne HO_4.out BK246.out (by decide)))|(show (Addr.add _ _).block≠_;rw [add_block];exact Kd.own_blk (Kd.R_ne HO_4.out BK246.out (by decide)))|(dsimp only;exact Kd.own_blk (Kd.R_ne HO_4.out BK246.out (by decide)))) _).trans (((cell_far (p:=⟨gb246,_,none⟩) (by first|exact Kd.own_blk (Kd.R_ne HO_4.out BK246.out (by decide))|(rw [add_block];exact Kd.own_blk (Kd.R_ne HO_4.out BK246.out (by decide)))|(show (Addr.add _ _).block≠_;rw [add_block];exact Kd.own_blk (Kd.R_ne HO_4.out BK246.out (by decide)))|(dsimp only;exact Kd.own_blk (Kd.R_ne HO_4.out BK246.out (by decide)))) _).trans (hHeld.2.1)))))))),((cell_far (p:=⟨gb246,_,none⟩) (by first|exact Kd.own_blk (Kd.R_ne HO_4.out BK246.out (by decide))|(rw [add_block];exact Kd.own_blk (Kd.R_ne HO_4.out BK246.out (by decide)))|(show (Addr.add _ _).block≠_;rw [add_block];exact Kd.own_blk (Kd.R_ne HO_4.out BK246.out (by decide)))|(dsimp only;exact Kd.own_blk (Kd.R_ne HO_4.out BK246.out (by decide)))) _).trans (((cell_far (p:=⟨gb246,_,none⟩) (by first|exact Kd.own_blk (Kd.R_ne HO_4.out BK246.out (by decide))|(rw [add_block];exact Kd.own_blk (Kd.R_ne HO_4.out BK246.out (by decide)))|(show (Addr.add _ _).block≠_;rw [add_block];exact Kd.own_blk (Kd.R_ne HO_4.out BK246.out (by decide)))|(dsimp only;exact Kd.own_blk (Kd.R_ne HO_4.out BK246.out (by decide)))) _).trans (((cell_far (p:=⟨gb246,_,none⟩) (by first|exact Kd.own_blk (Kd.R_ne HO_4.out BK246.out (by decide))|(rw [add_block];exact Kd.own_blk (Kd.R_ne HO_4.out BK246.out (by decide)))|(show (Addr.add _ _).block≠_;rw [add_block];exact Kd.own_blk (Kd.R_ne HO_4.out BK246.out (by decide)))|(dsimp only;exact Kd.own_blk (Kd.R_ne HO_4.out BK246.out (by decide)))) _).trans (((cell_far (p:=⟨gb246,_,none⟩) (by first|exact Kd.own_blk (Kd.R_ne HO_4.out BK246.out (by decide))|(rw [add_block];exact Kd.own_blk (Kd.R_ne HO_4.out BK246.out (by decide)))|(show (Addr.add _ _).block≠_;rw [add_block];exact Kd.own_blk (Kd.R_ne HO_4.out BK246.out (by decide)))|(dsimp only;exact Kd.own_blk (Kd.R_ne HO_4.out BK246.out (by decide)))) _).trans (hHeld.2.2))))))))⟩ (fun hHeld=>?_)
                 clear hK K
                 refine done_ (done_of HT_.out (by kernel_rfl)) ?_
                 (try clear HS0_);(try clear HS1_);(try clear HS2_);(try clear hHeld)
                 have hnb48:=NB246_225.out
                 have hnc48:=NB225_246.out
                 have hcz49_0 : w43.cell? ⟨gb246,0,none⟩=some (.slice none 0 0):=(blk_cell BK246.out 0).trans rfl
                 have hcz49_1 : w43.cell? ⟨gb246,1,none⟩=some (.int .i64 0):=(blk_cell BK246.out 1).trans rfl
                 have hcz49_2 : w43.cell? ⟨gb246,2,none⟩=some (.int .i64 0):=(blk_cell BK246.out 2).trans rfl
                 have hcz49_3 : w43.cell? ⟨gb246,3,none⟩=some (.int .i64 0):=(blk_cell BK246.out 3).trans rfl
                 have hfz49_0:=blk_frozen BK246.out 0
                 have hfz49_1:=blk_frozen BK246.out 1
                 have hfz49_2:=blk_frozen BK246.out 2
                 have hfz49_3:=blk_frozen BK246.out 3
                 try go_wp2_with (first|((with_reducible refine gate_callee (f:=23) rfl ?_);refine goesL_ (some 69) rfl rfl Try.func23 (by kernel_rfl) rfl #[.agg #[.slice A42 y238.length y238.length,.int .i64 (rd x4_1 (ji29)),.int .i64 (rd x4_1 (ji32)),.int .i64 (rd x4_1 (ji35))]] rfl (by (try simp only [List.map_toArray,List.map_cons,List.map_nil]);first|done|(simp only [hji29,hji32,hji35];rfl)|rfl|(simp only [List.length_drop,List.length_take];rfl)) ?_;(with_reducible refine (schema_Check.calls _ _ y238 (rd x4_1 (ji29)) (rd x4_1 (ji32)) (rd x4_1 (ji35)) t247 _ ?side1 ?side2 A38.out).mono ?_);(case side1=>refine (Kd.V_reads' (e:=3) (base:=w.heap.size) (ok:=fun k_=>(((P0_ k_ ∨ w.heap.size≤k_)∧k_≠gb225)∧k_≠gb246)) (n:=y238.length) (c:=y238.length) ?_).2.2;exact (by (with_reducible repeat (first|apply Kd.V_alloc|apply Kd.V_drewN|apply Kd.V_drew));exact (Kd.V_mono (Kd.V_far (p:=⟨gb246,3,none⟩) (Kd.V_far (p:=⟨gb246,2,none⟩) (Kd.V_far (p:=⟨gb246,1,none⟩) (Kd.V_far (p:=⟨gb246,0,none⟩) (Kd.V_mono HO242.out (fun k_ hk=>(⟨hk,hk.2⟩ : _∧k_≠gb246))) (fun _ hk=>hk.2) (.slice A42 y238.length y238.length)) (fun _ hk=>hk.2) (.int .i64 (rd x4_1 (ji29)))) (fun _ hk=>hk.2) (.int .i64 (rd x4_1 (ji32)))) (fun _ hk=>hk.2) (.int .i64 (rd x4_1 (ji35)))) (fun _ h_=>h_.1))));(case side2=>exact (Kd.V_reads' HO242.out).2.1);rintro e w50 ⟨rfl,hb⟩;refine ⟨_,rfl,?_⟩;have n0_:=Aside0.mk (Kd.R_below (by (with_reducible repeat (first|apply Kd.R_alloc|apply Kd.R_drewN|apply Kd.R_drew));exact (Kd.R_mono (Kd.R_far (p:=⟨gb246,3,none⟩) (Kd.R_far (p:=⟨gb246,2,none⟩) (Kd.R_far (p:=⟨gb246,1,none⟩) (Kd.R_far (p:=⟨gb246,0,none⟩) (Kd.R_types HO_4.out BK246.out (by decide)) (fun _ hk=>hk.2) (.slice A42 y238.length y238.length)) (fun _ hk=>hk.2) (.int .i64 (rd x4_1 (ji29)))) (fun _ hk=>hk.2) (.int .i64 (rd x4_1 (ji32)))) (fun _ hk=>hk.2) (.int .i64 (rd x4_1 (ji35)))) (fun _ h_=>h_.1))) hb);have n1_:=Aside0.mk (Kd.V_below (by (with_reducible repeat (first|apply Kd.V_alloc|apply Kd.V_drewN|apply Kd.V_drew));exact (Kd.V_mono (Kd.V_far (p:=⟨gb246,3,none⟩) (Kd.V_far (p:=⟨gb246,2,none⟩) (Kd.V_far (p:=⟨gb246,1,none⟩) (Kd.V_far (p:=⟨gb246,0,none⟩) (Kd.V_mono HO242.out (fun k_ hk=>(⟨hk,hk.2⟩ : _∧k_≠gb246))) (fun _ hk=>hk.2) (.slice A42 y238.length y238.length)) (fun _ hk=>hk.2) (.int .i64 (rd x4_1 (ji29)))) (fun _ hk=>hk.2) (.int .i64 (rd x4_1 (ji32)))) (fun _ hk=>hk.2) (.int .i64 (rd x4_1 (ji35)))) (fun _ h_=>h_.1))) hb);have n2_:=Aside0.mk (blk_below (g:=gb225) (o:=.cells #[.slice none 0 0,.int .i64 x226001_1,.int .i64 x226002_1,.int .i64 x226003_1] 30 (0,0)) (by (with_reducible repeat (first|refine blk_drewN ?_ _|refine blk_drew ?_|refine blk_alloc ?_ _));refine blk_far ?_ NB225_246.out _;(with_reducible repeat (first|refine blk_drewN ?_ _|refine blk_drew ?_|refine blk_alloc ?_ _));refine blk_far ?_ NB225_246.out _;(with_reducible repeat (first|refine blk_drewN ?_ _|refine blk_drew ?_|refine blk_alloc ?_ _));refine blk_far ?_ NB225_246.out _;(with_reducible repeat (first|refine blk_drewN ?_ _|refine blk_drew ?_|refine blk_alloc ?_ _));refine blk_far ?_ NB225_246.out _;(with_reducible repeat (first|refine blk_drewN ?_ _|refine blk_drew ?_|refine blk_alloc ?_ _));exact BK225.out) hb);have n3_:=Aside0.mk (blk_below (g:=gb246) (o:=.cells #[.slice A42 y238.length y238.length,.int .i64 (rd x4_1 (ji29)),.int .i64 (rd x4_1 (ji32)),.int .i64 (rd x4_1 (ji35))] 30 (0,0)) (by (with_reducible repeat (first|refine blk_drewN ?_ _|refine blk_drew ?_|refine blk_alloc ?_ _));refine blk_put (cs:=#[.slice A42 y238.length y238.length,.int .i64 (rd x4_1 (ji29)),.int .i64 (rd x4_1 (ji32)),.int .i64 0]) ?_ 3 _ rfl;(with_reducible repeat (first|refine blk_drewN ?_ _|refine blk_drew ?_|refine blk_alloc ?_ _));refine blk_put (cs:=#[.slice A42 y238.length y238.length,.int .i64 (rd x4_1 (ji29)),.int .i64 0,.int .i64 0]) ?_ 2 _ rfl;(with_reducible repeat (first|refine blk_drewN ?_ _|refine blk_drew ?_|refine blk_alloc ?_ _));refine blk_put (cs:=#[.slice A42 y238.length y238.length,.int .i64 0,.int .i64 0,.int .i64 0]) ?_ 1 _ rfl;(with_reducible repeat (first|refine blk_drewN ?_ _|refine blk_drew ?_|refine blk_alloc ?_ _));refine blk_put (cs:=#[.slice none 0 0,.int .i64 0,.int .i64 0,.int .i64 0]) ?_ 0 _ rfl;(with_reducible repeat (first|refine blk_drewN ?_ _|refine blk_drew ?_|refine blk_alloc ?_ _));exact BK246.out) hb);have n4_:=Aside0.mk (below_step (below_go HB.out) hb);clear HO_4;clear HO242;clear BK225;clear BK246;clear HB;have HO_4:=n0_;have HO242:=n1_;have BK225:=n2_;have BK246:=n3_;have HB:=n4_;clear n0_ n1_ n2_ n3_ n4_;(try clear hb);(try clear hb2);(try clear hk);(try clear hi);have hcz51_0 : w50.cell? ⟨gb246,0,none⟩=some (.slice A42 y238.length y238.length):=(blk_cell BK246.out 0).trans rfl;have hcz51_1 : w50.cell? ⟨gb246,1,none⟩=some (.int .i64 (rd x4_1 (ji29))):=(blk_cell BK246.out 1).trans rfl;have hcz51_2 : w50.cell? ⟨gb246,2,none⟩=some (.int .i64 (rd x4_1 (ji32))):=(blk_cell BK246.out 2).trans rfl;have hcz51_3 : w50.cell? ⟨gb246,3,none⟩=some (.int .i64 (rd x4_1 (ji35))):=(blk_cell BK246.out 3).trans rfl;have hfz51_0:=blk_frozen BK246.out 0;have hfz51_1:=blk_frozen BK246.out 1;have hfz51_2:=blk_frozen BK246.out 2;have hfz51_3:=blk_frozen BK246.out 3;have hcz52_0 : w50.cell? ⟨gb225,0,none⟩=some (.slice none 0 0):=(blk_cell BK225.out 0).trans rfl;have hcz52_1 : w50.cell? ⟨gb225,1,none⟩=some (.int .i64 x226001_1):=(blk_cell BK225.out 1).trans rfl;have hcz52_2 : w50.cell? ⟨gb225,2,none⟩=some (.int .i64 x226002_1):=(blk_cell BK225.out 2).trans rfl;have hcz52_3 : w50.cell? ⟨gb225,3,none⟩=some (.int .i64 x226003_1):=(blk_cell BK225.out 3).trans rfl;have hfz52_0:=blk_frozen BK225.out 0;have hfz52_1:=blk_frozen BK225.out 1;have hfz52_2:=blk_frozen BK225.out 2;have hfz52_3:=blk_frozen BK225.out 3))
                 refine bodyPost_ret (results_ct rfl _ _ gb225 30 #[.slice A42 y238.length y238.length,.int .i64 (rd x4_1 (ji29)),.int .i64 (rd x4_1 (ji32)),.int .i64 (rd x4_1 (ji35))] (0,0) _ rfl (by (with_reducible repeat (first|refine blk_drewN ?_ _|refine blk_drew ?_|refine blk_alloc ?_ _));refine blk_put (cs:=#[.slice A42 y238.length y238.length,.int .i64 (rd x4_1 (ji29)),.int .i64 (rd x4_1 (ji32)),.int .i64 x226003_1]) ?_ 3 _ rfl;(with_reducible repeat (first|refine blk_drewN ?_ _|refine blk_drew ?_|refine blk_alloc ?_ _));refine blk_put (cs:=#[.slice A42 y238.length y238.length,.int .i64 (rd x4_1 (ji29)),.int .i64 x226002_1,.int .i64 x226003_1]) ?_ 2 _ rfl;(with_reducible repeat (first|refine blk_drewN ?_ _|refine blk_drew ?_|refine blk_alloc ?_ _));refine blk_put (cs:=#[.slice A42 y238.length y238.length,.int .i64 x226001_1,.int .i64 x226002_1,.int .i64 x226003_1]) ?_ 1 _ rfl;(with_reducible repeat (first|refine blk_drewN ?_ _|refine blk_drew ?_|refine blk_alloc ?_ _));refine blk_put (cs:=#[.slice none 0 0,.int .i64 x226001_1,.int .i64 x226002_1,.int .i64 x226003_1]) ?_ 0 _ rfl;(with_reducible repeat (first|refine blk_drewN ?_ _|refine blk_drew ?_|refine blk_alloc ?_ _));exact BK225.out) Try.underlying30 rfl (by kernel_rfl)) rfl ?_
                 exact ⟨_,by first|rfl|(simp [errW_none,errW_some] <;> rfl)|(simp only [← hji29,← hji32,← hji35];first|rfl|(simp [errW_none,errW_some] <;> rfl))|(simp [*,errW_none,errW_some] <;> rfl),by (with_reducible repeat (first|apply Kd.V_alloc|apply Kd.V_drewN|apply Kd.V_drew));exact Kd.V_mono (Kd.V_far (p:=⟨gb225,3,none⟩) (Kd.V_far (p:=⟨gb225,2,none⟩) (Kd.V_far (p:=⟨gb225,1,none⟩) (Kd.V_far (p:=⟨gb225,0,none⟩) (Kd.V_mono HO242.out (fun k_ hk=>(⟨hk,hk.1.2⟩ : _∧k_≠gb225))) (fun _ hk=>hk.2) (.slice A42 y238.length y238.length)) (fun _ hk=>hk.2) (.int .i64 (rd x4_1 (ji29)))) (fun _ hk=>hk.2) (.int .i64 (rd x4_1 (ji32)))) (fun _ hk=>hk.2) (.int .i64 (rd x4_1 (ji35)))) (fun _ hk=>hk.1.1.1),by repeat (first|(with_reducible first|exact HB.out|apply below_alloc|apply pw_below_drewN|apply below_drew1|refine below_set ?_ GE225.out|refine below_set ?_ GE246.out)|exact HB.out)⟩
                ·rw [if_neg c39] at H
                 have c39b0 : (t247 == 0)=false:=beq_eq_false_iff_ne.mpr c39
                 have c39b1 : (t247 != 0)=true:=bne_iff_ne.mpr c39
                 simp only [Option.some.injEq,Prod.mk.injEq] at H
                 obtain ⟨rfl,rfl,rfl,rfl,rfl⟩:=H
                 obtain ⟨Ao53,co53,eo53⟩:=Kd.R_slice HO_4.out
                 subst eo53
                 have p237 : 0≤(0 : Int):=(by omega)
                 have q237 : 0 < (x4_1.length : Int):=of_decide_eq_true (by first|(with_reducible assumption)|assumption)
                 obtain ⟨ad237,e237,hx237_0⟩:=Kd.at_int (Kd.R_reads' HO_4.out).2.2 0 p237 q237
                 cases e237
                 have qi237 : (0 < x4_1.length)=True:=eq_true (by omega)
                 (try rw [show ((0 : Int)).toNat=0 from rfl] at hx237_0)
                 (try rw [Addr.add_zero'] at hx237_0)
                 replace p237:=eq_true p237
                 replace q237:=eq_true q237
                 try go_wp2
                 have n0_:=Aside0.mk (Kd.R_drew HO_4.out)
                 have n1_:=Aside0.mk (blk_drew BK225.out)
                 have n2_:=Aside0.mk (below_drew1 HB.out)
                 clear HO_4
                 clear BK225
                 clear HB
                 have HO_4:=n0_
                 have BK225:=n1_
                 have HB:=n2_
                 clear n0_ n1_ n2_
                 have q55 : ((ji29) : Int)≤((x4_1.length : Int) : Int):=of_decide_eq_true (by first|(with_reducible assumption)|assumption)
                 obtain ⟨i055,hi055,_,hsz55,_⟩:=info_parts info3
                 have hroom55 : x4_1.length≤co53:=(Kd.R_reads' HO_4.out).2.1
                 have hC55 : Kd.F (Kd.int .i64) _ _ (some ad237) x4_1.length x4_1:=(Kd.V_at (base:=w.heap.size) (Kd.V_mono (ok':=(fun k_=>((P0_ k_ ∨ w.heap.size≤k_)∧k_≠gb225))) (Kd.R_V (Kd.R_types (HO_4.out) BK225.out (by decide))) (fun k_ hk=>⟨(.inr (hk.1)),hk.2⟩))).2.2
                 have ql55 : (1 : Int)≤((ji29) : Int):=of_decide_eq_true (by first|(with_reducible assumption)|assumption)
                 have hcut55:=cut_mid3 (P:=Try.prog) 28 3 .i64 .i64 .i64 Try.underlying28 hi055 1 hsz55 (some ad237) x4_1.length co53 1 (ji29) (by omega) ql55 q55 hroom55
                 have hr55:=Kd.F_mid3 (lo:=(1 : Int).toNat) (hi:=((ji29) : Int).toNat) hC55 (by omega) (by omega)
                 obtain ⟨A55,hA55⟩ : ∃ Z_,Z_=(if ((ji29) : Int).toNat=(1 : Int).toNat then (some ad237) else ((some ad237) : Option Addr).map (·.add ((1 : Int).toNat * 1))):=⟨_,rfl⟩
                 obtain ⟨c55,hc55⟩ : ∃ z_,z_=((ji29) : Int).toNat - (1 : Int).toNat:=⟨_,rfl⟩
                 have hy55 : y238.length=((ji29) : Int).toNat - (1 : Int).toNat:=(by rw [Ny238.out,List.length_drop,List.length_take] <;> omega)
                 rw [show ((x4_1).take ((ji29) : Int).toNat).drop (1 : Int).toNat=y238 from Ny238.out.symm] at hr55
                 replace hr55 : Kd.F (Kd.int .i64) _ _ A55 y238.length y238:=(by rw [hA55];exact hr55)
                 have hcc55 : c55=y238.length:=hc55.trans hy55.symm
                 rw [← hy55,← hA55] at hcut55
                 have HO242:=Aside0.mk (show Kd.V (Kd.int .i64) 3 _ w.heap.size _ (.slice A55 y238.length y238.length) y238 from Kd.V_mk (Nat.le_refl _) hr55)
                 have HC242:=Aside0.mk (show y238.length≤y238.length from Nat.le_refl _)
                 clear hr55 hC55 hroom55 hi055 hsz55 hc55 hcc55
                 have KY55:=Aside0.mk hy55
                 have KA55:=Aside0.mk hA55
                 clear hy55 hA55
                 replace q55:=eq_true q55
                 have p243 : 0≤((ji29) : Int):=of_decide_eq_true (by first|(with_reducible assumption)|assumption)
                 have q243 : (ji29) < (x4_1.length : Int):=of_decide_eq_true (by first|(with_reducible assumption)|assumption)
                 obtain ⟨ad243,e243,hx243_0⟩:=Kd.at_int (Kd.R_reads' HO_4.out).2.2 (ji29) p243 q243
                 obtain rfl : ad237=ad243:=(by injection e243)
                 replace p243:=eq_true p243
                 replace q243:=eq_true q243
                 have p244 : 0≤((ji32) : Int):=of_decide_eq_true (by first|(with_reducible assumption)|assumption)
                 have q244 : (ji32) < (x4_1.length : Int):=of_decide_eq_true (by first|(with_reducible assumption)|assumption)
                 obtain ⟨ad244,e244,hx244_0⟩:=Kd.at_int (Kd.R_reads' HO_4.out).2.2 (ji32) p244 q244
                 obtain rfl : ad237=ad244:=(by injection e244)
                 replace p244:=eq_true p244
                 replace q244:=eq_true q244
                 have p245 : 0≤((ji35) : Int):=of_decide_eq_true (by first|(with_reducible assumption)|assumption)
                 have q245 : (ji35) < (x4_1.length : Int):=of_decide_eq_true (by first|(with_reducible assumption)|assumption)
                 obtain ⟨ad245,e245,hx245_0⟩:=Kd.at_int (Kd.R_reads' HO_4.out).2.2 (ji35) p245 q245
                 obtain rfl : ad237=ad245:=(by injection e245)
                 replace p245:=eq_true p245
                 replace q245:=eq_true q245
                 refine start_ (n:=21) (S:=fun w'=>w'.cell? (ad237.add ((ji29)).toNat)=some (.int .i64 (rd x4_1 (ji29)))∧w'.cell? (ad237.add ((ji32)).toNat)=some (.int .i64 (rd x4_1 (ji32)))∧w'.cell? (ad237.add ((ji35)).toNat)=some (.int .i64 (rd x4_1 (ji35)))) (ds:=[]) #[false,false,false,false,false,false,false,false,false,false,false,false,false,false,false,false,false,false,false,false,false] (by kernel_rfl) rfl rfl ⟨hx243_0,hx244_0,hx245_0⟩ (fun hHeld=>?_);refine with_tabW schema_Take.tab10 schema_Take.bits10 (fun HT_ HW_=>?_)
                 generalize wc.drew=w54 at HO_4 BK225 HB HO242 hx243_0 hx244_0 hx245_0 hHeld ⊢
                 refine pure_ (i:=0) (N:=some 49) (v:=?_) (a':=?_) #[true,false,false,false,false,false,false,false,false,false,false,false,false,false,false,false,false,false,false,false,false] rfl rfl (any_of HT_.out (by kernel_rfl)) (fun _ _ _ h=>h) (Or.inl ⟨by rfl,?_⟩) ?_ ?_
                 rotate_left;(intro w';go_simp;with_reducible rfl);rotate_left;(simp only [Act.put,List.setIfInBounds_toArray,List.set_cons_zero,List.set_cons_succ,i64_w,i32_w];rfl)
                 refine pure_ (i:=1) (N:=some 50) (v:=?_) (a':=?_) #[true,true,false,false,false,false,false,false,false,false,false,false,false,false,false,false,false,false,false,false,false] rfl rfl (any_of HT_.out (by kernel_rfl)) (fun _ _ _ h=>h) (Or.inl ⟨by rfl,?_⟩) ?_ ?_
                 rotate_left;(intro w';go_simp;with_reducible rfl);rotate_left;(simp only [Act.put,List.setIfInBounds_toArray,List.set_cons_zero,List.set_cons_succ,i64_w,i32_w];rfl)
                 refine pure_ (i:=2) (N:=some 51) (v:=?_) (a':=?_) #[true,true,true,false,false,false,false,false,false,false,false,false,false,false,false,false,false,false,false,false,false] rfl rfl (any_of HT_.out (by kernel_rfl)) (fun _ _ _ h=>h) (Or.inl ⟨by rfl,?_⟩) ?_ ?_
                 rotate_left;(intro w';go_simp;with_reducible rfl);rotate_left;(simp only [Act.put,List.setIfInBounds_toArray,List.set_cons_zero,List.set_cons_succ,i64_w,i32_w];rfl)
                 refine pure_ (i:=3) (N:=some 52) (v:=?_) (a':=?_) #[true,true,true,true,false,false,false,false,false,false,false,false,false,false,false,false,false,false,false,false,false] rfl rfl (any_of HT_.out (by kernel_rfl)) (fun _ _ _ h=>h) (Or.inl ⟨by rfl,?_⟩) ?_ ?_
                 rotate_left;(intro w';go_simp;with_reducible rfl);rotate_left;(simp only [Act.put,List.setIfInBounds_toArray,List.set_cons_zero,List.set_cons_succ,i64_w,i32_w];rfl)
                 refine pure_ (i:=4) (N:=some 53) (v:=?_) (a':=?_) #[true,true,true,true,true,false,false,false,false,false,false,false,false,false,false,false,false,false,false,false,false] rfl rfl (any_of HT_.out (by kernel_rfl)) (fun _ _ _ h=>h) (Or.inl ⟨by rfl,?_⟩) ?_ ?_
                 rotate_left;(intro w';go_simp;with_reducible rfl);rotate_left;(simp only [Act.put,List.setIfInBounds_toArray,List.set_cons_zero,List.set_cons_succ,i64_w,i32_w];rfl)
                 refine pure_ (i:=5) (N:=some 54) (v:=?_) (a':=?_) #[true,true,true,true,true,true,false,false,false,false,false,false,false,false,false,false,false,false,false,false,false] rfl rfl (any_of HT_.out (by kernel_rfl)) (fun _ _ _ h=>h) (Or.inl ⟨by rfl,?_⟩) ?_ ?_
                 rotate_left;(intro w';go_simp;with_reducible rfl);rotate_left;(simp only [Act.put,List.setIfInBounds_toArray,List.set_cons_zero,List.set_cons_succ,i64_w,i32_w];rfl)
                 refine pure_ (i:=6) (N:=some 55) (v:=?_) (a':=?_) #[true,true,true,true,true,true,true,false,false,false,false,false,false,false,false,false,false,false,false,false,false] rfl rfl (any_of HT_.out (by kernel_rfl)) (fun _ _ _ h=>h) (Or.inl ⟨by rfl,?_⟩) ?_ ?_
                 rotate_left;(intro w';go_simp;with_reducible rfl);rotate_left;(simp only [Act.put,List.setIfInBounds_toArray,List.set_cons_zero,List.set_cons_succ,i64_w,i32_w];rfl)
                 refine pure_ (i:=8) (N:=some 57) (v:=?_) (a':=?_) #[true,true,true,true,true,true,true,false,true,false,false,false,false,false,false,false,false,false,false,false,false] rfl rfl (any_of HT_.out (by kernel_rfl)) (fun _ _ _ h=>h) (Or.inl ⟨by rfl,?_⟩) ?_ ?_
                 rotate_left;(intro w';go_simp;with_reducible rfl);rotate_left;(simp only [Act.put,List.setIfInBounds_toArray,List.set_cons_zero,List.set_cons_succ,i64_w,i32_w];rfl)
                 refine pure_ (i:=9) (N:=some 58) (v:=?_) (a':=?_) #[true,true,true,true,true,true,true,false,true,true,false,false,false,false,false,false,false,false,false,false,false] rfl rfl (any_of HT_.out (by kernel_rfl)) (fun _ _ _ h=>h) (Or.inl ⟨by rfl,?_⟩) ?_ ?_
                 rotate_left;(intro w';go_simp;with_reducible rfl);rotate_left;(simp only [Act.put,List.setIfInBounds_toArray,List.set_cons_zero,List.set_cons_succ,i64_w,i32_w];rfl)
                 refine pure_ (i:=10) (N:=some 59) (v:=?_) (a':=?_) #[true,true,true,true,true,true,true,false,true,true,true,false,false,false,false,false,false,false,false,false,false] rfl rfl (any_of HT_.out (by kernel_rfl)) (fun _ _ _ h=>h) (Or.inl ⟨by rfl,?_⟩) ?_ ?_
                 rotate_left;(intro w';go_simp;with_reducible rfl);rotate_left;(simp only [Act.put,List.setIfInBounds_toArray,List.set_cons_zero,List.set_cons_succ,i64_w,i32_w];rfl)
                 refine pure_ (i:=11) (N:=some 60) (v:=?_) (a':=?_) #[true,true,true,true,true,true,true,false,true,true,true,true,false,false,false,false,false,false,false,false,false] rfl rfl (any_of HT_.out (by kernel_rfl)) (fun _ _ _ h=>h) (Or.inl ⟨by rfl,?_⟩) ?_ ?_
                 rotate_left;(intro w';go_simp;with_reducible rfl);rotate_left;(simp only [Act.put,List.setIfInBounds_toArray,List.set_cons_zero,List.set_cons_succ,i64_w,i32_w];rfl)
                 refine pure_ (i:=13) (N:=some 62) (v:=?_) (a':=?_) #[true,true,true,true,true,true,true,false,true,true,true,true,false,true,false,false,false,false,false,false,false] rfl rfl (any_of HT_.out (by kernel_rfl)) (fun _ _ _ h=>h) (Or.inl ⟨by rfl,?_⟩) ?_ ?_
                 rotate_left;(intro w';go_simp;with_reducible rfl);rotate_left;(simp only [Act.put,List.setIfInBounds_toArray,List.set_cons_zero,List.set_cons_succ,i64_w,i32_w];rfl)
                 refine pure_ (i:=14) (N:=some 63) (v:=?_) (a':=?_) #[true,true,true,true,true,true,true,false,true,true,true,true,false,true,true,false,false,false,false,false,false] rfl rfl (any_of HT_.out (by kernel_rfl)) (fun _ _ _ h=>h) (Or.inl ⟨by rfl,?_⟩) ?_ ?_
                 rotate_left;(intro w';go_simp;with_reducible rfl);rotate_left;(simp only [Act.put,List.setIfInBounds_toArray,List.set_cons_zero,List.set_cons_succ,i64_w,i32_w];rfl)
                 refine pure_ (i:=15) (N:=some 64) (v:=?_) (a':=?_) #[true,true,true,true,true,true,true,false,true,true,true,true,false,true,true,true,false,false,false,false,false] rfl rfl (any_of HT_.out (by kernel_rfl)) (fun _ _ _ h=>h) (Or.inl ⟨by rfl,?_⟩) ?_ ?_
                 rotate_left;(intro w';go_simp;with_reducible rfl);rotate_left;(simp only [Act.put,List.setIfInBounds_toArray,List.set_cons_zero,List.set_cons_succ,i64_w,i32_w];rfl)
                 refine pure_ (i:=16) (N:=some 65) (v:=?_) (a':=?_) #[true,true,true,true,true,true,true,false,true,true,true,true,false,true,true,true,true,false,false,false,false] rfl rfl (any_of HT_.out (by kernel_rfl)) (fun _ _ _ h=>h) (Or.inl ⟨by rfl,?_⟩) ?_ ?_
                 rotate_left;(intro w';go_simp;with_reducible rfl);rotate_left;(simp only [Act.put,List.setIfInBounds_toArray,List.set_cons_zero,List.set_cons_succ,i64_w,i32_w];rfl)
                 refine take_ (i:=7) (N:=some 56) (v:=?_) (a':=?_) #[true,true,true,true,true,true,true,true,true,true,true,true,false,true,true,true,true,false,false,false,false] rfl rfl (take_ofW HT_.out HW_.out (by kernel_rfl)) (fun _ _ _ h=>h) (Or.inl ⟨by rfl,?_⟩) hHeld ?_ ?_
                 rotate_left;(rintro w' ⟨s0,s1,s2⟩;go_simp;with_reducible rfl);rotate_left;(simp only [Act.put,List.setIfInBounds_toArray,List.set_cons_zero,List.set_cons_succ,i64_w,i32_w];rfl)
                 refine take_ (i:=12) (N:=some 61) (v:=?_) (a':=?_) #[true,true,true,true,true,true,true,true,true,true,true,true,true,true,true,true,true,false,false,false,false] rfl rfl (take_ofW HT_.out HW_.out (by kernel_rfl)) (fun _ _ _ h=>h) (Or.inl ⟨by rfl,?_⟩) hHeld ?_ ?_
                 rotate_left;(rintro w' ⟨s0,s1,s2⟩;go_simp;with_reducible rfl);rotate_left;(simp only [Act.put,List.setIfInBounds_toArray,List.set_cons_zero,List.set_cons_succ,i64_w,i32_w];rfl)
                 refine take_ (i:=17) (N:=some 66) (v:=?_) (a':=?_) #[true,true,true,true,true,true,true,true,true,true,true,true,true,true,true,true,true,true,false,false,false] rfl rfl (take_ofW HT_.out HW_.out (by kernel_rfl)) (fun _ _ _ h=>h) (Or.inl ⟨by rfl,?_⟩) hHeld ?_ ?_
                 rotate_left;(rintro w' ⟨s0,s1,s2⟩;go_simp;with_reducible rfl);rotate_left;(simp only [Act.put,List.setIfInBounds_toArray,List.set_cons_zero,List.set_cons_succ,i64_w,i32_w];rfl)
                 refine pure_ (i:=18) (N:=some 67) (v:=?_) (a':=?_) #[true,true,true,true,true,true,true,true,true,true,true,true,true,true,true,true,true,true,true,false,false] rfl rfl (any_of HT_.out (by kernel_rfl)) (fun _ _ _ h=>h) (Or.inl ⟨by rfl,?_⟩) ?_ ?_
                 rotate_left;(intro w';go_simp;with_reducible rfl);rotate_left;(simp only [Act.put,List.setIfInBounds_toArray,List.set_cons_zero,List.set_cons_succ,i64_w,i32_w];rfl)
                 refine one_ (i:=19) (N:=some 8) #[true,true,true,true,true,true,true,true,true,true,true,true,true,true,true,true,true,true,true,true,false] rfl rfl (one_of HT_.out (by kernel_rfl)) (by decide) (fun K hK=>?_)
                 refine box_step ?hg (N:=8) ?hd (cs:=#[.slice none 0 0,.int .i64 0,.int .i64 0,.int .i64 0]) (t:=30) ?hr ?_;(case hd=>rfl);(case hg=>rfl);(case hr=>first|(go_simp;done)|(go_simp;rfl))
                 intro gb246 hg w56 hbox hb
                 have HS0_:=(hb.cell (World.block_lt_of_cell? _ _ (hHeld.1))).trans (hHeld.1)
                 have HS1_:=(hb.cell (World.block_lt_of_cell? _ _ (hHeld.2.1))).trans (hHeld.2.1)
                 have HS2_:=(hb.cell (World.block_lt_of_cell? _ _ (hHeld.2.2))).trans (hHeld.2.2)
                 have n0_:=Aside0.mk (Kd.R_below (R_up HO_4.out) hb)
                 have n1_:=Aside0.mk (Kd.V_below (Kd.V_elderB (V_up HO242.out) gb246 (Nat.le_of_eq hg.symm)) hb)
                 have n2_:=Aside0.mk (blk_below (blk_up BK225.out) hb)
                 have n3_:=Aside0.mk (below_step (below_go HB.out) hb)
                 have n4_:=Aside0.mk (hbox)
                 have n5_:=Aside0.mk ((by rw [hg];exact (below_size (below_go HB.out)) : w.heap.size≤gb246))
                 have n6_:=Aside0.mk ((by rw [hg];exact (below_size (below_go HB.out)) : w.heap.size≤gb246))
                 have n7_:=Aside0.mk ((by rw [hg];exact Nat.ne_of_lt (blk_lt (blk_up BK225.out)) : gb225≠gb246))
                 have n8_:=Aside0.mk ((by rw [hg];exact Nat.ne_of_gt (blk_lt (blk_up BK225.out)) : gb246≠gb225))
                 clear HO_4
                 clear HO242
                 clear BK225
                 clear HB
                 have HO_4:=n0_
                 have HO242:=n1_
                 have BK225:=n2_
                 have HB:=n3_
                 have BK246:=n4_
                 have GW246:=n5_
                 have GE246:=n6_
                 have NB225_246:=n7_
                 have NB246_225:=n8_
                 clear n0_ n1_ n2_ n3_ n4_ n5_ n6_ n7_ n8_
                 clear hb hbox hg
                 refine hK.out _ _ ⟨HS0_,HS1_,HS2_⟩ (fun hHeld=>?_)
                 clear hK K
                 refine norm_ (a':=?_) ?_ ?_
                 rotate_left
                 ·show Act.put _ (some 8) _=_
                  simp only [Act.put,List.setIfInBounds_toArray,List.set_cons_zero,List.set_cons_succ,i64_w,i32_w]
                  rfl
                 refine one_ (i:=20) (N:=none) #[true,true,true,true,true,true,true,true,true,true,true,true,true,true,true,true,true,true,true,true,true] rfl rfl (one_of HT_.out (by kernel_rfl)) (by decide) (fun K hK=>?_)
                 have hs57 : w56.cell? ⟨gb246,0,none⟩=some (.slice none 0 0):=(blk_cell BK246.out 0).trans rfl
                 have hfs57:=blk_frozen BK246.out 0
                 have hns57_0:=NB225_246.out
                 have hms57_0:=NB246_225.out
                 have hs58 : w56.cell? ⟨gb246,1,none⟩=some (.int .i64 0):=(blk_cell BK246.out 1).trans rfl
                 have hfs58:=blk_frozen BK246.out 1
                 have hns58_0:=NB225_246.out
                 have hms58_0:=NB246_225.out
                 have hs59 : w56.cell? ⟨gb246,2,none⟩=some (.int .i64 0):=(blk_cell BK246.out 2).trans rfl
                 have hfs59:=blk_frozen BK246.out 2
                 have hns59_0:=NB225_246.out
                 have hms59_0:=NB246_225.out
                 have hs60 : w56.cell? ⟨gb246,3,none⟩=some (.int .i64 0):=(blk_cell BK246.out 3).trans rfl
                 have hfs60:=blk_frozen BK246.out 3
                 have hns60_0:=NB225_246.out
                 have hms60_0:=NB246_225.out
                 refine skip_ (w1:=?_) (by rfl) rfl ?_ ?_
                 rotate_left
                 ·go_simp
                  rfl
                 refine hK.out _ _ ⟨((cell_far (p:=⟨gb246,_,none⟩) (by first|exact Kd.own_blk (Kd.R_ne HO_4.out BK246.out (by decide))|(rw [add_block];exact Kd.own_blk (Kd.R_ne HO_4.out BK246.out (by decide)))|(show (Addr.add _ _).block≠_;rw [add_block];exact Kd.own_blk (Kd.R_ne HO_4.out BK246.out (by decide)))|(dsimp only;exact Kd.own_blk (Kd.R_ne HO_4.out BK246.out (by decide)))) _).trans (((cell_far (p:=⟨gb246,_,none⟩) (by first|exact Kd.own_blk (Kd.R_ne HO_4.out BK246.out (by decide))|(rw [add_block];exact Kd.own_blk (Kd.R_ne HO_4.out BK246.out (by decide)))|(show (Addr.add _ _).block≠_;rw [add_block];exact Kd.own_blk (Kd.R_ne HO_4.out BK246.out (by decide)))|(dsimp only;exact Kd.own_blk (Kd.R_ne HO_4.out BK246.out (by decide)))) _).trans (((cell_far (p:=⟨gb246,_,none⟩) (by first|exact Kd.own_blk (Kd.R_ne HO_4.out BK246.out (by decide))|(rw [add_block];exact Kd.own_blk (Kd.R_ne HO_4.out BK246.out (by decide)))|(show (Addr.add _ _).block≠_;rw [add_block];exact Kd.own_blk (Kd.R_ne HO_4.out BK246.out (by decide)))|(dsimp only;exact Kd.own_blk (Kd.R_ne HO_4.out BK246.out (by decide)))) _).trans (((cell_far (p:=⟨gb246,_,none⟩) (by first|exact Kd.own_blk (Kd.R_ne HO_4.out BK246.out (by decide))|(rw [add_block];exact Kd.own_blk (Kd.R_ne HO_4.out BK246.out (by decide)))|(show (Addr.add _ _).block≠_;rw [add_block];exact Kd.own_blk (Kd.R_ne HO_4.out BK246.out (by decide)))|(dsimp only;exact Kd.own_blk (Kd.R_ne HO_4.out BK246.out (by decide)))) _).trans (hHeld.1)))))))),((cell_far (p:=⟨gb246,_,none⟩) (by first|exact Kd.own_blk (Kd.R_ne HO_4.out BK246.out (by decide))|(rw [add_block];exact Kd.own_blk (Kd.R_ne HO_4.out BK246.out (by decide)))|(show (Addr.add _ _).block≠_;rw [add_block];exact Kd.own_blk (Kd.R_ne HO_4.out BK246.out (by decide)))|(dsimp only;exact Kd.own_blk (Kd.R_ne HO_4.out BK246.out (by decide)))) _).trans (((cell_far (p:=⟨gb246,_,none⟩) (by first|exact Kd.own_blk (Kd.R_ne HO_4.out BK246.out (by decide))|(rw [add_block];exact Kd.own_blk (Kd.R_ne HO_4.out BK246.out (by decide)))|(show (Addr.add _ _).block≠_;rw [add_block];exact Kd.own_blk (Kd.R_ne HO_4.out BK246.out (by decide)))|(dsimp only;exact Kd.own_blk (Kd.R_ne HO_4.out BK246.out (by decide)))) _).trans (((cell_far (p:=⟨gb246,_,none⟩) (by first|exact Kd.own_blk (Kd.R_ne HO_4.out BK246.out (by decide))|(rw [add_block];exact Kd.own_blk (Kd.R_ne HO_4.out BK246.out (by decide)))|(show (Addr.add _ _).block≠_;rw [add_block];exact Kd.own_blk (Kd.R_ne HO_4.out BK246.out (by decide)))|(dsimp only;exact Kd.own_blk (Kd.R_ne HO_4.out BK246.out (by decide)))) _).trans (((cell_far (p:=⟨gb246,_,none⟩) (by first|exact Kd.own_blk (Kd.R_ne HO_4.out BK246.out (by decide))|(rw [add_block];exact Kd.own_blk (Kd.R_ne HO_4.out BK246.out (by decide)))|(show (Addr.add _ _).block≠_;rw [add_block];exact Kd.own_blk (Kd.R_ne HO_4.out BK246.out (by decide)))|(dsimp only;exact Kd.own_blk (Kd.R_ne HO_4.out BK246.out (by decide)))) _).trans (hHeld.2.1)))))))),((cell_far (p:=⟨gb246,_,none⟩) (by first|exact Kd.own_blk (Kd.R_ne HO_4.out BK246.out (by decide))|(rw [add_block];exact Kd.own_blk (Kd.R_ne HO_4.out BK246.out (by decide)))|(show (Addr.add _ _).block≠_;rw [add_block];exact Kd.own_blk (Kd.R_ne HO_4.out BK246.out (by decide)))|(dsimp only;exact Kd.own_blk (Kd.R_ne HO_4.out BK246.out (by decide)))) _).trans (((cell_far (p:=⟨gb246,_,none⟩) (by first|exact Kd.own_blk (Kd.R_ne HO_4.out BK246.out (by decide))|(rw [add_block];exact Kd.own_blk (Kd.R_ne HO_4.out BK246.out (by decide)))|(show (Addr.add _ _).block≠_;rw [add_block];exact Kd.own_blk (Kd.R_ne HO_4.out BK246.out (by decide)))|(dsimp only;exact Kd.own_blk (Kd.R_ne HO_4.out BK246.out (by decide)))) _).trans (((cell_far (p:=⟨gb246,_,none⟩) (by first|exact Kd.own_blk (Kd.R_ne HO_4.out BK246.out (by decide))|(rw [add_block];exact Kd.own_blk (Kd.R_ne HO_4.out BK246.out (by decide)))|(show (Addr.add _ _).block≠_;rw [add_block];exact Kd.own_blk (Kd.R_ne HO_4.out BK246.out (by decide)))|(dsimp only;exact Kd.own_blk (Kd.R_ne HO_4.out BK246.out (by decide)))) _).trans (((cell_far (p:=⟨gb246,_,none⟩) (by first|exact Kd.own_blk (Kd.R_ne HO_4.out BK246.out (by decide))|(rw [add_block];exact Kd.own_blk (Kd.R_ne HO_4.out BK246.out (by decide)))|(show (Addr.add _ _).block≠_;rw [add_block];exact Kd.own_blk (Kd.R_ne HO_4.out BK246.out (by decide)))|(dsimp only;exact Kd.own_blk (Kd.R_ne HO_4.out BK246.out (by decide)))) _).trans (hHeld.2.2))))))))⟩ (fun hHeld=>?_)
                 clear hK K
                 refine done_ (done_of HT_.out (by kernel_rfl)) ?_
                 (try clear HS0_);(try clear HS1_);(try clear HS2_);(try clear hHeld)
                 have hnb61:=NB246_225.out
                 have hnc61:=NB225_246.out
                 have hcz62_0 : w56.cell? ⟨gb246,0,none⟩=some (.slice none 0 0):=(blk_cell BK246.out 0).trans rfl
                 have hcz62_1 : w56.cell? ⟨gb246,1,none⟩=some (.int .i64 0):=(blk_cell BK246.out 1).trans rfl
                 have hcz62_2 : w56.cell? ⟨gb246,2,none⟩=some (.int .i64 0):=(blk_cell BK246.out 2).trans rfl
                 have hcz62_3 : w56.cell? ⟨gb246,3,none⟩=some (.int .i64 0):=(blk_cell BK246.out 3).trans rfl
                 have hfz62_0:=blk_frozen BK246.out 0
                 have hfz62_1:=blk_frozen BK246.out 1
                 have hfz62_2:=blk_frozen BK246.out 2
                 have hfz62_3:=blk_frozen BK246.out 3
                 try go_wp2_with (first|((with_reducible refine gate_callee (f:=23) rfl ?_);refine goesL_ (some 69) rfl rfl Try.func23 (by kernel_rfl) rfl #[.agg #[.slice A55 y238.length y238.length,.int .i64 (rd x4_1 (ji29)),.int .i64 (rd x4_1 (ji32)),.int .i64 (rd x4_1 (ji35))]] rfl (by (try simp only [List.map_toArray,List.map_cons,List.map_nil]);first|done|(simp only [hji29,hji32,hji35];rfl)|rfl|(simp only [List.length_drop,List.length_take];rfl)) ?_;(with_reducible refine (schema_Check.calls _ _ y238 (rd x4_1 (ji29)) (rd x4_1 (ji32)) (rd x4_1 (ji35)) t247 _ ?side1 ?side2 A38.out).mono ?_);(case side1=>refine (Kd.V_reads' (e:=3) (base:=w.heap.size) (ok:=fun k_=>(((P0_ k_ ∨ w.heap.size≤k_)∧k_≠gb225)∧k_≠gb246)) (n:=y238.length) (c:=y238.length) ?_).2.2;exact (by (with_reducible repeat (first|apply Kd.V_alloc|apply Kd.V_drewN|apply Kd.V_drew));exact (Kd.V_mono (Kd.V_far (p:=⟨gb246,3,none⟩) (Kd.V_far (p:=⟨gb246,2,none⟩) (Kd.V_far (p:=⟨gb246,1,none⟩) (Kd.V_far (p:=⟨gb246,0,none⟩) (Kd.V_mono HO242.out (fun k_ hk=>(⟨hk,hk.2⟩ : _∧k_≠gb246))) (fun _ hk=>hk.2) (.slice A55 y238.length y238.length)) (fun _ hk=>hk.2) (.int .i64 (rd x4_1 (ji29)))) (fun _ hk=>hk.2) (.int .i64 (rd x4_1 (ji32)))) (fun _ hk=>hk.2) (.int .i64 (rd x4_1 (ji35)))) (fun _ h_=>h_.1))));(case side2=>exact (Kd.V_reads' HO242.out).2.1);rintro e w63 ⟨rfl,hb⟩;refine ⟨_,rfl,?_⟩;have n0_:=Aside0.mk (Kd.R_below (by (with_reducible repeat (first|apply Kd.R_alloc|apply Kd.R_drewN|apply Kd.R_drew));exact (Kd.R_mono (Kd.R_far (p:=⟨gb246,3,none⟩) (Kd.R_far (p:=⟨gb246,2,none⟩) (Kd.R_far (p:=⟨gb246,1,none⟩) (Kd.R_far (p:=⟨gb246,0,none⟩) (Kd.R_types HO_4.out BK246.out (by decide)) (fun _ hk=>hk.2) (.slice A55 y238.length y238.length)) (fun _ hk=>hk.2) (.int .i64 (rd x4_1 (ji29)))) (fun _ hk=>hk.2) (.int .i64 (rd x4_1 (ji32)))) (fun _ hk=>hk.2) (.int .i64 (rd x4_1 (ji35)))) (fun _ h_=>h_.1))) hb);have n1_:=Aside0.mk (Kd.V_below (by (with_reducible repeat (first|apply Kd.V_alloc|apply Kd.V_drewN|apply Kd.V_drew));exact (Kd.V_mono (Kd.V_far (p:=⟨gb246,3,none⟩) (Kd.V_far (p:=⟨gb246,2,none⟩) (Kd.V_far (p:=⟨gb246,1,none⟩) (Kd.V_far (p:=⟨gb246,0,none⟩) (Kd.V_mono HO242.out (fun k_ hk=>(⟨hk,hk.2⟩ : _∧k_≠gb246))) (fun _ hk=>hk.2) (.slice A55 y238.length y238.length)) (fun _ hk=>hk.2) (.int .i64 (rd x4_1 (ji29)))) (fun _ hk=>hk.2) (.int .i64 (rd x4_1 (ji32)))) (fun _ hk=>hk.2) (.int .i64 (rd x4_1 (ji35)))) (fun _ h_=>h_.1))) hb);have n2_:=Aside0.mk (blk_below (g:=gb225) (o:=.cells #[.slice none 0 0,.int .i64 x226001_1,.int .i64 x226002_1,.int .i64 x226003_1] 30 (0,0)) (by (with_reducible repeat (first|refine blk_drewN ?_ _|refine blk_drew ?_|refine blk_alloc ?_ _));refine blk_far ?_ NB225_246.out _;(with_reducible repeat (first|refine blk_drewN ?_ _|refine blk_drew ?_|refine blk_alloc ?_ _));refine blk_far ?_ NB225_246.out _;(with_reducible repeat (first|refine blk_drewN ?_ _|refine blk_drew ?_|refine blk_alloc ?_ _));refine blk_far ?_ NB225_246.out _;(with_reducible repeat (first|refine blk_drewN ?_ _|refine blk_drew ?_|refine blk_alloc ?_ _));refine blk_far ?_ NB225_246.out _;(with_reducible repeat (first|refine blk_drewN ?_ _|refine blk_drew ?_|refine blk_alloc ?_ _));exact BK225.out) hb);have n3_:=Aside0.mk (blk_below (g:=gb246) (o:=.cells #[.slice A55 y238.length y238.length,.int .i64 (rd x4_1 (ji29)),.int .i64 (rd x4_1 (ji32)),.int .i64 (rd x4_1 (ji35))] 30 (0,0)) (by (with_reducible repeat (first|refine blk_drewN ?_ _|refine blk_drew ?_|refine blk_alloc ?_ _));refine blk_put (cs:=#[.slice A55 y238.length y238.length,.int .i64 (rd x4_1 (ji29)),.int .i64 (rd x4_1 (ji32)),.int .i64 0]) ?_ 3 _ rfl;(with_reducible repeat (first|refine blk_drewN ?_ _|refine blk_drew ?_|refine blk_alloc ?_ _));refine blk_put (cs:=#[.slice A55 y238.length y238.length,.int .i64 (rd x4_1 (ji29)),.int .i64 0,.int .i64 0]) ?_ 2 _ rfl;(with_reducible repeat (first|refine blk_drewN ?_ _|refine blk_drew ?_|refine blk_alloc ?_ _));refine blk_put (cs:=#[.slice A55 y238.length y238.length,.int .i64 0,.int .i64 0,.int .i64 0]) ?_ 1 _ rfl;(with_reducible repeat (first|refine blk_drewN ?_ _|refine blk_drew ?_|refine blk_alloc ?_ _));refine blk_put (cs:=#[.slice none 0 0,.int .i64 0,.int .i64 0,.int .i64 0]) ?_ 0 _ rfl;(with_reducible repeat (first|refine blk_drewN ?_ _|refine blk_drew ?_|refine blk_alloc ?_ _));exact BK246.out) hb);have n4_:=Aside0.mk (below_step (below_go HB.out) hb);clear HO_4;clear HO242;clear BK225;clear BK246;clear HB;have HO_4:=n0_;have HO242:=n1_;have BK225:=n2_;have BK246:=n3_;have HB:=n4_;clear n0_ n1_ n2_ n3_ n4_;(try clear hb);(try clear hb2);(try clear hk);(try clear hi);have hcz64_0 : w63.cell? ⟨gb225,0,none⟩=some (.slice none 0 0):=(blk_cell BK225.out 0).trans rfl;have hcz64_1 : w63.cell? ⟨gb225,1,none⟩=some (.int .i64 x226001_1):=(blk_cell BK225.out 1).trans rfl;have hcz64_2 : w63.cell? ⟨gb225,2,none⟩=some (.int .i64 x226002_1):=(blk_cell BK225.out 2).trans rfl;have hcz64_3 : w63.cell? ⟨gb225,3,none⟩=some (.int .i64 x226003_1):=(blk_cell BK225.out 3).trans rfl;have hfz64_0:=blk_frozen BK225.out 0;have hfz64_1:=blk_frozen BK225.out 1;have hfz64_2:=blk_frozen BK225.out 2;have hfz64_3:=blk_frozen BK225.out 3))
                 refine bodyPost_ret (results_ct rfl _ _ gb225 30 #[.slice none 0 0,.int .i64 0,.int .i64 0,.int .i64 0] (0,0) _ rfl (by (with_reducible repeat (first|refine blk_drewN ?_ _|refine blk_drew ?_|refine blk_alloc ?_ _));refine blk_put (cs:=#[.slice none 0 0,.int .i64 0,.int .i64 0,.int .i64 x226003_1]) ?_ 3 _ rfl;(with_reducible repeat (first|refine blk_drewN ?_ _|refine blk_drew ?_|refine blk_alloc ?_ _));refine blk_put (cs:=#[.slice none 0 0,.int .i64 0,.int .i64 x226002_1,.int .i64 x226003_1]) ?_ 2 _ rfl;(with_reducible repeat (first|refine blk_drewN ?_ _|refine blk_drew ?_|refine blk_alloc ?_ _));refine blk_put (cs:=#[.slice none 0 0,.int .i64 x226001_1,.int .i64 x226002_1,.int .i64 x226003_1]) ?_ 1 _ rfl;(with_reducible repeat (first|refine blk_drewN ?_ _|refine blk_drew ?_|refine blk_alloc ?_ _));refine blk_put (cs:=#[.slice none 0 0,.int .i64 x226001_1,.int .i64 x226002_1,.int .i64 x226003_1]) ?_ 0 _ rfl;(with_reducible repeat (first|refine blk_drewN ?_ _|refine blk_drew ?_|refine blk_alloc ?_ _));exact BK225.out) Try.underlying30 rfl (by kernel_rfl)) rfl ?_
                 exact ⟨_,by first|rfl|(simp [errW_none,errW_some] <;> rfl)|(simp only [← hji29,← hji32,← hji35];first|rfl|(simp [errW_none,errW_some] <;> rfl))|(simp [*,errW_none,errW_some] <;> rfl),Kd.V_nil _ _ _ _ _,by repeat (first|(with_reducible first|exact HB.out|apply below_alloc|apply pw_below_drewN|apply below_drew1|refine below_set ?_ GE225.out|refine below_set ?_ GE246.out)|exact HB.out)⟩
               ·rw [if_neg c37] at H
                exact absurd H (by simp)
              ·rw [if_neg c36] at H
               exact absurd H (by simp)
             ·rw [if_neg c34] at H
              exact absurd H (by simp)
            ·rw [if_neg c33] at H
             exact absurd H (by simp)
           ·rw [if_neg c31] at H
            exact absurd H (by simp)
          ·rw [if_neg c30] at H
           exact absurd H (by simp)
         ·rw [if_neg c28] at H
          exact absurd H (by simp)
        ·rw [if_neg c27] at H
         exact absurd H (by simp)
       ·rw [if_neg c26] at H
        exact absurd H (by simp)
end Go.Proofs.Ytkodpbellndelaa.P

