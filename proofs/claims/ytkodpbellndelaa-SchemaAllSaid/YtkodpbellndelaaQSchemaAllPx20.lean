/- Texts of SchemaAll. Merged: Px20. -/
import Derived.Test.YtkodpbellndelaaQSchemaAllPx0
import Derived.Test.YtkodpbellndelaaQSchemaAllPx18
import Derived.Test.YtkodpbellndelaaQSchemaAllPx19
namespace Go.Proofs.Ytkodpbellndelaa.P
open Go.RowKit Go.Proofs.YtkodpbellndelaaW.PrintWords Go.Proofs.YtkodpbellndelaaW.PrintLast Go.Proofs.YtkodpbellndelaaW.PrintMore
attribute [local go_sem] max2_int min2_int max_two min_two max_three min_three max_four min_four   -- for this text's walks alone
set_option linter.unusedVariables false
set_option linter.unusedSimpArgs false
mutual
def thresherref04_Take.l0 : Nat→List Int→List Int→Int→Option (List Int × Int × Int × Int × Int)
 | 0,_,_,_=>none
 | k + 1,x0,x4,x5=>if x5 < (x0.length : Int) then (if 0≤x5 then (if x5≤(x0.length : Int) then ((thresherref01_Var.f k (x0.drop (x5 : Int).toNat)).bind fun bt485=>(if bt485.2=0 then (some (([] : List Int),0,0,0,10)) else (if bt485.1 > 1000 then (some (([] : List Int),0,0,0,10)) else (if x4.length < 17592186044416 then (thresherref04_Take.l0 k x0 (x4 ++ [wrap64 (bt485.1)]) (wrap64 (x5 + bt485.2))) else (none))))) else (none)) else (none)) else (if (x4.length : Int) < 4 then (thresherref04_Take.j1 k x4 true) else (if 0 < (x4.length : Int) then (thresherref04_Take.j1 k x4 ((x4.length : Int) != (wrap64 ((rd x4 0) + 4)))) else (none)))
def thresherref04_Take.j1 : Nat→List Int→Bool→Option (List Int × Int × Int × Int × Int)
 | 0,_,_=>none
 | k + 1,x4,x48=>if x48=true then (some (([] : List Int),0,0,0,10)) else (if 0 < (x4.length : Int) then (if 1≤(wrap64 (1 + (rd x4 0))) then (if (wrap64 (1 + (rd x4 0)))≤(x4.length : Int) then ((some ((x4.take ((wrap64 (1 + (rd x4 0))) : Int).toNat).drop 1 : List Int)).bind fun y492=>(if 0≤(wrap64 (1 + (rd x4 0))) then (if (wrap64 (1 + (rd x4 0))) < (x4.length : Int) then (if 0≤(wrap64 (2 + (rd x4 0))) then (if (wrap64 (2 + (rd x4 0))) < (x4.length : Int) then (if 0≤(wrap64 (3 + (rd x4 0))) then (if (wrap64 (3 + (rd x4 0))) < (x4.length : Int) then ((thresherref04_Check.f k y492 (rd x4 (wrap64 (1 + (rd x4 0)))) (rd x4 (wrap64 (2 + (rd x4 0)))) (rd x4 (wrap64 (3 + (rd x4 0))))).bind fun t501=>(if t501=0 then (some (y492,rd x4 (wrap64 (1 + (rd x4 0))),rd x4 (wrap64 (2 + (rd x4 0))),rd x4 (wrap64 (3 + (rd x4 0))),0)) else (some (([] : List Int),0,0,0,10)))) else (none)) else (none)) else (none)) else (none)) else (none)) else (none))) else (none)) else (none)) else (none))
end
def thresherref04_Take.f (k : Nat) (l0 : List Int) : Option (List Int × Int × Int × Int × Int):=thresherref04_Take.l0 k l0 (([] : List Int)) 0
theorem thresherref04_Take.mono_l : ∀ k,(∀ y0 y1 y2,LeO (thresherref04_Take.l0 k y0 y1 y2) (thresherref04_Take.l0 (k + 1) y0 y1 y2))∧(∀ y0 y1,LeO (thresherref04_Take.j1 k y0 y1) (thresherref04_Take.j1 (k + 1) y0 y1))
 | 0=>⟨fun _ _ _ r h=>by simp [thresherref04_Take.l0] at h,fun _ _ r h=>by simp [thresherref04_Take.j1] at h⟩
 | k + 1=>by
  obtain ⟨ih0,ih1⟩:=thresherref04_Take.mono_l k
  refine ⟨?_,?_⟩
  ·intro y0 y1 y2
   unfold thresherref04_Take.l0
   repeat' first
   | (with_reducible exact ih0 _ _ _)
   | (with_reducible exact ih1 _ _)
   | (with_reducible exact thresherref01_Var.mono _ _)
   | (with_reducible exact thresherref04_Check.mono _ _ _ _ _)
   | (with_reducible exact LeO.refl _)
   | (with_reducible exact LeO.none _)
   | (with_reducible refine LeO.ite ?_ ?_)
   | (with_reducible refine LeO.bind ?_ (fun _=>?_))
   | exact ih0 _ _ _
   | exact ih1 _ _
   | exact thresherref01_Var.mono _ _
   | exact thresherref04_Check.mono _ _ _ _ _
   | exact LeO.none _
   | refine LeO.ite ?_ ?_
   | refine LeO.bind ?_ (fun _=>?_)
  ·intro y0 y1
   unfold thresherref04_Take.j1
   repeat' first
   | (with_reducible exact ih0 _ _ _)
   | (with_reducible exact ih1 _ _)
   | (with_reducible exact thresherref01_Var.mono _ _)
   | (with_reducible exact thresherref04_Check.mono _ _ _ _ _)
   | (with_reducible exact LeO.refl _)
   | (with_reducible exact LeO.none _)
   | (with_reducible refine LeO.ite ?_ ?_)
   | (with_reducible refine LeO.bind ?_ (fun _=>?_))
   | exact ih0 _ _ _
   | exact ih1 _ _
   | exact thresherref01_Var.mono _ _
   | exact thresherref04_Check.mono _ _ _ _ _
   | exact LeO.none _
   | refine LeO.ite ?_ ?_
   | refine LeO.bind ?_ (fun _=>?_)
theorem thresherref04_Take.mono : ∀ a0 k,LeO (thresherref04_Take.f k a0) (thresherref04_Take.f (k + 1) a0):=by
 intro a0 k
 obtain ⟨ih0,ih1⟩:=thresherref04_Take.mono_l k
 unfold thresherref04_Take.f
 repeat' first
   | (with_reducible exact ih0 _ _ _)
   | (with_reducible exact ih1 _ _)
   | (with_reducible exact thresherref01_Var.mono _ _)
   | (with_reducible exact thresherref04_Check.mono _ _ _ _ _)
   | (with_reducible exact LeO.refl _)
   | (with_reducible exact LeO.none _)
   | (with_reducible refine LeO.ite ?_ ?_)
   | (with_reducible refine LeO.bind ?_ (fun _=>?_))
   | exact ih0 _ _ _
   | exact ih1 _ _
   | exact thresherref01_Var.mono _ _
   | exact thresherref04_Check.mono _ _ _ _ _
   | exact LeO.none _
   | refine LeO.ite ?_ ?_
   | refine LeO.bind ?_ (fun _=>?_)
def thresherref04_Take.T12 : Bool × List (List Nat × List Nat):=(true,[([],[]),([],[]),([1],[1]),([0,2],[0,2]),([],[]),([],[]),([5],[5]),([4,6],[4,6]),([7],[7]),([],[]),([],[]),([10],[10]),([9,11],[9,11]),([12],[12]),([],[]),([],[]),([15],[15]),([14,16],[14,16]),([17],[17]),([3,8,13,18],[3,8,13,18]),([],[]),([20,19,0,1,2,3,4,5,6,7,8,9,10,11,12,13,14,15,16,17,18,19,20],[19,20])])
def thresherref04_Take.B12 : List Nat:=[0,0,2,7,0,0,32,112,240,0,0,1024,3584,7680,0,0,32768,114688,245760,524287,0,2097151]
theorem thresherref04_Take.tab12 : rtab .any (opsOf Try.f22 12)=thresherref04_Take.T12:=by kernel_rfl
theorem thresherref04_Take.bits12 : waitsOk thresherref04_Take.T12.2 thresherref04_Take.B12=true:=by kernel_rfl
set_option maxHeartbeats 8000000 in
set_option maxRecDepth 100000 in
theorem thresherref04_Take.calls (k : Nat) (A0 : Option Addr) (c0 : Nat) (l0 : List Int) (r1 : List Int) (r2 : Int) (r3 : Int) (r4 : Int) (r5 : Int) (w : World) (hr0 : Kd.C (Kd.int .u8) w A0 l0.length l0) (hc0 : l0.length≤c0) (h : thresherref04_Take.f k l0=some (r1,r2,r3,r4,r5)) :
  Calls Try.prog 22 #[.slice A0 l0.length c0] w fun e w'=>∃ v0_ : Value,e=.returned (.tuple #[.agg #[v0_,.int .i64 r2,.int .i64 r3,.int .i64 r4],.int .i64 r5])∧Kd.V (Kd.int .i64) 3 w' w.heap.size (fun k_=>(w.heap.size≤k_)) v0_ r1∧Below w.heap.size w w':=by
 have hu30:=Try.underlying30
 have HR0:=Aside0.mk hr0
 have HC0:=Aside0.mk hc0
 clear hr0 hc0
 have HB:=Aside0.mk (Below.refl w.heap.size w)
 have H : (thresherref04_Take.l0 k l0 (([] : List Int)) 0)=some (r1,r2,r3,r4,r5):=h
 clear h
 obtain ⟨y481,hy481⟩ : ∃ y_ : List Int,y_=(([] : List Int)):=⟨_,rfl⟩
 replace H : (thresherref04_Take.l0 k l0 y481 0)=some (r1,r2,r3,r4,r5):=by first|(rw [hy481];with_reducible exact H)|(have H2_:=(Option.bind_some _ _).symm.trans H;rw [hy481];with_reducible exact H2_)|(have H2_:=(Option.bind_some _ _).symm.trans H;with_reducible exact H2_)|with_reducible exact H|(rw [hy481];exact H)|exact H
 have Ny481:=Aside0.mk hy481
 clear hy481
 have H':=Aside0.mk H
 clear H
 go_enter Try.func22,Try.ntmps22
 go_wp2_with (first|((with_reducible refine gate_dst (N:=2) rfl ?_);(try (refine gate_guard (by rfl) ?_;dsimp only));refine box_event ?hg (N:=2) ?hd (cs:=#[.slice none 0 0,.int .i64 0,.int .i64 0,.int .i64 0]) (t:=30) ?hr ?_;(case hd=>rfl);(case hg=>rfl);(case hr=>first|(go_simp;done)|(go_simp;rfl));intro gb480 hg w2 hbox hb;have n0_:=Aside0.mk (below_step (below_up HB.out) hb);have n1_:=Aside0.mk (hbox);have n2_:=Aside0.mk ((by rw [hg];exact (below_size (below_up HB.out)) : w.heap.size≤gb480));have n3_:=Aside0.mk ((by rw [hg];exact (below_size (below_up HB.out)) : w.heap.size≤gb480));clear HB;have HB:=n0_;have BK480:=n1_;have GW480:=n2_;have GE480:=n3_;clear n0_ n1_ n2_ n3_;clear hb hbox hg)|((with_reducible refine gate_dst (N:=10) rfl ?_);(try (refine gate_guard (by rfl) ?_;dsimp only));refine Kd.R_lit (Kd.int .i64) _ 3 ?hg (N:=10) ?hd (xs:=([] : List Int)) (inner:=[]) (ok:=fun _=>True) (okp:=fun _=>True) ?hr ?hp (fun _ hk=>hk) trivial (Below.refl _ _) (Nat.le_refl _) (by simp) ?_;(case hd=>rfl);(case hg=>rfl);(case hr=>first|(go_simp;done)|(go_simp;rfl));(case hp=>exact (Reps.none _ _));intro v482 w3 ho4 hb hg_ hnew_;clear hg_ hnew_;(first|rw [← Ny481.out] at ho4|(simp only [Int.reduceToNat] at ho4;rw [← Ny481.out] at ho4));have n0_:=Aside0.mk (Kd.R_lower (Kd.R_newM (M:=fun k_=>(w.heap.size≤k_)) ho4 (below_size (below_go HB.out)) (fun k_ h_=>h_)) (below_size (below_go HB.out)));have n1_:=Aside0.mk (blk_below (blk_up BK480.out) hb);have n2_:=Aside0.mk (below_step (below_go HB.out) hb);clear BK480;clear HB;have HO483:=n0_;have BK480:=n1_;have HB:=n2_;clear n0_ n1_ n2_;clear hb ho4))
 go_loopg [4,5] k (fun kq v4 v5 w'=>∃ (x4_1 : List Int) (x5_1 : Int) (x481001_1 : Int) (x481002_1 : Int) (x481003_1 : Int),v5=.int .i64 x5_1∧Aside0 (thresherref04_Take.l0 kq l0 x4_1 x5_1=some (r1,r2,r3,r4,r5))∧Aside0 (kq≤k)∧Aside0 (Kd.R (Kd.int .i64) 3 w' w.heap.size (fun k_=>(w.heap.size≤k_)) v4 x4_1)∧Aside0 (w'.heap[gb480]?=some (.cells #[(.slice none 0 0),.int .i64 x481001_1,.int .i64 x481002_1,.int .i64 x481003_1] 30 (0,0)))∧Aside0 (Below w.heap.size w w'))
 case atStart=>exact ⟨(y481),(0),(0),(0),(0),(by first|rfl|(simp;done)|(simp [*];done)),H',⟨Nat.le_refl _⟩,⟨by (with_reducible repeat (first|apply Kd.R_alloc|apply Kd.R_drewN|apply Kd.R_drew));exact Kd.R_mono HO483.out (fun _ hk=>hk.1)⟩,⟨by (with_reducible repeat (first|refine blk_drewN ?_ _|refine blk_drew ?_|refine blk_alloc ?_ _));exact BK480.out⟩,⟨by repeat (first|(with_reducible first|exact HB.out|apply below_alloc|apply pw_below_drewN|apply below_drew1|refine below_set ?_ GE480.out)|exact HB.out)⟩⟩
 case round =>
  clear H'
  try clear c2
  try clear p2
  obtain ⟨x4_1,x5_1,x481001_1,x481002_1,x481003_1,rfl,HA,HK1,HO_4,BK480,HB⟩:=hrel
  cases gk with
  | zero=>exact absurd HA.out (by simp [thresherref04_Take.l0])
  | succ k1 =>
   have H:=HA.out
   clear HA
   simp only [thresherref04_Take.l0] at H
   by_cases c5 : x5_1 < (l0.length : Int)
   ·rw [if_pos c5] at H
    have c5b0 : decide (x5_1 < (l0.length : Int))=true:=decide_eq_true c5
    clear c5
    by_cases c6 : 0≤x5_1
    ·rw [if_pos c6] at H
     have c6b0:=eq_true c6
     have c6b1 : decide (0≤x5_1)=true:=decide_eq_true c6
     clear c6
     by_cases c7 : x5_1≤(l0.length : Int)
     ·rw [if_pos c7] at H
      have c7b0:=eq_true c7
      have c7b1 : decide (x5_1≤(l0.length : Int))=true:=decide_eq_true c7
      clear c7
      replace H:=Option.bind_eq_some_iff.mp H
      obtain ⟨⟨t485,t486⟩,A80,H⟩:=H
      replace H : (if t486=0 then (some (([] : List Int),0,0,0,10)) else (if t485 > 1000 then (some (([] : List Int),0,0,0,10)) else (if x4_1.length < 17592186044416 then (thresherref04_Take.l0 k1 l0 (x4_1 ++ [wrap64 (t485)]) (wrap64 (x5_1 + t486))) else (none))))=some (r1,r2,r3,r4,r5):=H
      have A8:=Aside0.mk A80
      clear A80
      by_cases c9 : t486=0
      ·rw [if_pos c9] at H
       have c9b0 : (t486 == 0)=true:=beq_iff_eq.mpr c9
       have c9b1 : (t486 != 0)=false:=bne_eq_false_iff_eq.mpr c9
       clear c9
       simp only [Option.some.injEq,Prod.mk.injEq] at H
       obtain ⟨rfl,rfl,rfl,rfl,rfl⟩:=H
       obtain ⟨i010,hi010,_,hsz10,_⟩:=info_parts info5
       obtain ⟨A10,hcut10,hA10,hC10⟩:=print_drop_of (P:=Try.prog) (Value.int .u8) 0 41 5 .i64 Try.underlying41 hi010 hsz10 A0 c0 l0 x5_1 (of_decide_eq_true (by first|(with_reducible assumption)|assumption)) (of_decide_eq_true (by first|(with_reducible assumption)|assumption)) HC0.out
       have HR484:=Aside0.mk (Kd.C_of_reads (h1:=fun _=>rfl) (hA10 _ (Kd.reads_of_C HR0.out)))
       have HC484:=Aside0.mk hC10
       clear hA10 hC10 hi010 hsz10
       go_wp2_with (first|((with_reducible refine gate_callee (f:=39) rfl ?_);refine goesL_ (some 19) rfl rfl Try.func39 (by kernel_rfl) rfl #[.slice A10 (l0.drop (x5_1 : Int).toNat).length (c0 - x5_1.toNat)] rfl (by (try simp only [List.map_toArray,List.map_cons,List.map_nil]);first|done|(rw [show (l0.drop (x5_1 : Int).toNat).length=(l0.length - x5_1.toNat) from List.length_drop] <;> rfl)|rfl|(simp only [List.length_drop,List.length_take];rfl)) ?_;(with_reducible refine (thresherref01_Var.calls k1 _ _ (l0.drop (x5_1 : Int).toNat) t485 t486 _ ?side1 ?side2 A8.out).mono ?_);(case side1=>repeat (first|exact (Kd.C_below HR484.out HB.out)|(with_reducible refine Kd.C_alloc ?_ _)|(with_reducible refine Kd.C_drewN ?_ _)|(with_reducible refine Kd.C_drew ?_)));(case side2=>exact HC484.out);rintro e w11 ⟨rfl,hb⟩;refine ⟨_,rfl,?_⟩;have n0_:=Aside0.mk (Kd.R_below (R_up HO_4.out) hb);have n1_:=Aside0.mk (blk_below (blk_up BK480.out) hb);have n2_:=Aside0.mk (below_step (below_go HB.out) hb);clear HO_4;clear BK480;clear HB;have HO_4:=n0_;have BK480:=n1_;have HB:=n2_;clear n0_ n1_ n2_;(try clear hb);(try clear hb2);(try clear hk);(try clear hi);have hcz12_0 : w11.cell? ⟨gb480,0,none⟩=some (.slice none 0 0):=(blk_cell BK480.out 0).trans rfl;have hcz12_1 : w11.cell? ⟨gb480,1,none⟩=some (.int .i64 x481001_1):=(blk_cell BK480.out 1).trans rfl;have hcz12_2 : w11.cell? ⟨gb480,2,none⟩=some (.int .i64 x481002_1):=(blk_cell BK480.out 2).trans rfl;have hcz12_3 : w11.cell? ⟨gb480,3,none⟩=some (.int .i64 x481003_1):=(blk_cell BK480.out 3).trans rfl;have hfz12_0:=blk_frozen BK480.out 0;have hfz12_1:=blk_frozen BK480.out 1;have hfz12_2:=blk_frozen BK480.out 2;have hfz12_3:=blk_frozen BK480.out 3))
       refine bodyPost_ret (results_ct rfl _ _ gb480 30 #[.slice none 0 0,.int .i64 0,.int .i64 0,.int .i64 0] (0,0) _ rfl (by (with_reducible repeat (first|refine blk_drewN ?_ _|refine blk_drew ?_|refine blk_alloc ?_ _));refine blk_put (cs:=#[.slice none 0 0,.int .i64 0,.int .i64 0,.int .i64 x481003_1]) ?_ 3 _ rfl;(with_reducible repeat (first|refine blk_drewN ?_ _|refine blk_drew ?_|refine blk_alloc ?_ _));refine blk_put (cs:=#[.slice none 0 0,.int .i64 0,.int .i64 x481002_1,.int .i64 x481003_1]) ?_ 2 _ rfl;(with_reducible repeat (first|refine blk_drewN ?_ _|refine blk_drew ?_|refine blk_alloc ?_ _));refine blk_put (cs:=#[.slice none 0 0,.int .i64 x481001_1,.int .i64 x481002_1,.int .i64 x481003_1]) ?_ 1 _ rfl;(with_reducible repeat (first|refine blk_drewN ?_ _|refine blk_drew ?_|refine blk_alloc ?_ _));refine blk_put (cs:=#[.slice none 0 0,.int .i64 x481001_1,.int .i64 x481002_1,.int .i64 x481003_1]) ?_ 0 _ rfl;(with_reducible repeat (first|refine blk_drewN ?_ _|refine blk_drew ?_|refine blk_alloc ?_ _));exact BK480.out) Try.underlying30 rfl (by kernel_rfl)) rfl ?_
       exact ⟨_,by first|rfl|(simp [errW_none,errW_some] <;> rfl)|(simp [*,errW_none,errW_some] <;> rfl),(by first|exact Kd.V_nil _ _ _ _ _|exact Kd.R_V (Kd.R_nil _ _ _ _ _)),by repeat (first|(with_reducible first|exact HB.out|apply below_alloc|apply pw_below_drewN|apply below_drew1|refine below_set ?_ GE480.out)|exact HB.out)⟩
      ·rw [if_neg c9] at H
       have c9b0 : (t486 == 0)=false:=beq_eq_false_iff_ne.mpr c9
       have c9b1 : (t486 != 0)=true:=bne_iff_ne.mpr c9
       by_cases c13 : t485 > 1000
       ·rw [if_pos c13] at H
        have c13b0 : decide (1000 < t485)=true:=decide_eq_true c13
        clear c13
        simp only [Option.some.injEq,Prod.mk.injEq] at H
        obtain ⟨rfl,rfl,rfl,rfl,rfl⟩:=H
        obtain ⟨i014,hi014,_,hsz14,_⟩:=info_parts info5
        obtain ⟨A14,hcut14,hA14,hC14⟩:=print_drop_of (P:=Try.prog) (Value.int .u8) 0 41 5 .i64 Try.underlying41 hi014 hsz14 A0 c0 l0 x5_1 (of_decide_eq_true (by first|(with_reducible assumption)|assumption)) (of_decide_eq_true (by first|(with_reducible assumption)|assumption)) HC0.out
        have HR484:=Aside0.mk (Kd.C_of_reads (h1:=fun _=>rfl) (hA14 _ (Kd.reads_of_C HR0.out)))
        have HC484:=Aside0.mk hC14
        clear hA14 hC14 hi014 hsz14
        go_wp2_with (first|((with_reducible refine gate_callee (f:=39) rfl ?_);refine goesL_ (some 19) rfl rfl Try.func39 (by kernel_rfl) rfl #[.slice A14 (l0.drop (x5_1 : Int).toNat).length (c0 - x5_1.toNat)] rfl (by (try simp only [List.map_toArray,List.map_cons,List.map_nil]);first|done|(rw [show (l0.drop (x5_1 : Int).toNat).length=(l0.length - x5_1.toNat) from List.length_drop] <;> rfl)|rfl|(simp only [List.length_drop,List.length_take];rfl)) ?_;(with_reducible refine (thresherref01_Var.calls k1 _ _ (l0.drop (x5_1 : Int).toNat) t485 t486 _ ?side1 ?side2 A8.out).mono ?_);(case side1=>repeat (first|exact (Kd.C_below HR484.out HB.out)|(with_reducible refine Kd.C_alloc ?_ _)|(with_reducible refine Kd.C_drewN ?_ _)|(with_reducible refine Kd.C_drew ?_)));(case side2=>exact HC484.out);rintro e w15 ⟨rfl,hb⟩;refine ⟨_,rfl,?_⟩;have n0_:=Aside0.mk (Kd.R_below (R_up HO_4.out) hb);have n1_:=Aside0.mk (blk_below (blk_up BK480.out) hb);have n2_:=Aside0.mk (below_step (below_go HB.out) hb);clear HO_4;clear BK480;clear HB;have HO_4:=n0_;have BK480:=n1_;have HB:=n2_;clear n0_ n1_ n2_;(try clear hb);(try clear hb2);(try clear hk);(try clear hi);have hcz16_0 : w15.cell? ⟨gb480,0,none⟩=some (.slice none 0 0):=(blk_cell BK480.out 0).trans rfl;have hcz16_1 : w15.cell? ⟨gb480,1,none⟩=some (.int .i64 x481001_1):=(blk_cell BK480.out 1).trans rfl;have hcz16_2 : w15.cell? ⟨gb480,2,none⟩=some (.int .i64 x481002_1):=(blk_cell BK480.out 2).trans rfl;have hcz16_3 : w15.cell? ⟨gb480,3,none⟩=some (.int .i64 x481003_1):=(blk_cell BK480.out 3).trans rfl;have hfz16_0:=blk_frozen BK480.out 0;have hfz16_1:=blk_frozen BK480.out 1;have hfz16_2:=blk_frozen BK480.out 2;have hfz16_3:=blk_frozen BK480.out 3))
        refine bodyPost_ret (results_ct rfl _ _ gb480 30 #[.slice none 0 0,.int .i64 0,.int .i64 0,.int .i64 0] (0,0) _ rfl (by (with_reducible repeat (first|refine blk_drewN ?_ _|refine blk_drew ?_|refine blk_alloc ?_ _));refine blk_put (cs:=#[.slice none 0 0,.int .i64 0,.int .i64 0,.int .i64 x481003_1]) ?_ 3 _ rfl;(with_reducible repeat (first|refine blk_drewN ?_ _|refine blk_drew ?_|refine blk_alloc ?_ _));refine blk_put (cs:=#[.slice none 0 0,.int .i64 0,.int .i64 x481002_1,.int .i64 x481003_1]) ?_ 2 _ rfl;(with_reducible repeat (first|refine blk_drewN ?_ _|refine blk_drew ?_|refine blk_alloc ?_ _));refine blk_put (cs:=#[.slice none 0 0,.int .i64 x481001_1,.int .i64 x481002_1,.int .i64 x481003_1]) ?_ 1 _ rfl;(with_reducible repeat (first|refine blk_drewN ?_ _|refine blk_drew ?_|refine blk_alloc ?_ _));refine blk_put (cs:=#[.slice none 0 0,.int .i64 x481001_1,.int .i64 x481002_1,.int .i64 x481003_1]) ?_ 0 _ rfl;(with_reducible repeat (first|refine blk_drewN ?_ _|refine blk_drew ?_|refine blk_alloc ?_ _));exact BK480.out) Try.underlying30 rfl (by kernel_rfl)) rfl ?_
        exact ⟨_,by first|rfl|(simp [errW_none,errW_some] <;> rfl)|(simp [*,errW_none,errW_some] <;> rfl),(by first|exact Kd.V_nil _ _ _ _ _|exact Kd.R_V (Kd.R_nil _ _ _ _ _)),by repeat (first|(with_reducible first|exact HB.out|apply below_alloc|apply pw_below_drewN|apply below_drew1|refine below_set ?_ GE480.out)|exact HB.out)⟩
       ·rw [if_neg c13] at H
        have c13b0 : decide (1000 < t485)=false:=decide_eq_false c13
        clear c13
        by_cases c17 : x4_1.length < 17592186044416
        ·rw [if_pos c17] at H
         have LMc17:=Aside0.mk c17
         clear c17
         obtain ⟨y487,hy487⟩ : ∃ y_ : List Int,y_=(x4_1 ++ [wrap64 (t485)]):=⟨_,rfl⟩
         replace H : (thresherref04_Take.l0 k1 l0 y487 (wrap64 (x5_1 + t486)))=some (r1,r2,r3,r4,r5):=by first|(rw [hy487];with_reducible exact H)|(have H2_:=(Option.bind_some _ _).symm.trans H;rw [hy487];with_reducible exact H2_)|(have H2_:=(Option.bind_some _ _).symm.trans H;with_reducible exact H2_)|with_reducible exact H|(rw [hy487];exact H)|exact H
         have Ny487:=Aside0.mk hy487
         clear hy487
         have H':=Aside0.mk H
         clear H
         obtain ⟨i018,hi018,_,hsz18,_⟩:=info_parts info5
         obtain ⟨A18,hcut18,hA18,hC18⟩:=print_drop_of (P:=Try.prog) (Value.int .u8) 0 41 5 .i64 Try.underlying41 hi018 hsz18 A0 c0 l0 x5_1 (of_decide_eq_true (by first|(with_reducible assumption)|assumption)) (of_decide_eq_true (by first|(with_reducible assumption)|assumption)) HC0.out
         have HR484:=Aside0.mk (Kd.C_of_reads (h1:=fun _=>rfl) (hA18 _ (Kd.reads_of_C HR0.out)))
         have HC484:=Aside0.mk hC18
         clear hA18 hC18 hi018 hsz18
         go_wp2_with (first|((with_reducible refine gate_callee (f:=39) rfl ?_);refine goesL_ (some 19) rfl rfl Try.func39 (by kernel_rfl) rfl #[.slice A18 (l0.drop (x5_1 : Int).toNat).length (c0 - x5_1.toNat)] rfl (by (try simp only [List.map_toArray,List.map_cons,List.map_nil]);first|done|(rw [show (l0.drop (x5_1 : Int).toNat).length=(l0.length - x5_1.toNat) from List.length_drop] <;> rfl)|rfl|(simp only [List.length_drop,List.length_take];rfl)) ?_;(with_reducible refine (thresherref01_Var.calls k1 _ _ (l0.drop (x5_1 : Int).toNat) t485 t486 _ ?side1 ?side2 A8.out).mono ?_);(case side1=>repeat (first|exact (Kd.C_below HR484.out HB.out)|(with_reducible refine Kd.C_alloc ?_ _)|(with_reducible refine Kd.C_drewN ?_ _)|(with_reducible refine Kd.C_drew ?_)));(case side2=>exact HC484.out);rintro e w19 ⟨rfl,hb⟩;refine ⟨_,rfl,?_⟩;have n0_:=Aside0.mk (Kd.R_below (R_up HO_4.out) hb);have n1_:=Aside0.mk (blk_below (blk_up BK480.out) hb);have n2_:=Aside0.mk (below_step (below_go HB.out) hb);clear HO_4;clear BK480;clear HB;have HO_4:=n0_;have BK480:=n1_;have HB:=n2_;clear n0_ n1_ n2_;(try clear hb);(try clear hb2);(try clear hk);(try clear hi))|((with_reducible refine gate_builtin (b:=.append) (xs:=#[.tmp 29,.tmp 32]) rfl ?_);(try (refine gate_guard (by rfl) ?_;dsimp only));at_builtin;refine Kd.R_append (Kd.int .i64) (w0:=w) w.heap.size rfl (.tmp 29) (.tmp 32) 28 3 (.int .i64 0) 8 rfl Try.underlying28 info3 rfl (by decide) (by omega) u4 x4_1 (wrap64 (t485)) [.int .i64 (wrap64 (t485))] (fun k_=>(w.heap.size≤k_)) (fun _=>False) rfl rfl ?aP (fun _ hk=>hk.elim) ?aF ?aO ?aB ?aS ?aL ?_;(case aP=>exact rfl);(case aB=>exact (below_go HB.out));(case aF=>exact (fun k_ hk=>(Nat.le_trans (below_size (below_go HB.out)) hk)));(case aO=>exact (R_up HO_4.out));(case aS=>exact (below_size (below_go HB.out)));(case aL=>have:=LMc17.out;omega);intro v488 w20 ho hb hg hat;rw [← Ny487.out] at ho;have n0_:=Aside0.mk (blk_grown (blk_up BK480.out) hg (Kd.R_ne HO_4.out BK480.out (by decide)));have n1_:=Aside0.mk (hb);have n2_:=Aside0.mk (ho);clear BK480;clear HB;clear HO_4;have BK480:=n0_;have HB:=n1_;have HO489:=n2_;clear n0_ n1_ n2_;clear ho hb hg hat))
         go_roundg k1
         case measure=>have:=HK1.out;omega
         case rel=>exact ⟨(y487),(wrap64 (x5_1 + t486)),(x481001_1),(x481002_1),(x481003_1),(by first|rfl|(simp;done)|(simp [*];done)),(by first|exact H'|(subst_vars;exact H')),⟨by have:=HK1.out;omega⟩,⟨by (with_reducible repeat (first|apply Kd.R_alloc|apply Kd.R_drewN|apply Kd.R_drew));exact HO489.out⟩,⟨by (with_reducible repeat (first|refine blk_drewN ?_ _|refine blk_drew ?_|refine blk_alloc ?_ _));exact BK480.out⟩,⟨by repeat (first|(with_reducible first|exact HB.out|apply below_alloc|apply pw_below_drewN|apply below_drew1|refine below_set ?_ GE480.out)|exact HB.out)⟩⟩
        ·rw [if_neg c17] at H
         exact absurd H (by simp)
     ·rw [if_neg c7] at H
      exact absurd H (by simp)
    ·rw [if_neg c6] at H
     exact absurd H (by simp)
   ·rw [if_neg c5] at H
    have c5b0 : decide (x5_1 < (l0.length : Int))=false:=decide_eq_false c5
    clear c5
    have HC21:=Aside0.mk H
    clear H
    go_upto_region 9 with (fail)
    go_cut [48] (fun v48 wc=>∃ (kq : Nat) (x48_20 : Bool),v48=.bool x48_20∧Aside0 (thresherref04_Take.j1 kq x4_1 x48_20=some (r1,r2,r3,r4,r5))∧Aside0 (kq≤k1)∧Aside0 (Kd.R (Kd.int .i64) 3 wc w.heap.size (fun k_=>(w.heap.size≤k_)) u4 x4_1)∧Aside0 (wc.heap[gb480]?=some (.cells #[(.slice none 0 0),.int .i64 x481001_1,.int .i64 x481002_1,.int .i64 x481003_1] 30 (0,0)))∧Aside0 (Below w.heap.size w wc))
    case first =>
     have H:=HC21.out
     clear HC21
     by_cases c22 : (x4_1.length : Int) < 4
     ·rw [if_pos c22] at H
      have c22b0 : decide ((x4_1.length : Int) < 4)=true:=decide_eq_true c22
      have c22b1 : decide (x4_1.length < 4)=true:=decide_eq_true (by omega)
      clear c22
      (first|rw [c22b0]|(simp only [i64_w,i32_w];rw [c22b0])|skip)
      have H':=Aside0.mk H
      clear H
      obtain ⟨Ao23,co23,eo23⟩:=Kd.R_slice HO_4.out
      subst eo23
      go_wp2
      go_meet
      case rel=>exact ⟨_,(true),(by first|rfl|(simp;done)|(simp [*];done)),(by first|exact H'|(subst_vars;exact H')),⟨by have:=HK1.out;first|omega|exact Nat.le_refl _⟩,⟨by (with_reducible repeat (first|apply Kd.R_alloc|apply Kd.R_drewN|apply Kd.R_drew));exact HO_4.out⟩,⟨by (with_reducible repeat (first|refine blk_drewN ?_ _|refine blk_drew ?_|refine blk_alloc ?_ _));exact BK480.out⟩,⟨by repeat (first|(with_reducible first|exact HB.out|apply below_alloc|apply pw_below_drewN|apply below_drew1|refine below_set ?_ GE480.out)|exact HB.out)⟩⟩
     ·rw [if_neg c22] at H
      have c22b0 : decide ((x4_1.length : Int) < 4)=false:=decide_eq_false c22
      have c22b1 : decide (x4_1.length < 4)=false:=decide_eq_false (by omega)
      clear c22
      (first|rw [c22b0]|(simp only [i64_w,i32_w];rw [c22b0])|skip)
      by_cases c24 : 0 < (x4_1.length : Int)
      ·rw [if_pos c24] at H
       have c24b0 : decide (0 < (x4_1.length : Int))=true:=decide_eq_true c24
       have c24b1 : decide (0 < x4_1.length)=true:=decide_eq_true (by omega)
       clear c24
       have H':=Aside0.mk H
       clear H
       obtain ⟨Ao25,co25,eo25⟩:=Kd.R_slice HO_4.out
       subst eo25
       have p490 : 0≤(0 : Int):=(by omega)
       have q490 : 0 < (x4_1.length : Int):=of_decide_eq_true (by first|(with_reducible assumption)|assumption)
       obtain ⟨ad490,e490,hx490_0⟩:=Kd.at_int (Kd.R_reads' HO_4.out).2.2 0 p490 q490
       cases e490
       have qi490 : (0 < x4_1.length)=True:=eq_true (by omega)
       (try rw [show ((0 : Int)).toNat=0 from rfl] at hx490_0)
       (try rw [Addr.add_zero'] at hx490_0)
       replace p490:=eq_true p490
       replace q490:=eq_true q490
       go_wp2
       go_meet
       case rel=>exact ⟨_,(((x4_1.length : Int) != (wrap64 ((rd x4_1 0) + 4)))),(by first|rfl|(simp;done)|(simp [*];done)),(by first|exact H'|(subst_vars;exact H')),⟨by have:=HK1.out;first|omega|exact Nat.le_refl _⟩,⟨by (with_reducible repeat (first|apply Kd.R_alloc|apply Kd.R_drewN|apply Kd.R_drew));exact HO_4.out⟩,⟨by (with_reducible repeat (first|refine blk_drewN ?_ _|refine blk_drew ?_|refine blk_alloc ?_ _));exact BK480.out⟩,⟨by repeat (first|(with_reducible first|exact HB.out|apply below_alloc|apply pw_below_drewN|apply below_drew1|refine below_set ?_ GE480.out)|exact HB.out)⟩⟩
      ·rw [if_neg c24] at H
       exact absurd H (by simp)
    case rest =>
     clear HC21
     try clear c1
     try clear c2
     try clear p2
     try clear c3
     try clear p4
     try clear q4
     try clear hx4
     try clear qi4
     try clear c5
     try clear c5b0
     try clear c6
     try clear c6b0
     try clear c6b1
     try clear p6
     try clear c7
     try clear c7b0
     try clear c7b1
     try clear c9
     try clear c9b0
     try clear c9b1
     try clear c13
     try clear c13b0
     try clear c17
     try clear c22
     try clear c22b0
     try clear c22b1
     try clear c24
     try clear c24b0
     try clear c24b1
     try clear hcz12_0
     try clear hcz12_1
     try clear hcz12_2
     try clear hcz12_3
     try clear hcz16_0
     try clear hcz16_1
     try clear hcz16_2
     try clear hcz16_3
     try clear hfz12_0
     try clear hfz12_1
     try clear hfz12_2
     try clear hfz12_3
     try clear hfz16_0
     try clear hfz16_1
     try clear hfz16_2
     try clear hfz16_3
     try clear hx490_0
     try clear p2
     try clear p490
     try clear q490
     obtain ⟨kq,x48_20,rfl,HA,HJ20,HO_4,BK480,HB⟩:=hcut
     cases kq with
     | zero=>exact absurd HA.out (by simp [thresherref04_Take.j1])
     | succ kj20 =>
      have H:=HA.out
      clear HA
      simp only [thresherref04_Take.j1] at H
      by_cases c26 : x48_20=true
      ·subst c26
       have H1 : (some (([] : List Int),0,0,0,10))=some (r1,r2,r3,r4,r5):=by rw [if_pos rfl] at H;exact H
       clear H
       have H:=H1
       clear H1
       simp only [Option.some.injEq,Prod.mk.injEq] at H
       obtain ⟨rfl,rfl,rfl,rfl,rfl⟩:=H
       have hcz27_0 : wc.cell? ⟨gb480,0,none⟩=some (.slice none 0 0):=(blk_cell BK480.out 0).trans rfl
       have hcz27_1 : wc.cell? ⟨gb480,1,none⟩=some (.int .i64 x481001_1):=(blk_cell BK480.out 1).trans rfl
       have hcz27_2 : wc.cell? ⟨gb480,2,none⟩=some (.int .i64 x481002_1):=(blk_cell BK480.out 2).trans rfl
       have hcz27_3 : wc.cell? ⟨gb480,3,none⟩=some (.int .i64 x481003_1):=(blk_cell BK480.out 3).trans rfl
       have hfz27_0:=blk_frozen BK480.out 0
       have hfz27_1:=blk_frozen BK480.out 1
       have hfz27_2:=blk_frozen BK480.out 2
       have hfz27_3:=blk_frozen BK480.out 3
       go_wp2
       refine bodyPost_ret (results_ct rfl _ _ gb480 30 #[.slice none 0 0,.int .i64 0,.int .i64 0,.int .i64 0] (0,0) _ rfl (by (with_reducible repeat (first|refine blk_drewN ?_ _|refine blk_drew ?_|refine blk_alloc ?_ _));refine blk_put (cs:=#[.slice none 0 0,.int .i64 0,.int .i64 0,.int .i64 x481003_1]) ?_ 3 _ rfl;(with_reducible repeat (first|refine blk_drewN ?_ _|refine blk_drew ?_|refine blk_alloc ?_ _));refine blk_put (cs:=#[.slice none 0 0,.int .i64 0,.int .i64 x481002_1,.int .i64 x481003_1]) ?_ 2 _ rfl;(with_reducible repeat (first|refine blk_drewN ?_ _|refine blk_drew ?_|refine blk_alloc ?_ _));refine blk_put (cs:=#[.slice none 0 0,.int .i64 x481001_1,.int .i64 x481002_1,.int .i64 x481003_1]) ?_ 1 _ rfl;(with_reducible repeat (first|refine blk_drewN ?_ _|refine blk_drew ?_|refine blk_alloc ?_ _));refine blk_put (cs:=#[.slice none 0 0,.int .i64 x481001_1,.int .i64 x481002_1,.int .i64 x481003_1]) ?_ 0 _ rfl;(with_reducible repeat (first|refine blk_drewN ?_ _|refine blk_drew ?_|refine blk_alloc ?_ _));exact BK480.out) Try.underlying30 rfl (by kernel_rfl)) rfl ?_
       exact ⟨_,by first|rfl|(simp [errW_none,errW_some] <;> rfl)|(simp [*,errW_none,errW_some] <;> rfl),(by first|exact Kd.V_nil _ _ _ _ _|exact Kd.R_V (Kd.R_nil _ _ _ _ _)),by repeat (first|(with_reducible first|exact HB.out|apply below_alloc|apply pw_below_drewN|apply below_drew1|refine below_set ?_ GE480.out)|exact HB.out)⟩
      ·replace c26:=Bool.eq_false_iff.mpr c26
       subst c26
       have H1 : (if 0 < (x4_1.length : Int) then (if 1≤(wrap64 (1 + (rd x4_1 0))) then (if (wrap64 (1 + (rd x4_1 0)))≤(x4_1.length : Int) then ((some ((x4_1.take ((wrap64 (1 + (rd x4_1 0))) : Int).toNat).drop 1 : List Int)).bind fun y492=>(if 0≤(wrap64 (1 + (rd x4_1 0))) then (if (wrap64 (1 + (rd x4_1 0))) < (x4_1.length : Int) then (if 0≤(wrap64 (2 + (rd x4_1 0))) then (if (wrap64 (2 + (rd x4_1 0))) < (x4_1.length : Int) then (if 0≤(wrap64 (3 + (rd x4_1 0))) then (if (wrap64 (3 + (rd x4_1 0))) < (x4_1.length : Int) then ((thresherref04_Check.f kj20 y492 (rd x4_1 (wrap64 (1 + (rd x4_1 0)))) (rd x4_1 (wrap64 (2 + (rd x4_1 0)))) (rd x4_1 (wrap64 (3 + (rd x4_1 0))))).bind fun t501=>(if t501=0 then (some (y492,rd x4_1 (wrap64 (1 + (rd x4_1 0))),rd x4_1 (wrap64 (2 + (rd x4_1 0))),rd x4_1 (wrap64 (3 + (rd x4_1 0))),0)) else (some (([] : List Int),0,0,0,10)))) else (none)) else (none)) else (none)) else (none)) else (none)) else (none))) else (none)) else (none)) else (none))=some (r1,r2,r3,r4,r5):=by rw [if_neg (show ¬ (false=true) by decide)] at H;exact H
       clear H
       have H:=H1
       clear H1
       by_cases c28 : 0 < (x4_1.length : Int)
       ·rw [if_pos c28] at H
        have c28b0 : decide (0 < (x4_1.length : Int))=true:=decide_eq_true c28
        have c28b1 : decide (0 < x4_1.length)=true:=decide_eq_true (by omega)
        clear c28
        by_cases c29 : 1≤(wrap64 (1 + (rd x4_1 0)))
        ·rw [if_pos c29] at H
         have c29b0:=eq_true c29
         have c29b1 : decide (1≤(wrap64 (1 + (rd x4_1 0))))=true:=decide_eq_true c29
         by_cases c30 : (wrap64 (1 + (rd x4_1 0)))≤(x4_1.length : Int)
         ·rw [if_pos c30] at H
          have c30b0:=eq_true c30
          have c30b1 : decide ((wrap64 (1 + (rd x4_1 0)))≤(x4_1.length : Int))=true:=decide_eq_true c30
          obtain ⟨y492,hy492⟩ : ∃ y_ : List Int,y_=((x4_1.take ((wrap64 (1 + (rd x4_1 0))) : Int).toNat).drop 1):=⟨_,rfl⟩
          replace H : (if 0≤(wrap64 (1 + (rd x4_1 0))) then (if (wrap64 (1 + (rd x4_1 0))) < (x4_1.length : Int) then (if 0≤(wrap64 (2 + (rd x4_1 0))) then (if (wrap64 (2 + (rd x4_1 0))) < (x4_1.length : Int) then (if 0≤(wrap64 (3 + (rd x4_1 0))) then (if (wrap64 (3 + (rd x4_1 0))) < (x4_1.length : Int) then ((thresherref04_Check.f kj20 y492 (rd x4_1 (wrap64 (1 + (rd x4_1 0)))) (rd x4_1 (wrap64 (2 + (rd x4_1 0)))) (rd x4_1 (wrap64 (3 + (rd x4_1 0))))).bind fun t501=>(if t501=0 then (some (y492,rd x4_1 (wrap64 (1 + (rd x4_1 0))),rd x4_1 (wrap64 (2 + (rd x4_1 0))),rd x4_1 (wrap64 (3 + (rd x4_1 0))),0)) else (some (([] : List Int),0,0,0,10)))) else (none)) else (none)) else (none)) else (none)) else (none)) else (none))=some (r1,r2,r3,r4,r5):=by first|(rw [hy492];with_reducible exact H)|(have H2_:=(Option.bind_some _ _).symm.trans H;rw [hy492];with_reducible exact H2_)|(have H2_:=(Option.bind_some _ _).symm.trans H;with_reducible exact H2_)|with_reducible exact H|(rw [hy492];exact H)|exact H
          have Ny492:=Aside0.mk hy492
          clear hy492
          obtain ⟨ji31,hji31⟩ : ∃ j_ : Int,(wrap64 (1 + (rd x4_1 0)))=j_:=⟨_,rfl⟩
          replace H : (if 0≤(ji31) then (if (ji31) < (x4_1.length : Int) then (if 0≤(wrap64 (2 + (rd x4_1 0))) then (if (wrap64 (2 + (rd x4_1 0))) < (x4_1.length : Int) then (if 0≤(wrap64 (3 + (rd x4_1 0))) then (if (wrap64 (3 + (rd x4_1 0))) < (x4_1.length : Int) then ((thresherref04_Check.f kj20 y492 (rd x4_1 (ji31)) (rd x4_1 (wrap64 (2 + (rd x4_1 0)))) (rd x4_1 (wrap64 (3 + (rd x4_1 0))))).bind fun t501=>(if t501=0 then (some (y492,rd x4_1 (ji31),rd x4_1 (wrap64 (2 + (rd x4_1 0))),rd x4_1 (wrap64 (3 + (rd x4_1 0))),0)) else (some (([] : List Int),0,0,0,10)))) else (none)) else (none)) else (none)) else (none)) else (none)) else (none))=some (r1,r2,r3,r4,r5):=by first|(rw [hji31] at H;exact H)|(simp only [hji31] at H ⊢;exact H)
          (try rw [hji31] at c29b0)
          (try rw [hji31] at c29b1)
          (try rw [hji31] at c29)
          (try rw [hji31] at c30b0)
          (try rw [hji31] at c30b1)
          (try rw [hji31] at c30)
          (try rw [hji31] at Ny492)
          have hji31w : (IntKind.i64.wrap (1 + (rd x4_1 0)))=ji31:=(i64_w _).trans hji31
          by_cases c32 : 0≤(ji31)
          ·rw [if_pos c32] at H
           have c32b0 : decide (0≤(ji31))=true:=decide_eq_true c32
           clear c32
           by_cases c33 : (ji31) < (x4_1.length : Int)
           ·rw [if_pos c33] at H
            have c33b0 : decide ((ji31) < (x4_1.length : Int))=true:=decide_eq_true c33
            clear c33
            obtain ⟨ji34,hji34⟩ : ∃ j_ : Int,(wrap64 (2 + (rd x4_1 0)))=j_:=⟨_,rfl⟩
            replace H : (if 0≤(ji34) then (if (ji34) < (x4_1.length : Int) then (if 0≤(wrap64 (3 + (rd x4_1 0))) then (if (wrap64 (3 + (rd x4_1 0))) < (x4_1.length : Int) then ((thresherref04_Check.f kj20 y492 (rd x4_1 (ji31)) (rd x4_1 (ji34)) (rd x4_1 (wrap64 (3 + (rd x4_1 0))))).bind fun t501=>(if t501=0 then (some (y492,rd x4_1 (ji31),rd x4_1 (ji34),rd x4_1 (wrap64 (3 + (rd x4_1 0))),0)) else (some (([] : List Int),0,0,0,10)))) else (none)) else (none)) else (none)) else (none))=some (r1,r2,r3,r4,r5):=by first|(rw [hji34] at H;exact H)|(simp only [hji34] at H ⊢;exact H)
            have hji34w : (IntKind.i64.wrap (2 + (rd x4_1 0)))=ji34:=(i64_w _).trans hji34
            by_cases c35 : 0≤(ji34)
            ·rw [if_pos c35] at H
             have c35b0 : decide (0≤(ji34))=true:=decide_eq_true c35
             clear c35
             by_cases c36 : (ji34) < (x4_1.length : Int)
             ·rw [if_pos c36] at H
              have c36b0 : decide ((ji34) < (x4_1.length : Int))=true:=decide_eq_true c36
              clear c36
              obtain ⟨ji37,hji37⟩ : ∃ j_ : Int,(wrap64 (3 + (rd x4_1 0)))=j_:=⟨_,rfl⟩
              replace H : (if 0≤(ji37) then (if (ji37) < (x4_1.length : Int) then ((thresherref04_Check.f kj20 y492 (rd x4_1 (ji31)) (rd x4_1 (ji34)) (rd x4_1 (ji37))).bind fun t501=>(if t501=0 then (some (y492,rd x4_1 (ji31),rd x4_1 (ji34),rd x4_1 (ji37),0)) else (some (([] : List Int),0,0,0,10)))) else (none)) else (none))=some (r1,r2,r3,r4,r5):=by first|(rw [hji37] at H;exact H)|(simp only [hji37] at H ⊢;exact H)
              have hji37w : (IntKind.i64.wrap (3 + (rd x4_1 0)))=ji37:=(i64_w _).trans hji37
              by_cases c38 : 0≤(ji37)
              ·rw [if_pos c38] at H
               have c38b0 : decide (0≤(ji37))=true:=decide_eq_true c38
               clear c38
               by_cases c39 : (ji37) < (x4_1.length : Int)
               ·rw [if_pos c39] at H
                have c39b0 : decide ((ji37) < (x4_1.length : Int))=true:=decide_eq_true c39
                clear c39
                replace H:=Option.bind_eq_some_iff.mp H
                obtain ⟨t501,A400,H⟩:=H
                replace H : (if t501=0 then (some (y492,rd x4_1 (ji31),rd x4_1 (ji34),rd x4_1 (ji37),0)) else (some (([] : List Int),0,0,0,10)))=some (r1,r2,r3,r4,r5):=H
                have A40:=Aside0.mk A400
                clear A400
                by_cases c41 : t501=0
                ·rw [if_pos c41] at H
                 have c41b0 : (t501 == 0)=true:=beq_iff_eq.mpr c41
                 have c41b1 : (t501 != 0)=false:=bne_eq_false_iff_eq.mpr c41
                 clear c41
                 simp only [Option.some.injEq,Prod.mk.injEq] at H
                 obtain ⟨rfl,rfl,rfl,rfl,rfl⟩:=H
                 obtain ⟨Ao42,co42,eo42⟩:=Kd.R_slice HO_4.out
                 subst eo42
                 have p491 : 0≤(0 : Int):=(by omega)
                 have q491 : 0 < (x4_1.length : Int):=of_decide_eq_true (by first|(with_reducible assumption)|assumption)
                 obtain ⟨ad491,e491,hx491_0⟩:=Kd.at_int (Kd.R_reads' HO_4.out).2.2 0 p491 q491
                 cases e491
                 have qi491 : (0 < x4_1.length)=True:=eq_true (by omega)
                 (try rw [show ((0 : Int)).toNat=0 from rfl] at hx491_0)
                 (try rw [Addr.add_zero'] at hx491_0)
                 replace p491:=eq_true p491
                 replace q491:=eq_true q491
                 try go_wp2
                 have n0_:=Aside0.mk (Kd.R_drew HO_4.out)
                 have n1_:=Aside0.mk (blk_drew BK480.out)
                 have n2_:=Aside0.mk (below_drew1 HB.out)
                 clear HO_4
                 clear BK480
                 clear HB
                 have HO_4:=n0_
                 have BK480:=n1_
                 have HB:=n2_
                 clear n0_ n1_ n2_
                 have q44 : ((ji31) : Int)≤((x4_1.length : Int) : Int):=of_decide_eq_true (by first|(with_reducible assumption)|assumption)
                 obtain ⟨i044,hi044,_,hsz44,_⟩:=info_parts info3
                 have hroom44 : x4_1.length≤co42:=(Kd.R_reads' HO_4.out).2.1
                 have hC44 : Kd.F (Kd.int .i64) _ _ (some ad491) x4_1.length x4_1:=(Kd.V_at (base:=w.heap.size) (Kd.R_V (Kd.R_types (HO_4.out) BK480.out (by decide)))).2.2
                 have ql44 : (1 : Int)≤((ji31) : Int):=of_decide_eq_true (by first|(with_reducible assumption)|assumption)
                 have hcut44:=cut_mid (P:=Try.prog) 28 3 .i64 .i64 Try.underlying28 hi044 1 hsz44 (some ad491) x4_1.length co42 1 (ji31) (by omega) ql44 q44 hroom44
                 have hr44:=Kd.F_mid (lo:=(1 : Int).toNat) (hi:=((ji31) : Int).toNat) (c:=co42) hC44 (by omega) (by omega) hroom44
                 obtain ⟨A44,hA44⟩ : ∃ Z_,Z_=(if co42=(1 : Int).toNat then (some ad491) else ((some ad491) : Option Addr).map (·.add ((1 : Int).toNat * 1))):=⟨_,rfl⟩
                 obtain ⟨c44,hc44⟩ : ∃ z_,z_=co42 - (1 : Int).toNat:=⟨_,rfl⟩
                 have hy44 : y492.length=((ji31) : Int).toNat - (1 : Int).toNat:=(by rw [Ny492.out,List.length_drop,List.length_take] <;> omega)
                 rw [show ((x4_1).take ((ji31) : Int).toNat).drop (1 : Int).toNat=y492 from Ny492.out.symm] at hr44
                 replace hr44 : Kd.F (Kd.int .i64) _ _ A44 y492.length y492:=(by rw [hA44];exact hr44)
                 rw [← hy44,← hA44,← hc44] at hcut44
                 have HO496:=Aside0.mk (show Kd.V (Kd.int .i64) 3 _ w.heap.size _ (.slice A44 y492.length c44) y492 from Kd.V_mk (by rw [hy44,hc44];exact Nat.sub_le_sub_right (Nat.le_trans (by omega) hroom44) _) hr44)
                 have HC496:=Aside0.mk (show y492.length≤c44 from by rw [hy44,hc44];exact Nat.sub_le_sub_right (Nat.le_trans (by omega) hroom44) _)
                 clear hr44 hC44 hroom44 hi044 hsz44 hc44
                 have KY44:=Aside0.mk hy44
                 have KA44:=Aside0.mk hA44
                 clear hy44 hA44
                 replace q44:=eq_true q44
                 have p497 : 0≤((ji31) : Int):=of_decide_eq_true (by first|(with_reducible assumption)|assumption)
                 have q497 : (ji31) < (x4_1.length : Int):=of_decide_eq_true (by first|(with_reducible assumption)|assumption)
                 obtain ⟨ad497,e497,hx497_0⟩:=Kd.at_int (Kd.R_reads' HO_4.out).2.2 (ji31) p497 q497
                 obtain rfl : ad491=ad497:=(by injection e497)
                 replace p497:=eq_true p497
                 replace q497:=eq_true q497
                 have p498 : 0≤((ji34) : Int):=of_decide_eq_true (by first|(with_reducible assumption)|assumption)
                 have q498 : (ji34) < (x4_1.length : Int):=of_decide_eq_true (by first|(with_reducible assumption)|assumption)
                 obtain ⟨ad498,e498,hx498_0⟩:=Kd.at_int (Kd.R_reads' HO_4.out).2.2 (ji34) p498 q498
                 obtain rfl : ad491=ad498:=(by injection e498)
                 replace p498:=eq_true p498
                 replace q498:=eq_true q498
                 have p499 : 0≤((ji37) : Int):=of_decide_eq_true (by first|(with_reducible assumption)|assumption)
                 have q499 : (ji37) < (x4_1.length : Int):=of_decide_eq_true (by first|(with_reducible assumption)|assumption)
                 obtain ⟨ad499,e499,hx499_0⟩:=Kd.at_int (Kd.R_reads' HO_4.out).2.2 (ji37) p499 q499
                 obtain rfl : ad491=ad499:=(by injection e499)
                 replace p499:=eq_true p499
                 replace q499:=eq_true q499
                 refine start_ (n:=22) (S:=fun w'=>w'.cell? (ad491.add ((ji31)).toNat)=some (.int .i64 (rd x4_1 (ji31)))∧w'.cell? (ad491.add ((ji34)).toNat)=some (.int .i64 (rd x4_1 (ji34)))∧w'.cell? (ad491.add ((ji37)).toNat)=some (.int .i64 (rd x4_1 (ji37)))) (ds:=[]) #[false,false,false,false,false,false,false,false,false,false,false,false,false,false,false,false,false,false,false,false,false,false] (by kernel_rfl) rfl rfl ⟨hx497_0,hx498_0,hx499_0⟩ (fun hHeld=>?_);refine with_tabW thresherref04_Take.tab12 thresherref04_Take.bits12 (fun HT_ HW_=>?_)
                 generalize wc.drew=w43 at HO_4 BK480 HB HO496 hx497_0 hx498_0 hx499_0 hHeld ⊢
                 refine pure_ (i:=0) (N:=some 53) (v:=?_) (a':=?_) #[true,false,false,false,false,false,false,false,false,false,false,false,false,false,false,false,false,false,false,false,false,false] rfl rfl (any_of HT_.out (by kernel_rfl)) (fun _ _ _ h=>h) (Or.inl ⟨by rfl,?_⟩) ?_ ?_
                 rotate_left;(intro w';go_simp;with_reducible rfl);rotate_left;(simp only [Act.put,List.setIfInBounds_toArray,List.set_cons_zero,List.set_cons_succ,i64_w,i32_w];rfl)
                 refine pure_ (i:=1) (N:=some 54) (v:=?_) (a':=?_) #[true,true,false,false,false,false,false,false,false,false,false,false,false,false,false,false,false,false,false,false,false,false] rfl rfl (any_of HT_.out (by kernel_rfl)) (fun _ _ _ h=>h) (Or.inl ⟨by rfl,?_⟩) ?_ ?_
                 rotate_left;(intro w';go_simp;with_reducible rfl);rotate_left;(simp only [Act.put,List.setIfInBounds_toArray,List.set_cons_zero,List.set_cons_succ,i64_w,i32_w];rfl)
                 refine pure_ (i:=2) (N:=some 55) (v:=?_) (a':=?_) #[true,true,true,false,false,false,false,false,false,false,false,false,false,false,false,false,false,false,false,false,false,false] rfl rfl (any_of HT_.out (by kernel_rfl)) (fun _ _ _ h=>h) (Or.inl ⟨by rfl,?_⟩) ?_ ?_
                 rotate_left;(intro w';go_simp;with_reducible rfl);rotate_left;(simp only [Act.put,List.setIfInBounds_toArray,List.set_cons_zero,List.set_cons_succ,i64_w,i32_w];rfl)
                 refine pure_ (i:=3) (N:=some 56) (v:=?_) (a':=?_) #[true,true,true,true,false,false,false,false,false,false,false,false,false,false,false,false,false,false,false,false,false,false] rfl rfl (any_of HT_.out (by kernel_rfl)) (fun _ _ _ h=>h) (Or.inl ⟨by rfl,?_⟩) ?_ ?_
                 rotate_left;(intro w';go_simp;with_reducible rfl);rotate_left;(simp only [Act.put,List.setIfInBounds_toArray,List.set_cons_zero,List.set_cons_succ,i64_w,i32_w];rfl)
                 refine pure_ (i:=4) (N:=some 57) (v:=?_) (a':=?_) #[true,true,true,true,true,false,false,false,false,false,false,false,false,false,false,false,false,false,false,false,false,false] rfl rfl (any_of HT_.out (by kernel_rfl)) (fun _ _ _ h=>h) (Or.inl ⟨by rfl,?_⟩) ?_ ?_
                 rotate_left;(intro w';go_simp;with_reducible rfl);rotate_left;(simp only [Act.put,List.setIfInBounds_toArray,List.set_cons_zero,List.set_cons_succ,i64_w,i32_w];rfl)
                 refine pure_ (i:=5) (N:=some 58) (v:=?_) (a':=?_) #[true,true,true,true,true,true,false,false,false,false,false,false,false,false,false,false,false,false,false,false,false,false] rfl rfl (any_of HT_.out (by kernel_rfl)) (fun _ _ _ h=>h) (Or.inl ⟨by rfl,?_⟩) ?_ ?_
                 rotate_left;(intro w';go_simp;with_reducible rfl);rotate_left;(simp only [Act.put,List.setIfInBounds_toArray,List.set_cons_zero,List.set_cons_succ,i64_w,i32_w];rfl)
                 refine pure_ (i:=6) (N:=some 59) (v:=?_) (a':=?_) #[true,true,true,true,true,true,true,false,false,false,false,false,false,false,false,false,false,false,false,false,false,false] rfl rfl (any_of HT_.out (by kernel_rfl)) (fun _ _ _ h=>h) (Or.inl ⟨by rfl,?_⟩) ?_ ?_
                 rotate_left;(intro w';go_simp;with_reducible rfl);rotate_left;(simp only [Act.put,List.setIfInBounds_toArray,List.set_cons_zero,List.set_cons_succ,i64_w,i32_w];rfl)
                 refine pure_ (i:=7) (N:=some 60) (v:=?_) (a':=?_) #[true,true,true,true,true,true,true,true,false,false,false,false,false,false,false,false,false,false,false,false,false,false] rfl rfl (any_of HT_.out (by kernel_rfl)) (fun _ _ _ h=>h) (Or.inl ⟨by rfl,?_⟩) ?_ ?_
                 rotate_left;(intro w';go_simp;with_reducible rfl);rotate_left;(simp only [Act.put,List.setIfInBounds_toArray,List.set_cons_zero,List.set_cons_succ,i64_w,i32_w];rfl)
                 refine pure_ (i:=9) (N:=some 62) (v:=?_) (a':=?_) #[true,true,true,true,true,true,true,true,false,true,false,false,false,false,false,false,false,false,false,false,false,false] rfl rfl (any_of HT_.out (by kernel_rfl)) (fun _ _ _ h=>h) (Or.inl ⟨by rfl,?_⟩) ?_ ?_
                 rotate_left;(intro w';go_simp;with_reducible rfl);rotate_left;(simp only [Act.put,List.setIfInBounds_toArray,List.set_cons_zero,List.set_cons_succ,i64_w,i32_w];rfl)
                 refine pure_ (i:=10) (N:=some 63) (v:=?_) (a':=?_) #[true,true,true,true,true,true,true,true,false,true,true,false,false,false,false,false,false,false,false,false,false,false] rfl rfl (any_of HT_.out (by kernel_rfl)) (fun _ _ _ h=>h) (Or.inl ⟨by rfl,?_⟩) ?_ ?_
                 rotate_left;(intro w';go_simp;with_reducible rfl);rotate_left;(simp only [Act.put,List.setIfInBounds_toArray,List.set_cons_zero,List.set_cons_succ,i64_w,i32_w];rfl)
                 refine pure_ (i:=11) (N:=some 64) (v:=?_) (a':=?_) #[true,true,true,true,true,true,true,true,false,true,true,true,false,false,false,false,false,false,false,false,false,false] rfl rfl (any_of HT_.out (by kernel_rfl)) (fun _ _ _ h=>h) (Or.inl ⟨by rfl,?_⟩) ?_ ?_
                 rotate_left;(intro w';go_simp;with_reducible rfl);rotate_left;(simp only [Act.put,List.setIfInBounds_toArray,List.set_cons_zero,List.set_cons_succ,i64_w,i32_w];rfl)
                 refine pure_ (i:=12) (N:=some 65) (v:=?_) (a':=?_) #[true,true,true,true,true,true,true,true,false,true,true,true,true,false,false,false,false,false,false,false,false,false] rfl rfl (any_of HT_.out (by kernel_rfl)) (fun _ _ _ h=>h) (Or.inl ⟨by rfl,?_⟩) ?_ ?_
                 rotate_left;(intro w';go_simp;with_reducible rfl);rotate_left;(simp only [Act.put,List.setIfInBounds_toArray,List.set_cons_zero,List.set_cons_succ,i64_w,i32_w];rfl)
                 refine pure_ (i:=14) (N:=some 67) (v:=?_) (a':=?_) #[true,true,true,true,true,true,true,true,false,true,true,true,true,false,true,false,false,false,false,false,false,false] rfl rfl (any_of HT_.out (by kernel_rfl)) (fun _ _ _ h=>h) (Or.inl ⟨by rfl,?_⟩) ?_ ?_
                 rotate_left;(intro w';go_simp;with_reducible rfl);rotate_left;(simp only [Act.put,List.setIfInBounds_toArray,List.set_cons_zero,List.set_cons_succ,i64_w,i32_w];rfl)
                 refine pure_ (i:=15) (N:=some 68) (v:=?_) (a':=?_) #[true,true,true,true,true,true,true,true,false,true,true,true,true,false,true,true,false,false,false,false,false,false] rfl rfl (any_of HT_.out (by kernel_rfl)) (fun _ _ _ h=>h) (Or.inl ⟨by rfl,?_⟩) ?_ ?_
                 rotate_left;(intro w';go_simp;with_reducible rfl);rotate_left;(simp only [Act.put,List.setIfInBounds_toArray,List.set_cons_zero,List.set_cons_succ,i64_w,i32_w];rfl)
                 refine pure_ (i:=16) (N:=some 69) (v:=?_) (a':=?_) #[true,true,true,true,true,true,true,true,false,true,true,true,true,false,true,true,true,false,false,false,false,false] rfl rfl (any_of HT_.out (by kernel_rfl)) (fun _ _ _ h=>h) (Or.inl ⟨by rfl,?_⟩) ?_ ?_
                 rotate_left;(intro w';go_simp;with_reducible rfl);rotate_left;(simp only [Act.put,List.setIfInBounds_toArray,List.set_cons_zero,List.set_cons_succ,i64_w,i32_w];rfl)
                 refine pure_ (i:=17) (N:=some 70) (v:=?_) (a':=?_) #[true,true,true,true,true,true,true,true,false,true,true,true,true,false,true,true,true,true,false,false,false,false] rfl rfl (any_of HT_.out (by kernel_rfl)) (fun _ _ _ h=>h) (Or.inl ⟨by rfl,?_⟩) ?_ ?_
                 rotate_left;(intro w';go_simp;with_reducible rfl);rotate_left;(simp only [Act.put,List.setIfInBounds_toArray,List.set_cons_zero,List.set_cons_succ,i64_w,i32_w];rfl)
                 refine take_ (i:=8) (N:=some 61) (v:=?_) (a':=?_) #[true,true,true,true,true,true,true,true,true,true,true,true,true,false,true,true,true,true,false,false,false,false] rfl rfl (take_ofW HT_.out HW_.out (by kernel_rfl)) (fun _ _ _ h=>h) (Or.inl ⟨by rfl,?_⟩) hHeld ?_ ?_
                 rotate_left;(rintro w' ⟨s0,s1,s2⟩;go_simp;with_reducible rfl);rotate_left;(simp only [Act.put,List.setIfInBounds_toArray,List.set_cons_zero,List.set_cons_succ,i64_w,i32_w];rfl)
                 refine take_ (i:=13) (N:=some 66) (v:=?_) (a':=?_) #[true,true,true,true,true,true,true,true,true,true,true,true,true,true,true,true,true,true,false,false,false,false] rfl rfl (take_ofW HT_.out HW_.out (by kernel_rfl)) (fun _ _ _ h=>h) (Or.inl ⟨by rfl,?_⟩) hHeld ?_ ?_
                 rotate_left;(rintro w' ⟨s0,s1,s2⟩;go_simp;with_reducible rfl);rotate_left;(simp only [Act.put,List.setIfInBounds_toArray,List.set_cons_zero,List.set_cons_succ,i64_w,i32_w];rfl)
                 refine take_ (i:=18) (N:=some 71) (v:=?_) (a':=?_) #[true,true,true,true,true,true,true,true,true,true,true,true,true,true,true,true,true,true,true,false,false,false] rfl rfl (take_ofW HT_.out HW_.out (by kernel_rfl)) (fun _ _ _ h=>h) (Or.inl ⟨by rfl,?_⟩) hHeld ?_ ?_
                 rotate_left;(rintro w' ⟨s0,s1,s2⟩;go_simp;with_reducible rfl);rotate_left;(simp only [Act.put,List.setIfInBounds_toArray,List.set_cons_zero,List.set_cons_succ,i64_w,i32_w];rfl)
                 refine pure_ (i:=19) (N:=some 72) (v:=?_) (a':=?_) #[true,true,true,true,true,true,true,true,true,true,true,true,true,true,true,true,true,true,true,true,false,false] rfl rfl (any_of HT_.out (by kernel_rfl)) (fun _ _ _ h=>h) (Or.inl ⟨by rfl,?_⟩) ?_ ?_
                 rotate_left;(intro w';go_simp;with_reducible rfl);rotate_left;(simp only [Act.put,List.setIfInBounds_toArray,List.set_cons_zero,List.set_cons_succ,i64_w,i32_w];rfl)
                 refine one_ (i:=20) (N:=some 9) #[true,true,true,true,true,true,true,true,true,true,true,true,true,true,true,true,true,true,true,true,true,false] rfl rfl (one_of HT_.out (by kernel_rfl)) (by decide) (fun K hK=>?_)
                 refine box_step ?hg (N:=9) ?hd (cs:=#[.slice none 0 0,.int .i64 0,.int .i64 0,.int .i64 0]) (t:=30) ?hr ?_;(case hd=>rfl);(case hg=>rfl);(case hr=>first|(go_simp;done)|(go_simp;rfl))
                 intro gb500 hg w45 hbox hb
                 have HS0_:=(hb.cell (World.block_lt_of_cell? _ _ (hHeld.1))).trans (hHeld.1)
                 have HS1_:=(hb.cell (World.block_lt_of_cell? _ _ (hHeld.2.1))).trans (hHeld.2.1)
                 have HS2_:=(hb.cell (World.block_lt_of_cell? _ _ (hHeld.2.2))).trans (hHeld.2.2)
                 have n0_:=Aside0.mk (Kd.R_below (R_up HO_4.out) hb)
                 have n1_:=Aside0.mk (Kd.V_below (Kd.V_elderB (V_up HO496.out) gb500 (Nat.le_of_eq hg.symm)) hb)
                 have n2_:=Aside0.mk (blk_below (blk_up BK480.out) hb)
                 have n3_:=Aside0.mk (below_step (below_go HB.out) hb)
                 have n4_:=Aside0.mk (hbox)
                 have n5_:=Aside0.mk ((by rw [hg];exact (below_size (below_go HB.out)) : w.heap.size≤gb500))
                 have n6_:=Aside0.mk ((by rw [hg];exact (below_size (below_go HB.out)) : w.heap.size≤gb500))
                 have n7_:=Aside0.mk ((by rw [hg];exact Nat.ne_of_lt (blk_lt (blk_up BK480.out)) : gb480≠gb500))
                 have n8_:=Aside0.mk ((by rw [hg];exact Nat.ne_of_gt (blk_lt (blk_up BK480.out)) : gb500≠gb480))
                 clear HO_4
                 clear HO496
                 clear BK480
                 clear HB
                 have HO_4:=n0_
                 have HO496:=n1_
                 have BK480:=n2_
                 have HB:=n3_
                 have BK500:=n4_
                 have GW500:=n5_
                 have GE500:=n6_
                 have NB480_500:=n7_
                 have NB500_480:=n8_
                 clear n0_ n1_ n2_ n3_ n4_ n5_ n6_ n7_ n8_
                 clear hb hbox hg
                 refine hK.out _ _ ⟨HS0_,HS1_,HS2_⟩ (fun hHeld=>?_)
                 clear hK K
                 refine norm_ (a':=?_) ?_ ?_
                 rotate_left
                 ·show Act.put _ (some 9) _=_
                  simp only [Act.put,List.setIfInBounds_toArray,List.set_cons_zero,List.set_cons_succ,i64_w,i32_w]
                  rfl
                 refine one_ (i:=21) (N:=none) #[true,true,true,true,true,true,true,true,true,true,true,true,true,true,true,true,true,true,true,true,true,true] rfl rfl (one_of HT_.out (by kernel_rfl)) (by decide) (fun K hK=>?_)
                 have hs46 : w45.cell? ⟨gb500,0,none⟩=some (.slice none 0 0):=(blk_cell BK500.out 0).trans rfl
                 have hfs46:=blk_frozen BK500.out 0
                 have hns46_0:=NB480_500.out
                 have hms46_0:=NB500_480.out
                 have hs47 : w45.cell? ⟨gb500,1,none⟩=some (.int .i64 0):=(blk_cell BK500.out 1).trans rfl
                 have hfs47:=blk_frozen BK500.out 1
                 have hns47_0:=NB480_500.out
                 have hms47_0:=NB500_480.out
                 have hs48 : w45.cell? ⟨gb500,2,none⟩=some (.int .i64 0):=(blk_cell BK500.out 2).trans rfl
                 have hfs48:=blk_frozen BK500.out 2
                 have hns48_0:=NB480_500.out
                 have hms48_0:=NB500_480.out
                 have hs49 : w45.cell? ⟨gb500,3,none⟩=some (.int .i64 0):=(blk_cell BK500.out 3).trans rfl
                 have hfs49:=blk_frozen BK500.out 3
                 have hns49_0:=NB480_500.out
                 have hms49_0:=NB500_480.out
                 refine skip_ (w1:=?_) (by rfl) rfl ?_ ?_
                 rotate_left
                 ·go_simp
                  rfl
                 refine hK.out _ _ ⟨((cell_far (p:=⟨gb500,_,none⟩) (by first|exact Kd.own_blk (Kd.R_ne HO_4.out BK500.out (by decide))|(rw [add_block];exact Kd.own_blk (Kd.R_ne HO_4.out BK500.out (by decide)))|(show (Addr.add _ _).block≠_;rw [add_block];exact Kd.own_blk (Kd.R_ne HO_4.out BK500.out (by decide)))|(dsimp only;exact Kd.own_blk (Kd.R_ne HO_4.out BK500.out (by decide)))) _).trans (((cell_far (p:=⟨gb500,_,none⟩) (by first|exact Kd.own_blk (Kd.R_ne HO_4.out BK500.out (by decide))|(rw [add_block];exact Kd.own_blk (Kd.R_ne HO_4.out BK500.out (by decide)))|(show (Addr.add _ _).block≠_;rw [add_block];exact Kd.own_blk (Kd.R_ne HO_4.out BK500.out (by decide)))|(dsimp only;exact Kd.own_blk (Kd.R_ne HO_4.out BK500.out (by decide)))) _).trans (((cell_far (p:=⟨gb500,_,none⟩) (by first|exact Kd.own_blk (Kd.R_ne HO_4.out BK500.out (by decide))|(rw [add_block];exact Kd.own_blk (Kd.R_ne HO_4.out BK500.out (by decide)))|(show (Addr.add _ _).block≠_;rw [add_block];exact Kd.own_blk (Kd.R_ne HO_4.out BK500.out (by decide)))|(dsimp only;exact Kd.own_blk (Kd.R_ne HO_4.out BK500.out (by decide)))) _).trans (((cell_far (p:=⟨gb500,_,none⟩) (by first|exact Kd.own_blk (Kd.R_ne HO_4.out BK500.out (by decide))|(rw [add_block];exact Kd.own_blk (Kd.R_ne HO_4.out BK500.out (by decide)))|(show (Addr.add _ _).block≠_;rw [add_block];exact Kd.own_blk (Kd.R_ne HO_4.out BK500.out (by decide)))|(dsimp only;exact Kd.own_blk (Kd.R_ne HO_4.out BK500.out (by decide)))) _).trans (hHeld.1)))))))),((cell_far (p:=⟨gb500,_,none⟩) (by first|exact Kd.own_blk (Kd.R_ne HO_4.out BK500.out (by decide))|(rw [add_block];exact Kd.own_blk (Kd.R_ne HO_4.out BK500.out (by decide)))|(show (Addr.add _ _).block≠_;rw [add_block];exact Kd.own_blk (Kd.R_ne HO_4.out BK500.out (by decide)))|(dsimp only;exact Kd.own_blk (Kd.R_ne HO_4.out BK500.out (by decide)))) _).trans (((cell_far (p:=⟨gb500,_,none⟩) (by first|exact Kd.own_blk (Kd.R_ne HO_4.out BK500.out (by decide))|(rw [add_block];exact Kd.own_blk (Kd.R_ne HO_4.out BK500.out (by decide)))|(show (Addr.add _ _).block≠_;rw [add_block];exact Kd.own_blk (Kd.R_ne HO_4.out BK500.out (by decide)))|(dsimp only;exact Kd.own_blk (Kd.R_ne HO_4.out BK500.out (by decide)))) _).trans (((cell_far (p:=⟨gb500,_,none⟩) (by first|exact Kd.own_blk (Kd.R_ne HO_4.out BK500.out (by decide))|(rw [add_block];exact Kd.own_blk (Kd.R_ne HO_4.out BK500.out (by decide)))|(show (Addr.add _ _).block≠_;rw [add_block];exact Kd.own_blk (Kd.R_ne HO_4.out BK500.out (by decide)))|(dsimp only;exact Kd.own_blk (Kd.R_ne HO_4.out BK500.out (by decide)))) _).trans (((cell_far (p:=⟨gb500,_,none⟩) (by first|exact Kd.own_blk (Kd.R_ne HO_4.out BK500.out (by decide))|(rw [add_block];exact Kd.own_blk (Kd.R_ne HO_4.out BK500.out (by decide)))|(show (Addr.add _ _).block≠_;rw [add_block];exact Kd.own_blk (Kd.R_ne HO_4.out BK500.out (by decide)))|(dsimp only;exact Kd.own_blk (Kd.R_ne HO_4.out BK500.out (by decide)))) _).trans (hHeld.2.1)))))))),((cell_far (p:=⟨gb500,_,none⟩) (by first|exact Kd.own_blk (Kd.R_ne HO_4.out BK500.out (by decide))|(rw [add_block];exact Kd.own_blk (Kd.R_ne HO_4.out BK500.out (by decide)))|(show (Addr.add _ _).block≠_;rw [add_block];exact Kd.own_blk (Kd.R_ne HO_4.out BK500.out (by decide)))|(dsimp only;exact Kd.own_blk (Kd.R_ne HO_4.out BK500.out (by decide)))) _).trans (((cell_far (p:=⟨gb500,_,none⟩) (by first|exact Kd.own_blk (Kd.R_ne HO_4.out BK500.out (by decide))|(rw [add_block];exact Kd.own_blk (Kd.R_ne HO_4.out BK500.out (by decide)))|(show (Addr.add _ _).block≠_;rw [add_block];exact Kd.own_blk (Kd.R_ne HO_4.out BK500.out (by decide)))|(dsimp only;exact Kd.own_blk (Kd.R_ne HO_4.out BK500.out (by decide)))) _).trans (((cell_far (p:=⟨gb500,_,none⟩) (by first|exact Kd.own_blk (Kd.R_ne HO_4.out BK500.out (by decide))|(rw [add_block];exact Kd.own_blk (Kd.R_ne HO_4.out BK500.out (by decide)))|(show (Addr.add _ _).block≠_;rw [add_block];exact Kd.own_blk (Kd.R_ne HO_4.out BK500.out (by decide)))|(dsimp only;exact Kd.own_blk (Kd.R_ne HO_4.out BK500.out (by decide)))) _).trans (((cell_far (p:=⟨gb500,_,none⟩) (by first|exact Kd.own_blk (Kd.R_ne HO_4.out BK500.out (by decide))|(rw [add_block];exact Kd.own_blk (Kd.R_ne HO_4.out BK500.out (by decide)))|(show (Addr.add _ _).block≠_;rw [add_block];exact Kd.own_blk (Kd.R_ne HO_4.out BK500.out (by decide)))|(dsimp only;exact Kd.own_blk (Kd.R_ne HO_4.out BK500.out (by decide)))) _).trans (hHeld.2.2))))))))⟩ (fun hHeld=>?_)
                 clear hK K
                 refine done_ (done_of HT_.out (by kernel_rfl)) ?_
                 (try clear HS0_);(try clear HS1_);(try clear HS2_);(try clear hHeld)
                 have hnb50:=NB500_480.out
                 have hnc50:=NB480_500.out
                 have hcz51_0 : w45.cell? ⟨gb500,0,none⟩=some (.slice none 0 0):=(blk_cell BK500.out 0).trans rfl
                 have hcz51_1 : w45.cell? ⟨gb500,1,none⟩=some (.int .i64 0):=(blk_cell BK500.out 1).trans rfl
                 have hcz51_2 : w45.cell? ⟨gb500,2,none⟩=some (.int .i64 0):=(blk_cell BK500.out 2).trans rfl
                 have hcz51_3 : w45.cell? ⟨gb500,3,none⟩=some (.int .i64 0):=(blk_cell BK500.out 3).trans rfl
                 have hfz51_0:=blk_frozen BK500.out 0
                 have hfz51_1:=blk_frozen BK500.out 1
                 have hfz51_2:=blk_frozen BK500.out 2
                 have hfz51_3:=blk_frozen BK500.out 3
                 try go_wp2_with (first|((with_reducible refine gate_callee (f:=24) rfl ?_);refine goesL_ (some 74) rfl rfl Try.func24 (by kernel_rfl) rfl #[.agg #[.slice A44 y492.length c44,.int .i64 (rd x4_1 (ji31)),.int .i64 (rd x4_1 (ji34)),.int .i64 (rd x4_1 (ji37))]] rfl (by (try simp only [List.map_toArray,List.map_cons,List.map_nil]);first|done|(simp only [hji31,hji34,hji37];rfl)|rfl|(simp only [List.length_drop,List.length_take];rfl)) ?_;(with_reducible refine (thresherref04_Check.calls kj20 _ _ y492 (rd x4_1 (ji31)) (rd x4_1 (ji34)) (rd x4_1 (ji37)) t501 _ ?side1 ?side2 A40.out).mono ?_);(case side1=>refine (Kd.V_reads' (e:=3) (base:=w.heap.size) (ok:=fun k_=>(((w.heap.size≤k_)∧k_≠gb480)∧k_≠gb500)) (n:=y492.length) (c:=c44) ?_).2.2;exact (by (with_reducible repeat (first|apply Kd.V_alloc|apply Kd.V_drewN|apply Kd.V_drew));exact (Kd.V_mono (Kd.V_far (p:=⟨gb500,3,none⟩) (Kd.V_far (p:=⟨gb500,2,none⟩) (Kd.V_far (p:=⟨gb500,1,none⟩) (Kd.V_far (p:=⟨gb500,0,none⟩) (Kd.V_mono HO496.out (fun k_ hk=>(⟨hk,hk.2⟩ : _∧k_≠gb500))) (fun _ hk=>hk.2) (.slice A44 y492.length c44)) (fun _ hk=>hk.2) (.int .i64 (rd x4_1 (ji31)))) (fun _ hk=>hk.2) (.int .i64 (rd x4_1 (ji34)))) (fun _ hk=>hk.2) (.int .i64 (rd x4_1 (ji37)))) (fun _ h_=>h_.1))));(case side2=>exact (Kd.V_reads' HO496.out).2.1);rintro e w52 ⟨rfl,hb⟩;refine ⟨_,rfl,?_⟩;have n0_:=Aside0.mk (Kd.R_below (by (with_reducible repeat (first|apply Kd.R_alloc|apply Kd.R_drewN|apply Kd.R_drew));exact (Kd.R_mono (Kd.R_far (p:=⟨gb500,3,none⟩) (Kd.R_far (p:=⟨gb500,2,none⟩) (Kd.R_far (p:=⟨gb500,1,none⟩) (Kd.R_far (p:=⟨gb500,0,none⟩) (Kd.R_types HO_4.out BK500.out (by decide)) (fun _ hk=>hk.2) (.slice A44 y492.length c44)) (fun _ hk=>hk.2) (.int .i64 (rd x4_1 (ji31)))) (fun _ hk=>hk.2) (.int .i64 (rd x4_1 (ji34)))) (fun _ hk=>hk.2) (.int .i64 (rd x4_1 (ji37)))) (fun _ h_=>h_.1))) hb);have n1_:=Aside0.mk (Kd.V_below (by (with_reducible repeat (first|apply Kd.V_alloc|apply Kd.V_drewN|apply Kd.V_drew));exact (Kd.V_mono (Kd.V_far (p:=⟨gb500,3,none⟩) (Kd.V_far (p:=⟨gb500,2,none⟩) (Kd.V_far (p:=⟨gb500,1,none⟩) (Kd.V_far (p:=⟨gb500,0,none⟩) (Kd.V_mono HO496.out (fun k_ hk=>(⟨hk,hk.2⟩ : _∧k_≠gb500))) (fun _ hk=>hk.2) (.slice A44 y492.length c44)) (fun _ hk=>hk.2) (.int .i64 (rd x4_1 (ji31)))) (fun _ hk=>hk.2) (.int .i64 (rd x4_1 (ji34)))) (fun _ hk=>hk.2) (.int .i64 (rd x4_1 (ji37)))) (fun _ h_=>h_.1))) hb);have n2_:=Aside0.mk (blk_below (g:=gb480) (o:=.cells #[.slice none 0 0,.int .i64 x481001_1,.int .i64 x481002_1,.int .i64 x481003_1] 30 (0,0)) (by (with_reducible repeat (first|refine blk_drewN ?_ _|refine blk_drew ?_|refine blk_alloc ?_ _));refine blk_far ?_ NB480_500.out _;(with_reducible repeat (first|refine blk_drewN ?_ _|refine blk_drew ?_|refine blk_alloc ?_ _));refine blk_far ?_ NB480_500.out _;(with_reducible repeat (first|refine blk_drewN ?_ _|refine blk_drew ?_|refine blk_alloc ?_ _));refine blk_far ?_ NB480_500.out _;(with_reducible repeat (first|refine blk_drewN ?_ _|refine blk_drew ?_|refine blk_alloc ?_ _));refine blk_far ?_ NB480_500.out _;(with_reducible repeat (first|refine blk_drewN ?_ _|refine blk_drew ?_|refine blk_alloc ?_ _));exact BK480.out) hb);have n3_:=Aside0.mk (blk_below (g:=gb500) (o:=.cells #[.slice A44 y492.length c44,.int .i64 (rd x4_1 (ji31)),.int .i64 (rd x4_1 (ji34)),.int .i64 (rd x4_1 (ji37))] 30 (0,0)) (by (with_reducible repeat (first|refine blk_drewN ?_ _|refine blk_drew ?_|refine blk_alloc ?_ _));refine blk_put (cs:=#[.slice A44 y492.length c44,.int .i64 (rd x4_1 (ji31)),.int .i64 (rd x4_1 (ji34)),.int .i64 0]) ?_ 3 _ rfl;(with_reducible repeat (first|refine blk_drewN ?_ _|refine blk_drew ?_|refine blk_alloc ?_ _));refine blk_put (cs:=#[.slice A44 y492.length c44,.int .i64 (rd x4_1 (ji31)),.int .i64 0,.int .i64 0]) ?_ 2 _ rfl;(with_reducible repeat (first|refine blk_drewN ?_ _|refine blk_drew ?_|refine blk_alloc ?_ _));refine blk_put (cs:=#[.slice A44 y492.length c44,.int .i64 0,.int .i64 0,.int .i64 0]) ?_ 1 _ rfl;(with_reducible repeat (first|refine blk_drewN ?_ _|refine blk_drew ?_|refine blk_alloc ?_ _));refine blk_put (cs:=#[.slice none 0 0,.int .i64 0,.int .i64 0,.int .i64 0]) ?_ 0 _ rfl;(with_reducible repeat (first|refine blk_drewN ?_ _|refine blk_drew ?_|refine blk_alloc ?_ _));exact BK500.out) hb);have n4_:=Aside0.mk (below_step (below_go HB.out) hb);clear HO_4;clear HO496;clear BK480;clear BK500;clear HB;have HO_4:=n0_;have HO496:=n1_;have BK480:=n2_;have BK500:=n3_;have HB:=n4_;clear n0_ n1_ n2_ n3_ n4_;(try clear hb);(try clear hb2);(try clear hk);(try clear hi);have hcz53_0 : w52.cell? ⟨gb500,0,none⟩=some (.slice A44 y492.length c44):=(blk_cell BK500.out 0).trans rfl;have hcz53_1 : w52.cell? ⟨gb500,1,none⟩=some (.int .i64 (rd x4_1 (ji31))):=(blk_cell BK500.out 1).trans rfl;have hcz53_2 : w52.cell? ⟨gb500,2,none⟩=some (.int .i64 (rd x4_1 (ji34))):=(blk_cell BK500.out 2).trans rfl;have hcz53_3 : w52.cell? ⟨gb500,3,none⟩=some (.int .i64 (rd x4_1 (ji37))):=(blk_cell BK500.out 3).trans rfl;have hfz53_0:=blk_frozen BK500.out 0;have hfz53_1:=blk_frozen BK500.out 1;have hfz53_2:=blk_frozen BK500.out 2;have hfz53_3:=blk_frozen BK500.out 3;have hcz54_0 : w52.cell? ⟨gb480,0,none⟩=some (.slice none 0 0):=(blk_cell BK480.out 0).trans rfl;have hcz54_1 : w52.cell? ⟨gb480,1,none⟩=some (.int .i64 x481001_1):=(blk_cell BK480.out 1).trans rfl;have hcz54_2 : w52.cell? ⟨gb480,2,none⟩=some (.int .i64 x481002_1):=(blk_cell BK480.out 2).trans rfl;have hcz54_3 : w52.cell? ⟨gb480,3,none⟩=some (.int .i64 x481003_1):=(blk_cell BK480.out 3).trans rfl;have hfz54_0:=blk_frozen BK480.out 0;have hfz54_1:=blk_frozen BK480.out 1;have hfz54_2:=blk_frozen BK480.out 2;have hfz54_3:=blk_frozen BK480.out 3))
                 refine bodyPost_ret (results_ct rfl _ _ gb480 30 #[.slice A44 y492.length c44,.int .i64 (rd x4_1 (ji31)),.int .i64 (rd x4_1 (ji34)),.int .i64 (rd x4_1 (ji37))] (0,0) _ rfl (by (with_reducible repeat (first|refine blk_drewN ?_ _|refine blk_drew ?_|refine blk_alloc ?_ _));refine blk_put (cs:=#[.slice A44 y492.length c44,.int .i64 (rd x4_1 (ji31)),.int .i64 (rd x4_1 (ji34)),.int .i64 x481003_1]) ?_ 3 _ rfl;(with_reducible repeat (first|refine blk_drewN ?_ _|refine blk_drew ?_|refine blk_alloc ?_ _));refine blk_put (cs:=#[.slice A44 y492.length c44,.int .i64 (rd x4_1 (ji31)),.int .i64 x481002_1,.int .i64 x481003_1]) ?_ 2 _ rfl;(with_reducible repeat (first|refine blk_drewN ?_ _|refine blk_drew ?_|refine blk_alloc ?_ _));refine blk_put (cs:=#[.slice A44 y492.length c44,.int .i64 x481001_1,.int .i64 x481002_1,.int .i64 x481003_1]) ?_ 1 _ rfl;(with_reducible repeat (first|refine blk_drewN ?_ _|refine blk_drew ?_|refine blk_alloc ?_ _));refine blk_put (cs:=#[.slice none 0 0,.int .i64 x481001_1,.int .i64 x481002_1,.int .i64 x481003_1]) ?_ 0 _ rfl;(with_reducible repeat (first|refine blk_drewN ?_ _|refine blk_drew ?_|refine blk_alloc ?_ _));exact BK480.out) Try.underlying30 rfl (by kernel_rfl)) rfl ?_
                 exact ⟨_,by first|rfl|(simp [errW_none,errW_some] <;> rfl)|(simp only [← hji31,← hji34,← hji37];first|rfl|(simp [errW_none,errW_some] <;> rfl))|(simp [*,errW_none,errW_some] <;> rfl),by (with_reducible repeat (first|apply Kd.V_alloc|apply Kd.V_drewN|apply Kd.V_drew));exact Kd.V_mono (Kd.V_far (p:=⟨gb480,3,none⟩) (Kd.V_far (p:=⟨gb480,2,none⟩) (Kd.V_far (p:=⟨gb480,1,none⟩) (Kd.V_far (p:=⟨gb480,0,none⟩) (Kd.V_mono HO496.out (fun k_ hk=>(⟨hk,hk.1.2⟩ : _∧k_≠gb480))) (fun _ hk=>hk.2) (.slice A44 y492.length c44)) (fun _ hk=>hk.2) (.int .i64 (rd x4_1 (ji31)))) (fun _ hk=>hk.2) (.int .i64 (rd x4_1 (ji34)))) (fun _ hk=>hk.2) (.int .i64 (rd x4_1 (ji37)))) (fun _ hk=>hk.1.1.1),by repeat (first|(with_reducible first|exact HB.out|apply below_alloc|apply pw_below_drewN|apply below_drew1|refine below_set ?_ GE480.out|refine below_set ?_ GE500.out)|exact HB.out)⟩
                ·rw [if_neg c41] at H
                 have c41b0 : (t501 == 0)=false:=beq_eq_false_iff_ne.mpr c41
                 have c41b1 : (t501 != 0)=true:=bne_iff_ne.mpr c41
                 simp only [Option.some.injEq,Prod.mk.injEq] at H
                 obtain ⟨rfl,rfl,rfl,rfl,rfl⟩:=H
                 obtain ⟨Ao55,co55,eo55⟩:=Kd.R_slice HO_4.out
                 subst eo55
                 have p491 : 0≤(0 : Int):=(by omega)
                 have q491 : 0 < (x4_1.length : Int):=of_decide_eq_true (by first|(with_reducible assumption)|assumption)
                 obtain ⟨ad491,e491,hx491_0⟩:=Kd.at_int (Kd.R_reads' HO_4.out).2.2 0 p491 q491
                 cases e491
                 have qi491 : (0 < x4_1.length)=True:=eq_true (by omega)
                 (try rw [show ((0 : Int)).toNat=0 from rfl] at hx491_0)
                 (try rw [Addr.add_zero'] at hx491_0)
                 replace p491:=eq_true p491
                 replace q491:=eq_true q491
                 try go_wp2
                 have n0_:=Aside0.mk (Kd.R_drew HO_4.out)
                 have n1_:=Aside0.mk (blk_drew BK480.out)
                 have n2_:=Aside0.mk (below_drew1 HB.out)
                 clear HO_4
                 clear BK480
                 clear HB
                 have HO_4:=n0_
                 have BK480:=n1_
                 have HB:=n2_
                 clear n0_ n1_ n2_
                 have q57 : ((ji31) : Int)≤((x4_1.length : Int) : Int):=of_decide_eq_true (by first|(with_reducible assumption)|assumption)
                 obtain ⟨i057,hi057,_,hsz57,_⟩:=info_parts info3
                 have hroom57 : x4_1.length≤co55:=(Kd.R_reads' HO_4.out).2.1
                 have hC57 : Kd.F (Kd.int .i64) _ _ (some ad491) x4_1.length x4_1:=(Kd.V_at (base:=w.heap.size) (Kd.R_V (Kd.R_types (HO_4.out) BK480.out (by decide)))).2.2
                 have ql57 : (1 : Int)≤((ji31) : Int):=of_decide_eq_true (by first|(with_reducible assumption)|assumption)
                 have hcut57:=cut_mid (P:=Try.prog) 28 3 .i64 .i64 Try.underlying28 hi057 1 hsz57 (some ad491) x4_1.length co55 1 (ji31) (by omega) ql57 q57 hroom57
                 have hr57:=Kd.F_mid (lo:=(1 : Int).toNat) (hi:=((ji31) : Int).toNat) (c:=co55) hC57 (by omega) (by omega) hroom57
                 obtain ⟨A57,hA57⟩ : ∃ Z_,Z_=(if co55=(1 : Int).toNat then (some ad491) else ((some ad491) : Option Addr).map (·.add ((1 : Int).toNat * 1))):=⟨_,rfl⟩
                 obtain ⟨c57,hc57⟩ : ∃ z_,z_=co55 - (1 : Int).toNat:=⟨_,rfl⟩
                 have hy57 : y492.length=((ji31) : Int).toNat - (1 : Int).toNat:=(by rw [Ny492.out,List.length_drop,List.length_take] <;> omega)
                 rw [show ((x4_1).take ((ji31) : Int).toNat).drop (1 : Int).toNat=y492 from Ny492.out.symm] at hr57
                 replace hr57 : Kd.F (Kd.int .i64) _ _ A57 y492.length y492:=(by rw [hA57];exact hr57)
                 rw [← hy57,← hA57,← hc57] at hcut57
                 have HO496:=Aside0.mk (show Kd.V (Kd.int .i64) 3 _ w.heap.size _ (.slice A57 y492.length c57) y492 from Kd.V_mk (by rw [hy57,hc57];exact Nat.sub_le_sub_right (Nat.le_trans (by omega) hroom57) _) hr57)
                 have HC496:=Aside0.mk (show y492.length≤c57 from by rw [hy57,hc57];exact Nat.sub_le_sub_right (Nat.le_trans (by omega) hroom57) _)
                 clear hr57 hC57 hroom57 hi057 hsz57 hc57
                 have KY57:=Aside0.mk hy57
                 have KA57:=Aside0.mk hA57
                 clear hy57 hA57
                 replace q57:=eq_true q57
                 have p497 : 0≤((ji31) : Int):=of_decide_eq_true (by first|(with_reducible assumption)|assumption)
                 have q497 : (ji31) < (x4_1.length : Int):=of_decide_eq_true (by first|(with_reducible assumption)|assumption)
                 obtain ⟨ad497,e497,hx497_0⟩:=Kd.at_int (Kd.R_reads' HO_4.out).2.2 (ji31) p497 q497
                 obtain rfl : ad491=ad497:=(by injection e497)
                 replace p497:=eq_true p497
                 replace q497:=eq_true q497
                 have p498 : 0≤((ji34) : Int):=of_decide_eq_true (by first|(with_reducible assumption)|assumption)
                 have q498 : (ji34) < (x4_1.length : Int):=of_decide_eq_true (by first|(with_reducible assumption)|assumption)
                 obtain ⟨ad498,e498,hx498_0⟩:=Kd.at_int (Kd.R_reads' HO_4.out).2.2 (ji34) p498 q498
                 obtain rfl : ad491=ad498:=(by injection e498)
                 replace p498:=eq_true p498
                 replace q498:=eq_true q498
                 have p499 : 0≤((ji37) : Int):=of_decide_eq_true (by first|(with_reducible assumption)|assumption)
                 have q499 : (ji37) < (x4_1.length : Int):=of_decide_eq_true (by first|(with_reducible assumption)|assumption)
                 obtain ⟨ad499,e499,hx499_0⟩:=Kd.at_int (Kd.R_reads' HO_4.out).2.2 (ji37) p499 q499
                 obtain rfl : ad491=ad499:=(by injection e499)
                 replace p499:=eq_true p499
                 replace q499:=eq_true q499
                 refine start_ (n:=22) (S:=fun w'=>w'.cell? (ad491.add ((ji31)).toNat)=some (.int .i64 (rd x4_1 (ji31)))∧w'.cell? (ad491.add ((ji34)).toNat)=some (.int .i64 (rd x4_1 (ji34)))∧w'.cell? (ad491.add ((ji37)).toNat)=some (.int .i64 (rd x4_1 (ji37)))) (ds:=[]) #[false,false,false,false,false,false,false,false,false,false,false,false,false,false,false,false,false,false,false,false,false,false] (by kernel_rfl) rfl rfl ⟨hx497_0,hx498_0,hx499_0⟩ (fun hHeld=>?_);refine with_tabW thresherref04_Take.tab12 thresherref04_Take.bits12 (fun HT_ HW_=>?_)
                 generalize wc.drew=w56 at HO_4 BK480 HB HO496 hx497_0 hx498_0 hx499_0 hHeld ⊢
                 refine pure_ (i:=0) (N:=some 53) (v:=?_) (a':=?_) #[true,false,false,false,false,false,false,false,false,false,false,false,false,false,false,false,false,false,false,false,false,false] rfl rfl (any_of HT_.out (by kernel_rfl)) (fun _ _ _ h=>h) (Or.inl ⟨by rfl,?_⟩) ?_ ?_
                 rotate_left;(intro w';go_simp;with_reducible rfl);rotate_left;(simp only [Act.put,List.setIfInBounds_toArray,List.set_cons_zero,List.set_cons_succ,i64_w,i32_w];rfl)
                 refine pure_ (i:=1) (N:=some 54) (v:=?_) (a':=?_) #[true,true,false,false,false,false,false,false,false,false,false,false,false,false,false,false,false,false,false,false,false,false] rfl rfl (any_of HT_.out (by kernel_rfl)) (fun _ _ _ h=>h) (Or.inl ⟨by rfl,?_⟩) ?_ ?_
                 rotate_left;(intro w';go_simp;with_reducible rfl);rotate_left;(simp only [Act.put,List.setIfInBounds_toArray,List.set_cons_zero,List.set_cons_succ,i64_w,i32_w];rfl)
                 refine pure_ (i:=2) (N:=some 55) (v:=?_) (a':=?_) #[true,true,true,false,false,false,false,false,false,false,false,false,false,false,false,false,false,false,false,false,false,false] rfl rfl (any_of HT_.out (by kernel_rfl)) (fun _ _ _ h=>h) (Or.inl ⟨by rfl,?_⟩) ?_ ?_
                 rotate_left;(intro w';go_simp;with_reducible rfl);rotate_left;(simp only [Act.put,List.setIfInBounds_toArray,List.set_cons_zero,List.set_cons_succ,i64_w,i32_w];rfl)
                 refine pure_ (i:=3) (N:=some 56) (v:=?_) (a':=?_) #[true,true,true,true,false,false,false,false,false,false,false,false,false,false,false,false,false,false,false,false,false,false] rfl rfl (any_of HT_.out (by kernel_rfl)) (fun _ _ _ h=>h) (Or.inl ⟨by rfl,?_⟩) ?_ ?_
                 rotate_left;(intro w';go_simp;with_reducible rfl);rotate_left;(simp only [Act.put,List.setIfInBounds_toArray,List.set_cons_zero,List.set_cons_succ,i64_w,i32_w];rfl)
                 refine pure_ (i:=4) (N:=some 57) (v:=?_) (a':=?_) #[true,true,true,true,true,false,false,false,false,false,false,false,false,false,false,false,false,false,false,false,false,false] rfl rfl (any_of HT_.out (by kernel_rfl)) (fun _ _ _ h=>h) (Or.inl ⟨by rfl,?_⟩) ?_ ?_
                 rotate_left;(intro w';go_simp;with_reducible rfl);rotate_left;(simp only [Act.put,List.setIfInBounds_toArray,List.set_cons_zero,List.set_cons_succ,i64_w,i32_w];rfl)
                 refine pure_ (i:=5) (N:=some 58) (v:=?_) (a':=?_) #[true,true,true,true,true,true,false,false,false,false,false,false,false,false,false,false,false,false,false,false,false,false] rfl rfl (any_of HT_.out (by kernel_rfl)) (fun _ _ _ h=>h) (Or.inl ⟨by rfl,?_⟩) ?_ ?_
                 rotate_left;(intro w';go_simp;with_reducible rfl);rotate_left;(simp only [Act.put,List.setIfInBounds_toArray,List.set_cons_zero,List.set_cons_succ,i64_w,i32_w];rfl)
                 refine pure_ (i:=6) (N:=some 59) (v:=?_) (a':=?_) #[true,true,true,true,true,true,true,false,false,false,false,false,false,false,false,false,false,false,false,false,false,false] rfl rfl (any_of HT_.out (by kernel_rfl)) (fun _ _ _ h=>h) (Or.inl ⟨by rfl,?_⟩) ?_ ?_
                 rotate_left;(intro w';go_simp;with_reducible rfl);rotate_left;(simp only [Act.put,List.setIfInBounds_toArray,List.set_cons_zero,List.set_cons_succ,i64_w,i32_w];rfl)
                 refine pure_ (i:=7) (N:=some 60) (v:=?_) (a':=?_) #[true,true,true,true,true,true,true,true,false,false,false,false,false,false,false,false,false,false,false,false,false,false] rfl rfl (any_of HT_.out (by kernel_rfl)) (fun _ _ _ h=>h) (Or.inl ⟨by rfl,?_⟩) ?_ ?_
                 rotate_left;(intro w';go_simp;with_reducible rfl);rotate_left;(simp only [Act.put,List.setIfInBounds_toArray,List.set_cons_zero,List.set_cons_succ,i64_w,i32_w];rfl)
                 refine pure_ (i:=9) (N:=some 62) (v:=?_) (a':=?_) #[true,true,true,true,true,true,true,true,false,true,false,false,false,false,false,false,false,false,false,false,false,false] rfl rfl (any_of HT_.out (by kernel_rfl)) (fun _ _ _ h=>h) (Or.inl ⟨by rfl,?_⟩) ?_ ?_
                 rotate_left;(intro w';go_simp;with_reducible rfl);rotate_left;(simp only [Act.put,List.setIfInBounds_toArray,List.set_cons_zero,List.set_cons_succ,i64_w,i32_w];rfl)
                 refine pure_ (i:=10) (N:=some 63) (v:=?_) (a':=?_) #[true,true,true,true,true,true,true,true,false,true,true,false,false,false,false,false,false,false,false,false,false,false] rfl rfl (any_of HT_.out (by kernel_rfl)) (fun _ _ _ h=>h) (Or.inl ⟨by rfl,?_⟩) ?_ ?_
                 rotate_left;(intro w';go_simp;with_reducible rfl);rotate_left;(simp only [Act.put,List.setIfInBounds_toArray,List.set_cons_zero,List.set_cons_succ,i64_w,i32_w];rfl)
                 refine pure_ (i:=11) (N:=some 64) (v:=?_) (a':=?_) #[true,true,true,true,true,true,true,true,false,true,true,true,false,false,false,false,false,false,false,false,false,false] rfl rfl (any_of HT_.out (by kernel_rfl)) (fun _ _ _ h=>h) (Or.inl ⟨by rfl,?_⟩) ?_ ?_
                 rotate_left;(intro w';go_simp;with_reducible rfl);rotate_left;(simp only [Act.put,List.setIfInBounds_toArray,List.set_cons_zero,List.set_cons_succ,i64_w,i32_w];rfl)
                 refine pure_ (i:=12) (N:=some 65) (v:=?_) (a':=?_) #[true,true,true,true,true,true,true,true,false,true,true,true,true,false,false,false,false,false,false,false,false,false] rfl rfl (any_of HT_.out (by kernel_rfl)) (fun _ _ _ h=>h) (Or.inl ⟨by rfl,?_⟩) ?_ ?_
                 rotate_left;(intro w';go_simp;with_reducible rfl);rotate_left;(simp only [Act.put,List.setIfInBounds_toArray,List.set_cons_zero,List.set_cons_succ,i64_w,i32_w];rfl)
                 refine pure_ (i:=14) (N:=some 67) (v:=?_) (a':=?_) #[true,true,true,true,true,true,true,true,false,true,true,true,true,false,true,false,false,false,false,false,false,false] rfl rfl (any_of HT_.out (by kernel_rfl)) (fun _ _ _ h=>h) (Or.inl ⟨by rfl,?_⟩) ?_ ?_
                 rotate_left;(intro w';go_simp;with_reducible rfl);rotate_left;(simp only [Act.put,List.setIfInBounds_toArray,List.set_cons_zero,List.set_cons_succ,i64_w,i32_w];rfl)
                 refine pure_ (i:=15) (N:=some 68) (v:=?_) (a':=?_) #[true,true,true,true,true,true,true,true,false,true,true,true,true,false,true,true,false,false,false,false,false,false] rfl rfl (any_of HT_.out (by kernel_rfl)) (fun _ _ _ h=>h) (Or.inl ⟨by rfl,?_⟩) ?_ ?_
                 rotate_left;(intro w';go_simp;with_reducible rfl);rotate_left;(simp only [Act.put,List.setIfInBounds_toArray,List.set_cons_zero,List.set_cons_succ,i64_w,i32_w];rfl)
                 refine pure_ (i:=16) (N:=some 69) (v:=?_) (a':=?_) #[true,true,true,true,true,true,true,true,false,true,true,true,true,false,true,true,true,false,false,false,false,false] rfl rfl (any_of HT_.out (by kernel_rfl)) (fun _ _ _ h=>h) (Or.inl ⟨by rfl,?_⟩) ?_ ?_
                 rotate_left;(intro w';go_simp;with_reducible rfl);rotate_left;(simp only [Act.put,List.setIfInBounds_toArray,List.set_cons_zero,List.set_cons_succ,i64_w,i32_w];rfl)
                 refine pure_ (i:=17) (N:=some 70) (v:=?_) (a':=?_) #[true,true,true,true,true,true,true,true,false,true,true,true,true,false,true,true,true,true,false,false,false,false] rfl rfl (any_of HT_.out (by kernel_rfl)) (fun _ _ _ h=>h) (Or.inl ⟨by rfl,?_⟩) ?_ ?_
                 rotate_left;(intro w';go_simp;with_reducible rfl);rotate_left;(simp only [Act.put,List.setIfInBounds_toArray,List.set_cons_zero,List.set_cons_succ,i64_w,i32_w];rfl)
                 refine take_ (i:=8) (N:=some 61) (v:=?_) (a':=?_) #[true,true,true,true,true,true,true,true,true,true,true,true,true,false,true,true,true,true,false,false,false,false] rfl rfl (take_ofW HT_.out HW_.out (by kernel_rfl)) (fun _ _ _ h=>h) (Or.inl ⟨by rfl,?_⟩) hHeld ?_ ?_
                 rotate_left;(rintro w' ⟨s0,s1,s2⟩;go_simp;with_reducible rfl);rotate_left;(simp only [Act.put,List.setIfInBounds_toArray,List.set_cons_zero,List.set_cons_succ,i64_w,i32_w];rfl)
                 refine take_ (i:=13) (N:=some 66) (v:=?_) (a':=?_) #[true,true,true,true,true,true,true,true,true,true,true,true,true,true,true,true,true,true,false,false,false,false] rfl rfl (take_ofW HT_.out HW_.out (by kernel_rfl)) (fun _ _ _ h=>h) (Or.inl ⟨by rfl,?_⟩) hHeld ?_ ?_
                 rotate_left;(rintro w' ⟨s0,s1,s2⟩;go_simp;with_reducible rfl);rotate_left;(simp only [Act.put,List.setIfInBounds_toArray,List.set_cons_zero,List.set_cons_succ,i64_w,i32_w];rfl)
                 refine take_ (i:=18) (N:=some 71) (v:=?_) (a':=?_) #[true,true,true,true,true,true,true,true,true,true,true,true,true,true,true,true,true,true,true,false,false,false] rfl rfl (take_ofW HT_.out HW_.out (by kernel_rfl)) (fun _ _ _ h=>h) (Or.inl ⟨by rfl,?_⟩) hHeld ?_ ?_
                 rotate_left;(rintro w' ⟨s0,s1,s2⟩;go_simp;with_reducible rfl);rotate_left;(simp only [Act.put,List.setIfInBounds_toArray,List.set_cons_zero,List.set_cons_succ,i64_w,i32_w];rfl)
                 refine pure_ (i:=19) (N:=some 72) (v:=?_) (a':=?_) #[true,true,true,true,true,true,true,true,true,true,true,true,true,true,true,true,true,true,true,true,false,false] rfl rfl (any_of HT_.out (by kernel_rfl)) (fun _ _ _ h=>h) (Or.inl ⟨by rfl,?_⟩) ?_ ?_
                 rotate_left;(intro w';go_simp;with_reducible rfl);rotate_left;(simp only [Act.put,List.setIfInBounds_toArray,List.set_cons_zero,List.set_cons_succ,i64_w,i32_w];rfl)
                 refine one_ (i:=20) (N:=some 9) #[true,true,true,true,true,true,true,true,true,true,true,true,true,true,true,true,true,true,true,true,true,false] rfl rfl (one_of HT_.out (by kernel_rfl)) (by decide) (fun K hK=>?_)
                 refine box_step ?hg (N:=9) ?hd (cs:=#[.slice none 0 0,.int .i64 0,.int .i64 0,.int .i64 0]) (t:=30) ?hr ?_;(case hd=>rfl);(case hg=>rfl);(case hr=>first|(go_simp;done)|(go_simp;rfl))
                 intro gb500 hg w58 hbox hb
                 have HS0_:=(hb.cell (World.block_lt_of_cell? _ _ (hHeld.1))).trans (hHeld.1)
                 have HS1_:=(hb.cell (World.block_lt_of_cell? _ _ (hHeld.2.1))).trans (hHeld.2.1)
                 have HS2_:=(hb.cell (World.block_lt_of_cell? _ _ (hHeld.2.2))).trans (hHeld.2.2)
                 have n0_:=Aside0.mk (Kd.R_below (R_up HO_4.out) hb)
                 have n1_:=Aside0.mk (Kd.V_below (Kd.V_elderB (V_up HO496.out) gb500 (Nat.le_of_eq hg.symm)) hb)
                 have n2_:=Aside0.mk (blk_below (blk_up BK480.out) hb)
                 have n3_:=Aside0.mk (below_step (below_go HB.out) hb)
                 have n4_:=Aside0.mk (hbox)
                 have n5_:=Aside0.mk ((by rw [hg];exact (below_size (below_go HB.out)) : w.heap.size≤gb500))
                 have n6_:=Aside0.mk ((by rw [hg];exact (below_size (below_go HB.out)) : w.heap.size≤gb500))
                 have n7_:=Aside0.mk ((by rw [hg];exact Nat.ne_of_lt (blk_lt (blk_up BK480.out)) : gb480≠gb500))
                 have n8_:=Aside0.mk ((by rw [hg];exact Nat.ne_of_gt (blk_lt (blk_up BK480.out)) : gb500≠gb480))
                 clear HO_4
                 clear HO496
                 clear BK480
                 clear HB
                 have HO_4:=n0_
                 have HO496:=n1_
                 have BK480:=n2_
                 have HB:=n3_
                 have BK500:=n4_
                 have GW500:=n5_
                 have GE500:=n6_
                 have NB480_500:=n7_
                 have NB500_480:=n8_
                 clear n0_ n1_ n2_ n3_ n4_ n5_ n6_ n7_ n8_
                 clear hb hbox hg
                 refine hK.out _ _ ⟨HS0_,HS1_,HS2_⟩ (fun hHeld=>?_)
                 clear hK K
                 refine norm_ (a':=?_) ?_ ?_
                 rotate_left
                 ·show Act.put _ (some 9) _=_
                  simp only [Act.put,List.setIfInBounds_toArray,List.set_cons_zero,List.set_cons_succ,i64_w,i32_w]
                  rfl
                 refine one_ (i:=21) (N:=none) #[true,true,true,true,true,true,true,true,true,true,true,true,true,true,true,true,true,true,true,true,true,true] rfl rfl (one_of HT_.out (by kernel_rfl)) (by decide) (fun K hK=>?_)
                 have hs59 : w58.cell? ⟨gb500,0,none⟩=some (.slice none 0 0):=(blk_cell BK500.out 0).trans rfl
                 have hfs59:=blk_frozen BK500.out 0
                 have hns59_0:=NB480_500.out
                 have hms59_0:=NB500_480.out
                 have hs60 : w58.cell? ⟨gb500,1,none⟩=some (.int .i64 0):=(blk_cell BK500.out 1).trans rfl
                 have hfs60:=blk_frozen BK500.out 1
                 have hns60_0:=NB480_500.out
                 have hms60_0:=NB500_480.out
                 have hs61 : w58.cell? ⟨gb500,2,none⟩=some (.int .i64 0):=(blk_cell BK500.out 2).trans rfl
                 have hfs61:=blk_frozen BK500.out 2
                 have hns61_0:=NB480_500.out
                 have hms61_0:=NB500_480.out
                 have hs62 : w58.cell? ⟨gb500,3,none⟩=some (.int .i64 0):=(blk_cell BK500.out 3).trans rfl
                 have hfs62:=blk_frozen BK500.out 3
                 have hns62_0:=NB480_500.out
                 have hms62_0:=NB500_480.out
                 refine skip_ (w1:=?_) (by rfl) rfl ?_ ?_
                 rotate_left
                 ·go_simp
                  rfl
                 refine hK.out _ _ ⟨((cell_far (p:=⟨gb500,_,none⟩) (by first|exact Kd.own_blk (Kd.R_ne HO_4.out BK500.out (by decide))|(rw [add_block];exact Kd.own_blk (Kd.R_ne HO_4.out BK500.out (by decide)))|(show (Addr.add _ _).block≠_;rw [add_block];exact Kd.own_blk (Kd.R_ne HO_4.out BK500.out (by decide)))|(dsimp only;exact Kd.own_blk (Kd.R_ne HO_4.out BK500.out (by decide)))) _).trans (((cell_far (p:=⟨gb500,_,none⟩) (by first|exact Kd.own_blk (Kd.R_ne HO_4.out BK500.out (by decide))|(rw [add_block];exact Kd.own_blk (Kd.R_ne HO_4.out BK500.out (by decide)))|(show (Addr.add _ _).block≠_;rw [add_block];exact Kd.own_blk (Kd.R_ne HO_4.out BK500.out (by decide)))|(dsimp only;exact Kd.own_blk (Kd.R_ne HO_4.out BK500.out (by decide)))) _).trans (((cell_far (p:=⟨gb500,_,none⟩) (by first|exact Kd.own_blk (Kd.R_ne HO_4.out BK500.out (by decide))|(rw [add_block];exact Kd.own_blk (Kd.R_ne HO_4.out BK500.out (by decide)))|(show (Addr.add _ _).block≠_;rw [add_block];exact Kd.own_blk (Kd.R_ne HO_4.out BK500.out (by decide)))|(dsimp only;exact Kd.own_blk (Kd.R_ne HO_4.out BK500.out (by decide)))) _).trans (((cell_far (p:=⟨gb500,_,none⟩) (by first|exact Kd.own_blk (Kd.R_ne HO_4.out BK500.out (by decide))|(rw [add_block];exact Kd.own_blk (Kd.R_ne HO_4.out BK500.out (by decide)))|(show (Addr.add _ _).block≠_;rw [add_block];exact Kd.own_blk (Kd.R_ne HO_4.out BK500.out (by decide)))|(dsimp only;exact Kd.own_blk (Kd.R_ne HO_4.out BK500.out (by decide)))) _).trans (hHeld.1)))))))),((cell_far (p:=⟨gb500,_,none⟩) (by first|exact Kd.own_blk (Kd.R_ne HO_4.out BK500.out (by decide))|(rw [add_block];exact Kd.own_blk (Kd.R_ne HO_4.out BK500.out (by decide)))|(show (Addr.add _ _).block≠_;rw [add_block];exact Kd.own_blk (Kd.R_ne HO_4.out BK500.out (by decide)))|(dsimp only;exact Kd.own_blk (Kd.R_ne HO_4.out BK500.out (by decide)))) _).trans (((cell_far (p:=⟨gb500,_,none⟩) (by first|exact Kd.own_blk (Kd.R_ne HO_4.out BK500.out (by decide))|(rw [add_block];exact Kd.own_blk (Kd.R_ne HO_4.out BK500.out (by decide)))|(show (Addr.add _ _).block≠_;rw [add_block];exact Kd.own_blk (Kd.R_ne HO_4.out BK500.out (by decide)))|(dsimp only;exact Kd.own_blk (Kd.R_ne HO_4.out BK500.out (by decide)))) _).trans (((cell_far (p:=⟨gb500,_,none⟩) (by first|exact Kd.own_blk (Kd.R_ne HO_4.out BK500.out (by decide))|(rw [add_block];exact Kd.own_blk (Kd.R_ne HO_4.out BK500.out (by decide)))|(show (Addr.add _ _).block≠_;rw [add_block];exact Kd.own_blk (Kd.R_ne HO_4.out BK500.out (by decide)))|(dsimp only;exact Kd.own_blk (Kd.R_ne HO_4.out BK500.out (by decide)))) _).trans (((cell_far (p:=⟨gb500,_,none⟩) (by first|exact Kd.own_blk (Kd.R_ne HO_4.out BK500.out (by decide))|(rw [add_block];exact Kd.own_blk (Kd.R_ne HO_4.out BK500.out (by decide)))|(show (Addr.add _ _).block≠_;rw [add_block];exact Kd.own_blk (Kd.R_ne HO_4.out BK500.out (by decide)))|(dsimp only;exact Kd.own_blk (Kd.R_ne HO_4.out BK500.out (by decide)))) _).trans (hHeld.2.1)))))))),((cell_far (p:=⟨gb500,_,none⟩) (by first|exact Kd.own_blk (Kd.R_ne HO_4.out BK500.out (by decide))|(rw [add_block];exact Kd.own_blk (Kd.R_ne HO_4.out BK500.out (by decide)))|(show (Addr.add _ _).block≠_;rw [add_block];exact Kd.own_blk (Kd.R_ne HO_4.out BK500.out (by decide)))|(dsimp only;exact Kd.own_blk (Kd.R_ne HO_4.out BK500.out (by decide)))) _).trans (((cell_far (p:=⟨gb500,_,none⟩) (by first|exact Kd.own_blk (Kd.R_ne HO_4.out BK500.out (by decide))|(rw [add_block];exact Kd.own_blk (Kd.R_ne HO_4.out BK500.out (by decide)))|(show (Addr.add _ _).block≠_;rw [add_block];exact Kd.own_blk (Kd.R_ne HO_4.out BK500.out (by decide)))|(dsimp only;exact Kd.own_blk (Kd.R_ne HO_4.out BK500.out (by decide)))) _).trans (((cell_far (p:=⟨gb500,_,none⟩) (by first|exact Kd.own_blk (Kd.R_ne HO_4.out BK500.out (by decide))|(rw [add_block];exact Kd.own_blk (Kd.R_ne HO_4.out BK500.out (by decide)))|(show (Addr.add _ _).block≠_;rw [add_block];exact Kd.own_blk (Kd.R_ne HO_4.out BK500.out (by decide)))|(dsimp only;exact Kd.own_blk (Kd.R_ne HO_4.out BK500.out (by decide)))) _).trans (((cell_far (p:=⟨gb500,_,none⟩) (by first|exact Kd.own_blk (Kd.R_ne HO_4.out BK500.out (by decide))|(rw [add_block];exact Kd.own_blk (Kd.R_ne HO_4.out BK500.out (by decide)))|(show (Addr.add _ _).block≠_;rw [add_block];exact Kd.own_blk (Kd.R_ne HO_4.out BK500.out (by decide)))|(dsimp only;exact Kd.own_blk (Kd.R_ne HO_4.out BK500.out (by decide)))) _).trans (hHeld.2.2))))))))⟩ (fun hHeld=>?_)
                 clear hK K
                 refine done_ (done_of HT_.out (by kernel_rfl)) ?_
                 (try clear HS0_);(try clear HS1_);(try clear HS2_);(try clear hHeld)
                 have hnb63:=NB500_480.out
                 have hnc63:=NB480_500.out
                 have hcz64_0 : w58.cell? ⟨gb500,0,none⟩=some (.slice none 0 0):=(blk_cell BK500.out 0).trans rfl
                 have hcz64_1 : w58.cell? ⟨gb500,1,none⟩=some (.int .i64 0):=(blk_cell BK500.out 1).trans rfl
                 have hcz64_2 : w58.cell? ⟨gb500,2,none⟩=some (.int .i64 0):=(blk_cell BK500.out 2).trans rfl
                 have hcz64_3 : w58.cell? ⟨gb500,3,none⟩=some (.int .i64 0):=(blk_cell BK500.out 3).trans rfl
                 have hfz64_0:=blk_frozen BK500.out 0
                 have hfz64_1:=blk_frozen BK500.out 1
                 have hfz64_2:=blk_frozen BK500.out 2
                 have hfz64_3:=blk_frozen BK500.out 3
                 try go_wp2_with (first|((with_reducible refine gate_callee (f:=24) rfl ?_);refine goesL_ (some 74) rfl rfl Try.func24 (by kernel_rfl) rfl #[.agg #[.slice A57 y492.length c57,.int .i64 (rd x4_1 (ji31)),.int .i64 (rd x4_1 (ji34)),.int .i64 (rd x4_1 (ji37))]] rfl (by (try simp only [List.map_toArray,List.map_cons,List.map_nil]);first|done|(simp only [hji31,hji34,hji37];rfl)|rfl|(simp only [List.length_drop,List.length_take];rfl)) ?_;(with_reducible refine (thresherref04_Check.calls kj20 _ _ y492 (rd x4_1 (ji31)) (rd x4_1 (ji34)) (rd x4_1 (ji37)) t501 _ ?side1 ?side2 A40.out).mono ?_);(case side1=>refine (Kd.V_reads' (e:=3) (base:=w.heap.size) (ok:=fun k_=>(((w.heap.size≤k_)∧k_≠gb480)∧k_≠gb500)) (n:=y492.length) (c:=c57) ?_).2.2;exact (by (with_reducible repeat (first|apply Kd.V_alloc|apply Kd.V_drewN|apply Kd.V_drew));exact (Kd.V_mono (Kd.V_far (p:=⟨gb500,3,none⟩) (Kd.V_far (p:=⟨gb500,2,none⟩) (Kd.V_far (p:=⟨gb500,1,none⟩) (Kd.V_far (p:=⟨gb500,0,none⟩) (Kd.V_mono HO496.out (fun k_ hk=>(⟨hk,hk.2⟩ : _∧k_≠gb500))) (fun _ hk=>hk.2) (.slice A57 y492.length c57)) (fun _ hk=>hk.2) (.int .i64 (rd x4_1 (ji31)))) (fun _ hk=>hk.2) (.int .i64 (rd x4_1 (ji34)))) (fun _ hk=>hk.2) (.int .i64 (rd x4_1 (ji37)))) (fun _ h_=>h_.1))));(case side2=>exact (Kd.V_reads' HO496.out).2.1);rintro e w65 ⟨rfl,hb⟩;refine ⟨_,rfl,?_⟩;have n0_:=Aside0.mk (Kd.R_below (by (with_reducible repeat (first|apply Kd.R_alloc|apply Kd.R_drewN|apply Kd.R_drew));exact (Kd.R_mono (Kd.R_far (p:=⟨gb500,3,none⟩) (Kd.R_far (p:=⟨gb500,2,none⟩) (Kd.R_far (p:=⟨gb500,1,none⟩) (Kd.R_far (p:=⟨gb500,0,none⟩) (Kd.R_types HO_4.out BK500.out (by decide)) (fun _ hk=>hk.2) (.slice A57 y492.length c57)) (fun _ hk=>hk.2) (.int .i64 (rd x4_1 (ji31)))) (fun _ hk=>hk.2) (.int .i64 (rd x4_1 (ji34)))) (fun _ hk=>hk.2) (.int .i64 (rd x4_1 (ji37)))) (fun _ h_=>h_.1))) hb);have n1_:=Aside0.mk (Kd.V_below (by (with_reducible repeat (first|apply Kd.V_alloc|apply Kd.V_drewN|apply Kd.V_drew));exact (Kd.V_mono (Kd.V_far (p:=⟨gb500,3,none⟩) (Kd.V_far (p:=⟨gb500,2,none⟩) (Kd.V_far (p:=⟨gb500,1,none⟩) (Kd.V_far (p:=⟨gb500,0,none⟩) (Kd.V_mono HO496.out (fun k_ hk=>(⟨hk,hk.2⟩ : _∧k_≠gb500))) (fun _ hk=>hk.2) (.slice A57 y492.length c57)) (fun _ hk=>hk.2) (.int .i64 (rd x4_1 (ji31)))) (fun _ hk=>hk.2) (.int .i64 (rd x4_1 (ji34)))) (fun _ hk=>hk.2) (.int .i64 (rd x4_1 (ji37)))) (fun _ h_=>h_.1))) hb);have n2_:=Aside0.mk (blk_below (g:=gb480) (o:=.cells #[.slice none 0 0,.int .i64 x481001_1,.int .i64 x481002_1,.int .i64 x481003_1] 30 (0,0)) (by (with_reducible repeat (first|refine blk_drewN ?_ _|refine blk_drew ?_|refine blk_alloc ?_ _));refine blk_far ?_ NB480_500.out _;(with_reducible repeat (first|refine blk_drewN ?_ _|refine blk_drew ?_|refine blk_alloc ?_ _));refine blk_far ?_ NB480_500.out _;(with_reducible repeat (first|refine blk_drewN ?_ _|refine blk_drew ?_|refine blk_alloc ?_ _));refine blk_far ?_ NB480_500.out _;(with_reducible repeat (first|refine blk_drewN ?_ _|refine blk_drew ?_|refine blk_alloc ?_ _));refine blk_far ?_ NB480_500.out _;(with_reducible repeat (first|refine blk_drewN ?_ _|refine blk_drew ?_|refine blk_alloc ?_ _));exact BK480.out) hb);have n3_:=Aside0.mk (blk_below (g:=gb500) (o:=.cells #[.slice A57 y492.length c57,.int .i64 (rd x4_1 (ji31)),.int .i64 (rd x4_1 (ji34)),.int .i64 (rd x4_1 (ji37))] 30 (0,0)) (by (with_reducible repeat (first|refine blk_drewN ?_ _|refine blk_drew ?_|refine blk_alloc ?_ _));refine blk_put (cs:=#[.slice A57 y492.length c57,.int .i64 (rd x4_1 (ji31)),.int .i64 (rd x4_1 (ji34)),.int .i64 0]) ?_ 3 _ rfl;(with_reducible repeat (first|refine blk_drewN ?_ _|refine blk_drew ?_|refine blk_alloc ?_ _));refine blk_put (cs:=#[.slice A57 y492.length c57,.int .i64 (rd x4_1 (ji31)),.int .i64 0,.int .i64 0]) ?_ 2 _ rfl;(with_reducible repeat (first|refine blk_drewN ?_ _|refine blk_drew ?_|refine blk_alloc ?_ _));refine blk_put (cs:=#[.slice A57 y492.length c57,.int .i64 0,.int .i64 0,.int .i64 0]) ?_ 1 _ rfl;(with_reducible repeat (first|refine blk_drewN ?_ _|refine blk_drew ?_|refine blk_alloc ?_ _));refine blk_put (cs:=#[.slice none 0 0,.int .i64 0,.int .i64 0,.int .i64 0]) ?_ 0 _ rfl;(with_reducible repeat (first|refine blk_drewN ?_ _|refine blk_drew ?_|refine blk_alloc ?_ _));exact BK500.out) hb);have n4_:=Aside0.mk (below_step (below_go HB.out) hb);clear HO_4;clear HO496;clear BK480;clear BK500;clear HB;have HO_4:=n0_;have HO496:=n1_;have BK480:=n2_;have BK500:=n3_;have HB:=n4_;clear n0_ n1_ n2_ n3_ n4_;(try clear hb);(try clear hb2);(try clear hk);(try clear hi);have hcz66_0 : w65.cell? ⟨gb480,0,none⟩=some (.slice none 0 0):=(blk_cell BK480.out 0).trans rfl;have hcz66_1 : w65.cell? ⟨gb480,1,none⟩=some (.int .i64 x481001_1):=(blk_cell BK480.out 1).trans rfl;have hcz66_2 : w65.cell? ⟨gb480,2,none⟩=some (.int .i64 x481002_1):=(blk_cell BK480.out 2).trans rfl;have hcz66_3 : w65.cell? ⟨gb480,3,none⟩=some (.int .i64 x481003_1):=(blk_cell BK480.out 3).trans rfl;have hfz66_0:=blk_frozen BK480.out 0;have hfz66_1:=blk_frozen BK480.out 1;have hfz66_2:=blk_frozen BK480.out 2;have hfz66_3:=blk_frozen BK480.out 3))
                 refine bodyPost_ret (results_ct rfl _ _ gb480 30 #[.slice none 0 0,.int .i64 0,.int .i64 0,.int .i64 0] (0,0) _ rfl (by (with_reducible repeat (first|refine blk_drewN ?_ _|refine blk_drew ?_|refine blk_alloc ?_ _));refine blk_put (cs:=#[.slice none 0 0,.int .i64 0,.int .i64 0,.int .i64 x481003_1]) ?_ 3 _ rfl;(with_reducible repeat (first|refine blk_drewN ?_ _|refine blk_drew ?_|refine blk_alloc ?_ _));refine blk_put (cs:=#[.slice none 0 0,.int .i64 0,.int .i64 x481002_1,.int .i64 x481003_1]) ?_ 2 _ rfl;(with_reducible repeat (first|refine blk_drewN ?_ _|refine blk_drew ?_|refine blk_alloc ?_ _));refine blk_put (cs:=#[.slice none 0 0,.int .i64 x481001_1,.int .i64 x481002_1,.int .i64 x481003_1]) ?_ 1 _ rfl;(with_reducible repeat (first|refine blk_drewN ?_ _|refine blk_drew ?_|refine blk_alloc ?_ _));refine blk_put (cs:=#[.slice none 0 0,.int .i64 x481001_1,.int .i64 x481002_1,.int .i64 x481003_1]) ?_ 0 _ rfl;(with_reducible repeat (first|refine blk_drewN ?_ _|refine blk_drew ?_|refine blk_alloc ?_ _));exact BK480.out) Try.underlying30 rfl (by kernel_rfl)) rfl ?_
                 exact ⟨_,by first|rfl|(simp [errW_none,errW_some] <;> rfl)|(simp only [← hji31,← hji34,← hji37];first|rfl|(simp [errW_none,errW_some] <;> rfl))|(simp [*,errW_none,errW_some] <;> rfl),(by first|exact Kd.V_nil _ _ _ _ _|exact Kd.R_V (Kd.R_nil _ _ _ _ _)),by repeat (first|(with_reducible first|exact HB.out|apply below_alloc|apply pw_below_drewN|apply below_drew1|refine below_set ?_ GE480.out|refine below_set ?_ GE500.out)|exact HB.out)⟩
               ·rw [if_neg c39] at H
                exact absurd H (by simp)
              ·rw [if_neg c38] at H
               exact absurd H (by simp)
             ·rw [if_neg c36] at H
              exact absurd H (by simp)
            ·rw [if_neg c35] at H
             exact absurd H (by simp)
           ·rw [if_neg c33] at H
            exact absurd H (by simp)
          ·rw [if_neg c32] at H
           exact absurd H (by simp)
         ·rw [if_neg c30] at H
          exact absurd H (by simp)
        ·rw [if_neg c29] at H
         exact absurd H (by simp)
       ·rw [if_neg c28] at H
        exact absurd H (by simp)
end Go.Proofs.Ytkodpbellndelaa.P

