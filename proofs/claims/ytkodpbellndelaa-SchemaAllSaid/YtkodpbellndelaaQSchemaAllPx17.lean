/- Texts of SchemaAll. Merged: Px17. -/
import Derived.Test.YtkodpbellndelaaQSchemaAllPx0
import Derived.Test.YtkodpbellndelaaQSchemaAllPx11
namespace Go.Proofs.Ytkodpbellndelaa.P
open Go.RowKit Go.Proofs.YtkodpbellndelaaW.PrintWords Go.Proofs.YtkodpbellndelaaW.PrintLast Go.Proofs.YtkodpbellndelaaW.PrintMore
attribute [local go_sem] max2_int min2_int max_two min_two max_three min_three max_four min_four   -- for this text's walks alone
set_option linter.unusedVariables false
set_option linter.unusedSimpArgs false
def thresherlaw04_few.f (l0_0 : List Int) (a0_1 : Int) (a0_2 : Int) (a0_3 : Int) : Option (List Int × Int × Int × Int):=if (l0_0.length : Int) > 70 then (if 70≤(l0_0.length : Int) then (some ((l0_0.take 70),a0_1,a0_2,a0_3)) else (none)) else (some (l0_0,a0_1,a0_2,a0_3))
set_option maxHeartbeats 8000000 in
set_option maxRecDepth 100000 in
theorem thresherlaw04_few.calls (P0_0_ : Nat→Prop) (A0_0 : Option Addr) (c0_0 : Nat) (l0_0 : List Int) (a0_1 : Int) (a0_2 : Int) (a0_3 : Int) (r1 : List Int) (r2 : Int) (r3 : Int) (r4 : Int) (w : World) (hs0_0 : Kd.V (Kd.int .i64) 3 w w.heap.size (fun k_=>P0_0_ k_) (.slice A0_0 l0_0.length c0_0) l0_0) (h : thresherlaw04_few.f l0_0 a0_1 a0_2 a0_3=some (r1,r2,r3,r4)) :
  Calls Try.prog 20 #[.agg #[.slice A0_0 l0_0.length c0_0,.int .i64 a0_1,.int .i64 a0_2,.int .i64 a0_3]] w fun e w'=>∃ v0_ : Value,e=.returned (.agg #[v0_,.int .i64 r2,.int .i64 r3,.int .i64 r4])∧Kd.V (Kd.int .i64) 3 w' w.heap.size (fun k_=>(P0_0_ k_ ∨ w.heap.size≤k_)) v0_ r1∧Below w.heap.size w w':=by
 have hu30:=Try.underlying30
 have HO0_0:=Aside0.mk (show Kd.V (Kd.int .i64) 3 w w.heap.size (fun k_=>(P0_0_ k_ ∨ w.heap.size≤k_)) (.slice A0_0 l0_0.length c0_0) l0_0 from Kd.V_mono hs0_0 (fun k_ hk=>.inl hk))
 have HB:=Aside0.mk (Below.refl w.heap.size w)
 have H : (if (l0_0.length : Int) > 70 then (if 70≤(l0_0.length : Int) then (some ((l0_0.take 70),a0_1,a0_2,a0_3)) else (none)) else (some (l0_0,a0_1,a0_2,a0_3)))=some (r1,r2,r3,r4):=h
 clear h
 by_cases c2 : (l0_0.length : Int) > 70
 ·rw [if_pos c2] at H
  have c2b0 : decide (70 < (l0_0.length : Int))=true:=decide_eq_true c2
  have c2b1 : decide (70 < l0_0.length)=true:=decide_eq_true (by omega)
  clear c2
  by_cases c3 : 70≤(l0_0.length : Int)
  ·rw [if_pos c3] at H
   have c3b0:=eq_true c3
   have c3b1 : decide (70≤(l0_0.length : Int))=true:=decide_eq_true c3
   clear c3
   obtain ⟨y453,hy453⟩ : ∃ y_ : List Int,y_=(l0_0.take 70):=⟨_,rfl⟩
   replace H : (some (y453,a0_1,a0_2,a0_3))=some (r1,r2,r3,r4):=by first|(rw [hy453];with_reducible exact H)|(have H2_:=(Option.bind_some _ _).symm.trans H;rw [hy453];with_reducible exact H2_)|(have H2_:=(Option.bind_some _ _).symm.trans H;with_reducible exact H2_)|with_reducible exact H|(rw [hy453];exact H)|exact H
   have Ny453:=Aside0.mk hy453
   clear hy453
   simp only [Option.some.injEq,Prod.mk.injEq] at H
   obtain ⟨rfl,rfl,rfl,rfl⟩:=H
   go_enter Try.func20,Try.ntmps20
   go_wp2_with (first|((with_reducible refine gate_dst (N:=1) rfl ?_);refine box_event ?hg (N:=1) ?hd (cs:=#[.slice A0_0 l0_0.length c0_0,.int .i64 a0_1,.int .i64 a0_2,.int .i64 a0_3]) (t:=30) ?hr ?_;(case hd=>rfl);(case hg=>rfl);(case hr=>first|(go_simp;done)|(go_simp;rfl));intro gb451 hg w4 hbox hb;have n0_:=Aside0.mk (Kd.V_below (Kd.V_elderB (V_up HO0_0.out) gb451 (Nat.le_of_eq hg.symm)) hb);have n1_:=Aside0.mk (below_step (below_up HB.out) hb);have n2_:=Aside0.mk (hbox);have n3_:=Aside0.mk ((by rw [hg];exact (below_size (below_up HB.out)) : w.heap.size≤gb451));have n4_:=Aside0.mk ((by rw [hg];exact (below_size (below_up HB.out)) : w.heap.size≤gb451));clear HO0_0;clear HB;have HO0_0:=n0_;have HB:=n1_;have BK451:=n2_;have GW451:=n3_;have GE451:=n4_;clear n0_ n1_ n2_ n3_ n4_;clear hb hbox hg)|((with_reducible refine gate_dst (N:=2) rfl ?_);refine box_event ?hg (N:=2) ?hd (cs:=#[.slice none 0 0,.int .i64 0,.int .i64 0,.int .i64 0]) (t:=30) ?hr ?_;(case hd=>rfl);(case hg=>rfl);(case hr=>first|(go_simp;done)|(go_simp;rfl));intro gb452 hg w5 hbox hb;have n0_:=Aside0.mk (Kd.V_below (Kd.V_elderB (V_up HO0_0.out) gb452 (Nat.le_of_eq hg.symm)) hb);have n1_:=Aside0.mk (blk_below (blk_up BK451.out) hb);have n2_:=Aside0.mk (below_step (below_go HB.out) hb);have n3_:=Aside0.mk (hbox);have n4_:=Aside0.mk ((by rw [hg];exact (below_size (below_go HB.out)) : w.heap.size≤gb452));have n5_:=Aside0.mk ((by rw [hg];exact (below_size (below_go HB.out)) : w.heap.size≤gb452));have n6_:=Aside0.mk ((by rw [hg];exact Nat.ne_of_lt (blk_lt (blk_up BK451.out)) : gb451≠gb452));have n7_:=Aside0.mk ((by rw [hg];exact Nat.ne_of_gt (blk_lt (blk_up BK451.out)) : gb452≠gb451));clear HO0_0;clear BK451;clear HB;have HO0_0:=n0_;have BK451:=n1_;have HB:=n2_;have BK452:=n3_;have GW452:=n4_;have GE452:=n5_;have NB451_452:=n6_;have NB452_451:=n7_;clear n0_ n1_ n2_ n3_ n4_ n5_ n6_ n7_;clear hb hbox hg;have hnb6:=NB451_452.out;have hnc6:=NB452_451.out;have hcz7_0 : w5.cell? ⟨gb451,0,none⟩=some (.slice A0_0 l0_0.length c0_0):=(blk_cell BK451.out 0).trans rfl;have hcz7_1 : w5.cell? ⟨gb451,1,none⟩=some (.int .i64 a0_1):=(blk_cell BK451.out 1).trans rfl;have hcz7_2 : w5.cell? ⟨gb451,2,none⟩=some (.int .i64 a0_2):=(blk_cell BK451.out 2).trans rfl;have hcz7_3 : w5.cell? ⟨gb451,3,none⟩=some (.int .i64 a0_3):=(blk_cell BK451.out 3).trans rfl;have hfz7_0:=blk_frozen BK451.out 0;have hfz7_1:=blk_frozen BK451.out 1;have hfz7_2:=blk_frozen BK451.out 2;have hfz7_3:=blk_frozen BK451.out 3;have q8 : (70 : Int)≤((l0_0.length : Int) : Int):=of_decide_eq_true (by first|(with_reducible assumption)|assumption);obtain ⟨i08,hi08,_,hsz8,_⟩:=info_parts info3;have hroom8 : l0_0.length≤c0_0:=(Kd.V_reads' HO0_0.out).2.1;have hC8 : Kd.F (Kd.int .i64) _ _ A0_0 l0_0.length l0_0:=(Kd.V_at (base:=w.heap.size) HO0_0.out).2.2;have hcut8:=cut_to (P:=Try.prog) 28 3 .i64 Try.underlying28 hi08 A0_0 l0_0.length c0_0 70 (by omega) q8 hroom8;have hr8:=Kd.F_take (m:=70) hC8 (by omega);have hy8 : y453.length=(70 : Int).toNat:=(by rw [Ny453.out,List.length_take];omega);rw [← Ny453.out] at hr8;rw [← hy8] at hcut8;have HO457:=Aside0.mk (show Kd.V (Kd.int .i64) 3 _ w.heap.size _ (.slice A0_0 y453.length c0_0) y453 from Kd.V_mk (by omega) hr8);have HC457:=Aside0.mk (show y453.length≤c0_0 from by omega);clear hr8 hC8 hroom8 hi08 hsz8;have KY8:=Aside0.mk hy8;clear hy8;replace q8:=eq_true q8;have hcz9_0 : w5.cell? ⟨gb452,0,none⟩=some (.slice none 0 0):=(blk_cell BK452.out 0).trans rfl;have hcz9_1 : w5.cell? ⟨gb452,1,none⟩=some (.int .i64 0):=(blk_cell BK452.out 1).trans rfl;have hcz9_2 : w5.cell? ⟨gb452,2,none⟩=some (.int .i64 0):=(blk_cell BK452.out 2).trans rfl;have hcz9_3 : w5.cell? ⟨gb452,3,none⟩=some (.int .i64 0):=(blk_cell BK452.out 3).trans rfl;have hfz9_0:=blk_frozen BK452.out 0;have hfz9_1:=blk_frozen BK452.out 1;have hfz9_2:=blk_frozen BK452.out 2;have hfz9_3:=blk_frozen BK452.out 3))
   refine bodyPost_ret (results_cell_row rfl _ _ gb452 30 #[.slice A0_0 y453.length c0_0,.int .i64 a0_1,.int .i64 a0_2,.int .i64 a0_3] (0,0) _ rfl (by (with_reducible repeat (first|refine blk_drewN ?_ _|refine blk_drew ?_|refine blk_alloc ?_ _));refine blk_put (cs:=#[.slice A0_0 y453.length c0_0,.int .i64 a0_1,.int .i64 a0_2,.int .i64 0]) ?_ 3 _ rfl;(with_reducible repeat (first|refine blk_drewN ?_ _|refine blk_drew ?_|refine blk_alloc ?_ _));refine blk_put (cs:=#[.slice A0_0 y453.length c0_0,.int .i64 a0_1,.int .i64 0,.int .i64 0]) ?_ 2 _ rfl;(with_reducible repeat (first|refine blk_drewN ?_ _|refine blk_drew ?_|refine blk_alloc ?_ _));refine blk_put (cs:=#[.slice A0_0 y453.length c0_0,.int .i64 0,.int .i64 0,.int .i64 0]) ?_ 1 _ rfl;(with_reducible repeat (first|refine blk_drewN ?_ _|refine blk_drew ?_|refine blk_alloc ?_ _));refine blk_put (cs:=#[.slice none 0 0,.int .i64 0,.int .i64 0,.int .i64 0]) ?_ 0 _ rfl;(with_reducible repeat (first|refine blk_drewN ?_ _|refine blk_drew ?_|refine blk_alloc ?_ _));refine blk_far ?_ NB452_451.out _;(with_reducible repeat (first|refine blk_drewN ?_ _|refine blk_drew ?_|refine blk_alloc ?_ _));exact BK452.out) Try.underlying30 rfl (by kernel_rfl)) rfl ?_
   exact ⟨_,by first|rfl|(simp [errW_none,errW_some] <;> rfl)|(simp [*,errW_none,errW_some] <;> rfl),by (with_reducible repeat (first|apply Kd.V_alloc|apply Kd.V_drewN|apply Kd.V_drew));exact Kd.V_mono (Kd.V_far (p:=⟨gb452,3,none⟩) (Kd.V_far (p:=⟨gb452,2,none⟩) (Kd.V_far (p:=⟨gb452,1,none⟩) (Kd.V_far (p:=⟨gb452,0,none⟩) (Kd.V_far (p:=⟨gb451,0,none⟩) (Kd.V_mono (Kd.V_mono HO457.out (fun k_ hk=>(⟨hk,hk.1.2⟩ : _∧k_≠gb451))) (fun k_ hk=>(⟨hk,hk.1.2⟩ : _∧k_≠gb452))) (fun _ hk=>hk.1.2) (.slice A0_0 y453.length c0_0)) (fun _ hk=>hk.2) (.slice A0_0 y453.length c0_0)) (fun _ hk=>hk.2) (.int .i64 a0_1)) (fun _ hk=>hk.2) (.int .i64 a0_2)) (fun _ hk=>hk.2) (.int .i64 a0_3)) (fun _ hk=>hk.1.1.1.1),by repeat (first|(with_reducible first|exact HB.out|apply below_alloc|apply pw_below_drewN|apply below_drew1|refine below_set ?_ GE451.out|refine below_set ?_ GE452.out)|exact HB.out)⟩
  ·rw [if_neg c3] at H
   exact absurd H (by simp)
 ·rw [if_neg c2] at H
  have c2b0 : decide (70 < (l0_0.length : Int))=false:=decide_eq_false c2
  have c2b1 : decide (70 < l0_0.length)=false:=decide_eq_false (by omega)
  clear c2
  simp only [Option.some.injEq,Prod.mk.injEq] at H
  obtain ⟨rfl,rfl,rfl,rfl⟩:=H
  go_enter Try.func20,Try.ntmps20
  go_wp2_with (first|((with_reducible refine gate_dst (N:=1) rfl ?_);refine box_event ?hg (N:=1) ?hd (cs:=#[.slice A0_0 l0_0.length c0_0,.int .i64 a0_1,.int .i64 a0_2,.int .i64 a0_3]) (t:=30) ?hr ?_;(case hd=>rfl);(case hg=>rfl);(case hr=>first|(go_simp;done)|(go_simp;rfl));intro gb451 hg w10 hbox hb;have n0_:=Aside0.mk (Kd.V_below (Kd.V_elderB (V_up HO0_0.out) gb451 (Nat.le_of_eq hg.symm)) hb);have n1_:=Aside0.mk (below_step (below_up HB.out) hb);have n2_:=Aside0.mk (hbox);have n3_:=Aside0.mk ((by rw [hg];exact (below_size (below_up HB.out)) : w.heap.size≤gb451));have n4_:=Aside0.mk ((by rw [hg];exact (below_size (below_up HB.out)) : w.heap.size≤gb451));clear HO0_0;clear HB;have HO0_0:=n0_;have HB:=n1_;have BK451:=n2_;have GW451:=n3_;have GE451:=n4_;clear n0_ n1_ n2_ n3_ n4_;clear hb hbox hg)|((with_reducible refine gate_dst (N:=2) rfl ?_);refine box_event ?hg (N:=2) ?hd (cs:=#[.slice none 0 0,.int .i64 0,.int .i64 0,.int .i64 0]) (t:=30) ?hr ?_;(case hd=>rfl);(case hg=>rfl);(case hr=>first|(go_simp;done)|(go_simp;rfl));intro gb452 hg w11 hbox hb;have n0_:=Aside0.mk (Kd.V_below (Kd.V_elderB (V_up HO0_0.out) gb452 (Nat.le_of_eq hg.symm)) hb);have n1_:=Aside0.mk (blk_below (blk_up BK451.out) hb);have n2_:=Aside0.mk (below_step (below_go HB.out) hb);have n3_:=Aside0.mk (hbox);have n4_:=Aside0.mk ((by rw [hg];exact (below_size (below_go HB.out)) : w.heap.size≤gb452));have n5_:=Aside0.mk ((by rw [hg];exact (below_size (below_go HB.out)) : w.heap.size≤gb452));have n6_:=Aside0.mk ((by rw [hg];exact Nat.ne_of_lt (blk_lt (blk_up BK451.out)) : gb451≠gb452));have n7_:=Aside0.mk ((by rw [hg];exact Nat.ne_of_gt (blk_lt (blk_up BK451.out)) : gb452≠gb451));clear HO0_0;clear BK451;clear HB;have HO0_0:=n0_;have BK451:=n1_;have HB:=n2_;have BK452:=n3_;have GW452:=n4_;have GE452:=n5_;have NB451_452:=n6_;have NB452_451:=n7_;clear n0_ n1_ n2_ n3_ n4_ n5_ n6_ n7_;clear hb hbox hg;have hnb12:=NB451_452.out;have hnc12:=NB452_451.out;have hcz13_0 : w11.cell? ⟨gb451,0,none⟩=some (.slice A0_0 l0_0.length c0_0):=(blk_cell BK451.out 0).trans rfl;have hcz13_1 : w11.cell? ⟨gb451,1,none⟩=some (.int .i64 a0_1):=(blk_cell BK451.out 1).trans rfl;have hcz13_2 : w11.cell? ⟨gb451,2,none⟩=some (.int .i64 a0_2):=(blk_cell BK451.out 2).trans rfl;have hcz13_3 : w11.cell? ⟨gb451,3,none⟩=some (.int .i64 a0_3):=(blk_cell BK451.out 3).trans rfl;have hfz13_0:=blk_frozen BK451.out 0;have hfz13_1:=blk_frozen BK451.out 1;have hfz13_2:=blk_frozen BK451.out 2;have hfz13_3:=blk_frozen BK451.out 3;have hcz14_0 : w11.cell? ⟨gb452,0,none⟩=some (.slice none 0 0):=(blk_cell BK452.out 0).trans rfl;have hcz14_1 : w11.cell? ⟨gb452,1,none⟩=some (.int .i64 0):=(blk_cell BK452.out 1).trans rfl;have hcz14_2 : w11.cell? ⟨gb452,2,none⟩=some (.int .i64 0):=(blk_cell BK452.out 2).trans rfl;have hcz14_3 : w11.cell? ⟨gb452,3,none⟩=some (.int .i64 0):=(blk_cell BK452.out 3).trans rfl;have hfz14_0:=blk_frozen BK452.out 0;have hfz14_1:=blk_frozen BK452.out 1;have hfz14_2:=blk_frozen BK452.out 2;have hfz14_3:=blk_frozen BK452.out 3))
  refine bodyPost_ret (results_cell_row rfl _ _ gb452 30 #[.slice A0_0 l0_0.length c0_0,.int .i64 a0_1,.int .i64 a0_2,.int .i64 a0_3] (0,0) _ rfl (by (with_reducible repeat (first|refine blk_drewN ?_ _|refine blk_drew ?_|refine blk_alloc ?_ _));refine blk_put (cs:=#[.slice A0_0 l0_0.length c0_0,.int .i64 a0_1,.int .i64 a0_2,.int .i64 0]) ?_ 3 _ rfl;(with_reducible repeat (first|refine blk_drewN ?_ _|refine blk_drew ?_|refine blk_alloc ?_ _));refine blk_put (cs:=#[.slice A0_0 l0_0.length c0_0,.int .i64 a0_1,.int .i64 0,.int .i64 0]) ?_ 2 _ rfl;(with_reducible repeat (first|refine blk_drewN ?_ _|refine blk_drew ?_|refine blk_alloc ?_ _));refine blk_put (cs:=#[.slice A0_0 l0_0.length c0_0,.int .i64 0,.int .i64 0,.int .i64 0]) ?_ 1 _ rfl;(with_reducible repeat (first|refine blk_drewN ?_ _|refine blk_drew ?_|refine blk_alloc ?_ _));refine blk_put (cs:=#[.slice none 0 0,.int .i64 0,.int .i64 0,.int .i64 0]) ?_ 0 _ rfl;(with_reducible repeat (first|refine blk_drewN ?_ _|refine blk_drew ?_|refine blk_alloc ?_ _));exact BK452.out) Try.underlying30 rfl (by kernel_rfl)) rfl ?_
  exact ⟨_,by first|rfl|(simp [errW_none,errW_some] <;> rfl)|(simp [*,errW_none,errW_some] <;> rfl),by (with_reducible repeat (first|apply Kd.V_alloc|apply Kd.V_drewN|apply Kd.V_drew));exact Kd.V_mono (Kd.V_far (p:=⟨gb452,3,none⟩) (Kd.V_far (p:=⟨gb452,2,none⟩) (Kd.V_far (p:=⟨gb452,1,none⟩) (Kd.V_far (p:=⟨gb452,0,none⟩) (Kd.V_mono HO0_0.out (fun k_ hk=>(⟨hk,hk.2⟩ : _∧k_≠gb452))) (fun _ hk=>hk.2) (.slice A0_0 l0_0.length c0_0)) (fun _ hk=>hk.2) (.int .i64 a0_1)) (fun _ hk=>hk.2) (.int .i64 a0_2)) (fun _ hk=>hk.2) (.int .i64 a0_3)) (fun _ hk=>hk.1.1.1),by repeat (first|(with_reducible first|exact HB.out|apply below_alloc|apply pw_below_drewN|apply below_drew1|refine below_set ?_ GE451.out|refine below_set ?_ GE452.out)|exact HB.out)⟩
def thresherref04_Row.l0 : Nat→List (S34)→Int→List Int→Int→Int→Int→Option (Bool)
 | 0,_,_,_,_,_,_=>none
 | k + 1,x1,x5,x459000,x459001,x459002,x459003=>if x5 < (x1.length : Int) then (if 0≤x5 then (if x5 < (x459000.length : Int) then ((thresherref03_Fits.f k (rd x459000 x5) ((rd_T34 x1 x5).f0) ((rd_T34 x1 x5).f1)).bind fun t461=>(if t461=true then (thresherref04_Row.l0 k x1 (wrap64 (x5 + 1)) x459000 x459001 x459002 x459003) else (some false))) else (none)) else (none)) else (some true)
def thresherref04_Row.f (k : Nat) (l0_0 : List Int) (a0_1 : Int) (a0_2 : Int) (a0_3 : Int) (l1 : List (S34)) : Option (Bool):=if (l1.length : Int)=(l0_0.length : Int) then (thresherref04_Row.l0 k l1 0 l0_0 a0_1 a0_2 a0_3) else (some false)
theorem thresherref04_Row.mono_l : ∀ k,(∀ y0 y1 y2 y3 y4 y5,LeO (thresherref04_Row.l0 k y0 y1 y2 y3 y4 y5) (thresherref04_Row.l0 (k + 1) y0 y1 y2 y3 y4 y5))
 | 0=>fun _ _ _ _ _ _ r h=>by simp [thresherref04_Row.l0] at h
 | k + 1=>by
  have ih0:=thresherref04_Row.mono_l k
  ·intro y0 y1 y2 y3 y4 y5
   unfold thresherref04_Row.l0
   repeat' first
   | (with_reducible exact ih0 _ _ _ _ _ _)
   | (with_reducible exact thresherref03_Fits.mono _ _ _ _)
   | (with_reducible exact LeO.refl _)
   | (with_reducible exact LeO.none _)
   | (with_reducible refine LeO.ite ?_ ?_)
   | (with_reducible refine LeO.bind ?_ (fun _=>?_))
   | exact ih0 _ _ _ _ _ _
   | exact thresherref03_Fits.mono _ _ _ _
   | exact LeO.none _
   | refine LeO.ite ?_ ?_
   | refine LeO.bind ?_ (fun _=>?_)
theorem thresherref04_Row.mono : ∀ a0 a1 a2 a3 a4 k,LeO (thresherref04_Row.f k a0 a1 a2 a3 a4) (thresherref04_Row.f (k + 1) a0 a1 a2 a3 a4):=by
 intro a0 a1 a2 a3 a4 k
 have ih0:=thresherref04_Row.mono_l k
 unfold thresherref04_Row.f
 repeat' first
   | (with_reducible exact ih0 _ _ _ _ _ _)
   | (with_reducible exact thresherref03_Fits.mono _ _ _ _)
   | (with_reducible exact LeO.refl _)
   | (with_reducible exact LeO.none _)
   | (with_reducible refine LeO.ite ?_ ?_)
   | (with_reducible refine LeO.bind ?_ (fun _=>?_))
   | exact ih0 _ _ _ _ _ _
   | exact thresherref03_Fits.mono _ _ _ _
   | exact LeO.none _
   | refine LeO.ite ?_ ?_
   | refine LeO.bind ?_ (fun _=>?_)
def thresherref04_Row.T6 : Bool × List (List Nat × List Nat):=(true,[([],[]),([0],[0]),([],[]),([1,2],[1,2]),([3],[3]),([],[]),([],[]),([5,6],[5,6]),([7],[7]),([4,8],[4,8]),([9,9,0,1,2,3,4,5,6,7,8,9],[9])])
def thresherref04_Row.B6 : List Nat:=[0,1,0,7,15,0,0,96,224,511,1023]
theorem thresherref04_Row.tab6 : rtab .any (opsOf Try.f21 6)=thresherref04_Row.T6:=by kernel_rfl
theorem thresherref04_Row.bits6 : waitsOk thresherref04_Row.T6.2 thresherref04_Row.B6=true:=by kernel_rfl
set_option maxHeartbeats 8000000 in
set_option maxRecDepth 100000 in
theorem thresherref04_Row.calls (k : Nat) (A0_0 : Option Addr) (c0_0 : Nat) (l0_0 : List Int) (a0_1 : Int) (a0_2 : Int) (a0_3 : Int) (A1 : Option Addr) (c1 : Nat) (l1 : List (S34)) (r : Bool) (w : World) (hr0_0 : Kd.C (Kd.int .i64) w A0_0 l0_0.length l0_0) (hc0_0 : l0_0.length≤c0_0) (hr1 : Kd.C k34 w A1 l1.length l1) (hc1 : l1.length≤c1) (h : thresherref04_Row.f k l0_0 a0_1 a0_2 a0_3 l1=some r) :
  Calls Try.prog 21 #[.agg #[.slice A0_0 l0_0.length c0_0,.int .i64 a0_1,.int .i64 a0_2,.int .i64 a0_3],.slice A1 l1.length c1] w fun e w'=>e=.returned (.bool r)∧Below w.heap.size w w':=by
 have hu30:=Try.underlying30
 have hu34:=Try.underlying34
 have HR0_0:=Aside0.mk hr0_0
 have HC0_0:=Aside0.mk hc0_0
 clear hr0_0 hc0_0
 have HR1:=Aside0.mk hr1
 have HC1:=Aside0.mk hc1
 clear hr1 hc1
 have HB:=Aside0.mk (Below.refl w.heap.size w)
 have H : (if (l1.length : Int)=(l0_0.length : Int) then (thresherref04_Row.l0 k l1 0 l0_0 a0_1 a0_2 a0_3) else (some false))=some r:=h
 clear h
 by_cases c3 : (l1.length : Int)=(l0_0.length : Int)
 ·rw [if_pos c3] at H
  have c3b0 : ((l1.length : Int) == (l0_0.length : Int))=true:=beq_iff_eq.mpr c3
  have c3b1 : ((l1.length : Int) != (l0_0.length : Int))=false:=bne_eq_false_iff_eq.mpr c3
  have c3b2 : (l1.length == l0_0.length)=true:=by first|simpa using c3|(simp at c3 ⊢;omega)
  clear c3
  have H':=Aside0.mk H
  clear H
  go_enter Try.func21,Try.ntmps21
  go_wp2_with (first|((with_reducible refine gate_dst (N:=2) rfl ?_);refine box_event ?hg (N:=2) ?hd (cs:=#[.slice A0_0 l0_0.length c0_0,.int .i64 a0_1,.int .i64 a0_2,.int .i64 a0_3]) (t:=30) ?hr ?_;(case hd=>rfl);(case hg=>rfl);(case hr=>first|(go_simp;done)|(go_simp;rfl));intro gb458 hg w4 hbox hb;have n0_:=Aside0.mk (below_step (below_up HB.out) hb);have n1_:=Aside0.mk (hbox);have n2_:=Aside0.mk ((by rw [hg];exact (below_size (below_up HB.out)) : w.heap.size≤gb458));have n3_:=Aside0.mk ((by rw [hg];exact (below_size (below_up HB.out)) : w.heap.size≤gb458));clear HB;have HB:=n0_;have BK458:=n1_;have GW458:=n2_;have GE458:=n3_;clear n0_ n1_ n2_ n3_;clear hb hbox hg;have hcz5_0 : w4.cell? ⟨gb458,0,none⟩=some (.slice A0_0 l0_0.length c0_0):=(blk_cell BK458.out 0).trans rfl;have hcz5_1 : w4.cell? ⟨gb458,1,none⟩=some (.int .i64 a0_1):=(blk_cell BK458.out 1).trans rfl;have hcz5_2 : w4.cell? ⟨gb458,2,none⟩=some (.int .i64 a0_2):=(blk_cell BK458.out 2).trans rfl;have hcz5_3 : w4.cell? ⟨gb458,3,none⟩=some (.int .i64 a0_3):=(blk_cell BK458.out 3).trans rfl;have hfz5_0:=blk_frozen BK458.out 0;have hfz5_1:=blk_frozen BK458.out 1;have hfz5_2:=blk_frozen BK458.out 2;have hfz5_3:=blk_frozen BK458.out 3))
  go_loopg [5] k (fun kq v5 w'=>∃ (x5_1 : Int),v5=.int .i64 x5_1∧Aside0 (thresherref04_Row.l0 kq l1 x5_1 l0_0 a0_1 a0_2 a0_3=some r)∧Aside0 (kq≤k)∧Aside0 (w'.heap[gb458]?=some (.cells #[(.slice A0_0 l0_0.length c0_0),.int .i64 a0_1,.int .i64 a0_2,.int .i64 a0_3] 30 (0,0)))∧Aside0 (Below w.heap.size w w'))
  case atStart=>exact ⟨(0),(by first|rfl|(simp;done)|(simp [*];done)),H',⟨Nat.le_refl _⟩,⟨by (with_reducible repeat (first|refine blk_drewN ?_ _|refine blk_drew ?_|refine blk_alloc ?_ _));exact BK458.out⟩,⟨by repeat (first|(with_reducible first|exact HB.out|apply below_alloc|apply pw_below_drewN|apply below_drew1|refine below_set ?_ GE458.out)|exact HB.out)⟩⟩
  case round =>
   clear H'
   try clear c1
   try clear c2
   try clear p2
   try clear c3
   try clear c3b0
   try clear c3b1
   try clear c3b2
   try clear hcz5_0
   try clear hcz5_1
   try clear hcz5_2
   try clear hcz5_3
   try clear hfz5_0
   try clear hfz5_1
   try clear hfz5_2
   try clear hfz5_3
   obtain ⟨x5_1,rfl,HA,HK1,BK458,HB⟩:=hrel
   cases gk with
   | zero=>exact absurd HA.out (by simp [thresherref04_Row.l0])
   | succ k1 =>
    have H:=HA.out
    clear HA
    simp only [thresherref04_Row.l0] at H
    by_cases c6 : x5_1 < (l1.length : Int)
    ·rw [if_pos c6] at H
     have c6b0 : decide (x5_1 < (l1.length : Int))=true:=decide_eq_true c6
     clear c6
     by_cases c7 : 0≤x5_1
     ·rw [if_pos c7] at H
      have c7b0 : decide (0≤x5_1)=true:=decide_eq_true c7
      clear c7
      by_cases c8 : x5_1 < (l0_0.length : Int)
      ·rw [if_pos c8] at H
       have c8b0 : decide (x5_1 < (l0_0.length : Int))=true:=decide_eq_true c8
       clear c8
       replace H:=Option.bind_eq_some_iff.mp H
       obtain ⟨t461,A90,H⟩:=H
       replace H : (if t461=true then (thresherref04_Row.l0 k1 l1 (wrap64 (x5_1 + 1)) l0_0 a0_1 a0_2 a0_3) else (some false))=some r:=H
       have A9:=Aside0.mk A90
       clear A90
       by_cases c10 : t461=true
       ·subst c10
        have H1 : (thresherref04_Row.l0 k1 l1 (wrap64 (x5_1 + 1)) l0_0 a0_1 a0_2 a0_3)=some r:=by rw [if_pos rfl] at H;exact H
        clear H
        have H:=H1
        clear H1
        have H':=Aside0.mk H
        clear H
        try go_wp2
        have n0_:=Aside0.mk (blk_drew BK458.out)
        have n1_:=Aside0.mk (below_drew1 HB.out)
        clear BK458
        clear HB
        have BK458:=n0_
        have HB:=n1_
        clear n0_ n1_
        have p459 : 0≤(x5_1 : Int):=of_decide_eq_true (by first|(with_reducible assumption)|assumption)
        have q459 : x5_1 < (l0_0.length : Int):=of_decide_eq_true (by first|(with_reducible assumption)|assumption)
        obtain ⟨ad459,e459,hx459_0⟩:=Kd.at_int HR0_0.out x5_1 p459 q459
        have hw459_0:=hx459_0
        cases e459
        replace hx459_0:=(HB.out.cell (World.block_lt_of_cell? w _ hx459_0)).trans hx459_0
        replace p459:=eq_true p459
        replace q459:=eq_true q459
        have p460 : 0≤(x5_1 : Int):=of_decide_eq_true (by first|(with_reducible assumption)|assumption)
        have q460 : x5_1 < (l1.length : Int):=of_decide_eq_true (by first|(with_reducible assumption)|assumption)
        obtain ⟨ad460,e460,hx460_0,hx460_1⟩:=at_T34 HR1.out x5_1 p460 q460
        have hw460_1:=hx460_1
        have hw460_0:=hx460_0
        cases e460
        replace hx460_0:=(HB.out.cell (World.block_lt_of_cell? w _ hx460_0)).trans hx460_0
        replace hx460_1:=(HB.out.cell (World.block_lt_of_cell? w _ hx460_1)).trans hx460_1
        replace p460:=eq_true p460
        replace q460:=eq_true q460
        refine start_ (n:=11) (S:=fun w'=>w'.cell? ⟨gb458,0,none⟩=some (.slice (some ad459) l0_0.length c0_0)∧w'.cell? ⟨gb458,1,none⟩=some (.int .i64 a0_1)∧w'.cell? ⟨gb458,2,none⟩=some (.int .i64 a0_2)∧w'.cell? ⟨gb458,3,none⟩=some (.int .i64 a0_3)∧w'.cell? (ad459.add (x5_1).toNat)=some (.int .i64 (rd l0_0 x5_1))∧w'.cell? (ad460.add ((x5_1).toNat * 2))=some (.int .i64 ((rd_T34 l1 x5_1).f0))∧w'.cell? ⟨(ad460.add ((x5_1).toNat * 2)).block,(ad460.add ((x5_1).toNat * 2)).off + 1,none⟩=some (.string ((rd_T34 l1 x5_1).f1))) (ds:=[]) #[false,false,false,false,false,false,false,false,false,false,false] (by kernel_rfl) rfl rfl ⟨(blk_cell BK458.out 0).trans rfl,(blk_cell BK458.out 1).trans rfl,(blk_cell BK458.out 2).trans rfl,(blk_cell BK458.out 3).trans rfl,((HB.out.cell (World.block_lt_of_cell? w _ hw459_0)).trans hw459_0),((HB.out.cell (World.block_lt_of_cell? w _ hw460_0)).trans hw460_0),((HB.out.cell (World.block_lt_of_cell? w _ hw460_1)).trans hw460_1)⟩ (fun hHeld=>?_);refine with_tabW thresherref04_Row.tab6 thresherref04_Row.bits6 (fun HT_ HW_=>?_)
        generalize wr.drew=w11 at BK458 HB hx459_0 hx460_0 hx460_1 hHeld ⊢
        refine pure_ (i:=0) (N:=some 19) (v:=?_) (a':=?_) #[true,false,false,false,false,false,false,false,false,false,false] rfl rfl (any_of HT_.out (by kernel_rfl)) (fun _ _ _ h=>h) (Or.inl ⟨by rfl,?_⟩) ?_ ?_
        rotate_left;(intro w';go_simp;with_reducible rfl);rotate_left;(simp only [Act.put,List.setIfInBounds_toArray,List.set_cons_zero,List.set_cons_succ,i64_w,i32_w];rfl)
        refine pure_ (i:=2) (N:=some 21) (v:=?_) (a':=?_) #[true,false,true,false,false,false,false,false,false,false,false] rfl rfl (any_of HT_.out (by kernel_rfl)) (fun _ _ _ h=>h) (Or.inl ⟨by rfl,?_⟩) ?_ ?_
        rotate_left;(intro w';go_simp;with_reducible rfl);rotate_left;(simp only [Act.put,List.setIfInBounds_toArray,List.set_cons_zero,List.set_cons_succ,i64_w,i32_w];rfl)
        refine pure_ (i:=5) (N:=some 24) (v:=?_) (a':=?_) #[true,false,true,false,false,true,false,false,false,false,false] rfl rfl (any_of HT_.out (by kernel_rfl)) (fun _ _ _ h=>h) (Or.inl ⟨by rfl,?_⟩) ?_ ?_
        rotate_left;(intro w';go_simp;with_reducible rfl);rotate_left;(simp only [Act.put,List.setIfInBounds_toArray,List.set_cons_zero,List.set_cons_succ,i64_w,i32_w];rfl)
        refine pure_ (i:=6) (N:=some 25) (v:=?_) (a':=?_) #[true,false,true,false,false,true,true,false,false,false,false] rfl rfl (any_of HT_.out (by kernel_rfl)) (fun _ _ _ h=>h) (Or.inl ⟨by rfl,?_⟩) ?_ ?_
        rotate_left;(intro w';go_simp;with_reducible rfl);rotate_left;(simp only [Act.put,List.setIfInBounds_toArray,List.set_cons_zero,List.set_cons_succ,i64_w,i32_w];rfl)
        refine pure_ (i:=7) (N:=some 26) (v:=?_) (a':=?_) #[true,false,true,false,false,true,true,true,false,false,false] rfl rfl (any_of HT_.out (by kernel_rfl)) (fun _ _ _ h=>h) (Or.inl ⟨by rfl,?_⟩) ?_ ?_
        rotate_left;(intro w';go_simp;with_reducible rfl);rotate_left;(simp only [Act.put,List.setIfInBounds_toArray,List.set_cons_zero,List.set_cons_succ,i64_w,i32_w];rfl)
        refine take_ (i:=1) (N:=some 20) (v:=?_) (a':=?_) #[true,true,true,false,false,true,true,true,false,false,false] rfl rfl (take_ofW HT_.out HW_.out (by kernel_rfl)) (fun _ _ _ h=>h) (Or.inl ⟨by rfl,?_⟩) hHeld ?_ ?_
        rotate_left;(rintro w' ⟨s0,s1,s2,s3,s4,s5,s6⟩;go_simp;with_reducible rfl);rotate_left;(simp only [Act.put,List.setIfInBounds_toArray,List.set_cons_zero,List.set_cons_succ,i64_w,i32_w];rfl)
        refine pure_ (i:=3) (N:=some 22) (v:=?_) (a':=?_) #[true,true,true,true,false,true,true,true,false,false,false] rfl rfl (any_of HT_.out (by kernel_rfl)) (fun _ _ _ h=>h) (Or.inl ⟨by rfl,?_⟩) ?_ ?_
        rotate_left;(intro w';go_simp;with_reducible rfl);rotate_left;(simp only [Act.put,List.setIfInBounds_toArray,List.set_cons_zero,List.set_cons_succ,i64_w,i32_w];rfl)
        refine take_ (i:=4) (N:=some 23) (v:=?_) (a':=?_) #[true,true,true,true,true,true,true,true,false,false,false] rfl rfl (take_ofW HT_.out HW_.out (by kernel_rfl)) (fun _ _ _ h=>h) (Or.inl ⟨by rfl,?_⟩) hHeld ?_ ?_
        rotate_left;(rintro w' ⟨s0,s1,s2,s3,s4,s5,s6⟩;go_simp;with_reducible rfl);rotate_left;(simp only [Act.put,List.setIfInBounds_toArray,List.set_cons_zero,List.set_cons_succ,i64_w,i32_w];rfl)
        refine take_ (i:=8) (N:=some 27) (v:=?_) (a':=?_) #[true,true,true,true,true,true,true,true,true,false,false] rfl rfl (take_ofW HT_.out HW_.out (by kernel_rfl)) (fun _ _ _ h=>h) (Or.inl ⟨by rfl,?_⟩) hHeld ?_ ?_
        rotate_left;(rintro w' ⟨s0,s1,s2,s3,s4,s5,s6⟩;go_simp;with_reducible rfl);rotate_left;(simp only [Act.put,List.setIfInBounds_toArray,List.set_cons_zero,List.set_cons_succ,i64_w,i32_w];rfl)
        refine one_ (i:=9) (N:=some 28) #[true,true,true,true,true,true,true,true,true,true,false] rfl rfl (one_of HT_.out (by kernel_rfl)) (by decide) (fun K hK=>?_)
        refine goes_ Try.func38 (by kernel_rfl) rfl #[.int .i64 (rd l0_0 x5_1),.agg #[.int .i64 ((rd_T34 l1 x5_1).f0),.string ((rd_T34 l1 x5_1).f1)]] (by rfl) rfl rfl (by (try simp only [List.map_toArray,List.map_cons,List.map_nil]);first|done|rfl|(simp only [List.length_drop,List.length_take];rfl)) ?_
        with_reducible refine (thresherref03_Fits.calls k1 (rd l0_0 x5_1) ((rd_T34 l1 x5_1).f0) ((rd_T34 l1 x5_1).f1) true _ A9.out).mono ?_
        rintro e w12 ⟨rfl,hb⟩
        refine ⟨_,rfl,?_⟩
        have n0_:=Aside0.mk (blk_below (blk_up BK458.out) hb)
        have n1_:=Aside0.mk (below_step (below_go HB.out) hb)
        clear BK458
        clear HB
        have BK458:=n0_
        have HB:=n1_
        clear n0_ n1_
        (try clear hb)
        (try clear hb2)
        (try clear hk)
        (try clear hi)
        refine hK.out _ _ ⟨(blk_cell BK458.out 0).trans rfl,(blk_cell BK458.out 1).trans rfl,(blk_cell BK458.out 2).trans rfl,(blk_cell BK458.out 3).trans rfl,((HB.out.cell (World.block_lt_of_cell? w _ hw459_0)).trans hw459_0),((HB.out.cell (World.block_lt_of_cell? w _ hw460_0)).trans hw460_0),((HB.out.cell (World.block_lt_of_cell? w _ hw460_1)).trans hw460_1)⟩ (fun hHeld=>?_)
        clear hK K
        refine norm_ (a':=?_) ?_ ?_
        rotate_left
        ·show Act.put _ (some 28) _=_
         simp only [Act.put,List.setIfInBounds_toArray,List.set_cons_zero,List.set_cons_succ,i64_w,i32_w]
         rfl
        refine pure_ (i:=10) (N:=some 6) (v:=?_) (a':=?_) #[true,true,true,true,true,true,true,true,true,true,true] rfl rfl (any_of HT_.out (by kernel_rfl)) (fun _ _ _ h=>h) (Or.inl ⟨by rfl,?_⟩) ?_ ?_
        rotate_left;(intro w';go_simp;with_reducible rfl);rotate_left;(simp only [Act.put,List.setIfInBounds_toArray,List.set_cons_zero,List.set_cons_succ,i64_w,i32_w];rfl)
        refine done_ (done_of HT_.out (by kernel_rfl)) ?_
        (try clear hHeld)
        try go_wp2
        go_roundg k1
        case measure=>have:=HK1.out;omega
        case rel=>exact ⟨(wrap64 (x5_1 + 1)),(by first|rfl|(simp;done)|(simp [*];done)),(by first|exact H'|(subst_vars;exact H')),⟨by have:=HK1.out;omega⟩,⟨by (with_reducible repeat (first|refine blk_drewN ?_ _|refine blk_drew ?_|refine blk_alloc ?_ _));exact BK458.out⟩,⟨by repeat (first|(with_reducible first|exact HB.out|apply below_alloc|apply pw_below_drewN|apply below_drew1|refine below_set ?_ GE458.out)|exact HB.out)⟩⟩
       ·replace c10:=Bool.eq_false_iff.mpr c10
        subst c10
        have H1 : (some false)=some r:=by rw [if_neg (show ¬ (false=true) by decide)] at H;exact H
        clear H
        have H:=H1
        clear H1
        obtain rfl:=Option.some.inj H
        try go_wp2
        have n0_:=Aside0.mk (blk_drew BK458.out)
        have n1_:=Aside0.mk (below_drew1 HB.out)
        clear BK458
        clear HB
        have BK458:=n0_
        have HB:=n1_
        clear n0_ n1_
        have p459 : 0≤(x5_1 : Int):=of_decide_eq_true (by first|(with_reducible assumption)|assumption)
        have q459 : x5_1 < (l0_0.length : Int):=of_decide_eq_true (by first|(with_reducible assumption)|assumption)
        obtain ⟨ad459,e459,hx459_0⟩:=Kd.at_int HR0_0.out x5_1 p459 q459
        have hw459_0:=hx459_0
        cases e459
        replace hx459_0:=(HB.out.cell (World.block_lt_of_cell? w _ hx459_0)).trans hx459_0
        replace p459:=eq_true p459
        replace q459:=eq_true q459
        have p460 : 0≤(x5_1 : Int):=of_decide_eq_true (by first|(with_reducible assumption)|assumption)
        have q460 : x5_1 < (l1.length : Int):=of_decide_eq_true (by first|(with_reducible assumption)|assumption)
        obtain ⟨ad460,e460,hx460_0,hx460_1⟩:=at_T34 HR1.out x5_1 p460 q460
        have hw460_1:=hx460_1
        have hw460_0:=hx460_0
        cases e460
        replace hx460_0:=(HB.out.cell (World.block_lt_of_cell? w _ hx460_0)).trans hx460_0
        replace hx460_1:=(HB.out.cell (World.block_lt_of_cell? w _ hx460_1)).trans hx460_1
        replace p460:=eq_true p460
        replace q460:=eq_true q460
        refine start_ (n:=11) (S:=fun w'=>w'.cell? ⟨gb458,0,none⟩=some (.slice (some ad459) l0_0.length c0_0)∧w'.cell? ⟨gb458,1,none⟩=some (.int .i64 a0_1)∧w'.cell? ⟨gb458,2,none⟩=some (.int .i64 a0_2)∧w'.cell? ⟨gb458,3,none⟩=some (.int .i64 a0_3)∧w'.cell? (ad459.add (x5_1).toNat)=some (.int .i64 (rd l0_0 x5_1))∧w'.cell? (ad460.add ((x5_1).toNat * 2))=some (.int .i64 ((rd_T34 l1 x5_1).f0))∧w'.cell? ⟨(ad460.add ((x5_1).toNat * 2)).block,(ad460.add ((x5_1).toNat * 2)).off + 1,none⟩=some (.string ((rd_T34 l1 x5_1).f1))) (ds:=[]) #[false,false,false,false,false,false,false,false,false,false,false] (by kernel_rfl) rfl rfl ⟨(blk_cell BK458.out 0).trans rfl,(blk_cell BK458.out 1).trans rfl,(blk_cell BK458.out 2).trans rfl,(blk_cell BK458.out 3).trans rfl,((HB.out.cell (World.block_lt_of_cell? w _ hw459_0)).trans hw459_0),((HB.out.cell (World.block_lt_of_cell? w _ hw460_0)).trans hw460_0),((HB.out.cell (World.block_lt_of_cell? w _ hw460_1)).trans hw460_1)⟩ (fun hHeld=>?_);refine with_tabW thresherref04_Row.tab6 thresherref04_Row.bits6 (fun HT_ HW_=>?_)
        generalize wr.drew=w13 at BK458 HB hx459_0 hx460_0 hx460_1 hHeld ⊢
        refine pure_ (i:=0) (N:=some 19) (v:=?_) (a':=?_) #[true,false,false,false,false,false,false,false,false,false,false] rfl rfl (any_of HT_.out (by kernel_rfl)) (fun _ _ _ h=>h) (Or.inl ⟨by rfl,?_⟩) ?_ ?_
        rotate_left;(intro w';go_simp;with_reducible rfl);rotate_left;(simp only [Act.put,List.setIfInBounds_toArray,List.set_cons_zero,List.set_cons_succ,i64_w,i32_w];rfl)
        refine pure_ (i:=2) (N:=some 21) (v:=?_) (a':=?_) #[true,false,true,false,false,false,false,false,false,false,false] rfl rfl (any_of HT_.out (by kernel_rfl)) (fun _ _ _ h=>h) (Or.inl ⟨by rfl,?_⟩) ?_ ?_
        rotate_left;(intro w';go_simp;with_reducible rfl);rotate_left;(simp only [Act.put,List.setIfInBounds_toArray,List.set_cons_zero,List.set_cons_succ,i64_w,i32_w];rfl)
        refine pure_ (i:=5) (N:=some 24) (v:=?_) (a':=?_) #[true,false,true,false,false,true,false,false,false,false,false] rfl rfl (any_of HT_.out (by kernel_rfl)) (fun _ _ _ h=>h) (Or.inl ⟨by rfl,?_⟩) ?_ ?_
        rotate_left;(intro w';go_simp;with_reducible rfl);rotate_left;(simp only [Act.put,List.setIfInBounds_toArray,List.set_cons_zero,List.set_cons_succ,i64_w,i32_w];rfl)
        refine pure_ (i:=6) (N:=some 25) (v:=?_) (a':=?_) #[true,false,true,false,false,true,true,false,false,false,false] rfl rfl (any_of HT_.out (by kernel_rfl)) (fun _ _ _ h=>h) (Or.inl ⟨by rfl,?_⟩) ?_ ?_
        rotate_left;(intro w';go_simp;with_reducible rfl);rotate_left;(simp only [Act.put,List.setIfInBounds_toArray,List.set_cons_zero,List.set_cons_succ,i64_w,i32_w];rfl)
        refine pure_ (i:=7) (N:=some 26) (v:=?_) (a':=?_) #[true,false,true,false,false,true,true,true,false,false,false] rfl rfl (any_of HT_.out (by kernel_rfl)) (fun _ _ _ h=>h) (Or.inl ⟨by rfl,?_⟩) ?_ ?_
        rotate_left;(intro w';go_simp;with_reducible rfl);rotate_left;(simp only [Act.put,List.setIfInBounds_toArray,List.set_cons_zero,List.set_cons_succ,i64_w,i32_w];rfl)
        refine take_ (i:=1) (N:=some 20) (v:=?_) (a':=?_) #[true,true,true,false,false,true,true,true,false,false,false] rfl rfl (take_ofW HT_.out HW_.out (by kernel_rfl)) (fun _ _ _ h=>h) (Or.inl ⟨by rfl,?_⟩) hHeld ?_ ?_
        rotate_left;(rintro w' ⟨s0,s1,s2,s3,s4,s5,s6⟩;go_simp;with_reducible rfl);rotate_left;(simp only [Act.put,List.setIfInBounds_toArray,List.set_cons_zero,List.set_cons_succ,i64_w,i32_w];rfl)
        refine pure_ (i:=3) (N:=some 22) (v:=?_) (a':=?_) #[true,true,true,true,false,true,true,true,false,false,false] rfl rfl (any_of HT_.out (by kernel_rfl)) (fun _ _ _ h=>h) (Or.inl ⟨by rfl,?_⟩) ?_ ?_
        rotate_left;(intro w';go_simp;with_reducible rfl);rotate_left;(simp only [Act.put,List.setIfInBounds_toArray,List.set_cons_zero,List.set_cons_succ,i64_w,i32_w];rfl)
        refine take_ (i:=4) (N:=some 23) (v:=?_) (a':=?_) #[true,true,true,true,true,true,true,true,false,false,false] rfl rfl (take_ofW HT_.out HW_.out (by kernel_rfl)) (fun _ _ _ h=>h) (Or.inl ⟨by rfl,?_⟩) hHeld ?_ ?_
        rotate_left;(rintro w' ⟨s0,s1,s2,s3,s4,s5,s6⟩;go_simp;with_reducible rfl);rotate_left;(simp only [Act.put,List.setIfInBounds_toArray,List.set_cons_zero,List.set_cons_succ,i64_w,i32_w];rfl)
        refine take_ (i:=8) (N:=some 27) (v:=?_) (a':=?_) #[true,true,true,true,true,true,true,true,true,false,false] rfl rfl (take_ofW HT_.out HW_.out (by kernel_rfl)) (fun _ _ _ h=>h) (Or.inl ⟨by rfl,?_⟩) hHeld ?_ ?_
        rotate_left;(rintro w' ⟨s0,s1,s2,s3,s4,s5,s6⟩;go_simp;with_reducible rfl);rotate_left;(simp only [Act.put,List.setIfInBounds_toArray,List.set_cons_zero,List.set_cons_succ,i64_w,i32_w];rfl)
        refine one_ (i:=9) (N:=some 28) #[true,true,true,true,true,true,true,true,true,true,false] rfl rfl (one_of HT_.out (by kernel_rfl)) (by decide) (fun K hK=>?_)
        refine goes_ Try.func38 (by kernel_rfl) rfl #[.int .i64 (rd l0_0 x5_1),.agg #[.int .i64 ((rd_T34 l1 x5_1).f0),.string ((rd_T34 l1 x5_1).f1)]] (by rfl) rfl rfl (by (try simp only [List.map_toArray,List.map_cons,List.map_nil]);first|done|rfl|(simp only [List.length_drop,List.length_take];rfl)) ?_
        with_reducible refine (thresherref03_Fits.calls k1 (rd l0_0 x5_1) ((rd_T34 l1 x5_1).f0) ((rd_T34 l1 x5_1).f1) false _ A9.out).mono ?_
        rintro e w14 ⟨rfl,hb⟩
        refine ⟨_,rfl,?_⟩
        have n0_:=Aside0.mk (blk_below (blk_up BK458.out) hb)
        have n1_:=Aside0.mk (below_step (below_go HB.out) hb)
        clear BK458
        clear HB
        have BK458:=n0_
        have HB:=n1_
        clear n0_ n1_
        (try clear hb)
        (try clear hb2)
        (try clear hk)
        (try clear hi)
        refine hK.out _ _ ⟨(blk_cell BK458.out 0).trans rfl,(blk_cell BK458.out 1).trans rfl,(blk_cell BK458.out 2).trans rfl,(blk_cell BK458.out 3).trans rfl,((HB.out.cell (World.block_lt_of_cell? w _ hw459_0)).trans hw459_0),((HB.out.cell (World.block_lt_of_cell? w _ hw460_0)).trans hw460_0),((HB.out.cell (World.block_lt_of_cell? w _ hw460_1)).trans hw460_1)⟩ (fun hHeld=>?_)
        clear hK K
        refine norm_ (a':=?_) ?_ ?_
        rotate_left
        ·show Act.put _ (some 28) _=_
         simp only [Act.put,List.setIfInBounds_toArray,List.set_cons_zero,List.set_cons_succ,i64_w,i32_w]
         rfl
        refine pure_ (i:=10) (N:=some 6) (v:=?_) (a':=?_) #[true,true,true,true,true,true,true,true,true,true,true] rfl rfl (any_of HT_.out (by kernel_rfl)) (fun _ _ _ h=>h) (Or.inl ⟨by rfl,?_⟩) ?_ ?_
        rotate_left;(intro w';go_simp;with_reducible rfl);rotate_left;(simp only [Act.put,List.setIfInBounds_toArray,List.set_cons_zero,List.set_cons_succ,i64_w,i32_w];rfl)
        refine done_ (done_of HT_.out (by kernel_rfl)) ?_
        (try clear hHeld)
        try go_wp2
        go_ret
        exact ⟨by first|rfl|(simp [errW_none,errW_some] <;> rfl)|(simp [*,errW_none,errW_some] <;> rfl),by repeat (first|(with_reducible first|exact HB.out|apply below_alloc|apply pw_below_drewN|apply below_drew1|refine below_set ?_ GE458.out)|exact HB.out)⟩
      ·rw [if_neg c8] at H
       exact absurd H (by simp)
     ·rw [if_neg c7] at H
      exact absurd H (by simp)
    ·rw [if_neg c6] at H
     have c6b0 : decide (x5_1 < (l1.length : Int))=false:=decide_eq_false c6
     clear c6
     obtain rfl:=Option.some.inj H
     go_wp2
     go_ret
     exact ⟨by first|rfl|(simp [errW_none,errW_some] <;> rfl)|(simp [*,errW_none,errW_some] <;> rfl),by repeat (first|(with_reducible first|exact HB.out|apply below_alloc|apply pw_below_drewN|apply below_drew1|refine below_set ?_ GE458.out)|exact HB.out)⟩
 ·rw [if_neg c3] at H
  have c3b0 : ((l1.length : Int) == (l0_0.length : Int))=false:=beq_eq_false_iff_ne.mpr c3
  have c3b1 : ((l1.length : Int) != (l0_0.length : Int))=true:=bne_iff_ne.mpr c3
  have c3b2 : (l1.length == l0_0.length)=false:=by first|simpa using c3|(simp at c3 ⊢;omega)
  obtain rfl:=Option.some.inj H
  go_enter Try.func21,Try.ntmps21
  go_wp2_with (first|((with_reducible refine gate_dst (N:=2) rfl ?_);refine box_event ?hg (N:=2) ?hd (cs:=#[.slice A0_0 l0_0.length c0_0,.int .i64 a0_1,.int .i64 a0_2,.int .i64 a0_3]) (t:=30) ?hr ?_;(case hd=>rfl);(case hg=>rfl);(case hr=>first|(go_simp;done)|(go_simp;rfl));intro gb458 hg w15 hbox hb;have n0_:=Aside0.mk (below_step (below_up HB.out) hb);have n1_:=Aside0.mk (hbox);have n2_:=Aside0.mk ((by rw [hg];exact (below_size (below_up HB.out)) : w.heap.size≤gb458));have n3_:=Aside0.mk ((by rw [hg];exact (below_size (below_up HB.out)) : w.heap.size≤gb458));clear HB;have HB:=n0_;have BK458:=n1_;have GW458:=n2_;have GE458:=n3_;clear n0_ n1_ n2_ n3_;clear hb hbox hg;have hcz16_0 : w15.cell? ⟨gb458,0,none⟩=some (.slice A0_0 l0_0.length c0_0):=(blk_cell BK458.out 0).trans rfl;have hcz16_1 : w15.cell? ⟨gb458,1,none⟩=some (.int .i64 a0_1):=(blk_cell BK458.out 1).trans rfl;have hcz16_2 : w15.cell? ⟨gb458,2,none⟩=some (.int .i64 a0_2):=(blk_cell BK458.out 2).trans rfl;have hcz16_3 : w15.cell? ⟨gb458,3,none⟩=some (.int .i64 a0_3):=(blk_cell BK458.out 3).trans rfl;have hfz16_0:=blk_frozen BK458.out 0;have hfz16_1:=blk_frozen BK458.out 1;have hfz16_2:=blk_frozen BK458.out 2;have hfz16_3:=blk_frozen BK458.out 3))
  go_ret
  exact ⟨by first|rfl|(simp [errW_none,errW_some] <;> rfl)|(simp [*,errW_none,errW_some] <;> rfl),by repeat (first|(with_reducible first|exact HB.out|apply below_alloc|apply pw_below_drewN|apply below_drew1|refine below_set ?_ GE458.out)|exact HB.out)⟩
end Go.Proofs.Ytkodpbellndelaa.P

